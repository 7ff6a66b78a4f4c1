/- Parts of the proof, one behind the other. -/
import Derived.Test.YtmjkjmoeicnbnaaGreatDoorG27
namespace Go.Proofs.YtmjkjmoeicnbnaaGreatDoor.Lg
set_option maxRecDepth 100000
set_option linter.unusedVariables false
set_option linter.unusedSimpArgs false
open Go
open Nat renaming reduceEqDiff → Qa, reduceLT → Qb, reduceLeDiff → Qc, reduceAdd → Qd, reduceMul → Qe, reduceSub → Qf, reduceBEq → Qg
open String renaming reduceEq → Qh
open SpecC renaming seqW → Qi, regW → Qj, condW → Ql, block → Qm, skip → Qn, exit → Qp, ret → Qr, loopF → Qs
open NxK renaming out → Qw
open Nx renaming out → Qx
open condK renaming split → Qy
open gK renaming split_t → Qz, split_f → QA
def Vq:Nat→Int
 |0=>3
 |1=>2
 |2=>1
 |_=>0
def YJ:Nat→Int
 |0=>1
 |1=>2
 |2=>3
 |_=>4
theorem Jdc{n:Nat}(h:n<3):Vq n=3-n∧(1:Int)≤Vq n∧IntKind.i64.wrap (Vq n-1)=Vq (n+1) :=
 match n,h with
 |0,_=>⟨rfl,by decide,by decide⟩
 |1,_=>⟨rfl,by decide,by decide⟩
 |2,_=>⟨rfl,by decide,by decide⟩
theorem JgR{n:Nat}(h:n<3):YJ n=(n:Int)+1∧YJ n≤3∧IntKind.i64.wrap (YJ n+1)=YJ (n+1) :=
 match n,h with
 |0,_=>⟨rfl,by decide,by decide⟩
 |1,_=>⟨rfl,by decide,by decide⟩
 |2,_=>⟨rfl,by decide,by decide⟩
theorem Jjo{a b:List Res}{H:List Key}{n:Nat}(h:n<3):JN a b H n=⟨Vq n,Yp b (JA a b) (Vq n),[]⟩:=by
 unfold JN
 rw[if_pos h,(Jdc h).1]
theorem Jjq{a b:List Res}{H:List Key}:JN a b H 3=⟨0,Vv (JA a b) 0,VS (JD a b) 0⟩:=rfl
theorem Jjp{a b:List Res}{H:List Key}{n:Nat}(h:n<3):JN a b H (4+n)=⟨Vq n,Vv (JA a b) (Vq n),[]⟩:=by
 have e:(7:Int)-((4+n:Nat):Int)=Vq n:=by rw[(Jdc h).1];omega
 unfold JN
 rw[if_neg (by omega),if_neg (by omega),if_pos (by omega),e]
theorem Jjs{a b:List Res}{H:List Key}{n:Nat}(h:n<3):JN a b H (7+n)=⟨YJ n,[],Zw a H (JD a b) (YJ n)⟩:=by
 have e:((7+n:Nat):Int)-6=YJ n:=by rw[(JgR h).1];omega
 unfold JN
 rw[if_neg (by omega),if_neg (by omega),if_neg (by omega),e]
theorem Jgz(k:Int)(A:List Res):VM ⟨k,A,[]⟩=decide (0<A.length):=rfl
theorem Jj2(k:Int)(G:List Key):VM ⟨k,[],G⟩=decide (0<G.length):=by simp[VM]
set_option maxHeartbeats 8000000 in
theorem Yj(a b:List Res)(H:List Key)(hl:a.length≤65536)(hl2:b.length≤65536)(hs:∀r∈a,Jw r)(hs2:∀r∈b,Jw r)(hH:Jc H.length):CallR Tryz.prog 33 [.slice false (Ja a),.slice false (Ja b),.slice false (Ja H)] (.val (.tup [.agg [.int .i64 ((Jz a b H).getD YB).kind,.slice false (Ja ((Jz a b H).getD YB).adds),.slice false (Ja ((Jz a b H).getD YB).gone)],.bool (Jz a b H).isSome])):=by
 have hHs:=hH
 clear hH
 have w1:=Yb a b hl hl2 hs
 have hD:=(Jb4 a b).length_le
 have hG:=(JcX a b).length_le
 rw[List.length_map] at hG
 have w2:=Y5 b hl2 hs2
 have hrm:Jcp b=JX b:=by
  unfold Jcp JX
  refine List.filter_congr fun r _=>?_
  rw[Bool.eq_iff_iff,decide_eq_true_eq,JlR,JlT]
 rw[hrm] at w2
 have hRl:=JhJ b
 have w3:=(YV (JX b) (by omega)).frz
 have hRs:Jc ((JX b).map Je).length:=by rw[List.length_map];unfold Jc;omega
 have wE:∀k,CallR Tryz.prog 100 [.slice false (Ja (JA a b)),.int .i64 k,.slice false (Ja ((JX b).map Je)),.bool false] (.val (.slice false (Ja (Yp b (JA a b) k)))):=fun k=>by
  have h:=(YC (JA a b) k ((JX b).map Je) false (by omega) hRs).frz
  rw[JiU] at h
  exact h
 have wK:∀k,CallR Tryz.prog 100 [.slice false (Ja (JA a b)),.int .i64 k,.slice false [],.bool true] (.val (.slice false (Ja (Vv (JA a b) k)))):=fun k=>by
  have h:=(YC (JA a b) k [] true (by omega) (by simp[Jc])).frz
  rw[JiV] at h
  exact h
 have wO:CallR Tryz.prog 101 [.slice false (Ja a),.slice false (Ja (JD a b)),.int .i64 0,.slice false (Ja H)] (.val (.slice false (Ja (VS (JD a b) 0)))):=by
  have h:=(YH a (JD a b) 0 H hl hs (by omega) hHs).frz
  rw[Jj7] at h
  exact h
 have wF:∀k,k≠0→CallR Tryz.prog 101 [.slice false (Ja a),.slice false (Ja (JD a b)),.int .i64 k,.slice false (Ja H)] (.val (.slice false (Ja (Zw a H (JD a b) k)))):=fun k hk=>by
  have h:=(YH a (JD a b) k H hl hs (by omega) hHs).frz
  rw[Jj6 a _ H hk] at h
  exact h
 have cD:=fun {n:Nat} (h:n<3)=>Jjo (a:=a) (b:=b) (H:=H) h
 have cM:=Jjq (a:=a) (b:=b) (H:=H)
 have cL:=fun {n:Nat} (h:n<3)=>Jjp (a:=a) (b:=b) (H:=H) h
 have cU:=fun {n:Nat} (h:n<3)=>Jjs (a:=a) (b:=b) (H:=H) h
 have lE:∀k,(Yp b (JA a b) k).length≤b.length:=fun k=>Nat.le_trans (Jel b _ k).length_le hD
 have lK:∀k,(Vv (JA a b) k).length≤b.length:=fun k=>Nat.le_trans (JmZ _ k) hD
 have lO:(VS (JD a b) 0).length≤a.length:=Nat.le_trans (List.length_filter_le _ _) hG
 generalize (JX b).map Je=RK at *
 generalize JX b=R at *
 generalize Yp b (JA a b)=EP at *
 generalize Vv (JA a b)=TK at *
 generalize VS (JD a b) 0=OF at *
 generalize Zw a H (JD a b)=FK at *
 generalize JA a b=D at *
 generalize JD a b=G at *
 have e0:Jz a b H=VD a b H 10 0:=rfl
 have g0:Vq 0=3:=rfl
 have u0:YJ 0=1:=rfl
 clear hs hs2 hrm
 refine CallR.go3 (T:=T) Tryz.call33 Tryz.func33 rfl Tryz.ntmps33 (congrArg Array.toList Tryz.results33) (by decide) fun ts hn h0 h1 h2=>?_
 (repeat' (first
 | (with_reducible first|refine callX.by (w1) ?_|refine callX.by (w2) ?_|refine callX.by (w3) ?_|refine callX.by (Yb _ _ ?_ ?_ ?_) ?_|refine callX.by (Y5 _ ?_ ?_) ?_|refine callX.by (YV _ ?_) ?_|refine callX.by (YC _ _ _ _ ?_ ?_) ?_|refine callX.by (YH _ _ _ _ ?_ ?_ ?_ ?_) ?_|assumption|(refine Qw hK _ ?_;clear hK K)|refine Qw ‹_› _ ?_|refine Qx ‹_› ?_|refine Qi fun K hK=>?_|refine Qj T fun K hK=>?_|refine Ql fun A B hA hB=>?_|refine Qm ?_|refine Qn ?_|refine Qp ?_|refine Qr ?_)
 | ((with_reducible first|apply Qy|apply Qz|apply QA)<;>intro hb<;>try simp only[nr] at hb)
 |simp only[go_sem,↓reduceIte,reduceIte,Qa,Qh,Qb,Qc,Qd,Qe,Qf,Qg,reduceCtorEq, *,-w1,-w2,-w3,-wE,-wK,-wO,-wF,-cD,-cM,-cL,-cU,-lE,-lK,-lO,-e0]
 |with_reducible refine fun(bn:Bool) hbn=>?_))
 refine Qs [0,2,8,9,10] (fun m ts'=>∃(n:Nat),m=3-n∧n≤3∧Jz a b H=VD a b H (10-n) n∧ts'.tmp 6=.ref 6 (ts.gen 6+1) 0∧ts'.gen 6=ts.gen 6+1∧ts'.obj 6=.box [.int .i64 0,.slice true [],.slice true []]∧ts'.tmp 7=.bool false∧ts'.tmp 11=.int .i64 (Vq n)) 3 ?_ ?_
 ·refine⟨0,rfl,Nat.zero_le _,e0,?_⟩
  simp only[go_sem,↓reduceIte,reduceIte,Qa,Qh,Qb,Qc,Qd,Qe,Qf,Qg,reduceCtorEq, *,-w1,-w2,-w3,-wE,-wK,-wO,-wF,-cD,-cM,-cL,-cU,-lE,-lK,-lO,-e0]
 ·rintro m A hM ts' hk ⟨n,hm,f1,f2,s1,s2,s3,s4,s5⟩
  simp only[go_sem,↓reduceIte,reduceIte,Qa,Qh,Qb,Qc,Qd,Qe,Qf,Qg,reduceCtorEq, *] at hk
  by_cases hlt:n<3
  ·obtain⟨q1,q2,q3⟩:=Jdc hlt
   have w4:=wE (Vq n)
   have hel:=lE (Vq n)
   rw[Jb8 (by omega),cD hlt,Jgz] at f2
   clear q1
   generalize EP (Vq n)=E at *
   generalize Vq n=kn at *
   by_cases hne:0<E.length
   ·rw[if_pos (decide_eq_true hne)] at f2
    have hne':(0:Int)<(E.length:Int):=by omega
    (repeat' (first
 | (with_reducible first|refine callX.by (w4) ?_|refine callX.by (Yb _ _ ?_ ?_ ?_) ?_|refine callX.by (Y5 _ ?_ ?_) ?_|refine callX.by (YV _ ?_) ?_|refine callX.by (YC _ _ _ _ ?_ ?_) ?_|refine callX.by (YH _ _ _ _ ?_ ?_ ?_ ?_) ?_|assumption|(refine Qw hK _ ?_;clear hK K)|refine Qw ‹_› _ ?_|refine Qx ‹_› ?_|refine Qi fun K hK=>?_|refine Qj T fun K hK=>?_|refine Ql fun A B hA hB=>?_|refine Qm ?_|refine Qn ?_|refine Qp ?_|refine Qr ?_)
 | ((with_reducible first|apply Qy|apply Qz|apply QA)<;>intro hb<;>try simp only[nr] at hb)
 |simp only[go_sem,↓reduceIte,reduceIte,Qa,Qh,Qb,Qc,Qd,Qe,Qf,Qg,reduceCtorEq, *,-w1,-w2,-w3,-w4,-wE,-wK,-wO,-wF,-cD,-cM,-cL,-cU,-lE,-lK,-lO,-e0,-f2]
 |with_reducible refine fun(bn:Bool) hbn=>?_))
    all_goals ((repeat clear hK);(repeat clear hA);(repeat clear hB))
    all_goals (rw[f2];exact⟨⟨rfl,rfl,rfl⟩,rfl⟩)
   ·rw[if_neg (by simpa using hne)] at f2
    have hne':¬(0:Int)<(E.length:Int):=by omega
    (repeat' (first
 | (with_reducible first|refine callX.by (w4) ?_|refine callX.by (Yb _ _ ?_ ?_ ?_) ?_|refine callX.by (Y5 _ ?_ ?_) ?_|refine callX.by (YV _ ?_) ?_|refine callX.by (YC _ _ _ _ ?_ ?_) ?_|refine callX.by (YH _ _ _ _ ?_ ?_ ?_ ?_) ?_|assumption|(refine Qw hK _ ?_;clear hK K)|refine Qw ‹_› _ ?_|refine Qx ‹_› ?_|refine Qi fun K hK=>?_|refine Qj T fun K hK=>?_|refine Ql fun A B hA hB=>?_|refine Qm ?_|refine Qn ?_|refine Qp ?_|refine Qr ?_)
 | ((with_reducible first|apply Qy|apply Qz|apply QA)<;>intro hb<;>try simp only[nr] at hb)
 |simp only[go_sem,↓reduceIte,reduceIte,Qa,Qh,Qb,Qc,Qd,Qe,Qf,Qg,reduceCtorEq, *,-w1,-w2,-w3,-w4,-wE,-wK,-wO,-wF,-cD,-cM,-cL,-cU,-lE,-lK,-lO,-e0,-f2]
 |with_reducible refine fun(bn:Bool) hbn=>?_))
    all_goals ((repeat clear hK);(repeat clear hA);(repeat clear hB))
    all_goals (refine hM.on (3-(n+1)) (by omega) (by simp only[go_sem,↓reduceIte,reduceIte,Qa,Qh,Qb,Qc,Qd,Qe,Qf,Qg,reduceCtorEq, *,-w1,-w2,-w3,-w4,-wE,-wK,-wO,-wF,-cD,-cM,-cL,-cU,-lE,-lK,-lO,-e0,-f2]) ⟨n+1,rfl,by omega,f2,?_⟩;simp only[go_sem,↓reduceIte,reduceIte,Qa,Qh,Qb,Qc,Qd,Qe,Qf,Qg,reduceCtorEq, *,-w1,-w2,-w3,-w4,-wE,-wK,-wO,-wF,-cD,-cM,-cL,-cU,-lE,-lK,-lO,-e0,-f2];done)
  ·have e3:n=3:=by omega
   subst e3
   have g3:¬(1:Int)≤Vq 3:=by decide
   have k0:=lK 0
   have w4:=wK 0
   rw[Jb8 (by omega),cM] at f2
   generalize TK 0=T0 at *
   have hw:IntKind.i64.wrap ((T0.length:Int)+(OF.length:Int))=((T0.length+OF.length:Nat):Int):=by
    rw[←Int.natCast_add];exact IntWalk.i64_in _ (by omega)
   by_cases hne:0<T0.length+OF.length
   ·rw[if_pos (show VM ⟨0,T0,OF⟩=true from decide_eq_true hne)] at f2
    have hne':(0:Int)<((T0.length+OF.length:Nat):Int):=by omega
    clear hM hm
    (repeat' (first
 | (with_reducible first|refine callX.by (w4) ?_|refine callX.by (wO) ?_|refine callX.by (Yb _ _ ?_ ?_ ?_) ?_|refine callX.by (Y5 _ ?_ ?_) ?_|refine callX.by (YV _ ?_) ?_|refine callX.by (YC _ _ _ _ ?_ ?_) ?_|refine callX.by (YH _ _ _ _ ?_ ?_ ?_ ?_) ?_|assumption|(refine Qw hK _ ?_;clear hK K)|refine Qw ‹_› _ ?_|refine Qx ‹_› ?_|refine Qi fun K hK=>?_|refine Qj T fun K hK=>?_|refine Ql fun A B hA hB=>?_|refine Qm ?_|refine Qn ?_|refine Qp ?_|refine Qr ?_)
 | ((with_reducible first|apply Qy|apply Qz|apply QA)<;>intro hb<;>try simp only[nr] at hb)
 |simp only[go_sem,↓reduceIte,reduceIte,Qa,Qh,Qb,Qc,Qd,Qe,Qf,Qg,reduceCtorEq, *,-w1,-w2,-w3,-w4,-wE,-wK,-wO,-wF,-cD,-cM,-cL,-cU,-lE,-lK,-lO,-e0,-f2]
 |with_reducible refine fun(bn:Bool) hbn=>?_))
    all_goals ((repeat clear hK);(repeat clear hA);(repeat clear hB))
    all_goals (rw[f2];exact⟨⟨rfl,rfl,rfl⟩,rfl⟩)
   ·rw[if_neg (show ¬VM ⟨0,T0,OF⟩=true by simpa[VM] using hne)] at f2
    have hne':¬(0:Int)<((T0.length+OF.length:Nat):Int):=by omega
    clear hM hm
    (repeat' (first
 | (with_reducible first|refine callX.by (w4) ?_|refine callX.by (wO) ?_|refine callX.by (Yb _ _ ?_ ?_ ?_) ?_|refine callX.by (Y5 _ ?_ ?_) ?_|refine callX.by (YV _ ?_) ?_|refine callX.by (YC _ _ _ _ ?_ ?_) ?_|refine callX.by (YH _ _ _ _ ?_ ?_ ?_ ?_) ?_|assumption|(refine Qw hK _ ?_;clear hK K)|refine Qw ‹_› _ ?_|refine Qx ‹_› ?_|refine Qi fun K hK=>?_|refine Qj T fun K hK=>?_|refine Ql fun A B hA hB=>?_|refine Qm ?_|refine Qn ?_|refine Qp ?_|refine Qr ?_)
 | ((with_reducible first|apply Qy|apply Qz|apply QA)<;>intro hb<;>try simp only[nr] at hb)
 |simp only[go_sem,↓reduceIte,reduceIte,Qa,Qh,Qb,Qc,Qd,Qe,Qf,Qg,reduceCtorEq, *,-w1,-w2,-w3,-w4,-wE,-wK,-wO,-wF,-cD,-cM,-cL,-cU,-lE,-lK,-lO,-e0,-f2]
 |with_reducible refine fun(bn:Bool) hbn=>?_))
    have e4:Jz a b H=VD a b H 6 4:=f2
    clear f2 w4 hw hne hne'
    refine Qs [0,2,8,9] (fun m ts'=>∃(n:Nat),m=3-n∧n≤3∧Jz a b H=VD a b H (10-(4+n)) (4+n)∧ts'.tmp 6=.ref 6 (ts.gen 6+1) 0∧ts'.gen 6=ts.gen 6+1∧ts'.obj 6=.box [.int .i64 0,.slice true [],.slice true []]∧ts'.tmp 7=.bool false∧ts'.tmp 14=.int .i64 (Vq n)) 3 ?_ ?_
    ·refine⟨0,rfl,Nat.zero_le _,e4,?_⟩
     simp only[go_sem,↓reduceIte,reduceIte,Qa,Qh,Qb,Qc,Qd,Qe,Qf,Qg,reduceCtorEq, *,-w1,-w2,-w3,-wE,-wK,-wO,-wF,-cD,-cM,-cL,-cU,-lE,-lK,-lO,-e0,-e4]
    ·clear e4
     rintro m A hM ts' hk ⟨n,hm,f1,f2,s1,s2,s3,s4,s5⟩
     simp only[go_sem,↓reduceIte,reduceIte,Qa,Qh,Qb,Qc,Qd,Qe,Qf,Qg,reduceCtorEq, *] at hk
     by_cases hlt:n<3
     ·obtain⟨q1,q2,q3⟩:=Jdc hlt
      have w4:=wK (Vq n)
      have hel:=lK (Vq n)
      rw[Jb8 (by omega),cL hlt,Jgz] at f2
      clear q1
      generalize TK (Vq n)=E at *
      generalize Vq n=kn at *
      by_cases hne:0<E.length
      ·rw[if_pos (decide_eq_true hne)] at f2
       have hne':(0:Int)<(E.length:Int):=by omega
       (repeat' (first
 | (with_reducible first|refine callX.by (w4) ?_|refine callX.by (Yb _ _ ?_ ?_ ?_) ?_|refine callX.by (Y5 _ ?_ ?_) ?_|refine callX.by (YV _ ?_) ?_|refine callX.by (YC _ _ _ _ ?_ ?_) ?_|refine callX.by (YH _ _ _ _ ?_ ?_ ?_ ?_) ?_|assumption|(refine Qw hK _ ?_;clear hK K)|refine Qw ‹_› _ ?_|refine Qx ‹_› ?_|refine Qi fun K hK=>?_|refine Qj T fun K hK=>?_|refine Ql fun A B hA hB=>?_|refine Qm ?_|refine Qn ?_|refine Qp ?_|refine Qr ?_)
 | ((with_reducible first|apply Qy|apply Qz|apply QA)<;>intro hb<;>try simp only[nr] at hb)
 |simp only[go_sem,↓reduceIte,reduceIte,Qa,Qh,Qb,Qc,Qd,Qe,Qf,Qg,reduceCtorEq, *,-w1,-w2,-w3,-w4,-wE,-wK,-wO,-wF,-cD,-cM,-cL,-cU,-lE,-lK,-lO,-e0,-f2]
 |with_reducible refine fun(bn:Bool) hbn=>?_))
       all_goals ((repeat clear hK);(repeat clear hA);(repeat clear hB))
       all_goals (rw[f2];exact⟨⟨rfl,rfl,rfl⟩,rfl⟩)
      ·rw[if_neg (by simpa using hne)] at f2
       have hne':¬(0:Int)<(E.length:Int):=by omega
       (repeat' (first
 | (with_reducible first|refine callX.by (w4) ?_|refine callX.by (Yb _ _ ?_ ?_ ?_) ?_|refine callX.by (Y5 _ ?_ ?_) ?_|refine callX.by (YV _ ?_) ?_|refine callX.by (YC _ _ _ _ ?_ ?_) ?_|refine callX.by (YH _ _ _ _ ?_ ?_ ?_ ?_) ?_|assumption|(refine Qw hK _ ?_;clear hK K)|refine Qw ‹_› _ ?_|refine Qx ‹_› ?_|refine Qi fun K hK=>?_|refine Qj T fun K hK=>?_|refine Ql fun A B hA hB=>?_|refine Qm ?_|refine Qn ?_|refine Qp ?_|refine Qr ?_)
 | ((with_reducible first|apply Qy|apply Qz|apply QA)<;>intro hb<;>try simp only[nr] at hb)
 |simp only[go_sem,↓reduceIte,reduceIte,Qa,Qh,Qb,Qc,Qd,Qe,Qf,Qg,reduceCtorEq, *,-w1,-w2,-w3,-w4,-wE,-wK,-wO,-wF,-cD,-cM,-cL,-cU,-lE,-lK,-lO,-e0,-f2]
 |with_reducible refine fun(bn:Bool) hbn=>?_))
       all_goals ((repeat clear hK);(repeat clear hA);(repeat clear hB))
       all_goals (refine hM.on (3-(n+1)) (by omega) (by simp only[go_sem,↓reduceIte,reduceIte,Qa,Qh,Qb,Qc,Qd,Qe,Qf,Qg,reduceCtorEq, *,-w1,-w2,-w3,-w4,-wE,-wK,-wO,-wF,-cD,-cM,-cL,-cU,-lE,-lK,-lO,-e0,-f2]) ⟨n+1,rfl,by omega,f2,?_⟩;simp only[go_sem,↓reduceIte,reduceIte,Qa,Qh,Qb,Qc,Qd,Qe,Qf,Qg,reduceCtorEq, *,-w1,-w2,-w3,-w4,-wE,-wK,-wO,-wF,-cD,-cM,-cL,-cU,-lE,-lK,-lO,-e0,-f2];done)
     ·have e3:n=3:=by omega
      subst e3
      have e7:Jz a b H=VD a b H 3 7:=f2
      clear f2 hM hm
      (repeat' (first
 | (with_reducible first|refine callX.by (Yb _ _ ?_ ?_ ?_) ?_|refine callX.by (Y5 _ ?_ ?_) ?_|refine callX.by (YV _ ?_) ?_|refine callX.by (YC _ _ _ _ ?_ ?_) ?_|refine callX.by (YH _ _ _ _ ?_ ?_ ?_ ?_) ?_|assumption|(refine Qw hK _ ?_;clear hK K)|refine Qw ‹_› _ ?_|refine Qx ‹_› ?_|refine Qi fun K hK=>?_|refine Qj T fun K hK=>?_|refine Ql fun A B hA hB=>?_|refine Qm ?_|refine Qn ?_|refine Qp ?_|refine Qr ?_)
 | ((with_reducible first|apply Qy|apply Qz|apply QA)<;>intro hb<;>try simp only[nr] at hb)
 |simp only[go_sem,↓reduceIte,reduceIte,Qa,Qh,Qb,Qc,Qd,Qe,Qf,Qg,reduceCtorEq, *,-w1,-w2,-w3,-wE,-wK,-wO,-wF,-cD,-cM,-cL,-cU,-lE,-lK,-lO,-e0,-e7]
 |with_reducible refine fun(bn:Bool) hbn=>?_))
      refine Qs [0,2,9] (fun m ts'=>∃(n:Nat),m=3-n∧n≤3∧Jz a b H=VD a b H (10-(7+n)) (7+n)∧ts'.tmp 6=.ref 6 (ts.gen 6+1) 0∧ts'.gen 6=ts.gen 6+1∧ts'.obj 6=.box [.int .i64 0,.slice true [],.slice true []]∧ts'.tmp 7=.bool false∧ts'.tmp 16=.int .i64 (YJ n)) 3 ?_ ?_
      ·refine⟨0,rfl,Nat.zero_le _,e7,?_⟩
       simp only[go_sem,↓reduceIte,reduceIte,Qa,Qh,Qb,Qc,Qd,Qe,Qf,Qg,reduceCtorEq, *,-w1,-w2,-w3,-wE,-wK,-wO,-wF,-cD,-cM,-cL,-cU,-lE,-lK,-lO,-e0,-e7]
      ·clear e7
       rintro m A hM ts' hk ⟨n,hm,f1,f2,s1,s2,s3,s4,s5⟩
       simp only[go_sem,↓reduceIte,reduceIte,Qa,Qh,Qb,Qc,Qd,Qe,Qf,Qg,reduceCtorEq, *] at hk
       by_cases hlt:n<3
       ·obtain⟨q1,q2,q3⟩:=JgR hlt
        have w4:=wF (YJ n) (by omega)
        rw[Jb8 (by omega),cU hlt,Jj2] at f2
        clear q1
        generalize FK (YJ n)=E at *
        generalize YJ n=kn at *
        by_cases hne:0<E.length
        ·rw[if_pos (decide_eq_true hne)] at f2
         have hne':(0:Int)<(E.length:Int):=by omega
         (repeat' (first
 | (with_reducible first|refine callX.by (w4) ?_|refine callX.by (Yb _ _ ?_ ?_ ?_) ?_|refine callX.by (Y5 _ ?_ ?_) ?_|refine callX.by (YV _ ?_) ?_|refine callX.by (YC _ _ _ _ ?_ ?_) ?_|refine callX.by (YH _ _ _ _ ?_ ?_ ?_ ?_) ?_|assumption|(refine Qw hK _ ?_;clear hK K)|refine Qw ‹_› _ ?_|refine Qx ‹_› ?_|refine Qi fun K hK=>?_|refine Qj T fun K hK=>?_|refine Ql fun A B hA hB=>?_|refine Qm ?_|refine Qn ?_|refine Qp ?_|refine Qr ?_)
 | ((with_reducible first|apply Qy|apply Qz|apply QA)<;>intro hb<;>try simp only[nr] at hb)
 |simp only[go_sem,↓reduceIte,reduceIte,Qa,Qh,Qb,Qc,Qd,Qe,Qf,Qg,reduceCtorEq, *,-w1,-w2,-w3,-w4,-wE,-wK,-wO,-wF,-cD,-cM,-cL,-cU,-lE,-lK,-lO,-e0,-f2]
 |with_reducible refine fun(bn:Bool) hbn=>?_))
         all_goals ((repeat clear hK);(repeat clear hA);(repeat clear hB))
         all_goals (rw[f2];exact⟨⟨rfl,rfl,rfl⟩,rfl⟩)
        ·rw[if_neg (by simpa using hne)] at f2
         have hne':¬(0:Int)<(E.length:Int):=by omega
         (repeat' (first
 | (with_reducible first|refine callX.by (w4) ?_|refine callX.by (Yb _ _ ?_ ?_ ?_) ?_|refine callX.by (Y5 _ ?_ ?_) ?_|refine callX.by (YV _ ?_) ?_|refine callX.by (YC _ _ _ _ ?_ ?_) ?_|refine callX.by (YH _ _ _ _ ?_ ?_ ?_ ?_) ?_|assumption|(refine Qw hK _ ?_;clear hK K)|refine Qw ‹_› _ ?_|refine Qx ‹_› ?_|refine Qi fun K hK=>?_|refine Qj T fun K hK=>?_|refine Ql fun A B hA hB=>?_|refine Qm ?_|refine Qn ?_|refine Qp ?_|refine Qr ?_)
 | ((with_reducible first|apply Qy|apply Qz|apply QA)<;>intro hb<;>try simp only[nr] at hb)
 |simp only[go_sem,↓reduceIte,reduceIte,Qa,Qh,Qb,Qc,Qd,Qe,Qf,Qg,reduceCtorEq, *,-w1,-w2,-w3,-w4,-wE,-wK,-wO,-wF,-cD,-cM,-cL,-cU,-lE,-lK,-lO,-e0,-f2]
 |with_reducible refine fun(bn:Bool) hbn=>?_))
         all_goals ((repeat clear hK);(repeat clear hA);(repeat clear hB))
         all_goals (refine hM.on (3-(n+1)) (by omega) (by simp only[go_sem,↓reduceIte,reduceIte,Qa,Qh,Qb,Qc,Qd,Qe,Qf,Qg,reduceCtorEq, *,-w1,-w2,-w3,-w4,-wE,-wK,-wO,-wF,-cD,-cM,-cL,-cU,-lE,-lK,-lO,-e0,-f2]) ⟨n+1,rfl,by omega,f2,?_⟩;simp only[go_sem,↓reduceIte,reduceIte,Qa,Qh,Qb,Qc,Qd,Qe,Qf,Qg,reduceCtorEq, *,-w1,-w2,-w3,-w4,-wE,-wK,-wO,-wF,-cD,-cM,-cL,-cU,-lE,-lK,-lO,-e0,-f2];done)
       ·have e3:n=3:=by omega
        subst e3
        have e10:Jz a b H=none:=f2
        have u3:¬YJ 3≤3:=by decide
        clear f2
        (repeat' (first
 | (with_reducible first|refine callX.by (Yb _ _ ?_ ?_ ?_) ?_|refine callX.by (Y5 _ ?_ ?_) ?_|refine callX.by (YV _ ?_) ?_|refine callX.by (YC _ _ _ _ ?_ ?_) ?_|refine callX.by (YH _ _ _ _ ?_ ?_ ?_ ?_) ?_|assumption|(refine Qw hK _ ?_;clear hK K)|refine Qw ‹_› _ ?_|refine Qx ‹_› ?_|refine Qi fun K hK=>?_|refine Qj T fun K hK=>?_|refine Ql fun A B hA hB=>?_|refine Qm ?_|refine Qn ?_|refine Qp ?_|refine Qr ?_)
 | ((with_reducible first|apply Qy|apply Qz|apply QA)<;>intro hb<;>try simp only[nr] at hb)
 |simp only[go_sem,↓reduceIte,reduceIte,Qa,Qh,Qb,Qc,Qd,Qe,Qf,Qg,reduceCtorEq, *,-w1,-w2,-w3,-wE,-wK,-wO,-wF,-cD,-cM,-cL,-cU,-lE,-lK,-lO,-e0,-e10]
 |with_reducible refine fun(bn:Bool) hbn=>?_))
        all_goals ((repeat clear hK);(repeat clear hA);(repeat clear hB))
        all_goals (rw[e10];exact⟨⟨rfl,rfl,rfl⟩,rfl⟩)
theorem Yo(l:List Res)(s_kind:Int)(s_adds:List Res)(s_gone:List Key)(hx:Jc l.length)(ha:Jc s_adds.length)(hg:Jc s_gone.length)(hl:Jc (l.length+s_adds.length)):CallR Tryz.prog 40 [.slice false (Ja l),.agg [.int .i64 s_kind,.slice false (Ja s_adds),.slice false (Ja s_gone)]] (.val (.slice false (Ja (Vf l (⟨s_kind,s_adds,s_gone⟩:Step))))):=by
 have w1:=Jm0 l s_adds s_gone hx ha hg hl
 refine CallR.go2 (T:=T) Tryz.call40 Tryz.func40 rfl Tryz.ntmps40 (congrArg Array.toList Tryz.results40) (by decide) fun ts hn h0 h1=>?_
 (repeat' (first
 | (with_reducible first|refine callX.by (w1) ?_|assumption|(refine Qw hK _ ?_;clear hK K)|refine Qw ‹_› _ ?_|refine Qx ‹_› ?_|refine Qi fun K hK=>?_|refine Qj T fun K hK=>?_|refine Ql fun A B hA hB=>?_|refine Qn ?_|refine Qr ?_)
 | ((with_reducible first|apply Qy|apply Qz|apply QA)<;>intro hb<;>try simp only[nr] at hb)
 |simp only[go_sem,↓reduceIte,reduceIte,Qa,Qh,Qb,Qc,Qd,Qe,Qf,Qg,reduceCtorEq, *,-w1]
 |with_reducible refine fun(bn:Bool) hbn=>?_))
 all_goals rfl
def Zu(a b:List Res)(H:List Key):List Key:=if(Jz a b H).isSome=true then [] else JD a b
theorem Jad(a b:List Res)(H:List Key)(hl:a.length≤65536)(hl2:Jc b.length)(hs:∀r∈a,Jw r)(hH:Jc H.length)(hre:Jbc b):CallR Tryz.prog 38 [.slice false (Ja a),.slice false (Ja b),.slice false (Ja H)] (.val (.slice false (Ja (Zu a b H)))):=by
 have w1:=VQ a b H hl hl2 hs hH hre
 have w2:=JaT a b (Yz hl) hl2 hs
 unfold Zu
 clear hs hre
 generalize JD a b=G at *
 generalize JA a b=D at *
 generalize Jz a b H=o at *
 cases o with
 |none =>
  refine CallR.go3 (T:=T) Tryz.call38 Tryz.func38 rfl Tryz.ntmps38 (congrArg Array.toList Tryz.results38) (by decide) fun ts hn h0 h1 h2=>?_
  (repeat' (first
 | (with_reducible first|refine callX.by (w1) ?_|refine callX.by (w2) ?_|refine callX.by (VQ _ _ _ ?_ ?_ ?_ ?_ ?_) ?_|refine callX.by (JaT _ _ ?_ ?_ ?_) ?_|assumption|(refine Qw hK _ ?_;clear hK K)|refine Qw ‹_› _ ?_|refine Qx ‹_› ?_|refine Qi fun K hK=>?_|refine Qj T fun K hK=>?_|refine Ql fun A B hA hB=>?_|refine Qn ?_|refine Qr ?_)
 | ((with_reducible first|apply Qy|apply Qz|apply QA)<;>intro hb<;>try simp only[nr] at hb)
 |simp only[go_sem,↓reduceIte,reduceIte,Qa,Qh,Qb,Qc,Qd,Qe,Qf,Qg,reduceCtorEq, *,-w1,-w2,Option.isSome_none,Option.getD_none,Bool.false_eq_true]
 |with_reducible refine fun(bn:Bool) hbn=>?_))
  all_goals trace_state
 |some s =>
  refine CallR.go3 (T:=T) Tryz.call38 Tryz.func38 rfl Tryz.ntmps38 (congrArg Array.toList Tryz.results38) (by decide) fun ts hn h0 h1 h2=>?_
  (repeat' (first
 | (with_reducible first|refine callX.by (w1) ?_|refine callX.by (w2) ?_|refine callX.by (VQ _ _ _ ?_ ?_ ?_ ?_ ?_) ?_|refine callX.by (JaT _ _ ?_ ?_ ?_) ?_|assumption|(refine Qw hK _ ?_;clear hK K)|refine Qw ‹_› _ ?_|refine Qx ‹_› ?_|refine Qi fun K hK=>?_|refine Qj T fun K hK=>?_|refine Ql fun A B hA hB=>?_|refine Qn ?_|refine Qr ?_)
 | ((with_reducible first|apply Qy|apply Qz|apply QA)<;>intro hb<;>try simp only[nr] at hb)
 |simp only[go_sem,↓reduceIte,reduceIte,Qa,Qh,Qb,Qc,Qd,Qe,Qf,Qg,reduceCtorEq, *,-w1,-w2,Option.isSome_some,Option.getD_some]
 |with_reducible refine fun(bn:Bool) hbn=>?_))
  all_goals rfl
theorem Jjr(a b:List Res)(H:List Key)(i:Nat):(JN a b H i).adds.Sublist b:=by
 refine List.Sublist.trans ?_ (Jb4 a b)
 unfold JN
 split
 ·exact Jel _ _ _
 ·split
  ·exact List.filter_sublist
  ·split
   ·exact List.filter_sublist
   ·exact List.nil_sublist _
theorem Jdj{a b:List Res}{H:List Key}{s:Step}(h:Jz a b H=some s):s.adds.Sublist b∧s.adds.length≤b.length∧s.gone.length≤a.length:=by
 obtain⟨j,_,e,_⟩:=Jg8 h
 rw[e]
 exact⟨Jjr a b H j,JfX a b H j⟩
theorem Jcw{b a:List Res}{H:List Key}{n:Nat}(h:Jz a b H=none):Vu b H n a=[]:=by
 cases n with
 |zero=>rfl
 |succ n=>unfold Vu;rw[h]
theorem JaD{b a:List Res}{H:List Key}{n:Nat}{s:Step}(h:Jz a b H=some s):Vu b H (n+1) a=s :: Vu b H n (Vf a s):=by
 conv=>lhs;unfold Vu
 rw[h]
set_option maxHeartbeats 4000000 in
theorem ZM(a b:List Res)(H:List Key)(hl:a.length≤80)(hl2:b.length≤80)(hs:∀r∈a,Jw r)(hs2:∀r∈b,Jw r)(hH:Jc H.length)(hre:Jbc b):CallR Tryz.prog 34 [.slice false (Ja a),.slice false (Ja b),.slice false (Ja H)] (.own 3 (Ja (Vu b H 400 a))):=by
 have hbs:Jc b.length:=by unfold Jc;omega
 have w1:=VQ a b H (by omega) hbs hs hH hre
 generalize hR:Vu b H 400 a=R
 refine CallR.go3 (T:=T) Tryz.call34 Tryz.func34 rfl Tryz.ntmps34 (congrArg Array.toList Tryz.results34) (by decide) fun ts hn h0 h1 h2=>?_
 (repeat' (first
 | (with_reducible first|refine callX.by (w1) ?_|refine callX.by (VQ _ _ _ ?_ ?_ ?_ ?_ ?_) ?_|refine callX.by (Yo _ _ _ _ ?_ ?_ ?_ ?_) ?_|assumption|(refine Qw hK _ ?_;clear hK K)|refine Qw ‹_› _ ?_|refine Qx ‹_› ?_|refine Qi fun K hK=>?_|refine Qj T fun K hK=>?_|refine Ql fun A B hA hB=>?_|refine Qm ?_|refine Qn ?_|refine Qp ?_|refine Qr ?_)
 | ((with_reducible first|apply Qy|apply Qz|apply QA)<;>intro hb<;>try simp only[nr] at hb)
 |simp only[go_sem,↓reduceIte,reduceIte,Qa,Qh,Qb,Qc,Qd,Qe,Qf,Qg,reduceCtorEq, *,-w1,-hs,-hs2,-hre,-hR]
 |with_reducible refine fun(bn:Bool) hbn=>?_))
 refine SpecC.virt 7 33 3 (by decide) (by simp only[go_sem,↓reduceIte,reduceIte,Qa,Qh,Qb,Qc,Qd,Qe,Qf,Qg,reduceCtorEq, *,-w1,-hs,-hs2,-hre,-hR]) ?_
 refine Qs [1,2] (fun m ts'=>∃(x:List Res),∃(ys:List Step),∃(g:Nat),∃(h:Nat),m=400-ys.length∧ys.length≤400∧ys++Vu b H (400-ys.length) x=R∧x.length≤a.length+ys.length*80∧(∀r∈x,Jw r)∧ts'.tmp 0=.slice false (Ja x)∧ts'.tmp 7=.os 33 g ys.length∧ts'.gen 33=g∧ts'.obj 33=.arr 3 (Ja ys)∧ts'.tmp 8=.ref 8 h 0∧ts'.gen 8=h∧ts'.obj 8=.box [.int .i64 ((Jz x b H).getD YB).kind,.slice false (Ja ((Jz x b H).getD YB).adds),.slice false (Ja ((Jz x b H).getD YB).gone)]∧ts'.tmp 9=.bool (Jz x b H).isSome) 400 ?_ ?_
 ·refine⟨a,[],ts.gen 33+1,ts.gen 8+1,rfl,by simp,hR,by simp,hs,?_⟩
  simp only[go_sem,↓reduceIte,reduceIte,Qa,Qh,Qb,Qc,Qd,Qe,Qf,Qg,reduceCtorEq, *,-w1,-hs,-hs2,-hre,-hR,Vo]
 ·rintro m A hM ts' hk ⟨x,ys,g,h,hm,f1,f2,f3,f4,s1,s2,s3,s4,s5,s6,s7,s8⟩
  simp only[go_sem,↓reduceIte,reduceIte,Qa,Qh,Qb,Qc,Qd,Qe,Qf,Qg,reduceCtorEq, *] at hk
  clear w1
  cases hn:Jz x b H with
  |none =>
   rw[Jcw hn,List.append_nil] at f2
   subst f2
   rw[hn] at s7 s8
   (repeat' (first
 | (with_reducible first|refine callX.by (VQ _ _ _ ?_ ?_ ?_ ?_ ?_) ?_|refine callX.by (Yo _ _ _ _ ?_ ?_ ?_ ?_) ?_|assumption|(refine Qw hK _ ?_;clear hK K)|refine Qw ‹_› _ ?_|refine Qx ‹_› ?_|refine Qi fun K hK=>?_|refine Qj T fun K hK=>?_|refine Ql fun A B hA hB=>?_|refine Qm ?_|refine Qn ?_|refine Qp ?_|refine Qr ?_)
 | ((with_reducible first|apply Qy|apply Qz|apply QA)<;>intro hb<;>try simp only[nr] at hb)
 |simp only[go_sem,↓reduceIte,reduceIte,Qa,Qh,Qb,Qc,Qd,Qe,Qf,Qg,reduceCtorEq, *,-hs,-hs2,-hre,-hR,-f4,-hn,Option.isSome_none,Option.getD_none]
 |with_reducible refine fun(bn:Bool) hbn=>?_))
   all_goals ((repeat clear hK);(repeat clear hA);(repeat clear hB))
   all_goals trace_state
  |some s =>
   rw[hn] at s7 s8
   by_cases hlt:ys.length<400
   ·obtain⟨q1,q2,q3⟩:=Jdj hn
    have hxl:x.length≤32080:=by omega
    have w2:=Yo x s.kind s.adds s.gone (by unfold Jc;omega) (by unfold Jc;omega) (by unfold Jc;omega) (by unfold Jc;omega)
    rw[show(⟨s.kind,s.adds,s.gone⟩:Step)=s from rfl] at w2
    have hX:(Vf x s).length≤x.length+s.adds.length:=Jdo _ _ _
    have hXs:∀r∈Vf x s,Jw r:=fun r hr=>(JeT hr).elim (f4 r) fun h=>hs2 r (q1.subset h)
    have w3:=VQ (Vf x s) b H (by omega) hbs hXs hH hre
    rw[show 400-ys.length=(400-(ys.length+1))+1 by omega,JaD hn] at f2
    generalize Vf x s=X at *
    have hr:JT (ys.length+1) 56:=Vt (by omega) (by decide)
    have hys:(ys.length:Int)<400:=by omega
    (repeat' (first
 | (with_reducible first|refine callX.by (w2) ?_|refine callX.by (w3) ?_|refine callX.by (VQ _ _ _ ?_ ?_ ?_ ?_ ?_) ?_|refine callX.by (Yo _ _ _ _ ?_ ?_ ?_ ?_) ?_|assumption|(refine Qw hK _ ?_;clear hK K)|refine Qw ‹_› _ ?_|refine Qx ‹_› ?_|refine Qi fun K hK=>?_|refine Qj T fun K hK=>?_|refine Ql fun A B hA hB=>?_|refine Qm ?_|refine Qn ?_|refine Qp ?_|refine Qr ?_)
 | ((with_reducible first|apply Qy|apply Qz|apply QA)<;>intro hb<;>try simp only[nr] at hb)
 |simp only[go_sem,↓reduceIte,reduceIte,Qa,Qh,Qb,Qc,Qd,Qe,Qf,Qg,reduceCtorEq, *,-hs,-hs2,-hre,-hR,-f4,-hXs,-hn,-f2,-w2,-w3,Option.isSome_some,Option.getD_some]
 |with_reducible refine fun(bn:Bool) hbn=>?_))
    all_goals ((repeat clear hK);(repeat clear hA);(repeat clear hB))
    have hl1:(ys++[s]).length=ys.length+1:=by simp
    all_goals (refine hM.on (400-(ys++[s]).length) (by omega) (by simp only[go_sem,↓reduceIte,reduceIte,Qa,Qh,Qb,Qc,Qd,Qe,Qf,Qg,reduceCtorEq, *,List.length_append,List.length_singleton,-hs,-hs2,-hre,-hR,-f4,-hXs,-hn,-f2,-w2,-w3,-hl1]) ⟨X,ys++[s],g+1,h+1,rfl,by omega,by rw[←f2,hl1];simp,by omega,hXs,?_⟩;simp only[go_sem,↓reduceIte,reduceIte,Qa,Qh,Qb,Qc,Qd,Qe,Qf,Qg,reduceCtorEq, *,List.length_append,List.length_singleton,-hs,-hs2,-hre,-hR,-f4,-hXs,-hn,-f2,-w2,-w3,-hl1];done)
   ·have e4:ys.length=400:=by omega
    rw[e4] at f2
    have e5:ys=R:=by rw[←f2];simp[Vu]
    subst e5
    have hys:¬(ys.length:Int)<400:=by omega
    (repeat' (first
 | (with_reducible first|refine callX.by (VQ _ _ _ ?_ ?_ ?_ ?_ ?_) ?_|refine callX.by (Yo _ _ _ _ ?_ ?_ ?_ ?_) ?_|assumption|(refine Qw hK _ ?_;clear hK K)|refine Qw ‹_› _ ?_|refine Qx ‹_› ?_|refine Qi fun K hK=>?_|refine Qj T fun K hK=>?_|refine Ql fun A B hA hB=>?_|refine Qm ?_|refine Qn ?_|refine Qp ?_|refine Qr ?_)
 | ((with_reducible first|apply Qy|apply Qz|apply QA)<;>intro hb<;>try simp only[nr] at hb)
 |simp only[go_sem,↓reduceIte,reduceIte,Qa,Qh,Qb,Qc,Qd,Qe,Qf,Qg,reduceCtorEq, *,-hs,-hs2,-hre,-hR,-f4,-hn,-f2,Option.isSome_some,Option.getD_some]
 |with_reducible refine fun(bn:Bool) hbn=>?_))
    all_goals ((repeat clear hK);(repeat clear hA);(repeat clear hB))
    all_goals rw[List.take_of_length_le (by omega)]
structure Fit(l:List Res):Prop where
 up:Up (l.map Je)
 kin:Kin l
 serves:Jmq l=0
 miss:∀r∈l,∀k∈Jk r,k∈l.map Je
structure InvA(h b a:List Res):Prop where
 up:Up (a.map Je)
 mem:∀x∈a,x∈h∨(x∈b∧Rch b (Je x)∧x.kind≠0∧∀y∈b,Rch b (Je y)→x.kind<y.kind→y∈a)
 has:∀k∈h.map Je,k∈a.map Je
 zero:∀x:Res,x.kind=0→(x∈a↔x∈h)
structure InvB(b a:List Res):Prop where
 up:Up (a.map Je)
 zero:∀x:Res,x.kind=0→(x∈a↔x∈b)
 all:∀y∈b,Rch b (Je y)→y∈a
def Jc1(a b:List Res)(H:List Key):Bool:=JaV a && (JaV b && decide (H.length≤80))
theorem JaW(a b:List Res)(H:List Key)(hl:Jc a.length)(hs:∀r∈a,Jw r)(hl2:Jc b.length)(hs2:∀r∈b,Jw r):CallR Tryz.prog 31 [.slice false (Ja a),.slice false (Ja b),.slice false (Ja H)] (.val (.bool (Jc1 a b H))):=by
 have w1:=Jb7 a hl hs
 have w2:=Jb7 b hl2 hs2
 unfold Jc1
 clear hs hs2
 generalize JaV a=x at *
 generalize JaV b=y at *
 cases x
 ·refine CallR.go3 (T:=T) Tryz.call31 Tryz.func31 rfl Tryz.ntmps31 (congrArg Array.toList Tryz.results31) (by decide) fun ts hn h0 h1 h2=>?_
  (repeat' (first
 | (with_reducible first|refine callX.by (w1) ?_|refine callX.by (w2) ?_|refine callX.by (Jb7 _ ?_ ?_) ?_|assumption|(refine Qw hK _ ?_;clear hK K)|refine Qw ‹_› _ ?_|refine Qx ‹_› ?_|refine Qi fun K hK=>?_|refine Qj T fun K hK=>?_|refine Ql fun A B hA hB=>?_|refine Qn ?_|refine Qr ?_)
 | ((with_reducible first|apply Qy|apply Qz|apply QA)<;>intro hb<;>try simp only[nr] at hb)
 |simp only[go_sem,↓reduceIte,reduceIte,Qa,Qh,Qb,Qc,Qd,Qe,Qf,Qg,reduceCtorEq, *,-w1,-w2]
 |with_reducible refine fun(bn:Bool) hbn=>?_))
  all_goals trace_state
 ·cases y
  ·refine CallR.go3 (T:=T) Tryz.call31 Tryz.func31 rfl Tryz.ntmps31 (congrArg Array.toList Tryz.results31) (by decide) fun ts hn h0 h1 h2=>?_
   (repeat' (first
 | (with_reducible first|refine callX.by (w1) ?_|refine callX.by (w2) ?_|refine callX.by (Jb7 _ ?_ ?_) ?_|assumption|(refine Qw hK _ ?_;clear hK K)|refine Qw ‹_› _ ?_|refine Qx ‹_› ?_|refine Qi fun K hK=>?_|refine Qj T fun K hK=>?_|refine Ql fun A B hA hB=>?_|refine Qn ?_|refine Qr ?_)
 | ((with_reducible first|apply Qy|apply Qz|apply QA)<;>intro hb<;>try simp only[nr] at hb)
 |simp only[go_sem,↓reduceIte,reduceIte,Qa,Qh,Qb,Qc,Qd,Qe,Qf,Qg,reduceCtorEq, *,-w1,-w2]
 |with_reducible refine fun(bn:Bool) hbn=>?_))
   all_goals trace_state
  ·refine CallR.go3 (T:=T) Tryz.call31 Tryz.func31 rfl Tryz.ntmps31 (congrArg Array.toList Tryz.results31) (by decide) fun ts hn h0 h1 h2=>?_
   (repeat' (first
 | (with_reducible first|refine callX.by (w1) ?_|refine callX.by (w2) ?_|refine callX.by (Jb7 _ ?_ ?_) ?_|assumption|(refine Qw hK _ ?_;clear hK K)|refine Qw ‹_› _ ?_|refine Qx ‹_› ?_|refine Qi fun K hK=>?_|refine Qj T fun K hK=>?_|refine Ql fun A B hA hB=>?_|refine Qn ?_|refine Qr ?_)
 | ((with_reducible first|apply Qy|apply Qz|apply QA)<;>intro hb<;>try simp only[nr] at hb)
 |simp only[go_sem,↓reduceIte,reduceIte,Qa,Qh,Qb,Qc,Qd,Qe,Qf,Qg,reduceCtorEq, *,-w1,-w2]
 |with_reducible refine fun(bn:Bool) hbn=>?_))
   all_goals (rw[Bool.eq_iff_iff];simp;try omega)
def l5:Res:=⟨0,[108],0,80,[114],[],[]⟩
def r5:Res:=⟨1,[114],0,0,[],[⟨[42],[47],[⟨[99],1⟩]⟩],[]⟩
def c5:Res:=⟨2,[99],0,0,[101],[],[]⟩
def e5:Res:=⟨3,[101],0,0,[],[],[7]⟩
def s5:List Res:=[l5,r5,c5,e5]
set_option maxHeartbeats 4000000 in
theorem small15_c:CallR Tryz.prog 95 [] (.own 7 (Ja s5)):=by
 refine CallR.go0 (T:=T) Tryz.call95 Tryz.func95 rfl Tryz.ntmps95 (congrArg Array.toList Tryz.results95) fun ts hn=>?_
 (repeat' (first
 | (with_reducible first|assumption|(refine Qw hK _ ?_;clear hK K)|refine Qw ‹_› _ ?_|refine Qx ‹_› ?_|refine Qi fun K hK=>?_|refine Qj T fun K hK=>?_|refine Ql fun A B hA hB=>?_|refine Qn ?_)
 | ((with_reducible first|apply Qy|apply Qz|apply QA)<;>intro hb<;>try simp only[nr] at hb)
 |simp only[go_sem,↓reduceIte,reduceIte,Qa,Qh,Qb,Qc,Qd,Qe,Qf,Qg,reduceCtorEq, *,Int.le_refl]
 |with_reducible refine fun(bn:Bool) hbn=>?_))
 refine SpecC.ent (Ent.frzA2 5 0 2 3 ?_) ?_
 ·simp only[go_sem,↓reduceIte,reduceIte,Qa,Qh,Qb,Qc,Qd,Qe,Qf,Qg,reduceCtorEq, *,List.getD_cons_zero,AV.cells]
 refine SpecC.ent (Ent.frzA2 10 1 5 5 ?_) ?_
 ·simp only[go_sem,↓reduceIte,reduceIte,Qa,Qh,Qb,Qc,Qd,Qe,Qf,Qg,reduceCtorEq, *,List.getD_cons_zero,AV.cells]
 refine SpecC.ent (Ent.frzA2 10 3 6 8 ?_) ?_
 ·simp only[go_sem,↓reduceIte,reduceIte,Qa,Qh,Qb,Qc,Qd,Qe,Qf,Qg,reduceCtorEq, *,List.getD_cons_zero,AV.cells]
 (repeat' (first
 | (with_reducible first|assumption|(refine Qw hK _ ?_;clear hK K)|refine Qw ‹_› _ ?_|refine Qx ‹_› ?_|refine Qi fun K hK=>?_|refine Qj T fun K hK=>?_|refine Ql fun A B hA hB=>?_|refine Qn ?_|refine Qr ?_)
 | ((with_reducible first|apply Qy|apply Qz|apply QA)<;>intro hb<;>try simp only[nr] at hb)
 |simp only[go_sem,↓reduceIte,reduceIte,Qa,Qh,Qb,Qc,Qd,Qe,Qf,Qg,reduceCtorEq, *,List.getD_cons_zero,AV.cells]
 |with_reducible refine fun(bn:Bool) hbn=>?_))
 all_goals rfl
theorem s5s:∀r∈s5,JW r=0:=by
 intro r hr
 simp only[s5,List.mem_cons,List.not_mem_nil,or_false] at hr
 rcases hr with rfl|rfl|rfl|rfl<;>decide
theorem Jfc:∀r∈s5,Jw r:=by
 intro r hr
 simp only[s5,List.mem_cons,List.not_mem_nil,or_false] at hr
 rcases hr with rfl|rfl|rfl|rfl<;>simp[Jw,Jc,VB,JbW,l5,r5,c5,e5]
theorem JdJ:Up (s5.map Je):=(Jiw s5).1 (by decide)
theorem l5r:Jk l5=[⟨1,[114]⟩]:=JhM (s5s l5 (by simp[s5])) (.inl rfl)
theorem r5r:Jk r5=[⟨2,[99]⟩]:=by
 have hs:JW r5=0:=s5s r5 (by simp[s5])
 have e:Vg r5++JK r5.rules'=[⟨2,[99]⟩]:=by decide
 unfold Jk
 rw[if_pos hs,e]
 simp[JR,Yd,Vp]
theorem c5r:Jk c5=[⟨3,[101]⟩]:=JhM (s5s c5 (by simp[s5])) (.inr rfl)
theorem e5r:Jk e5=[]:=JlX rfl
theorem s5n:YK s5=[(⟨0,[108]⟩,[⟨1,[114]⟩]),(⟨1,[114]⟩,[⟨2,[99]⟩]),(⟨2,[99]⟩,[⟨3,[101]⟩]),(⟨3,[101]⟩,[])]:=by
 simp only[YK,s5,List.foldl_cons,List.foldl_nil,Vn,l5r,r5r,c5r,e5r];rfl
theorem Jmm:JX s5=s5:=by unfold JX ZG;rw[s5n];decide +kernel
def YP(k:Int)(r:Res):Step:=⟨k,[r],[]⟩
theorem JdI(D:List Res)(k:Int):Yp s5 D k=(Vv D k).filter fun r=>decide (Je r∈s5.map Je):=by unfold Yp;rw[Jmm]
theorem Jic:Jz [] s5 []=some (YP 3 e5):=by simp only[Jz,VD,JN,JdI];decide +kernel
theorem Jmj:Jz [e5] s5 []=some (YP 2 c5):=by simp only[Jz,VD,JN,JdI];decide +kernel
theorem Jmk:Jz [c5,e5] s5 []=some (YP 1 r5):=by simp only[Jz,VD,JN,JdI];decide +kernel
theorem Jml:Jz [r5,c5,e5] s5 []=some (YP 0 l5):=by simp only[Jz,VD,JN,JdI];decide +kernel
theorem Jid:Jz s5 s5 []=none:=Jla [] (Jek JdJ).1 (Jek JdJ).2
theorem Jib:Vf [] (YP 3 e5)=[e5]:=by decide +kernel
theorem Jmf:Vf [e5] (YP 2 c5)=[c5,e5]:=by decide +kernel
theorem Jmg:Vf [c5,e5] (YP 1 r5)=[r5,c5,e5]:=by decide +kernel
theorem Jmh:Vf [r5,c5,e5] (YP 0 l5)=s5:=by decide +kernel
theorem Jmn:Vu s5 [] 400 []=[YP 3 e5,YP 2 c5,YP 1 r5,YP 0 l5]:=by
 rw[JaD Jic,Jib,JaD Jmj,Jmf,JaD Jmk,Jmg,JaD Jml,Jmh,Jcw Jid]
theorem Jmo:Zu s5 s5 []=[]:=by unfold Zu;rw[Jid];exact(Jek JdJ).2
theorem JlQ{l:List Res}(hl:l.length≤65536)(hs:∀r∈l,Jw r)(hu:Up (l.map Je)):Jbc l:=Jdv l hl hs (Jfn hu)
set_option maxHeartbeats 4000000 in
theorem JaO:CallR Tryz.prog 30 [] (.val (.bool true)):=by
 have hre:=JlQ (l:=s5) (by decide) Jfc JdJ
 have w0:=small15_c.frz
 have w1:=ZM [] s5 [] (by simp) (by decide) (by simp) Jfc (by simp[Jc]) hre
 rw[Jmn] at w1
 have w1:=w1.frz
 have w2:=VQ [] s5 [] (by simp) (by simp[Jc,s5]) (by simp) (by simp[Jc]) hre
 rw[Jic] at w2
 have w3:=Jad s5 s5 [] (by decide) (by simp[Jc,s5]) Jfc (by simp[Jc]) hre
 rw[Jmo] at w3
 have w4:=Yo [] 3 [e5] [] (by simp[Jc]) (by simp[Jc]) (by simp[Jc]) (by simp[Jc])
 rw[show Vf [] ⟨3,[e5],[]⟩=[e5] from Jib] at w4
 clear hre
 simp only[Vo,YP,Option.getD_some,Option.isSome_some] at w1 w2 w3 w4
 have hk:Ja [(⟨3,[e5],[]⟩:Step),⟨2,[c5],[]⟩,⟨1,[r5],[]⟩,⟨0,[l5],[]⟩]=[.agg [.int .i64 3,.slice false (Ja [e5]),.slice false []],.agg [.int .i64 2,.slice false (Ja [c5]),.slice false []],.agg [.int .i64 1,.slice false (Ja [r5]),.slice false []],.agg [.int .i64 0,.slice false (Ja [l5]),.slice false []]]:=rfl
 rw[hk] at w1
 have g0:∀a b c d:AV,[a,b,c,d].getD (Int.toNat 0) .any=a:=fun _ _ _ _=>rfl
 have g3:∀a b c d:AV,[a,b,c,d].getD (Int.toNat 3) .any=d:=fun _ _ _ _=>rfl
 have z0:(0:Int)<4:=by decide
 have z3:(3:Int)<4:=by decide
 have z30:(0:Int)≤3:=by decide
 have e4:((4:Nat):Int)=4:=rfl
 refine CallR.go0 (T:=T) Tryz.call30 Tryz.func30 rfl Tryz.ntmps30 (congrArg Array.toList Tryz.results30) fun ts hn=>?_
 (repeat' (first
 | (with_reducible first|refine callX.by (w0) ?_|refine callX.by (w1) ?_|refine callX.by (w2) ?_|refine callX.by (w3) ?_|refine callX.by (w4) ?_|refine callX.by small15_c ?_|refine callX.by (ZM _ _ _ ?_ ?_ ?_ ?_ ?_ ?_) ?_|refine callX.by (VQ _ _ _ ?_ ?_ ?_ ?_ ?_) ?_|refine callX.by (Jad _ _ _ ?_ ?_ ?_ ?_ ?_) ?_|refine callX.by (Yo _ _ _ _ ?_ ?_ ?_ ?_) ?_|assumption|(refine Qw hK _ ?_;clear hK K)|refine Qw ‹_› _ ?_|refine Qx ‹_› ?_|refine Qi fun K hK=>?_|refine Qj T fun K hK=>?_|refine Ql fun A B hA hB=>?_|refine Qn ?_|refine Qr ?_)
 | ((with_reducible first|apply Qy|apply Qz|apply QA)<;>intro hb<;>try simp only[nr] at hb)
 |simp only[go_sem,↓reduceIte,reduceIte,Qa,Qh,Qb,Qc,Qd,Qe,Qf,Qg,reduceCtorEq, *,-w0,-w1,-w2,-w3,-w4,g0,g3,Int.reduceEq,Int.le_refl,List.length_nil,List.length_cons,decide_true,Option.getD_some,Option.isSome_some]
 |with_reducible refine fun(bn:Bool) hbn=>?_))
 all_goals trace_state
end Go.Proofs.YtmjkjmoeicnbnaaGreatDoor.Lg
