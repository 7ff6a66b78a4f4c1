/- Parts of the proof, one behind the other. -/
import Derived.Test.YtihahfhagobnoaaGreatDoorG14
namespace Go.Proofs.YtihahfhagobnoaaGreatDoor.Lg
set_option maxRecDepth 100000
set_option linter.unusedVariables false
set_option linter.unusedSimpArgs false
open Go
open Nat renaming reduceEqDiff → Qa, reduceLT → Qb, reduceLeDiff → Qc, reduceAdd → Qd, reduceMul → Qe, reduceSub → Qf, reduceBEq → Qg
open String renaming reduceEq → Qh
open SpecC renaming seqW → Qi, regW → Qj, condW → Ql, block → Qm, skip → Qn, exit → Qp, ret → Qr, loopF → Qs
open NxK renaming out → Qw
open condK renaming split → Qy
open gK renaming split_t → Qz, split_f → QA
def Jac(M:List (Key×Bool))(ks:List Key):List Key:=ks.filter fun k=>!(JB M k).getD false
def Yo(M:List (Key×Bool))(l:List Res):List Key:=l.flatMap fun r=>Jac M (JH r)
def Jb3(l:List Res):List Key:=VK (JK (Yo (Vj l []) l))
theorem Jmt(M:List (Key×Bool))(r:Res)(l:List Res):Yo M (r :: l)=Jac M (JH r)++Yo M l:=rfl
theorem Jl7(M:List (Key×Bool))(k:Key)(l:List Key):Jac M (k :: l)=(if(JB M k).getD false=true then [] else [k])++Jac M l:=by
 unfold Jac
 rw[List.filter_cons]
 cases (JB M k).getD false<;>simp
theorem ZE{n:Nat}(h:n≤65536):Jc n:=by unfold Jc;omega
set_option maxHeartbeats 4000000 in
theorem Zs(xs:List Res)(hl:xs.length≤65536)(hs:∀r∈xs,Ju r):CallR Tryz.prog 25 [.slice false (Ja xs)] (.own 2 (Ja (Jb3 xs))):=by
 have hsl:=ZE hl
 refine CallR.go1 (T:=T) Tryz.call25 Tryz.func25 rfl Tryz.ntmps25 (congrArg Array.toList Tryz.results25) (by decide) fun ts hn h0=>?_
 (repeat' (first
 | (with_reducible first|refine callX.by (YS _ ?_) ?_|refine callX.by (YT _ _ _ _ _ _ _ ?_ ?_ ?_) ?_|refine callX.by Y1 ?_)
 | (with_reducible refine callX.ar ?_ ?_ (Yv ?_ ?_);(focus(simp only[go_sem,↓reduceIte,reduceIte,Qa,Qh,Qb,Qc,Qd,Qe,Qf,Qg,reduceCtorEq, *,-hs];first|done|rfl)))
 |with_reducible refine callX.by (Vb _ _ _ _) ?_
 | (with_reducible refine callX.mv ?_ ?_ ?_ (Yi ?_ ?_);(focus(simp only[go_sem,↓reduceIte,reduceIte,Qa,Qh,Qb,Qc,Qd,Qe,Qf,Qg,reduceCtorEq, *,-hs];first|done|rfl));(focus(simp only[go_sem,↓reduceIte,reduceIte,Qa,Qh,Qb,Qc,Qd,Qe,Qf,Qg,reduceCtorEq, *,-hs];first|done|rfl)))
 | (with_reducible first|assumption|(refine Qw hK _ ?_;clear hK K)|refine Qw ‹_› _ ?_|refine Nx.out ‹_› ?_|refine Qi fun K hK=>?_|refine Qj T fun K hK=>?_|refine Ql fun A B hA hB=>?_|refine Qm ?_|refine Qn ?_|refine Qp ?_|refine Qr ?_)
 | ((with_reducible first|apply Qy|apply Qz|apply QA)<;>intro hb<;>try simp only[nr] at hb)
 |simp only[go_sem,↓reduceIte,reduceIte,Qa,Qh,Qb,Qc,Qd,Qe,Qf,Qg,reduceCtorEq, *,-hs]
 |with_reducible refine fun(bn:Bool) hbn=>?_))
 obtain⟨M0,hM0⟩:∃M0,Vj xs []=M0:=⟨_,rfl⟩
 have hK0:Jb3 xs=VK (JK (Yo M0 xs)):=by rw[←hM0];rfl
 rw[hM0]
 refine SpecC.virt 4 31 2 (by decide) (by simp only[go_sem,↓reduceIte,reduceIte,Qa,Qh,Qb,Qc,Qd,Qe,Qf,Qg,reduceCtorEq, *,-hs,-hK0]) ?_
 refine Qs [3,11,12] (fun m ts'=>∃(i:Nat),∃(g:Nat),∃(ys:List Key),m=xs.length-i∧i≤xs.length∧ys.length≤33*i∧Yo M0 xs=ys++Yo M0 (xs.drop i)∧ts'.tmp 4=.os 31 g ys.length∧ts'.gen 31=g∧ts'.obj 31=.arr 2 (Ja ys)∧ts'.tmp 13=.int .i64 i) xs.length ?_ ?_
 ·refine⟨0,ts.gen 31+1,[],rfl,Nat.zero_le _,Nat.le_refl _,rfl,?_⟩
  simp only[go_sem,↓reduceIte,reduceIte,Qa,Qh,Qb,Qc,Qd,Qe,Qf,Qg,reduceCtorEq, *,-hs,-hK0,Yh]
 ·rintro m A hM ts' hk ⟨i,g,ys,hm,f1,f2,f3,s1,s2,s3,s4⟩
  simp only[go_sem,↓reduceIte,reduceIte,Qa,Qh,Qb,Qc,Qd,Qe,Qf,Qg,reduceCtorEq, *] at hk
  by_cases hlt:i<xs.length
  ·rw[List.drop_eq_getElem_cons hlt,Jmt] at f3
   obtain⟨_,_,hx1,hx2,hx3⟩:=hs _ (List.getElem_mem hlt)
   have hrl:=Jeu xs[i]
   have hrs:Jc (JH xs[i]).length:=by unfold Jc;omega
   (repeat' (first
 | (with_reducible first|refine callX.by (YS _ ?_) ?_|refine callX.by (YT _ _ _ _ _ _ _ ?_ ?_ ?_) ?_|refine callX.by Y1 ?_)
 | (with_reducible refine callX.ar ?_ ?_ (Yv ?_ ?_);(focus(simp only[go_sem,↓reduceIte,reduceIte,Qa,Qh,Qb,Qc,Qd,Qe,Qf,Qg,reduceCtorEq, *,-hs,-hK0,-hx2,-f3];first|done|rfl)))
 |with_reducible refine callX.by (Vb _ _ _ _) ?_
 | (with_reducible refine callX.mv ?_ ?_ ?_ (Yi ?_ ?_);(focus(simp only[go_sem,↓reduceIte,reduceIte,Qa,Qh,Qb,Qc,Qd,Qe,Qf,Qg,reduceCtorEq, *,-hs,-hK0,-hx2,-f3];first|done|rfl));(focus(simp only[go_sem,↓reduceIte,reduceIte,Qa,Qh,Qb,Qc,Qd,Qe,Qf,Qg,reduceCtorEq, *,-hs,-hK0,-hx2,-f3];first|done|rfl)))
 | (with_reducible first|assumption|(refine Qw hK _ ?_;clear hK K)|refine Qw ‹_› _ ?_|refine Nx.out ‹_› ?_|refine Qi fun K hK=>?_|refine Qj T fun K hK=>?_|refine Ql fun A B hA hB=>?_|refine Qm ?_|refine Qn ?_|refine Qp ?_|refine Qr ?_)
 | ((with_reducible first|apply Qy|apply Qz|apply QA)<;>intro hb<;>try simp only[nr] at hb)
 |simp only[go_sem,↓reduceIte,reduceIte,Qa,Qh,Qb,Qc,Qd,Qe,Qf,Qg,reduceCtorEq, *,-hs,-hK0,-hx2,-f3]
 |with_reducible refine fun(bn:Bool) hbn=>?_))
   generalize JH xs[i]=R at *
   refine Qs [3,11,12,13,18,19] (fun m ts'=>∃(j:Nat),∃(g':Nat),∃(zs:List Key),m=R.length-j∧j≤R.length∧zs.length≤33*i+j∧ys++Jac M0 R=zs++Jac M0 (R.drop j)∧ts'.tmp 4=.os 31 g' zs.length∧ts'.gen 31=g'∧ts'.obj 31=.arr 2 (Ja zs)∧ts'.tmp 20=.int .i64 j) R.length ?_ ?_
   ·refine⟨0,g,ys,rfl,Nat.zero_le _,by omega,rfl,?_⟩
    simp only[go_sem,↓reduceIte,reduceIte,Qa,Qh,Qb,Qc,Qd,Qe,Qf,Qg,reduceCtorEq, *,-hs,-hK0,-hx2,-f3]
   ·revert hM f3
    intro hM1 f30
    rintro m A hM ts' hk ⟨j,g',zs,hm,f1,f2,f3,s1,s2,s3,s4⟩
    simp only[go_sem,↓reduceIte,reduceIte,Qa,Qh,Qb,Qc,Qd,Qe,Qf,Qg,reduceCtorEq, *] at hk
    by_cases hjt:j<R.length
    ·rw[List.drop_eq_getElem_cons hjt,Jl7] at f3
     have hr1:Vl (zs.length+1) 24:=Jbk (by omega) (by decide)
     (repeat' (first
 | (with_reducible first|refine callX.by (YS _ ?_) ?_|refine callX.by (YT _ _ _ _ _ _ _ ?_ ?_ ?_) ?_|refine callX.by Y1 ?_)
 | (with_reducible refine callX.ar ?_ ?_ (Yv ?_ ?_);(focus(simp only[go_sem,↓reduceIte,reduceIte,Qa,Qh,Qb,Qc,Qd,Qe,Qf,Qg,reduceCtorEq, *,-hs,-hK0,-hx2,-f3,-f30];first|done|rfl)))
 |with_reducible refine callX.by (Vb _ _ _ _) ?_
 | (with_reducible refine callX.mv ?_ ?_ ?_ (Yi ?_ ?_);(focus(simp only[go_sem,↓reduceIte,reduceIte,Qa,Qh,Qb,Qc,Qd,Qe,Qf,Qg,reduceCtorEq, *,-hs,-hK0,-hx2,-f3,-f30];first|done|rfl));(focus(simp only[go_sem,↓reduceIte,reduceIte,Qa,Qh,Qb,Qc,Qd,Qe,Qf,Qg,reduceCtorEq, *,-hs,-hK0,-hx2,-f3,-f30];first|done|rfl)))
 | (with_reducible first|assumption|(refine Qw hK _ ?_;clear hK K)|refine Qw ‹_› _ ?_|refine Nx.out ‹_› ?_|refine Qi fun K hK=>?_|refine Qj T fun K hK=>?_|refine Ql fun A B hA hB=>?_|refine Qm ?_|refine Qn ?_|refine Qp ?_|refine Qr ?_)
 | ((with_reducible first|apply Qy|apply Qz|apply QA)<;>intro hb<;>try simp only[nr] at hb)
 |simp only[go_sem,↓reduceIte,reduceIte,Qa,Qh,Qb,Qc,Qd,Qe,Qf,Qg,reduceCtorEq, *,-hs,-hK0,-hx2,-f3,-f30]
 |with_reducible refine fun(bn:Bool) hbn=>?_))
     all_goals ((repeat clear hK);(repeat clear hA);(repeat clear hB))
     ·rw[if_neg (by simp[hb])] at f3
      (refine hM.on (R.length-(j+1)) (by omega) (by simp only[go_sem,↓reduceIte,reduceIte,Qa,Qh,Qb,Qc,Qd,Qe,Qf,Qg,reduceCtorEq, *,Jf hjt hrs,List.length_append,-hs,-hK0,-hx2,-f3,-f30,-hM1]) ⟨j+1,g'+1,zs++[R[j]],rfl,by omega,by simp;omega,by rw[f3,List.append_assoc],?_⟩;simp only[go_sem,↓reduceIte,reduceIte,Qa,Qh,Qb,Qc,Qd,Qe,Qf,Qg,reduceCtorEq, *,Jf hjt hrs,List.length_append,-hs,-hK0,-hx2,-f3,-f30,-hM1];done)
     ·rw[if_pos hb,List.nil_append] at f3
      (refine hM.on (R.length-(j+1)) (by omega) (by simp only[go_sem,↓reduceIte,reduceIte,Qa,Qh,Qb,Qc,Qd,Qe,Qf,Qg,reduceCtorEq, *,Jf hjt hrs,-hs,-hK0,-hx2,-f3,-f30,-hM1]) ⟨j+1,g',zs,rfl,by omega,by omega,f3,?_⟩;simp only[go_sem,↓reduceIte,reduceIte,Qa,Qh,Qb,Qc,Qd,Qe,Qf,Qg,reduceCtorEq, *,Jf hjt hrs,-hs,-hK0,-hx2,-f3,-f30,-hM1];done)
    ·rw[List.drop_eq_nil_of_le (by omega)] at f3
     (repeat' (first
 | (with_reducible first|refine callX.by (YS _ ?_) ?_|refine callX.by (YT _ _ _ _ _ _ _ ?_ ?_ ?_) ?_|refine callX.by Y1 ?_)
 | (with_reducible refine callX.ar ?_ ?_ (Yv ?_ ?_);(focus(simp only[go_sem,↓reduceIte,reduceIte,Qa,Qh,Qb,Qc,Qd,Qe,Qf,Qg,reduceCtorEq, *,-hs,-hK0,-hx2,-f3,-f30];first|done|rfl)))
 |with_reducible refine callX.by (Vb _ _ _ _) ?_
 | (with_reducible refine callX.mv ?_ ?_ ?_ (Yi ?_ ?_);(focus(simp only[go_sem,↓reduceIte,reduceIte,Qa,Qh,Qb,Qc,Qd,Qe,Qf,Qg,reduceCtorEq, *,-hs,-hK0,-hx2,-f3,-f30];first|done|rfl));(focus(simp only[go_sem,↓reduceIte,reduceIte,Qa,Qh,Qb,Qc,Qd,Qe,Qf,Qg,reduceCtorEq, *,-hs,-hK0,-hx2,-f3,-f30];first|done|rfl)))
 | (with_reducible first|assumption|(refine Qw hK _ ?_;clear hK K)|refine Qw ‹_› _ ?_|refine Nx.out ‹_› ?_|refine Qi fun K hK=>?_|refine Qj T fun K hK=>?_|refine Ql fun A B hA hB=>?_|refine Qm ?_|refine Qn ?_|refine Qp ?_|refine Qr ?_)
 | ((with_reducible first|apply Qy|apply Qz|apply QA)<;>intro hb<;>try simp only[nr] at hb)
 |simp only[go_sem,↓reduceIte,reduceIte,Qa,Qh,Qb,Qc,Qd,Qe,Qf,Qg,reduceCtorEq, *,-hs,-hK0,-hx2,-f3,-f30]
 |with_reducible refine fun(bn:Bool) hbn=>?_))
     all_goals ((repeat clear hK);(repeat clear hA);(repeat clear hB))
     all_goals (clear hM;revert hM1;intro hM)
     (refine hM.on (xs.length-(i+1)) (by omega) (by simp only[go_sem,↓reduceIte,reduceIte,Qa,Qh,Qb,Qc,Qd,Qe,Qf,Qg,reduceCtorEq, *,Jf hlt hsl,-hs,-hK0,-hx2,-f3,-f30]) ⟨i+1,g',zs,rfl,by omega,by omega,by rw[f30,←List.append_assoc,f3];simp[Jac],?_⟩;simp only[go_sem,↓reduceIte,reduceIte,Qa,Qh,Qb,Qc,Qd,Qe,Qf,Qg,reduceCtorEq, *,Jf hlt hsl,-hs,-hK0,-hx2,-f3,-f30];done)
  ·rw[List.drop_eq_nil_of_le (by omega)] at f3
   have e:ys=Yo M0 xs:=by rw[f3];simp[Yo]
   subst e
   clear f3
   have hk1:=Jad (Yo M0 xs)
   have htk:(JK (Yo M0 xs)).take (Yo M0 xs).length=JK (Yo M0 xs):=List.take_of_length_le (by omega)
   have hsm1:Jc (Yo M0 xs).length:=by unfold Jc;omega
   have hsm2:Jc (JK (Yo M0 xs)).length:=by rw[hk1];exact hsm1
   (repeat' (first
 | (with_reducible first|refine callX.by (YS _ ?_) ?_|refine callX.by (YT _ _ _ _ _ _ _ ?_ ?_ ?_) ?_|refine callX.by Y1 ?_)
 | (with_reducible refine callX.ar ?_ ?_ (Yv ?_ ?_);(focus(simp only[go_sem,↓reduceIte,reduceIte,Qa,Qh,Qb,Qc,Qd,Qe,Qf,Qg,reduceCtorEq, *,Nat.le_refl,-hs];first|done|rfl)))
 |with_reducible refine callX.by (Vb _ _ _ _) ?_
 | (with_reducible refine callX.mv ?_ ?_ ?_ (Yi ?_ ?_);(focus(simp only[go_sem,↓reduceIte,reduceIte,Qa,Qh,Qb,Qc,Qd,Qe,Qf,Qg,reduceCtorEq, *,Nat.le_refl,-hs];first|done|rfl));(focus(simp only[go_sem,↓reduceIte,reduceIte,Qa,Qh,Qb,Qc,Qd,Qe,Qf,Qg,reduceCtorEq, *,Nat.le_refl,-hs];first|done|rfl)))
 | (with_reducible first|assumption|(refine Qw hK _ ?_;clear hK K)|refine Qw ‹_› _ ?_|refine Nx.out ‹_› ?_|refine Qi fun K hK=>?_|refine Qj T fun K hK=>?_|refine Ql fun A B hA hB=>?_|refine Qm ?_|refine Qn ?_|refine Qp ?_|refine Qr ?_)
 | ((with_reducible first|apply Qy|apply Qz|apply QA)<;>intro hb<;>try simp only[nr] at hb)
 |simp only[go_sem,↓reduceIte,reduceIte,Qa,Qh,Qb,Qc,Qd,Qe,Qf,Qg,reduceCtorEq, *,Nat.le_refl,-hs]
 |with_reducible refine fun(bn:Bool) hbn=>?_))
   all_goals ((repeat clear hK);(repeat clear hA);(repeat clear hB))
end Go.Proofs.YtihahfhagobnoaaGreatDoor.Lg
