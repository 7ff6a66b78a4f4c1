/- Parts of the proof, one behind the other. -/
import Derived.Test.YtmjkjmoeicnbnaaGreatDoorG18
namespace Go.Proofs.YtmjkjmoeicnbnaaGreatDoor.Lg
set_option maxRecDepth 100000
set_option linter.unusedVariables false
set_option linter.unusedSimpArgs false
open Go
open Nat renaming reduceEqDiff → Qa, reduceLT → Qb, reduceLeDiff → Qc, reduceAdd → Qd, reduceMul → Qe, reduceSub → Qf, reduceBEq → Qg
open String renaming reduceEq → Qh
open SpecC renaming seqW → Qi, regW → Qj, condW → Ql, block → Qm, skip → Qn, exit → Qp, ret → Qr, loopF → Qs
open NxK renaming out → Qw
open Nx renaming out → Qx
open condK renaming split → Qy
open gK renaming split_t → Qz, split_f → QA
open CallR renaming go1 → QD
theorem Jaw(c:UInt8):CallR Tryz.prog 212 [.int .u8 c.toNat] (.val (.bool (Yu c.toNat))):=by
 refine QD (T:=T) Tryz.call212 Tryz.func212 rfl Tryz.ntmps212 (congrArg Array.toList Tryz.results212) (by decide) fun ts hn h0=>?_
 (repeat' (first
 | (with_reducible first|assumption|(refine Qw hK _ ?_;clear hK K)|refine Qw ‹_› _ ?_|refine Qx ‹_› ?_|refine Qi fun K hK=>?_|refine Qj T fun K hK=>?_|refine Ql fun A B hA hB=>?_|refine Qn ?_|refine Qr ?_)
 | ((with_reducible first|apply Qy|apply Qz|apply QA)<;>intro hb<;>try simp only[nr] at hb)
 |simp only[go_sem,↓reduceIte,reduceIte,Qa,Qh,Qb,Qc,Qd,Qe,Qf,Qg,reduceCtorEq, *]
 |with_reducible refine fun(bn:Bool) hbn=>?_))
 all_goals ((repeat clear hK);(repeat clear hA);(repeat clear hB))
 all_goals (simp_all[Yu]<;>(intros;omega))
theorem Yk(c:UInt8):CallR Tryz.prog 213 [.int .u8 c.toNat] (.val (.bool (Vi c.toNat))):=by
 refine QD (T:=T) Tryz.call213 Tryz.func213 rfl Tryz.ntmps213 (congrArg Array.toList Tryz.results213) (by decide) fun ts hn h0=>?_
 (repeat' (first
 | (with_reducible first|refine callX.by (Jaw _) ?_|assumption|(refine Qw hK _ ?_;clear hK K)|refine Qw ‹_› _ ?_|refine Qx ‹_› ?_|refine Qi fun K hK=>?_|refine Qj T fun K hK=>?_|refine Ql fun A B hA hB=>?_|refine Qn ?_|refine Qr ?_)
 | ((with_reducible first|apply Qy|apply Qz|apply QA)<;>intro hb<;>try simp only[nr] at hb)
 |simp only[go_sem,↓reduceIte,reduceIte,Qa,Qh,Qb,Qc,Qd,Qe,Qf,Qg,reduceCtorEq, *]
 |with_reducible refine fun(bn:Bool) hbn=>?_))
 all_goals ((repeat clear hK);(repeat clear hA);(repeat clear hB))
 all_goals (simp_all[Vi]<;>(intros;omega))
theorem Jha:∀l:List UInt8,Z2 l false=l.all fun b=>Vi b.toNat
 | []=>rfl
 |b :: r=>by rw[Z2,Jha r,List.all_cons];simp
theorem JkO(b:UInt8)(h:Yu b.toNat=true):Vi b.toNat=true:=by simp[Vi,h]
theorem Jlg(b:UInt8)(r:List UInt8):JL (b :: r)=(decide ((b :: r).length≤12) && (Yu b.toNat && (b :: r).all fun b=>Vi b.toNat)):=by
 unfold JL
 rw[Z2,Jha,List.all_cons]
 cases h:Yu b.toNat
 ·simp
 ·simp[JkO b h]
theorem Jlh{s:List UInt8}(h:0<s.length):JL s=(decide (s.length≤12) && (Yu s[0].toNat && s.all fun b=>Vi b.toNat)):=by
 cases s with
 |nil=>simp at h
 |cons b r=>exact Jlg b r
theorem Vd(s:List UInt8):CallR Tryz.prog 175 [.str s] (.val (.bool (JL s))):=by
 by_cases h0:s.length=0
 ·have e:JL s=false:=by rw[List.length_eq_zero_iff.1 h0];rfl
  have h1:(s.length:Int)<1:=by omega
  rw[e]
  refine QD (T:=T) Tryz.call175 Tryz.func175 rfl Tryz.ntmps175 (congrArg Array.toList Tryz.results175) (by decide) fun ts hn h0=>?_
  (repeat' (first
 | (with_reducible first|refine callX.by (Jaw _) ?_|refine callX.by (Yk _) ?_|assumption|(refine Qw hK _ ?_;clear hK K)|refine Qw ‹_› _ ?_|refine Qx ‹_› ?_|refine Qi fun K hK=>?_|refine Qj T fun K hK=>?_|refine Ql fun A B hA hB=>?_|refine Qm ?_|refine Qn ?_|refine Qp ?_|refine Qr ?_)
 | ((with_reducible first|apply Qy|apply Qz|apply QA)<;>intro hb<;>try simp only[nr] at hb)
 |simp only[go_sem,↓reduceIte,reduceIte,Qa,Qh,Qb,Qc,Qd,Qe,Qf,Qg,reduceCtorEq, *]
 |with_reducible refine fun(bn:Bool) hbn=>?_))
 have hp:0<s.length:=by omega
 have h1:¬(s.length:Int)<1:=by omega
 have h1n:¬s.length<1:=by omega
 by_cases h12:12<s.length
 ·have e:JL s=false:=by unfold JL;rw[decide_eq_false (by omega)];rfl
  have h2:(12:Int)<(s.length:Int):=by omega
  rw[e]
  refine QD (T:=T) Tryz.call175 Tryz.func175 rfl Tryz.ntmps175 (congrArg Array.toList Tryz.results175) (by decide) fun ts hn h0=>?_
  (repeat' (first
 | (with_reducible first|refine callX.by (Jaw _) ?_|refine callX.by (Yk _) ?_|assumption|(refine Qw hK _ ?_;clear hK K)|refine Qw ‹_› _ ?_|refine Qx ‹_› ?_|refine Qi fun K hK=>?_|refine Qj T fun K hK=>?_|refine Ql fun A B hA hB=>?_|refine Qm ?_|refine Qn ?_|refine Qp ?_|refine Qr ?_)
 | ((with_reducible first|apply Qy|apply Qz|apply QA)<;>intro hb<;>try simp only[nr] at hb)
 |simp only[go_sem,↓reduceIte,reduceIte,Qa,Qh,Qb,Qc,Qd,Qe,Qf,Qg,reduceCtorEq, *]
 |with_reducible refine fun(bn:Bool) hbn=>?_))
 have h2:¬(12:Int)<(s.length:Int):=by omega
 have hsm:Jc s.length:=by unfold Jc;omega
 have e:=Jlh hp
 rw[decide_eq_true (by omega),Bool.true_and] at e
 have hpI:(0:Int)<(s.length:Int):=by omega
 cases hlo:Yu s[0].toNat with
 |false =>
  have hl0:Yu (s.getD 0 0).toNat=false:=by rw[List.getD_eq_getElem?_getD,List.getElem?_eq_getElem hp];exact hlo
  rw[hlo,Bool.false_and] at e
  rw[e]
  refine QD (T:=T) Tryz.call175 Tryz.func175 rfl Tryz.ntmps175 (congrArg Array.toList Tryz.results175) (by decide) fun ts hn h0=>?_
  (repeat' (first
 | (with_reducible first|refine callX.by (Jaw _) ?_|refine callX.by (Yk _) ?_|assumption|(refine Qw hK _ ?_;clear hK K)|refine Qw ‹_› _ ?_|refine Qx ‹_› ?_|refine Qi fun K hK=>?_|refine Qj T fun K hK=>?_|refine Ql fun A B hA hB=>?_|refine Qm ?_|refine Qn ?_|refine Qp ?_|refine Qr ?_)
 | ((with_reducible first|apply Qy|apply Qz|apply QA)<;>intro hb<;>try simp only[nr] at hb)
 |simp only[go_sem,↓reduceIte,reduceIte,Qa,Qh,Qb,Qc,Qd,Qe,Qf,Qg,reduceCtorEq, *,Int.toNat_zero,Int.le_refl]
 |with_reducible refine fun(bn:Bool) hbn=>?_))
 |true =>
  have hl0:Yu (s.getD 0 0).toNat=true:=by rw[List.getD_eq_getElem?_getD,List.getElem?_eq_getElem hp];exact hlo
  rw[hlo,Bool.true_and] at e
  rw[e]
  clear e
  refine QD (T:=T) Tryz.call175 Tryz.func175 rfl Tryz.ntmps175 (congrArg Array.toList Tryz.results175) (by decide) fun ts hn h0=>?_
  (repeat' (first
 | (with_reducible first|refine callX.by (Jaw _) ?_|refine callX.by (Yk _) ?_|assumption|(refine Qw hK _ ?_;clear hK K)|refine Qw ‹_› _ ?_|refine Qx ‹_› ?_|refine Qi fun K hK=>?_|refine Qj T fun K hK=>?_|refine Ql fun A B hA hB=>?_|refine Qm ?_|refine Qn ?_|refine Qp ?_|refine Qr ?_)
 | ((with_reducible first|apply Qy|apply Qz|apply QA)<;>intro hb<;>try simp only[nr] at hb)
 |simp only[go_sem,↓reduceIte,reduceIte,Qa,Qh,Qb,Qc,Qd,Qe,Qf,Qg,reduceCtorEq, *,Int.toNat_zero,Int.le_refl]
 |with_reducible refine fun(bn:Bool) hbn=>?_))
  refine Qs [0] (fun m ts'=>∃(i:Nat),m=s.length-i∧i≤s.length∧s.all (fun b=>Vi b.toNat)=(s.drop i).all (fun b=>Vi b.toNat)∧ts'.tmp 3=.int .i64 i) s.length ?_ ?_
  ·refine⟨0,rfl,Nat.zero_le _,rfl,?_⟩
   simp only[go_sem,↓reduceIte,reduceIte,Qa,Qh,Qb,Qc,Qd,Qe,Qf,Qg,reduceCtorEq, *]
  ·rintro m A hM ts' hk ⟨i,hm,f1,f2,s1⟩
   simp only[go_sem,↓reduceIte,reduceIte,Qa,Qh,Qb,Qc,Qd,Qe,Qf,Qg,reduceCtorEq, *] at hk
   by_cases hlt:i<s.length
   ·rw[List.drop_eq_getElem_cons hlt,List.all_cons] at f2
    cases hpl:Vi s[i].toNat with
    |false =>
     have hp0:Vi (s.getD i 0).toNat=false:=by rw[List.getD_eq_getElem?_getD,List.getElem?_eq_getElem hlt];exact hpl
     rw[hpl,Bool.false_and] at f2
     rw[f2]
     (repeat' (first
 | (with_reducible first|refine callX.by (Jaw _) ?_|refine callX.by (Yk _) ?_|assumption|(refine Qw hK _ ?_;clear hK K)|refine Qw ‹_› _ ?_|refine Qx ‹_› ?_|refine Qi fun K hK=>?_|refine Qj T fun K hK=>?_|refine Ql fun A B hA hB=>?_|refine Qm ?_|refine Qn ?_|refine Qp ?_|refine Qr ?_)
 | ((with_reducible first|apply Qy|apply Qz|apply QA)<;>intro hb<;>try simp only[nr] at hb)
 |simp only[go_sem,↓reduceIte,reduceIte,Qa,Qh,Qb,Qc,Qd,Qe,Qf,Qg,reduceCtorEq, *,-f2]
 |with_reducible refine fun(bn:Bool) hbn=>?_))
    |true =>
     have hp0:Vi (s.getD i 0).toNat=true:=by rw[List.getD_eq_getElem?_getD,List.getElem?_eq_getElem hlt];exact hpl
     rw[hpl,Bool.true_and] at f2
     (repeat' (first
 | (with_reducible first|refine callX.by (Jaw _) ?_|refine callX.by (Yk _) ?_|assumption|(refine Qw hK _ ?_;clear hK K)|refine Qw ‹_› _ ?_|refine Qx ‹_› ?_|refine Qi fun K hK=>?_|refine Qj T fun K hK=>?_|refine Ql fun A B hA hB=>?_|refine Qm ?_|refine Qn ?_|refine Qp ?_|refine Qr ?_)
 | ((with_reducible first|apply Qy|apply Qz|apply QA)<;>intro hb<;>try simp only[nr] at hb)
 |simp only[go_sem,↓reduceIte,reduceIte,Qa,Qh,Qb,Qc,Qd,Qe,Qf,Qg,reduceCtorEq, *,-f2]
 |with_reducible refine fun(bn:Bool) hbn=>?_))
     all_goals ((repeat clear hK);(repeat clear hA);(repeat clear hB))
     (refine hM.on (s.length-(i+1)) (by omega) (by simp only[go_sem,↓reduceIte,reduceIte,Qa,Qh,Qb,Qc,Qd,Qe,Qf,Qg,reduceCtorEq, *,Jd hlt hsm,-f2]) ⟨i+1,rfl,by omega,f2,?_⟩;simp only[go_sem,↓reduceIte,reduceIte,Qa,Qh,Qb,Qc,Qd,Qe,Qf,Qg,reduceCtorEq, *,Jd hlt hsm,-f2];done)
   ·rw[List.drop_eq_nil_of_le (by omega),List.all_nil] at f2
    (repeat' (first
 | (with_reducible first|refine callX.by (Jaw _) ?_|refine callX.by (Yk _) ?_|assumption|(refine Qw hK _ ?_;clear hK K)|refine Qw ‹_› _ ?_|refine Qx ‹_› ?_|refine Qi fun K hK=>?_|refine Qj T fun K hK=>?_|refine Ql fun A B hA hB=>?_|refine Qm ?_|refine Qn ?_|refine Qp ?_|refine Qr ?_)
 | ((with_reducible first|apply Qy|apply Qz|apply QA)<;>intro hb<;>try simp only[nr] at hb)
 |simp only[go_sem,↓reduceIte,reduceIte,Qa,Qh,Qb,Qc,Qd,Qe,Qf,Qg,reduceCtorEq, *,-f2]
 |with_reducible refine fun(bn:Bool) hbn=>?_))
    all_goals ((repeat clear hK);(repeat clear hA);(repeat clear hB))
    all_goals exact f2.symm
theorem Jfg(s:List UInt8):CallR Tryz.prog 228 [.str s] (.val (.bool (VE s [42,46]))):=by
 by_cases h:2≤s.length
 ·have hI:(2:Int)≤(s.length:Int):=by omega
  have e:VE s [42,46]=decide (s.take 2=[42,46]):=by simp[VE,h]
  rw[e]
  have h02:(0:Int)≤2:=by decide
  have ht2:Int.toNat 2=2:=rfl
  refine QD (T:=T) Tryz.call228 Tryz.func228 rfl Tryz.ntmps228 (congrArg Array.toList Tryz.results228) (by decide) fun ts hn h0=>?_
  (repeat' (first
 | (with_reducible first|assumption|(refine Qw hK _ ?_;clear hK K)|refine Qw ‹_› _ ?_|refine Qx ‹_› ?_|refine Qi fun K hK=>?_|refine Qj T fun K hK=>?_|refine Ql fun A B hA hB=>?_|refine Qn ?_|refine Qr ?_)
 | ((with_reducible first|apply Qy|apply Qz|apply QA)<;>intro hb<;>try simp only[nr] at hb)
 |simp only[go_sem,↓reduceIte,reduceIte,Qa,Qh,Qb,Qc,Qd,Qe,Qf,Qg,reduceCtorEq, *,Int.toNat_zero,Int.le_refl,List.drop_zero]
 |with_reducible refine fun(bn:Bool) hbn=>?_))
 ·have hI:¬(2:Int)≤(s.length:Int):=by omega
  have e:VE s [42,46]=false:=by simp[VE];intro h2;omega
  rw[e]
  refine QD (T:=T) Tryz.call228 Tryz.func228 rfl Tryz.ntmps228 (congrArg Array.toList Tryz.results228) (by decide) fun ts hn h0=>?_
  (repeat' (first
 | (with_reducible first|assumption|(refine Qw hK _ ?_;clear hK K)|refine Qw ‹_› _ ?_|refine Qx ‹_› ?_|refine Qi fun K hK=>?_|refine Qj T fun K hK=>?_|refine Ql fun A B hA hB=>?_|refine Qn ?_|refine Qr ?_)
 | ((with_reducible first|apply Qy|apply Qz|apply QA)<;>intro hb<;>try simp only[nr] at hb)
 |simp only[go_sem,↓reduceIte,reduceIte,Qa,Qh,Qb,Qc,Qd,Qe,Qf,Qg,reduceCtorEq, *]
 |with_reducible refine fun(bn:Bool) hbn=>?_))
theorem Jg5(a b:List UInt8)(h:∀c∈a,c≠46):YL (a++46 :: b)=(JL a && YL b):=by
 unfold YL
 rw[Nm.splitB_at h,List.all_cons]
theorem Jk8(a:List UInt8)(h:∀c∈a,c≠46):YL a=JL a:=by
 unfold YL
 rw[Nm.splitB_none h]
 simp
theorem JmM{α:Type}{s:List α}{k i:Nat}(hk:k≤i)(hi:i<s.length):s.drop k=(s.drop k).take (i-k)++s[i] :: s.drop (i+1):=by
 have e:(s.drop k).drop (i-k)=s.drop i:=by rw[List.drop_drop];congr 1;omega
 have e2:s.drop i=s[i] :: s.drop (i+1):=List.drop_eq_getElem_cons hi
 rw[←e2,←e]
 exact(List.take_append_drop _ _).symm
set_option maxHeartbeats 4000000 in
theorem JeK(s:List UInt8)(hl:Jc s.length):CallR Tryz.prog 229 [.str s] (.val (.bool (YL s))):=by
 refine QD (T:=T) Tryz.call229 Tryz.func229 rfl Tryz.ntmps229 (congrArg Array.toList Tryz.results229) (by decide) fun ts hn h0=>?_
 (repeat' (first
 | (with_reducible first|refine callX.by (Vd _) ?_|assumption|(refine Qw hK _ ?_;clear hK K)|refine Qw ‹_› _ ?_|refine Qx ‹_› ?_|refine Qi fun K hK=>?_|refine Qj T fun K hK=>?_|refine Ql fun A B hA hB=>?_|refine Qm ?_|refine Qn ?_|refine Qp ?_|refine Qr ?_)
 | ((with_reducible first|apply Qy|apply Qz|apply QA)<;>intro hb<;>try simp only[nr] at hb)
 |simp only[go_sem,↓reduceIte,reduceIte,Qa,Qh,Qb,Qc,Qd,Qe,Qf,Qg,reduceCtorEq, *]
 |with_reducible refine fun(bn:Bool) hbn=>?_))
 refine Qs [0] (fun m ts'=>∃(i:Nat),∃(k:Nat),m=s.length+1-i∧k≤i∧(i≤s.length→(∀c∈(s.drop k).take (i-k),c≠46)∧YL s=YL (s.drop k))∧(¬i≤s.length→YL s=true)∧i≤s.length+1∧ts'.tmp 3=.int .i64 k∧ts'.tmp 4=.int .i64 i) (s.length+1) ?_ ?_
 ·refine⟨0,0,rfl,Nat.le_refl _,fun _=>⟨by simp,rfl⟩,fun h=>absurd (Nat.zero_le _) h,by omega,?_⟩
  simp only[go_sem,↓reduceIte,reduceIte,Qa,Qh,Qb,Qc,Qd,Qe,Qf,Qg,reduceCtorEq, *]
 ·rintro m A hM ts' hk ⟨i,k,hm,f1,f2,f3,f4,s1,s2⟩
  simp only[go_sem,↓reduceIte,reduceIte,Qa,Qh,Qb,Qc,Qd,Qe,Qf,Qg,reduceCtorEq, *] at hk
  have hwi:IntKind.i64.wrap ((i:Int)+1)=((i+1:Nat):Int):=by rw[show(i:Int)+1=((i+1:Nat):Int) by omega];exact IntWalk.i64_in _ (by unfold Jc at hl;omega)
  by_cases hle:i≤s.length
  ·obtain⟨g1,g2⟩:=f2 hle
   have hleI:(i:Int)≤(s.length:Int):=by omega
   have hkI:(k:Int)≤(i:Int):=by omega
   have hkl:k≤s.length:=by omega
   clear f2 f3
   by_cases he:i=s.length
   ·have heI:(i:Int)=(s.length:Int):=by omega
    have hpt:(s.drop k).take (i-k)=s.drop k:=List.take_of_length_le (by simp;omega)
    rw[hpt] at g1
    rw[Jk8 _ g1] at g2
    have hq:(s.take i).drop k=s.drop k:=by rw[List.take_of_length_le (by omega)]
    subst he
    clear g1 hpt
    cases hn:JL (s.drop k) with
    |false =>
     rw[hn] at g2
     rw[g2]
     (repeat' (first
 | (with_reducible first|refine callX.by (Vd _) ?_|assumption|(refine Qw hK _ ?_;clear hK K)|refine Qw ‹_› _ ?_|refine Qx ‹_› ?_|refine Qi fun K hK=>?_|refine Qj T fun K hK=>?_|refine Ql fun A B hA hB=>?_|refine Qm ?_|refine Qn ?_|refine Qp ?_|refine Qr ?_)
 | ((with_reducible first|apply Qy|apply Qz|apply QA)<;>intro hb<;>try simp only[nr] at hb)
 |simp only[go_sem,↓reduceIte,reduceIte,Qa,Qh,Qb,Qc,Qd,Qe,Qf,Qg,reduceCtorEq, *,-g2]
 |with_reducible refine fun(bn:Bool) hbn=>?_))
    |true =>
     rw[hn] at g2
     (repeat' (first
 | (with_reducible first|refine callX.by (Vd _) ?_|assumption|(refine Qw hK _ ?_;clear hK K)|refine Qw ‹_› _ ?_|refine Qx ‹_› ?_|refine Qi fun K hK=>?_|refine Qj T fun K hK=>?_|refine Ql fun A B hA hB=>?_|refine Qm ?_|refine Qn ?_|refine Qp ?_|refine Qr ?_)
 | ((with_reducible first|apply Qy|apply Qz|apply QA)<;>intro hb<;>try simp only[nr] at hb)
 |simp only[go_sem,↓reduceIte,reduceIte,Qa,Qh,Qb,Qc,Qd,Qe,Qf,Qg,reduceCtorEq, *,-g2]
 |with_reducible refine fun(bn:Bool) hbn=>?_))
     all_goals ((repeat clear hK);(repeat clear hA);(repeat clear hB))
     (refine hM.on (s.length+1-(s.length+1)) (by omega) (by simp only[go_sem,↓reduceIte,reduceIte,Qa,Qh,Qb,Qc,Qd,Qe,Qf,Qg,reduceCtorEq, *,-g2]) ⟨s.length+1,s.length+1,rfl,by omega,fun h=>absurd h (by omega),fun _=>g2,by omega,?_⟩;simp only[go_sem,↓reduceIte,reduceIte,Qa,Qh,Qb,Qc,Qd,Qe,Qf,Qg,reduceCtorEq, *,-g2];done)
   ·have hlt:i<s.length:=by omega
    have heI:¬(i:Int)=(s.length:Int):=by omega
    have hltI:(i:Int)<(s.length:Int):=by omega
    have hgd:s.getD i 0=s[i]:=by rw[List.getD_eq_getElem?_getD,List.getElem?_eq_getElem hlt];rfl
    have hq:(s.take i).drop k=(s.drop k).take (i-k):=List.drop_take
    by_cases hd:s[i]=46
    ·have hd2:((s.getD i 0).toNat:Int)=46:=by rw[hgd,hd];rfl
     have hsp:=JmM f1 hlt
     rw[hd] at hsp
     have hns:=Jg5 _ (s.drop (i+1)) g1
     rw[←hsp,←g2] at hns
     clear hsp g1 g2 hgd hd
     cases hn:JL ((s.drop k).take (i-k)) with
     |false =>
      rw[hn,Bool.false_and] at hns
      rw[hns]
      (repeat' (first
 | (with_reducible first|refine callX.by (Vd _) ?_|assumption|(refine Qw hK _ ?_;clear hK K)|refine Qw ‹_› _ ?_|refine Qx ‹_› ?_|refine Qi fun K hK=>?_|refine Qj T fun K hK=>?_|refine Ql fun A B hA hB=>?_|refine Qm ?_|refine Qn ?_|refine Qp ?_|refine Qr ?_)
 | ((with_reducible first|apply Qy|apply Qz|apply QA)<;>intro hb<;>try simp only[nr] at hb)
 |simp only[go_sem,↓reduceIte,reduceIte,Qa,Qh,Qb,Qc,Qd,Qe,Qf,Qg,reduceCtorEq, *,-hns]
 |with_reducible refine fun(bn:Bool) hbn=>?_))
     |true =>
      rw[hn,Bool.true_and] at hns
      (repeat' (first
 | (with_reducible first|refine callX.by (Vd _) ?_|assumption|(refine Qw hK _ ?_;clear hK K)|refine Qw ‹_› _ ?_|refine Qx ‹_› ?_|refine Qi fun K hK=>?_|refine Qj T fun K hK=>?_|refine Ql fun A B hA hB=>?_|refine Qm ?_|refine Qn ?_|refine Qp ?_|refine Qr ?_)
 | ((with_reducible first|apply Qy|apply Qz|apply QA)<;>intro hb<;>try simp only[nr] at hb)
 |simp only[go_sem,↓reduceIte,reduceIte,Qa,Qh,Qb,Qc,Qd,Qe,Qf,Qg,reduceCtorEq, *,-hns]
 |with_reducible refine fun(bn:Bool) hbn=>?_))
      all_goals ((repeat clear hK);(repeat clear hA);(repeat clear hB))
      (refine hM.on (s.length+1-(i+1)) (by omega) (by simp only[go_sem,↓reduceIte,reduceIte,Qa,Qh,Qb,Qc,Qd,Qe,Qf,Qg,reduceCtorEq, *,-hns]) ⟨i+1,i+1,rfl,by omega,fun _=>⟨by simp,hns⟩,fun h=>absurd hlt (by omega),by omega,?_⟩;simp only[go_sem,↓reduceIte,reduceIte,Qa,Qh,Qb,Qc,Qd,Qe,Qf,Qg,reduceCtorEq, *,-hns];done)
    ·have hd2:¬((s.getD i 0).toNat:Int)=46:=by
      rw[hgd]
      intro h
      exact hd (UInt8.toNat_inj.1 (by rw[show(46:UInt8).toNat=46 from rfl];omega))
     have hg3:∀c∈(s.drop k).take (i+1-k),c≠46:=by
      intro c hc
      have hkl2:i-k<(s.drop k).length:=by rw[List.length_drop];omega
      rw[show i+1-k=(i-k)+1 by omega,List.take_succ_eq_append_getElem hkl2,List.mem_append,List.mem_singleton] at hc
      rcases hc with hc|rfl
      ·exact g1 c hc
      ·rw[List.getElem_drop]
       have:s[k+(i-k)]=s[i]:=by congr 1;omega
       rw[this];exact hd
     clear g1 hgd hd hq
     (repeat' (first
 | (with_reducible first|refine callX.by (Vd _) ?_|assumption|(refine Qw hK _ ?_;clear hK K)|refine Qw ‹_› _ ?_|refine Qx ‹_› ?_|refine Qi fun K hK=>?_|refine Qj T fun K hK=>?_|refine Ql fun A B hA hB=>?_|refine Qm ?_|refine Qn ?_|refine Qp ?_|refine Qr ?_)
 | ((with_reducible first|apply Qy|apply Qz|apply QA)<;>intro hb<;>try simp only[nr] at hb)
 |simp only[go_sem,↓reduceIte,reduceIte,Qa,Qh,Qb,Qc,Qd,Qe,Qf,Qg,reduceCtorEq, *,-hg3,-g2]
 |with_reducible refine fun(bn:Bool) hbn=>?_))
     all_goals ((repeat clear hK);(repeat clear hA);(repeat clear hB))
     (refine hM.on (s.length+1-(i+1)) (by omega) (by simp only[go_sem,↓reduceIte,reduceIte,Qa,Qh,Qb,Qc,Qd,Qe,Qf,Qg,reduceCtorEq, *,-hg3,-g2]) ⟨i+1,k,rfl,by omega,fun _=>⟨hg3,g2⟩,fun h=>absurd hlt (by omega),by omega,?_⟩;simp only[go_sem,↓reduceIte,reduceIte,Qa,Qh,Qb,Qc,Qd,Qe,Qf,Qg,reduceCtorEq, *,-hg3,-g2];done)
  ·have hg:=f3 hle
   have hleI:¬(i:Int)≤(s.length:Int):=by omega
   clear f2 f3
   (repeat' (first
 | (with_reducible first|refine callX.by (Vd _) ?_|assumption|(refine Qw hK _ ?_;clear hK K)|refine Qw ‹_› _ ?_|refine Qx ‹_› ?_|refine Qi fun K hK=>?_|refine Qj T fun K hK=>?_|refine Ql fun A B hA hB=>?_|refine Qm ?_|refine Qn ?_|refine Qp ?_|refine Qr ?_)
 | ((with_reducible first|apply Qy|apply Qz|apply QA)<;>intro hb<;>try simp only[nr] at hb)
 |simp only[go_sem,↓reduceIte,reduceIte,Qa,Qh,Qb,Qc,Qd,Qe,Qf,Qg,reduceCtorEq, *,-hg]
 |with_reducible refine fun(bn:Bool) hbn=>?_))
   all_goals ((repeat clear hK);(repeat clear hA);(repeat clear hB))
   all_goals exact hg.symm
theorem JmJ{s:List UInt8}(h:VE s [42,46]=true):YL s=false:=by
 simp only[VE,Bool.and_eq_true,decide_eq_true_eq] at h
 obtain⟨h1,h2⟩:=h
 have e:s=[42]++46 :: s.drop 2:=by
  have:=(List.take_append_drop 2 s).symm
  simp only[List.length_cons,List.length_nil] at h2
  rw[h2] at this
  exact this
 rw[e,Jg5 _ _ (by intro c hc;rw[List.mem_singleton] at hc;subst hc;decide)]
 rw[show JL [42]=false by decide,Bool.false_and]
theorem ZV(s:List UInt8)(hl:Jc s.length):CallR Tryz.prog 214 [.str s] (.val (.bool (YU s))):=by
 by_cases h40:40<s.length
 ·have e:YU s=false:=by unfold YU;rw[decide_eq_false (by omega)];rfl
  have hI:(40:Int)<(s.length:Int):=by omega
  rw[e]
  refine QD (T:=T) Tryz.call214 Tryz.func214 rfl Tryz.ntmps214 (congrArg Array.toList Tryz.results214) (by decide) fun ts hn h0=>?_
  (repeat' (first
 | (with_reducible first|refine callX.by (Jfg _) ?_|refine callX.by (JeK _ ?_) ?_|assumption|(refine Qw hK _ ?_;clear hK K)|refine Qw ‹_› _ ?_|refine Qx ‹_› ?_|refine Qi fun K hK=>?_|refine Qj T fun K hK=>?_|refine Ql fun A B hA hB=>?_|refine Qn ?_|refine Qr ?_)
 | ((with_reducible first|apply Qy|apply Qz|apply QA)<;>intro hb<;>try simp only[nr] at hb)
 |simp only[go_sem,↓reduceIte,reduceIte,Qa,Qh,Qb,Qc,Qd,Qe,Qf,Qg,reduceCtorEq, *]
 |with_reducible refine fun(bn:Bool) hbn=>?_))
 have hI:¬(40:Int)<(s.length:Int):=by omega
 have e:YU s=(decide (s=[42]) || YL (Y8 s [42,46])):=by unfold YU;rw[decide_eq_true (by omega),Bool.true_and]
 rw[e]
 clear e
 cases hst:VE s [42,46] with
 |false =>
  have e2:Y8 s [42,46]=s:=by unfold Y8;rw[hst];rfl
  rw[e2]
  refine QD (T:=T) Tryz.call214 Tryz.func214 rfl Tryz.ntmps214 (congrArg Array.toList Tryz.results214) (by decide) fun ts hn h0=>?_
  (repeat' (first
 | (with_reducible first|refine callX.by (Jfg _) ?_|refine callX.by (JeK _ ?_) ?_|assumption|(refine Qw hK _ ?_;clear hK K)|refine Qw ‹_› _ ?_|refine Qx ‹_› ?_|refine Qi fun K hK=>?_|refine Qj T fun K hK=>?_|refine Ql fun A B hA hB=>?_|refine Qn ?_|refine Qr ?_)
 | ((with_reducible first|apply Qy|apply Qz|apply QA)<;>intro hb<;>try simp only[nr] at hb)
 |simp only[go_sem,↓reduceIte,reduceIte,Qa,Qh,Qb,Qc,Qd,Qe,Qf,Qg,reduceCtorEq, *]
 |with_reducible refine fun(bn:Bool) hbn=>?_))
  all_goals ((repeat clear hK);(repeat clear hA);(repeat clear hB))
  all_goals simp_all
 |true =>
  have e2:Y8 s [42,46]=s.drop 2:=by unfold Y8;rw[hst];rfl
  have h3:=JmJ hst
  have h2:2≤s.length:=by
   simp only[VE,Bool.and_eq_true,decide_eq_true_eq] at hst
   exact hst.1
  have h2I:(2:Int)≤(s.length:Int):=by omega
  have h02:(0:Int)≤2:=by decide
  have ht2:Int.toNat 2=2:=rfl
  have htk:(s.drop 2).take (s.length-2)=s.drop 2:=List.take_of_length_le (by simp)
  have hl2:Jc (s.drop 2).length:=by rw[List.length_drop];unfold Jc at *;omega
  rw[e2]
  clear e2
  refine QD (T:=T) Tryz.call214 Tryz.func214 rfl Tryz.ntmps214 (congrArg Array.toList Tryz.results214) (by decide) fun ts hn h0=>?_
  (repeat' (first
 | (with_reducible first|refine callX.by (Jfg _) ?_|refine callX.by (JeK _ ?_) ?_|assumption|(refine Qw hK _ ?_;clear hK K)|refine Qw ‹_› _ ?_|refine Qx ‹_› ?_|refine Qi fun K hK=>?_|refine Qj T fun K hK=>?_|refine Ql fun A B hA hB=>?_|refine Qn ?_|refine Qr ?_)
 | ((with_reducible first|apply Qy|apply Qz|apply QA)<;>intro hb<;>try simp only[nr] at hb)
 |simp only[go_sem,↓reduceIte,reduceIte,Qa,Qh,Qb,Qc,Qd,Qe,Qf,Qg,reduceCtorEq, *,List.drop_take]
 |with_reducible refine fun(bn:Bool) hbn=>?_))
  all_goals ((repeat clear hK);(repeat clear hA);(repeat clear hB))
  all_goals simp_all
theorem JhB:∀l:List UInt8,JaA l=l.all fun b=>Vi b.toNat || decide ((b.toNat:Int)=47)
 | []=>rfl
 |b :: r=>by rw[JaA,JhB r,List.all_cons]
theorem JgB{s:List UInt8}(h:0<s.length):VE s [47]=decide ((s[0].toNat:Int)=47):=by
 cases s with
 |nil=>simp at h
 |cons b r =>
  show(decide (1≤(b :: r).length) && decide ((b :: r).take 1=[47]))=_
  rw[Bool.eq_iff_iff,Bool.and_eq_true,decide_eq_true_eq,decide_eq_true_eq,decide_eq_true_eq]
  simp only[List.take_succ_cons,List.take_zero,List.getElem_cons_zero,List.cons.injEq,and_true]
  constructor
  ·rintro⟨_,rfl⟩;rfl
  ·intro h;exact⟨by simp,UInt8.toNat_inj.1 (by rw[show(47:UInt8).toNat=47 from rfl];omega)⟩
theorem Z4(s:List UInt8):CallR Tryz.prog 215 [.str s] (.val (.bool (V6 s))):=by
 by_cases h0:s.length=0
 ·have e:V6 s=false:=by rw[List.length_eq_zero_iff.1 h0];rfl
  have h1:(s.length:Int)<1:=by omega
  rw[e]
  refine QD (T:=T) Tryz.call215 Tryz.func215 rfl Tryz.ntmps215 (congrArg Array.toList Tryz.results215) (by decide) fun ts hn h0=>?_
  (repeat' (first
 | (with_reducible first|refine callX.by (Yk _) ?_|assumption|(refine Qw hK _ ?_;clear hK K)|refine Qw ‹_› _ ?_|refine Qx ‹_› ?_|refine Qi fun K hK=>?_|refine Qj T fun K hK=>?_|refine Ql fun A B hA hB=>?_|refine Qm ?_|refine Qn ?_|refine Qp ?_|refine Qr ?_)
 | ((with_reducible first|apply Qy|apply Qz|apply QA)<;>intro hb<;>try simp only[nr] at hb)
 |simp only[go_sem,↓reduceIte,reduceIte,Qa,Qh,Qb,Qc,Qd,Qe,Qf,Qg,reduceCtorEq, *]
 |with_reducible refine fun(bn:Bool) hbn=>?_))
 have hp:0<s.length:=by omega
 have h1:¬(s.length:Int)<1:=by omega
 have h1n:¬s.length<1:=by omega
 by_cases h40:40<s.length
 ·have e:V6 s=false:=by unfold V6;rw[decide_eq_false (by omega)];simp
  have h2:(40:Int)<(s.length:Int):=by omega
  rw[e]
  refine QD (T:=T) Tryz.call215 Tryz.func215 rfl Tryz.ntmps215 (congrArg Array.toList Tryz.results215) (by decide) fun ts hn h0=>?_
  (repeat' (first
 | (with_reducible first|refine callX.by (Yk _) ?_|assumption|(refine Qw hK _ ?_;clear hK K)|refine Qw ‹_› _ ?_|refine Qx ‹_› ?_|refine Qi fun K hK=>?_|refine Qj T fun K hK=>?_|refine Ql fun A B hA hB=>?_|refine Qm ?_|refine Qn ?_|refine Qp ?_|refine Qr ?_)
 | ((with_reducible first|apply Qy|apply Qz|apply QA)<;>intro hb<;>try simp only[nr] at hb)
 |simp only[go_sem,↓reduceIte,reduceIte,Qa,Qh,Qb,Qc,Qd,Qe,Qf,Qg,reduceCtorEq, *]
 |with_reducible refine fun(bn:Bool) hbn=>?_))
 have h2:¬(40:Int)<(s.length:Int):=by omega
 have hsm:Jc s.length:=by unfold Jc;omega
 have hpI:(0:Int)<(s.length:Int):=by omega
 have hgd:s.getD 0 0=s[0]:=by rw[List.getD_eq_getElem?_getD,List.getElem?_eq_getElem hp];rfl
 by_cases h47:(s[0].toNat:Int)=47
 rotate_left
 ·have e:V6 s=false:=by unfold V6;rw[JgB hp,decide_eq_false h47];simp
  have h3:¬((s.getD 0 0).toNat:Int)=47:=by rw[hgd];exact h47
  rw[e]
  clear hgd h47
  refine QD (T:=T) Tryz.call215 Tryz.func215 rfl Tryz.ntmps215 (congrArg Array.toList Tryz.results215) (by decide) fun ts hn h0=>?_
  (repeat' (first
 | (with_reducible first|refine callX.by (Yk _) ?_|assumption|(refine Qw hK _ ?_;clear hK K)|refine Qw ‹_› _ ?_|refine Qx ‹_› ?_|refine Qi fun K hK=>?_|refine Qj T fun K hK=>?_|refine Ql fun A B hA hB=>?_|refine Qm ?_|refine Qn ?_|refine Qp ?_|refine Qr ?_)
 | ((with_reducible first|apply Qy|apply Qz|apply QA)<;>intro hb<;>try simp only[nr] at hb)
 |simp only[go_sem,↓reduceIte,reduceIte,Qa,Qh,Qb,Qc,Qd,Qe,Qf,Qg,reduceCtorEq, *,Int.toNat_zero,Int.le_refl]
 |with_reducible refine fun(bn:Bool) hbn=>?_))
 have e:V6 s=s.all fun b=>Vi b.toNat || decide ((b.toNat:Int)=47):=by
  unfold V6
  rw[JgB hp,decide_eq_true h47,decide_eq_true (by omega),JhB];simp
 have h3:((s.getD 0 0).toNat:Int)=47:=by rw[hgd];exact h47
 rw[e]
 clear hgd h47 e
 refine QD (T:=T) Tryz.call215 Tryz.func215 rfl Tryz.ntmps215 (congrArg Array.toList Tryz.results215) (by decide) fun ts hn h0=>?_
 (repeat' (first
 | (with_reducible first|refine callX.by (Yk _) ?_|assumption|(refine Qw hK _ ?_;clear hK K)|refine Qw ‹_› _ ?_|refine Qx ‹_› ?_|refine Qi fun K hK=>?_|refine Qj T fun K hK=>?_|refine Ql fun A B hA hB=>?_|refine Qm ?_|refine Qn ?_|refine Qp ?_|refine Qr ?_)
 | ((with_reducible first|apply Qy|apply Qz|apply QA)<;>intro hb<;>try simp only[nr] at hb)
 |simp only[go_sem,↓reduceIte,reduceIte,Qa,Qh,Qb,Qc,Qd,Qe,Qf,Qg,reduceCtorEq, *,Int.toNat_zero,Int.le_refl]
 |with_reducible refine fun(bn:Bool) hbn=>?_))
 refine Qs [0] (fun m ts'=>∃(i:Nat),m=s.length-i∧i≤s.length∧s.all (fun b=>Vi b.toNat || decide ((b.toNat:Int)=47))=(s.drop i).all (fun b=>Vi b.toNat || decide ((b.toNat:Int)=47))∧ts'.tmp 3=.int .i64 i) s.length ?_ ?_
 ·refine⟨0,rfl,Nat.zero_le _,rfl,?_⟩
  simp only[go_sem,↓reduceIte,reduceIte,Qa,Qh,Qb,Qc,Qd,Qe,Qf,Qg,reduceCtorEq, *]
 ·rintro m A hM ts' hk ⟨i,hm,f1,f2,s1⟩
  simp only[go_sem,↓reduceIte,reduceIte,Qa,Qh,Qb,Qc,Qd,Qe,Qf,Qg,reduceCtorEq, *] at hk
  by_cases hlt:i<s.length
  ·rw[List.drop_eq_getElem_cons hlt,List.all_cons] at f2
   have hgi:s.getD i 0=s[i]:=by rw[List.getD_eq_getElem?_getD,List.getElem?_eq_getElem hlt];rfl
   obtain⟨q1,hq1⟩:∃q1,Vi s[i].toNat=q1:=⟨_,rfl⟩
   obtain⟨q2,hq2⟩:∃q2,decide ((s[i].toNat:Int)=47)=q2:=⟨_,rfl⟩
   rw[hq1,hq2] at f2
   rw[←hgi] at hq1 hq2
   clear hgi
   cases q1 with
   |true =>
    rw[Bool.true_or,Bool.true_and] at f2
    (repeat' (first
 | (with_reducible first|refine callX.by (Yk _) ?_|assumption|(refine Qw hK _ ?_;clear hK K)|refine Qw ‹_› _ ?_|refine Qx ‹_› ?_|refine Qi fun K hK=>?_|refine Qj T fun K hK=>?_|refine Ql fun A B hA hB=>?_|refine Qm ?_|refine Qn ?_|refine Qp ?_|refine Qr ?_)
 | ((with_reducible first|apply Qy|apply Qz|apply QA)<;>intro hb<;>try simp only[nr] at hb)
 |simp only[go_sem,↓reduceIte,reduceIte,Qa,Qh,Qb,Qc,Qd,Qe,Qf,Qg,reduceCtorEq, *,-f2]
 |with_reducible refine fun(bn:Bool) hbn=>?_))
    all_goals ((repeat clear hK);(repeat clear hA);(repeat clear hB))
    (refine hM.on (s.length-(i+1)) (by omega) (by simp only[go_sem,↓reduceIte,reduceIte,Qa,Qh,Qb,Qc,Qd,Qe,Qf,Qg,reduceCtorEq, *,Jd hlt hsm,-f2]) ⟨i+1,rfl,by omega,f2,?_⟩;simp only[go_sem,↓reduceIte,reduceIte,Qa,Qh,Qb,Qc,Qd,Qe,Qf,Qg,reduceCtorEq, *,Jd hlt hsm,-f2];done)
   |false =>
    cases q2 with
    |true =>
     rw[Bool.or_true,Bool.true_and] at f2
     (repeat' (first
 | (with_reducible first|refine callX.by (Yk _) ?_|assumption|(refine Qw hK _ ?_;clear hK K)|refine Qw ‹_› _ ?_|refine Qx ‹_› ?_|refine Qi fun K hK=>?_|refine Qj T fun K hK=>?_|refine Ql fun A B hA hB=>?_|refine Qm ?_|refine Qn ?_|refine Qp ?_|refine Qr ?_)
 | ((with_reducible first|apply Qy|apply Qz|apply QA)<;>intro hb<;>try simp only[nr] at hb)
 |simp only[go_sem,↓reduceIte,reduceIte,Qa,Qh,Qb,Qc,Qd,Qe,Qf,Qg,reduceCtorEq, *,-f2]
 |with_reducible refine fun(bn:Bool) hbn=>?_))
     all_goals ((repeat clear hK);(repeat clear hA);(repeat clear hB))
     (refine hM.on (s.length-(i+1)) (by omega) (by simp only[go_sem,↓reduceIte,reduceIte,Qa,Qh,Qb,Qc,Qd,Qe,Qf,Qg,reduceCtorEq, *,Jd hlt hsm,-f2]) ⟨i+1,rfl,by omega,f2,?_⟩;simp only[go_sem,↓reduceIte,reduceIte,Qa,Qh,Qb,Qc,Qd,Qe,Qf,Qg,reduceCtorEq, *,Jd hlt hsm,-f2];done)
    |false =>
     have h47:=of_decide_eq_false hq2
     rw[Bool.or_false,Bool.false_and] at f2
     rw[f2]
     (repeat' (first
 | (with_reducible first|refine callX.by (Yk _) ?_|assumption|(refine Qw hK _ ?_;clear hK K)|refine Qw ‹_› _ ?_|refine Qx ‹_› ?_|refine Qi fun K hK=>?_|refine Qj T fun K hK=>?_|refine Ql fun A B hA hB=>?_|refine Qm ?_|refine Qn ?_|refine Qp ?_|refine Qr ?_)
 | ((with_reducible first|apply Qy|apply Qz|apply QA)<;>intro hb<;>try simp only[nr] at hb)
 |simp only[go_sem,↓reduceIte,reduceIte,Qa,Qh,Qb,Qc,Qd,Qe,Qf,Qg,reduceCtorEq, *,-f2]
 |with_reducible refine fun(bn:Bool) hbn=>?_))
  ·rw[List.drop_eq_nil_of_le (by omega),List.all_nil] at f2
   (repeat' (first
 | (with_reducible first|refine callX.by (Yk _) ?_|assumption|(refine Qw hK _ ?_;clear hK K)|refine Qw ‹_› _ ?_|refine Qx ‹_› ?_|refine Qi fun K hK=>?_|refine Qj T fun K hK=>?_|refine Ql fun A B hA hB=>?_|refine Qm ?_|refine Qn ?_|refine Qp ?_|refine Qr ?_)
 | ((with_reducible first|apply Qy|apply Qz|apply QA)<;>intro hb<;>try simp only[nr] at hb)
 |simp only[go_sem,↓reduceIte,reduceIte,Qa,Qh,Qb,Qc,Qd,Qe,Qf,Qg,reduceCtorEq, *,-f2]
 |with_reducible refine fun(bn:Bool) hbn=>?_))
   all_goals ((repeat clear hK);(repeat clear hA);(repeat clear hB))
   all_goals exact f2.symm
theorem Ja9{n m:Int}(h:JH n m=true):¬n<0∧¬m<n:=by
 simp only[JH,Bool.and_eq_true,decide_eq_true_eq] at h;omega
theorem Jfp{n m:Int}(h:JH n m=false):n<0∨(¬n<0∧m<n):=by
 simp only[JH,Bool.and_eq_false_iff,decide_eq_false_iff_not] at h;omega
set_option maxHeartbeats 4000000 in
theorem ZO(r_kind:Int)(r_name:List UInt8)(r_ver:Int)(r_port:Int)(r_to:List UInt8)(r_rules:List Rule)(r_hosts:List Int)(hl:Jc r_rules.length)(hh:Jc r_hosts.length)(hs:∀x∈r_rules,VB x):CallR Tryz.prog 176 [.agg [.int .i64 r_kind,.str r_name,.int .i64 r_ver,.int .i64 r_port,.str r_to,.slice false (Ja r_rules),.slice false (Ja r_hosts)]] (.val (.bool (!Vj (⟨r_kind,r_name,r_ver,r_port,r_to,r_rules,r_hosts⟩:Res)))):=by
 by_cases h6:JH r_ver 2147483647=true∧JH r_port 65535=true∧r_rules.length≤8∧r_hosts.length≤8
 rotate_left
 ·have e:Vj (⟨r_kind,r_name,r_ver,r_port,r_to,r_rules,r_hosts⟩:Res)=false:=by
   simp only[Vj,Bool.and_eq_false_iff,decide_eq_false_iff_not]
   by_cases a1:JH r_ver 2147483647=true
   ·by_cases a2:JH r_port 65535=true
    ·by_cases a3:r_rules.length≤8
     ·have:¬r_hosts.length≤8:=fun a4=>h6 ⟨a1,a2,a3,a4⟩
      simp[this]
     ·simp[a3]
    ·simp[a2]
   ·simp[a1]
  rw[e]
  have h6':¬((¬r_ver<0∧¬2147483647<r_ver)∧(¬r_port<0∧¬65535<r_port)∧r_rules.length≤8∧r_hosts.length≤8):=by
   intro ⟨a,b,c,d⟩
   exact h6 ⟨by simp[JH];omega,by simp[JH];omega,c,d⟩
  clear h6 e
  refine QD (T:=T) Tryz.call176 Tryz.func176 rfl Tryz.ntmps176 (congrArg Array.toList Tryz.results176) (by decide) fun ts hn h0=>?_
  (repeat' (first
 | (with_reducible first|assumption|(refine Qw hK _ ?_;clear hK K)|refine Qw ‹_› _ ?_|refine Qx ‹_› ?_|refine Qi fun K hK=>?_|refine Qj T fun K hK=>?_|refine Ql fun A B hA hB=>?_|refine Qm ?_|refine Qn ?_|refine Qp ?_|refine Qr ?_)
 | ((with_reducible first|apply Qy|apply Qz|apply QA)<;>intro hb<;>try simp only[nr] at hb)
 |simp only[go_sem,↓reduceIte,reduceIte,Qa,Qh,Qb,Qc,Qd,Qe,Qf,Qg,reduceCtorEq, *,-hs,-h6']
 |with_reducible refine fun(bn:Bool) hbn=>?_))
  all_goals ((repeat clear hK);(repeat clear hA);(repeat clear hB))
  all_goals (exfalso;apply h6';refine⟨⟨?_,?_⟩,⟨?_,?_⟩,?_,?_⟩<;>omega)
 obtain⟨a1,a2,a3,a4⟩:=h6
 have e:Vj (⟨r_kind,r_name,r_ver,r_port,r_to,r_rules,r_hosts⟩:Res)=(r_hosts.all (fun h=>JH h 2147483647) && r_rules.all Ym):=by
  simp only[Vj]
  rw[a1,a2,decide_eq_true a3,decide_eq_true a4];simp
 obtain⟨b1,b2⟩:=Ja9 a1
 obtain⟨b3,b4⟩:=Ja9 a2
 have b5:¬(8:Int)<(r_rules.length:Int):=by omega
 have b6:¬(8:Int)<(r_hosts.length:Int):=by omega
 have b7:¬8<r_rules.length:=by omega
 have b8:¬8<r_hosts.length:=by omega
 rw[e]
 clear e a1 a2 a3 a4
 refine QD (T:=T) Tryz.call176 Tryz.func176 rfl Tryz.ntmps176 (congrArg Array.toList Tryz.results176) (by decide) fun ts hn h0=>?_
 (repeat' (first
 | (with_reducible first|assumption|(refine Qw hK _ ?_;clear hK K)|refine Qw ‹_› _ ?_|refine Qx ‹_› ?_|refine Qi fun K hK=>?_|refine Qj T fun K hK=>?_|refine Ql fun A B hA hB=>?_|refine Qm ?_|refine Qn ?_|refine Qp ?_|refine Qr ?_)
 | ((with_reducible first|apply Qy|apply Qz|apply QA)<;>intro hb<;>try simp only[nr] at hb)
 |simp only[go_sem,↓reduceIte,reduceIte,Qa,Qh,Qb,Qc,Qd,Qe,Qf,Qg,reduceCtorEq, *,-hs]
 |with_reducible refine fun(bn:Bool) hbn=>?_))
 clear b1 b2 b3 b4 b5 b6 b7 b8
 refine Qs [1] (fun m ts'=>∃(i:Nat),m=r_hosts.length-i∧i≤r_hosts.length∧r_hosts.all (fun h=>JH h 2147483647)=(r_hosts.drop i).all (fun h=>JH h 2147483647)∧ts'.tmp 3=.int .i64 i) r_hosts.length ?_ ?_
 ·refine⟨0,rfl,Nat.zero_le _,rfl,?_⟩
  simp only[go_sem,↓reduceIte,reduceIte,Qa,Qh,Qb,Qc,Qd,Qe,Qf,Qg,reduceCtorEq, *,-hs]
 ·rintro m A hM ts' hk ⟨i,hm,f1,f2,s1⟩
  simp only[go_sem,↓reduceIte,reduceIte,Qa,Qh,Qb,Qc,Qd,Qe,Qf,Qg,reduceCtorEq, *] at hk
  by_cases hlt:i<r_hosts.length
  ·rw[List.drop_eq_getElem_cons hlt,List.all_cons] at f2
   cases hw:JH r_hosts[i] 2147483647 with
   |false =>
    rw[hw,Bool.false_and] at f2
    rcases Jfp hw with c1|⟨c1,c2⟩
    ·(repeat' (first
 | (with_reducible first|assumption|(refine Qw hK _ ?_;clear hK K)|refine Qw ‹_› _ ?_|refine Qx ‹_› ?_|refine Qi fun K hK=>?_|refine Qj T fun K hK=>?_|refine Ql fun A B hA hB=>?_|refine Qm ?_|refine Qn ?_|refine Qp ?_|refine Qr ?_)
 | ((with_reducible first|apply Qy|apply Qz|apply QA)<;>intro hb<;>try simp only[nr] at hb)
 |simp only[go_sem,↓reduceIte,reduceIte,Qa,Qh,Qb,Qc,Qd,Qe,Qf,Qg,reduceCtorEq, *,-hs,-f2]
 |with_reducible refine fun(bn:Bool) hbn=>?_))
     all_goals ((repeat clear hK);(repeat clear hA);(repeat clear hB))
     all_goals (rw[f2];rfl)
    ·(repeat' (first
 | (with_reducible first|assumption|(refine Qw hK _ ?_;clear hK K)|refine Qw ‹_› _ ?_|refine Qx ‹_› ?_|refine Qi fun K hK=>?_|refine Qj T fun K hK=>?_|refine Ql fun A B hA hB=>?_|refine Qm ?_|refine Qn ?_|refine Qp ?_|refine Qr ?_)
 | ((with_reducible first|apply Qy|apply Qz|apply QA)<;>intro hb<;>try simp only[nr] at hb)
 |simp only[go_sem,↓reduceIte,reduceIte,Qa,Qh,Qb,Qc,Qd,Qe,Qf,Qg,reduceCtorEq, *,-hs,-f2]
 |with_reducible refine fun(bn:Bool) hbn=>?_))
     all_goals ((repeat clear hK);(repeat clear hA);(repeat clear hB))
     all_goals (rw[f2];rfl)
   |true =>
    rw[hw,Bool.true_and] at f2
    obtain⟨c1,c2⟩:=Ja9 hw
    (repeat' (first
 | (with_reducible first|assumption|(refine Qw hK _ ?_;clear hK K)|refine Qw ‹_› _ ?_|refine Qx ‹_› ?_|refine Qi fun K hK=>?_|refine Qj T fun K hK=>?_|refine Ql fun A B hA hB=>?_|refine Qm ?_|refine Qn ?_|refine Qp ?_|refine Qr ?_)
 | ((with_reducible first|apply Qy|apply Qz|apply QA)<;>intro hb<;>try simp only[nr] at hb)
 |simp only[go_sem,↓reduceIte,reduceIte,Qa,Qh,Qb,Qc,Qd,Qe,Qf,Qg,reduceCtorEq, *,-hs,-f2]
 |with_reducible refine fun(bn:Bool) hbn=>?_))
    all_goals ((repeat clear hK);(repeat clear hA);(repeat clear hB))
    (refine hM.on (r_hosts.length-(i+1)) (by omega) (by simp only[go_sem,↓reduceIte,reduceIte,Qa,Qh,Qb,Qc,Qd,Qe,Qf,Qg,reduceCtorEq, *,Jd hlt hh,-hs,-f2]) ⟨i+1,rfl,by omega,f2,?_⟩;simp only[go_sem,↓reduceIte,reduceIte,Qa,Qh,Qb,Qc,Qd,Qe,Qf,Qg,reduceCtorEq, *,Jd hlt hh,-hs,-f2];done)
  ·rw[List.drop_eq_nil_of_le (by omega),List.all_nil] at f2
   have hho:=f2
   clear f2
   (repeat' (first
 | (with_reducible first|assumption|(refine Qw hK _ ?_;clear hK K)|refine Qw ‹_› _ ?_|refine Qx ‹_› ?_|refine Qi fun K hK=>?_|refine Qj T fun K hK=>?_|refine Ql fun A B hA hB=>?_|refine Qm ?_|refine Qn ?_|refine Qp ?_|refine Qr ?_)
 | ((with_reducible first|apply Qy|apply Qz|apply QA)<;>intro hb<;>try simp only[nr] at hb)
 |simp only[go_sem,↓reduceIte,reduceIte,Qa,Qh,Qb,Qc,Qd,Qe,Qf,Qg,reduceCtorEq, *,-hs,-hho]
 |with_reducible refine fun(bn:Bool) hbn=>?_))
   clear hM hlt
   refine Qs [1] (fun m ts'=>∃(q:Nat),m=r_rules.length-q∧q≤r_rules.length∧r_rules.all Ym=(r_rules.drop q).all Ym∧ts'.tmp 4=.int .i64 q) r_rules.length ?_ ?_
   ·refine⟨0,rfl,Nat.zero_le _,rfl,?_⟩
    simp only[go_sem,↓reduceIte,reduceIte,Qa,Qh,Qb,Qc,Qd,Qe,Qf,Qg,reduceCtorEq, *,-hs,-hho]
   ·rintro m A hM ts' hk ⟨q,hm,f1,f2,s1⟩
    simp only[go_sem,↓reduceIte,reduceIte,Qa,Qh,Qb,Qc,Qd,Qe,Qf,Qg,reduceCtorEq, *] at hk
    by_cases hqt:q<r_rules.length
    ·rw[List.drop_eq_getElem_cons hqt,List.all_cons] at f2
     have hsp:Jc r_rules[q].split.length:=(hs _ (List.getElem_mem hqt)).2.2.1
     by_cases h4:4<r_rules[q].split.length
     ·have hr:Ym r_rules[q]=false:=by unfold Ym;rw[decide_eq_false (by omega)];rfl
      rw[hr,Bool.false_and] at f2
      have h4I:(4:Int)<(r_rules[q].split.length:Int):=by omega
      (repeat' (first
 | (with_reducible first|assumption|(refine Qw hK _ ?_;clear hK K)|refine Qw ‹_› _ ?_|refine Qx ‹_› ?_|refine Qi fun K hK=>?_|refine Qj T fun K hK=>?_|refine Ql fun A B hA hB=>?_|refine Qm ?_|refine Qn ?_|refine Qp ?_|refine Qr ?_)
 | ((with_reducible first|apply Qy|apply Qz|apply QA)<;>intro hb<;>try simp only[nr] at hb)
 |simp only[go_sem,↓reduceIte,reduceIte,Qa,Qh,Qb,Qc,Qd,Qe,Qf,Qg,reduceCtorEq, *,-hs,-hho,-f2,-hr]
 |with_reducible refine fun(bn:Bool) hbn=>?_))
      all_goals ((repeat clear hK);(repeat clear hA);(repeat clear hB))
      all_goals (rw[hho,f2];rfl)
     ·have h4I:¬(4:Int)<(r_rules[q].split.length:Int):=by omega
      have hr:Ym r_rules[q]=!(r_rules[q].split.any fun w=>!JH w.w 100):=by unfold Ym;rw[decide_eq_true (by omega),Bool.true_and]
      rw[hr] at f2
      clear hr
      (repeat' (first
 | (with_reducible first|assumption|(refine Qw hK _ ?_;clear hK K)|refine Qw ‹_› _ ?_|refine Qx ‹_› ?_|refine Qi fun K hK=>?_|refine Qj T fun K hK=>?_|refine Ql fun A B hA hB=>?_|refine Qm ?_|refine Qn ?_|refine Qp ?_|refine Qr ?_)
 | ((with_reducible first|apply Qy|apply Qz|apply QA)<;>intro hb<;>try simp only[nr] at hb)
 |simp only[go_sem,↓reduceIte,reduceIte,Qa,Qh,Qb,Qc,Qd,Qe,Qf,Qg,reduceCtorEq, *,-hs,-hho,-f2]
 |with_reducible refine fun(bn:Bool) hbn=>?_))
      refine Qs [1,4] (fun m ts'=>∃(j:Nat),m=r_rules[q].split.length-j∧j≤r_rules[q].split.length∧(r_rules[q].split.any fun w=>!JH w.w 100)=((r_rules[q].split.drop j).any fun w=>!JH w.w 100)∧ts'.tmp 5=.int .i64 j) r_rules[q].split.length ?_ ?_
      ·refine⟨0,rfl,Nat.zero_le _,rfl,?_⟩
       simp only[go_sem,↓reduceIte,reduceIte,Qa,Qh,Qb,Qc,Qd,Qe,Qf,Qg,reduceCtorEq, *,-hs,-hho,-f2]
      ·revert hM f2
       intro hM1 f20
       rintro m A hM ts' hk ⟨j,hm,f1,f2,s1⟩
       simp only[go_sem,↓reduceIte,reduceIte,Qa,Qh,Qb,Qc,Qd,Qe,Qf,Qg,reduceCtorEq, *] at hk
       by_cases hjt:j<r_rules[q].split.length
       ·rw[List.drop_eq_getElem_cons hjt,List.any_cons] at f2
        cases hw:JH r_rules[q].split[j].w 100 with
        |false =>
         rw[hw,Bool.not_false,Bool.true_or] at f2
         rw[f2,Bool.not_true,Bool.false_and] at f20
         rcases Jfp hw with c1|⟨c1,c2⟩
         ·(repeat' (first
 | (with_reducible first|assumption|(refine Qw hK _ ?_;clear hK K)|refine Qw ‹_› _ ?_|refine Qx ‹_› ?_|refine Qi fun K hK=>?_|refine Qj T fun K hK=>?_|refine Ql fun A B hA hB=>?_|refine Qm ?_|refine Qn ?_|refine Qp ?_|refine Qr ?_)
 | ((with_reducible first|apply Qy|apply Qz|apply QA)<;>intro hb<;>try simp only[nr] at hb)
 |simp only[go_sem,↓reduceIte,reduceIte,Qa,Qh,Qb,Qc,Qd,Qe,Qf,Qg,reduceCtorEq, *,-hs,-hho,-f2,-f20]
 |with_reducible refine fun(bn:Bool) hbn=>?_))
          all_goals ((repeat clear hK);(repeat clear hA);(repeat clear hB))
          all_goals (rw[hho,f20];rfl)
         ·(repeat' (first
 | (with_reducible first|assumption|(refine Qw hK _ ?_;clear hK K)|refine Qw ‹_› _ ?_|refine Qx ‹_› ?_|refine Qi fun K hK=>?_|refine Qj T fun K hK=>?_|refine Ql fun A B hA hB=>?_|refine Qm ?_|refine Qn ?_|refine Qp ?_|refine Qr ?_)
 | ((with_reducible first|apply Qy|apply Qz|apply QA)<;>intro hb<;>try simp only[nr] at hb)
 |simp only[go_sem,↓reduceIte,reduceIte,Qa,Qh,Qb,Qc,Qd,Qe,Qf,Qg,reduceCtorEq, *,-hs,-hho,-f2,-f20]
 |with_reducible refine fun(bn:Bool) hbn=>?_))
          all_goals ((repeat clear hK);(repeat clear hA);(repeat clear hB))
          all_goals (rw[hho,f20];rfl)
        |true =>
         rw[hw,Bool.not_true,Bool.false_or] at f2
         obtain⟨c1,c2⟩:=Ja9 hw
         (repeat' (first
 | (with_reducible first|assumption|(refine Qw hK _ ?_;clear hK K)|refine Qw ‹_› _ ?_|refine Qx ‹_› ?_|refine Qi fun K hK=>?_|refine Qj T fun K hK=>?_|refine Ql fun A B hA hB=>?_|refine Qm ?_|refine Qn ?_|refine Qp ?_|refine Qr ?_)
 | ((with_reducible first|apply Qy|apply Qz|apply QA)<;>intro hb<;>try simp only[nr] at hb)
 |simp only[go_sem,↓reduceIte,reduceIte,Qa,Qh,Qb,Qc,Qd,Qe,Qf,Qg,reduceCtorEq, *,-hs,-hho,-f2,-f20]
 |with_reducible refine fun(bn:Bool) hbn=>?_))
         all_goals ((repeat clear hK);(repeat clear hA);(repeat clear hB))
         (refine hM.on (r_rules[q].split.length-(j+1)) (by omega) (by simp only[go_sem,↓reduceIte,reduceIte,Qa,Qh,Qb,Qc,Qd,Qe,Qf,Qg,reduceCtorEq, *,Jd hjt hsp,-hs,-hho,-f2,-f20]) ⟨j+1,rfl,by omega,f2,?_⟩;simp only[go_sem,↓reduceIte,reduceIte,Qa,Qh,Qb,Qc,Qd,Qe,Qf,Qg,reduceCtorEq, *,Jd hjt hsp,-hs,-hho,-f2,-f20];done)
       ·rw[List.drop_eq_nil_of_le (by omega),List.any_nil] at f2
        rw[f2,Bool.not_false,Bool.true_and] at f20
        clear f2
        (repeat' (first
 | (with_reducible first|assumption|(refine Qw hK _ ?_;clear hK K)|refine Qw ‹_› _ ?_|refine Qx ‹_› ?_|refine Qi fun K hK=>?_|refine Qj T fun K hK=>?_|refine Ql fun A B hA hB=>?_|refine Qm ?_|refine Qn ?_|refine Qp ?_|refine Qr ?_)
 | ((with_reducible first|apply Qy|apply Qz|apply QA)<;>intro hb<;>try simp only[nr] at hb)
 |simp only[go_sem,↓reduceIte,reduceIte,Qa,Qh,Qb,Qc,Qd,Qe,Qf,Qg,reduceCtorEq, *,-hs,-hho,-f20]
 |with_reducible refine fun(bn:Bool) hbn=>?_))
        all_goals ((repeat clear hK);(repeat clear hA);(repeat clear hB))
        all_goals (clear hM;revert hM1;intro hM)
        (refine hM.on (r_rules.length-(q+1)) (by omega) (by simp only[go_sem,↓reduceIte,reduceIte,Qa,Qh,Qb,Qc,Qd,Qe,Qf,Qg,reduceCtorEq, *,Jd hqt hl,-hs,-hho,-f20]) ⟨q+1,rfl,by omega,f20,?_⟩;simp only[go_sem,↓reduceIte,reduceIte,Qa,Qh,Qb,Qc,Qd,Qe,Qf,Qg,reduceCtorEq, *,Jd hqt hl,-hs,-hho,-f20];done)
    ·rw[List.drop_eq_nil_of_le (by omega),List.all_nil] at f2
     (repeat' (first
 | (with_reducible first|assumption|(refine Qw hK _ ?_;clear hK K)|refine Qw ‹_› _ ?_|refine Qx ‹_› ?_|refine Qi fun K hK=>?_|refine Qj T fun K hK=>?_|refine Ql fun A B hA hB=>?_|refine Qm ?_|refine Qn ?_|refine Qp ?_|refine Qr ?_)
 | ((with_reducible first|apply Qy|apply Qz|apply QA)<;>intro hb<;>try simp only[nr] at hb)
 |simp only[go_sem,↓reduceIte,reduceIte,Qa,Qh,Qb,Qc,Qd,Qe,Qf,Qg,reduceCtorEq, *,-hs,-hho,-f2]
 |with_reducible refine fun(bn:Bool) hbn=>?_))
     all_goals ((repeat clear hK);(repeat clear hA);(repeat clear hB))
     all_goals (rw[hho,f2];rfl)
end Go.Proofs.YtmjkjmoeicnbnaaGreatDoor.Lg
