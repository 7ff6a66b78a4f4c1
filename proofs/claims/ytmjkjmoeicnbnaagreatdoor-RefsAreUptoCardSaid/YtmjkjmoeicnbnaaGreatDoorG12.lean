/- Parts of the proof, one behind the other. -/
import Derived.Test.YtmjkjmoeicnbnaaGreatDoorG11
namespace Go.Proofs.YtmjkjmoeicnbnaaGreatDoor.Lg
set_option maxRecDepth 100000
set_option linter.unusedVariables false
set_option linter.unusedSimpArgs false
open Go
open Nat renaming reduceEqDiff → Qa, reduceLT → Qb, reduceLeDiff → Qc, reduceAdd → Qd, reduceMul → Qe, reduceSub → Qf, reduceBEq → Qg
open String renaming reduceEq → Qh
open SpecC renaming seqW → Qi, regW → Qj, drawW → Qk, condW → Ql, block → Qm, skip → Qn, exit → Qp, ret → Qr, loopF → Qs
open NxK renaming out → Qw
open Nx renaming out → Qx
open condK renaming split → Qy
open gK renaming split_t → Qz, split_f → QA
open List renaming getElem_mem → QC
@[go_sem] def Wd7:List (List Nat×List Nat):=[([11],[12,13,14,15]),([12],[11,13]),([13],[11,12]),([14],[11]),([15],[11])]
theorem cloneRes_c (c:Bool) (xs:List Res) (hl:Small xs.length):CallR Tryz.prog 83 [.slice c (avs xs)] (.own 7 (avs xs)):=by
 have hr:Room xs.length 104:=room_small (by unfold Small at hl; omega) (by decide)
 refine CallR.go1 (T:=T) Tryz.call83 Tryz.func83 rfl Tryz.ntmps83 (congrArg Array.toList Tryz.results83) (by decide) fun ts hn h0=>?_
 (repeat' (first
 | (with_reducible first|assumption|(refine Qw hK _ ?_; clear hK K)|refine Qw ‹_› _ ?_|refine Qx ‹_› ?_|refine Qi fun K hK=>?_|refine Qj T fun K hK=>?_|refine Ql fun A B hA hB=>?_|refine Qn ?_|refine Qr ?_)
 | ((with_reducible first|apply Qy|apply Qz|apply QA)<;>intro hb<;>try simp only [nr] at hb)
 | simp only [go_sem,↓reduceIte,reduceIte,Qa,Qh,Qb,Qc,Qd,Qe,Qf,Qg,reduceCtorEq, *]
 | with_reducible refine fun (bn:Bool) hbn=>?_))
theorem idxFRes_c (fn:FuncId) (caps:List AV) (hc:Caps caps) (p:Res→Bool) (xs:List Res) (hp:∀ x∈xs,CallR Tryz.prog fn (.agg [.int .i64 x.kind,.str x.name,.int .i64 x.ver,.int .i64 x.port,.str x.to',.slice false (avs x.rules'),.slice false (avs x.hosts)] :: caps) (.val (.bool (p x)))) (hl:Small xs.length):CallR Tryz.prog 124 [.slice false (avs xs),.clo (.func fn) [] caps] (.val (.int .i64 (idxF p xs 0))):=by
 have hca:=hc.args
 have hcp:=hc.pure
 have hcn:=hc.nrm
 refine CallR.go2 (T:=T) Tryz.call124 Tryz.func124 rfl Tryz.ntmps124 (congrArg Array.toList Tryz.results124) (by decide) fun ts hn h0 h1=>?_
 (repeat' (first
 | (with_reducible first|assumption|(refine Qw hK _ ?_; clear hK K)|refine Qw ‹_› _ ?_|refine Qx ‹_› ?_|refine Qi fun K hK=>?_|refine Qj T fun K hK=>?_|refine Ql fun A B hA hB=>?_|refine Qm ?_|refine Qn ?_|refine Qp ?_|refine Qr ?_)
 | ((with_reducible first|apply Qy|apply Qz|apply QA)<;>intro hb<;>try simp only [nr] at hb)
 | simp only [go_sem,↓reduceIte,reduceIte,Qa,Qh,Qb,Qc,Qd,Qe,Qf,Qg,reduceCtorEq, *,-hp]
 | with_reducible refine fun (bn:Bool) hbn=>?_))
 refine Qs [0,1,7] (fun m ts'=>∃ (i:Nat),m=xs.length - i∧i≤xs.length∧idxF p xs 0=idxF p (xs.drop i) i∧ts'.tmp 8=.int .i64 i) xs.length ?_ ?_
 ·refine ⟨0,?_⟩
  simp only [go_sem,↓reduceIte,reduceIte,Qa,Qh,Qb,Qc,Qd,Qe,Qf,Qg,reduceCtorEq, *,-hp]
 ·rintro m A hM ts' hk ⟨i,hm,f1,f2,s1⟩
  simp only [go_sem,↓reduceIte,reduceIte,Qa,Qh,Qb,Qc,Qd,Qe,Qf,Qg,reduceCtorEq, *] at hk
  by_cases hlt:i < xs.length
  ·rw [List.drop_eq_getElem_cons hlt,idxF] at f2
   have hpi:=hp _ (QC hlt)
   (repeat' (first
 | (with_reducible first|refine callX.by (hpi) ?_|assumption|(refine Qw hK _ ?_; clear hK K)|refine Qw ‹_› _ ?_|refine Qx ‹_› ?_|refine Qi fun K hK=>?_|refine Qj T fun K hK=>?_|refine Ql fun A B hA hB=>?_|refine Qm ?_|refine Qn ?_|refine Qp ?_|refine Qr ?_)
 | ((with_reducible first|apply Qy|apply Qz|apply QA)<;>intro hb<;>try simp only [nr] at hb)
 | simp only [go_sem,↓reduceIte,reduceIte,Qa,Qh,Qb,Qc,Qd,Qe,Qf,Qg,reduceCtorEq, *,-hp,-hpi]
 | with_reducible refine fun (bn:Bool) hbn=>?_))
   all_goals ((repeat clear hK); (repeat clear hA); (repeat clear hB))
   rw [if_neg (by simp [hb])] at f2
   (refine hM.on (xs.length - (i+1)) (by omega) (by simp only [go_sem,↓reduceIte,reduceIte,Qa,Qh,Qb,Qc,Qd,Qe,Qf,Qg,reduceCtorEq, *,w64_nat hlt hl,-f2,-hp,-hpi]) ⟨i+1,rfl,by omega,f2,?_⟩; simp only [go_sem,↓reduceIte,reduceIte,Qa,Qh,Qb,Qc,Qd,Qe,Qf,Qg,reduceCtorEq, *,w64_nat hlt hl,-f2,-hp,-hpi]; done)
  ·rw [List.drop_eq_nil_of_le (by omega),idxF] at f2
   (repeat' (first
 | (with_reducible first|assumption|(refine Qw hK _ ?_; clear hK K)|refine Qw ‹_› _ ?_|refine Qx ‹_› ?_|refine Qi fun K hK=>?_|refine Qj T fun K hK=>?_|refine Ql fun A B hA hB=>?_|refine Qm ?_|refine Qn ?_|refine Qp ?_|refine Qr ?_)
 | ((with_reducible first|apply Qy|apply Qz|apply QA)<;>intro hb<;>try simp only [nr] at hb)
 | simp only [go_sem,↓reduceIte,reduceIte,Qa,Qh,Qb,Qc,Qd,Qe,Qf,Qg,reduceCtorEq, *,-hp]
 | with_reducible refine fun (bn:Bool) hbn=>?_))
theorem conFRes_c (fn:FuncId) (caps:List AV) (hc:Caps caps) (p:Res→Bool) (xs:List Res) (hp:∀ x∈xs,CallR Tryz.prog fn (.agg [.int .i64 x.kind,.str x.name,.int .i64 x.ver,.int .i64 x.port,.str x.to',.slice false (avs x.rules'),.slice false (avs x.hosts)] :: caps) (.val (.bool (p x)))) (hl:Small xs.length):CallR Tryz.prog 88 [.slice false (avs xs),.clo (.func fn) [] caps] (.val (.bool (xs.any p))):=by
 have hca:=hc.args
 have hcp:=hc.pure
 have hcn:=hc.nrm
 have hi:=idxFRes_c fn caps hc p xs hp hl
 have ha:=idxF_any p xs
 refine CallR.go2 (T:=T) Tryz.call88 Tryz.func88 rfl Tryz.ntmps88 (congrArg Array.toList Tryz.results88) (by decide) fun ts hn h0 h1=>?_
 (repeat' (first
 | (with_reducible first|refine callX.by (hi) ?_|refine callX.by (idxFRes_c _ _ ?_ _ _ ?_ ?_) ?_|assumption|(refine Qw hK _ ?_; clear hK K)|refine Qw ‹_› _ ?_|refine Qx ‹_› ?_|refine Qi fun K hK=>?_|refine Qj T fun K hK=>?_|refine Ql fun A B hA hB=>?_|refine Qn ?_|refine Qr ?_)
 | ((with_reducible first|apply Qy|apply Qz|apply QA)<;>intro hb<;>try simp only [nr] at hb)
 | simp only [go_sem,↓reduceIte,reduceIte,Qa,Qh,Qb,Qc,Qd,Qe,Qf,Qg,reduceCtorEq, *,-hp,-hi]
 | with_reducible refine fun (bn:Bool) hbn=>?_))
theorem deleteFRes_c (fn:FuncId) (caps:List AV) (hc:Caps caps) (p:Res→Bool) (xs:List Res) (hp:∀ x∈xs,CallR Tryz.prog fn (.agg [.int .i64 x.kind,.str x.name,.int .i64 x.ver,.int .i64 x.port,.str x.to',.slice false (avs x.rules'),.slice false (avs x.hosts)] :: caps) (.val (.bool (p x)))) (hl:Small xs.length):CallM Tryz.prog 82 7 (avs xs) [.clo (.func fn) [] caps] (.own 7 (avs (xs.filter fun x=>!p x))):=by
 have hca:=hc.args
 have hcp:=hc.pure
 have hcn:=hc.nrm
 refine CallM.go1 (T:=T) Tryz.call82 Tryz.func82 rfl Tryz.ntmps82 (congrArg Array.toList Tryz.results82) (by decide) fun ts hn h0 hg0 ho0 h1=>?_
 have hi:=idxFRes_c fn caps hc p xs hp hl
 by_cases hneg:idxF p xs 0=-1
 ·have hf:xs.filter (fun x=>!p x)=xs:=List.filter_eq_self.2 fun x hx=>by simp [idxF_none p xs 0 (Int.le_refl 0) hneg x hx]
  (repeat' (first
 | (with_reducible first|refine callX.by (hi) ?_|refine callX.by (idxFRes_c _ _ ?_ _ _ ?_ ?_) ?_|assumption|(refine Qw hK _ ?_; clear hK K)|refine Qw ‹_› _ ?_|refine Qx ‹_› ?_|refine Qi fun K hK=>?_|refine Qj T fun K hK=>?_|refine Ql fun A B hA hB=>?_|refine Qm ?_|refine Qn ?_|refine Qp ?_|refine Qr ?_)
 | ((with_reducible first|apply Qy|apply Qz|apply QA)<;>intro hb<;>try simp only [nr] at hb)
 | simp only [go_sem,↓reduceIte,reduceIte,Qa,Qh,Qb,Qc,Qd,Qe,Qf,Qg,reduceCtorEq, *,-hp,-hi]
 | with_reducible refine fun (bn:Bool) hbn=>?_))
 ·obtain ⟨k,hk1,hk2,hk3,hk4⟩:=idxF_some p xs 0 (Int.le_refl 0) hneg
  rw [Int.zero_add] at hk1
  (repeat' (first
 | (with_reducible first|refine callX.by (hi) ?_|refine callX.by (idxFRes_c _ _ ?_ _ _ ?_ ?_) ?_|assumption|(refine Qw hK _ ?_; clear hK K)|refine Qw ‹_› _ ?_|refine Qx ‹_› ?_|refine Qi fun K hK=>?_|refine Qj T fun K hK=>?_|refine Ql fun A B hA hB=>?_|refine Qm ?_|refine Qn ?_|refine Qp ?_|refine Qr ?_)
 | ((with_reducible first|apply Qy|apply Qz|apply QA)<;>intro hb<;>try simp only [nr] at hb)
 | simp only [go_sem,↓reduceIte,reduceIte,Qa,Qh,Qb,Qc,Qd,Qe,Qf,Qg,reduceCtorEq, *,-hp,-hi,-hk3,-hk4]
 | with_reducible refine fun (bn:Bool) hbn=>?_))
  refine Qs [1] (fun m ts'=>∃ (i:Nat),∃ (j:Nat),∃ (ys:List Res),m=xs.length - j∧i < j∧j≤xs.length∧ys.length=xs.length∧ys.take i=(xs.take j).filter (fun x=>!p x)∧ys.drop j=xs.drop j∧ts'.tmp 0=.os 0 0 xs.length∧ts'.gen 0=0∧ts'.obj 0=.arr 7 (avs ys)∧ts'.tmp 5=.int .i64 i∧ts'.tmp 6=.int .i64 j) (xs.length - (k+1)) ?_ ?_
  ·refine ⟨k,k+1,xs,rfl,by omega,by omega,rfl,?_,rfl,?_⟩
   ·rw [filt_step _ hk2,List.filter_eq_self.2 (fun x hx=>by simp [hk3 x hx]),hk4 hk2]; simp
   ·simp only [go_sem,↓reduceIte,reduceIte,Qa,Qh,Qb,Qc,Qd,Qe,Qf,Qg,reduceCtorEq, *,w64_nat hk2 hl,-hp,-hi,-hk3,-hk4]
  ·rintro m A hM ts' hk ⟨i,j,ys,hm,f1,f2,f3,f4,f5,s1,s2,s3,s4,s5⟩
   simp only [go_sem,↓reduceIte,reduceIte,Qa,Qh,Qb,Qc,Qd,Qe,Qf,Qg,reduceCtorEq, *] at hk
   by_cases hlt:j < xs.length
   ·have hly:j < ys.length:=by omega
    have hj:ys[j]=xs[j]:=by
     have:=congrArg (fun l=>l[0]?) f5
     simpa [hly,hlt] using this
    have hix:i < xs.length:=by omega
    have hpj:=hp _ (QC hlt)
    clear hi hk3 hk4 hp
    (repeat' (first
 | (with_reducible first|refine callX.by (hpj) ?_|refine callX.by (idxFRes_c _ _ ?_ _ _ ?_ ?_) ?_|assumption|(refine Qw hK _ ?_; clear hK K)|refine Qw ‹_› _ ?_|refine Qx ‹_› ?_|refine Qi fun K hK=>?_|refine Qj T fun K hK=>?_|refine Ql fun A B hA hB=>?_|refine Qm ?_|refine Qn ?_|refine Qp ?_|refine Qr ?_)
 | ((with_reducible first|apply Qy|apply Qz|apply QA)<;>intro hb<;>try simp only [nr] at hb)
 | simp only [go_sem,↓reduceIte,reduceIte,Qa,Qh,Qb,Qc,Qd,Qe,Qf,Qg,reduceCtorEq, *,-hpj,-f4,-f5]
 | with_reducible refine fun (bn:Bool) hbn=>?_))
    all_goals ((repeat clear hK); (repeat clear hA); (repeat clear hB))
    ·(refine hM.on (xs.length - (j+1)) (by omega) (by simp only [go_sem,↓reduceIte,reduceIte,Qa,Qh,Qb,Qc,Qd,Qe,Qf,Qg,reduceCtorEq, *,w64_nat hlt hl,w64_nat hix hl,-hpj,-f4,-f5]) ⟨i+1,j+1,ys.set i xs[j],rfl,by omega,by omega,by simp [f3],by rw [filt_step _ hlt,← f4,hb,take_set_succ _ (by omega)]; simp,by rw [List.drop_set,if_pos (by omega)]; simpa using congrArg (List.drop 1) f5,?_⟩; simp only [go_sem,↓reduceIte,reduceIte,Qa,Qh,Qb,Qc,Qd,Qe,Qf,Qg,reduceCtorEq, *,w64_nat hlt hl,w64_nat hix hl,-hpj,-f4,-f5]; done)
    ·(refine hM.on (xs.length - (j+1)) (by omega) (by simp only [go_sem,↓reduceIte,reduceIte,Qa,Qh,Qb,Qc,Qd,Qe,Qf,Qg,reduceCtorEq, *,w64_nat hlt hl,-hpj,-f4,-f5]) ⟨i,j+1,ys,rfl,by omega,by omega,f3,by rw [filt_step _ hlt,← f4,hb]; simp,by simpa using congrArg (List.drop 1) f5,?_⟩; simp only [go_sem,↓reduceIte,reduceIte,Qa,Qh,Qb,Qc,Qd,Qe,Qf,Qg,reduceCtorEq, *,w64_nat hlt hl,-hpj,-f4,-f5]; done)
   ·have hi1:i≤xs.length:=by omega
    have hi2:i+(xs.length - i)=xs.length:=by omega
    have hj2:j=xs.length:=by omega
    subst hj2
    rw [List.take_length] at f4
    clear hi hk3 hk4 hp
    (repeat' (first
 | (with_reducible first|refine callX.by (idxFRes_c _ _ ?_ _ _ ?_ ?_) ?_|assumption|(refine Qw hK _ ?_; clear hK K)|refine Qw ‹_› _ ?_|refine Qx ‹_› ?_|refine Qi fun K hK=>?_|refine Qj T fun K hK=>?_|refine Ql fun A B hA hB=>?_|refine Qm ?_|refine Qn ?_|refine Qp ?_|refine Qr ?_)
 | ((with_reducible first|apply Qy|apply Qz|apply QA)<;>intro hb<;>try simp only [nr] at hb)
 | simp only [go_sem,↓reduceIte,reduceIte,Qa,Qh,Qb,Qc,Qd,Qe,Qf,Qg,reduceCtorEq, *]
 | with_reducible refine fun (bn:Bool) hbn=>?_))
    all_goals ((repeat clear hK); (repeat clear hA); (repeat clear hB))
theorem idxFKey_c (fn:FuncId) (caps:List AV) (hc:Caps caps) (p:Key→Bool) (xs:List Key) (hp:∀ x∈xs,CallR Tryz.prog fn (.agg [.int .i64 x.kind,.str x.name] :: caps) (.val (.bool (p x)))) (hl:Small xs.length):CallR Tryz.prog 140 [.slice false (avs xs),.clo (.func fn) [] caps] (.val (.int .i64 (idxF p xs 0))):=by
 have hca:=hc.args
 have hcp:=hc.pure
 have hcn:=hc.nrm
 refine CallR.go2 (T:=T) Tryz.call140 Tryz.func140 rfl Tryz.ntmps140 (congrArg Array.toList Tryz.results140) (by decide) fun ts hn h0 h1=>?_
 (repeat' (first
 | (with_reducible first|assumption|(refine Qw hK _ ?_; clear hK K)|refine Qw ‹_› _ ?_|refine Qx ‹_› ?_|refine Qi fun K hK=>?_|refine Qj T fun K hK=>?_|refine Ql fun A B hA hB=>?_|refine Qm ?_|refine Qn ?_|refine Qp ?_|refine Qr ?_)
 | ((with_reducible first|apply Qy|apply Qz|apply QA)<;>intro hb<;>try simp only [nr] at hb)
 | simp only [go_sem,↓reduceIte,reduceIte,Qa,Qh,Qb,Qc,Qd,Qe,Qf,Qg,reduceCtorEq, *,-hp]
 | with_reducible refine fun (bn:Bool) hbn=>?_))
 refine Qs [0,1,7] (fun m ts'=>∃ (i:Nat),m=xs.length - i∧i≤xs.length∧idxF p xs 0=idxF p (xs.drop i) i∧ts'.tmp 8=.int .i64 i) xs.length ?_ ?_
 ·refine ⟨0,?_⟩
  simp only [go_sem,↓reduceIte,reduceIte,Qa,Qh,Qb,Qc,Qd,Qe,Qf,Qg,reduceCtorEq, *,-hp]
 ·rintro m A hM ts' hk ⟨i,hm,f1,f2,s1⟩
  simp only [go_sem,↓reduceIte,reduceIte,Qa,Qh,Qb,Qc,Qd,Qe,Qf,Qg,reduceCtorEq, *] at hk
  by_cases hlt:i < xs.length
  ·rw [List.drop_eq_getElem_cons hlt,idxF] at f2
   have hpi:=hp _ (QC hlt)
   (repeat' (first
 | (with_reducible first|refine callX.by (hpi) ?_|assumption|(refine Qw hK _ ?_; clear hK K)|refine Qw ‹_› _ ?_|refine Qx ‹_› ?_|refine Qi fun K hK=>?_|refine Qj T fun K hK=>?_|refine Ql fun A B hA hB=>?_|refine Qm ?_|refine Qn ?_|refine Qp ?_|refine Qr ?_)
 | ((with_reducible first|apply Qy|apply Qz|apply QA)<;>intro hb<;>try simp only [nr] at hb)
 | simp only [go_sem,↓reduceIte,reduceIte,Qa,Qh,Qb,Qc,Qd,Qe,Qf,Qg,reduceCtorEq, *,-hp,-hpi]
 | with_reducible refine fun (bn:Bool) hbn=>?_))
   all_goals ((repeat clear hK); (repeat clear hA); (repeat clear hB))
   rw [if_neg (by simp [hb])] at f2
   (refine hM.on (xs.length - (i+1)) (by omega) (by simp only [go_sem,↓reduceIte,reduceIte,Qa,Qh,Qb,Qc,Qd,Qe,Qf,Qg,reduceCtorEq, *,w64_nat hlt hl,-f2,-hp,-hpi]) ⟨i+1,rfl,by omega,f2,?_⟩; simp only [go_sem,↓reduceIte,reduceIte,Qa,Qh,Qb,Qc,Qd,Qe,Qf,Qg,reduceCtorEq, *,w64_nat hlt hl,-f2,-hp,-hpi]; done)
  ·rw [List.drop_eq_nil_of_le (by omega),idxF] at f2
   (repeat' (first
 | (with_reducible first|assumption|(refine Qw hK _ ?_; clear hK K)|refine Qw ‹_› _ ?_|refine Qx ‹_› ?_|refine Qi fun K hK=>?_|refine Qj T fun K hK=>?_|refine Ql fun A B hA hB=>?_|refine Qm ?_|refine Qn ?_|refine Qp ?_|refine Qr ?_)
 | ((with_reducible first|apply Qy|apply Qz|apply QA)<;>intro hb<;>try simp only [nr] at hb)
 | simp only [go_sem,↓reduceIte,reduceIte,Qa,Qh,Qb,Qc,Qd,Qe,Qf,Qg,reduceCtorEq, *,-hp]
 | with_reducible refine fun (bn:Bool) hbn=>?_))
theorem conFKey_c (fn:FuncId) (caps:List AV) (hc:Caps caps) (p:Key→Bool) (xs:List Key) (hp:∀ x∈xs,CallR Tryz.prog fn (.agg [.int .i64 x.kind,.str x.name] :: caps) (.val (.bool (p x)))) (hl:Small xs.length):CallR Tryz.prog 86 [.slice false (avs xs),.clo (.func fn) [] caps] (.val (.bool (xs.any p))):=by
 have hca:=hc.args
 have hcp:=hc.pure
 have hcn:=hc.nrm
 have hi:=idxFKey_c fn caps hc p xs hp hl
 have ha:=idxF_any p xs
 refine CallR.go2 (T:=T) Tryz.call86 Tryz.func86 rfl Tryz.ntmps86 (congrArg Array.toList Tryz.results86) (by decide) fun ts hn h0 h1=>?_
 (repeat' (first
 | (with_reducible first|refine callX.by (hi) ?_|refine callX.by (idxFKey_c _ _ ?_ _ _ ?_ ?_) ?_|assumption|(refine Qw hK _ ?_; clear hK K)|refine Qw ‹_› _ ?_|refine Qx ‹_› ?_|refine Qi fun K hK=>?_|refine Qj T fun K hK=>?_|refine Ql fun A B hA hB=>?_|refine Qn ?_|refine Qr ?_)
 | ((with_reducible first|apply Qy|apply Qz|apply QA)<;>intro hb<;>try simp only [nr] at hb)
 | simp only [go_sem,↓reduceIte,reduceIte,Qa,Qh,Qb,Qc,Qd,Qe,Qf,Qg,reduceCtorEq, *,-hp,-hi]
 | with_reducible refine fun (bn:Bool) hbn=>?_))
theorem deleteFKey_c (fn:FuncId) (caps:List AV) (hc:Caps caps) (p:Key→Bool) (xs:List Key) (hp:∀ x∈xs,CallR Tryz.prog fn (.agg [.int .i64 x.kind,.str x.name] :: caps) (.val (.bool (p x)))) (hl:Small xs.length):CallM Tryz.prog 93 2 (avs xs) [.clo (.func fn) [] caps] (.own 2 (avs (xs.filter fun x=>!p x))):=by
 have hca:=hc.args
 have hcp:=hc.pure
 have hcn:=hc.nrm
 refine CallM.go1 (T:=T) Tryz.call93 Tryz.func93 rfl Tryz.ntmps93 (congrArg Array.toList Tryz.results93) (by decide) fun ts hn h0 hg0 ho0 h1=>?_
 have hi:=idxFKey_c fn caps hc p xs hp hl
 by_cases hneg:idxF p xs 0=-1
 ·have hf:xs.filter (fun x=>!p x)=xs:=List.filter_eq_self.2 fun x hx=>by simp [idxF_none p xs 0 (Int.le_refl 0) hneg x hx]
  (repeat' (first
 | (with_reducible first|refine callX.by (hi) ?_|refine callX.by (idxFKey_c _ _ ?_ _ _ ?_ ?_) ?_|assumption|(refine Qw hK _ ?_; clear hK K)|refine Qw ‹_› _ ?_|refine Qx ‹_› ?_|refine Qi fun K hK=>?_|refine Qj T fun K hK=>?_|refine Ql fun A B hA hB=>?_|refine Qm ?_|refine Qn ?_|refine Qp ?_|refine Qr ?_)
 | ((with_reducible first|apply Qy|apply Qz|apply QA)<;>intro hb<;>try simp only [nr] at hb)
 | simp only [go_sem,↓reduceIte,reduceIte,Qa,Qh,Qb,Qc,Qd,Qe,Qf,Qg,reduceCtorEq, *,-hp,-hi]
 | with_reducible refine fun (bn:Bool) hbn=>?_))
 ·obtain ⟨k,hk1,hk2,hk3,hk4⟩:=idxF_some p xs 0 (Int.le_refl 0) hneg
  rw [Int.zero_add] at hk1
  (repeat' (first
 | (with_reducible first|refine callX.by (hi) ?_|refine callX.by (idxFKey_c _ _ ?_ _ _ ?_ ?_) ?_|assumption|(refine Qw hK _ ?_; clear hK K)|refine Qw ‹_› _ ?_|refine Qx ‹_› ?_|refine Qi fun K hK=>?_|refine Qj T fun K hK=>?_|refine Ql fun A B hA hB=>?_|refine Qm ?_|refine Qn ?_|refine Qp ?_|refine Qr ?_)
 | ((with_reducible first|apply Qy|apply Qz|apply QA)<;>intro hb<;>try simp only [nr] at hb)
 | simp only [go_sem,↓reduceIte,reduceIte,Qa,Qh,Qb,Qc,Qd,Qe,Qf,Qg,reduceCtorEq, *,-hp,-hi,-hk3,-hk4]
 | with_reducible refine fun (bn:Bool) hbn=>?_))
  refine Qs [1] (fun m ts'=>∃ (i:Nat),∃ (j:Nat),∃ (ys:List Key),m=xs.length - j∧i < j∧j≤xs.length∧ys.length=xs.length∧ys.take i=(xs.take j).filter (fun x=>!p x)∧ys.drop j=xs.drop j∧ts'.tmp 0=.os 0 0 xs.length∧ts'.gen 0=0∧ts'.obj 0=.arr 2 (avs ys)∧ts'.tmp 5=.int .i64 i∧ts'.tmp 6=.int .i64 j) (xs.length - (k+1)) ?_ ?_
  ·refine ⟨k,k+1,xs,rfl,by omega,by omega,rfl,?_,rfl,?_⟩
   ·rw [filt_step _ hk2,List.filter_eq_self.2 (fun x hx=>by simp [hk3 x hx]),hk4 hk2]; simp
   ·simp only [go_sem,↓reduceIte,reduceIte,Qa,Qh,Qb,Qc,Qd,Qe,Qf,Qg,reduceCtorEq, *,w64_nat hk2 hl,-hp,-hi,-hk3,-hk4]
  ·rintro m A hM ts' hk ⟨i,j,ys,hm,f1,f2,f3,f4,f5,s1,s2,s3,s4,s5⟩
   simp only [go_sem,↓reduceIte,reduceIte,Qa,Qh,Qb,Qc,Qd,Qe,Qf,Qg,reduceCtorEq, *] at hk
   by_cases hlt:j < xs.length
   ·have hly:j < ys.length:=by omega
    have hj:ys[j]=xs[j]:=by
     have:=congrArg (fun l=>l[0]?) f5
     simpa [hly,hlt] using this
    have hix:i < xs.length:=by omega
    have hpj:=hp _ (QC hlt)
    clear hi hk3 hk4 hp
    (repeat' (first
 | (with_reducible first|refine callX.by (hpj) ?_|refine callX.by (idxFKey_c _ _ ?_ _ _ ?_ ?_) ?_|assumption|(refine Qw hK _ ?_; clear hK K)|refine Qw ‹_› _ ?_|refine Qx ‹_› ?_|refine Qi fun K hK=>?_|refine Qj T fun K hK=>?_|refine Ql fun A B hA hB=>?_|refine Qm ?_|refine Qn ?_|refine Qp ?_|refine Qr ?_)
 | ((with_reducible first|apply Qy|apply Qz|apply QA)<;>intro hb<;>try simp only [nr] at hb)
 | simp only [go_sem,↓reduceIte,reduceIte,Qa,Qh,Qb,Qc,Qd,Qe,Qf,Qg,reduceCtorEq, *,-hpj,-f4,-f5]
 | with_reducible refine fun (bn:Bool) hbn=>?_))
    all_goals ((repeat clear hK); (repeat clear hA); (repeat clear hB))
    ·(refine hM.on (xs.length - (j+1)) (by omega) (by simp only [go_sem,↓reduceIte,reduceIte,Qa,Qh,Qb,Qc,Qd,Qe,Qf,Qg,reduceCtorEq, *,w64_nat hlt hl,w64_nat hix hl,-hpj,-f4,-f5]) ⟨i+1,j+1,ys.set i xs[j],rfl,by omega,by omega,by simp [f3],by rw [filt_step _ hlt,← f4,hb,take_set_succ _ (by omega)]; simp,by rw [List.drop_set,if_pos (by omega)]; simpa using congrArg (List.drop 1) f5,?_⟩; simp only [go_sem,↓reduceIte,reduceIte,Qa,Qh,Qb,Qc,Qd,Qe,Qf,Qg,reduceCtorEq, *,w64_nat hlt hl,w64_nat hix hl,-hpj,-f4,-f5]; done)
    ·(refine hM.on (xs.length - (j+1)) (by omega) (by simp only [go_sem,↓reduceIte,reduceIte,Qa,Qh,Qb,Qc,Qd,Qe,Qf,Qg,reduceCtorEq, *,w64_nat hlt hl,-hpj,-f4,-f5]) ⟨i,j+1,ys,rfl,by omega,by omega,f3,by rw [filt_step _ hlt,← f4,hb]; simp,by simpa using congrArg (List.drop 1) f5,?_⟩; simp only [go_sem,↓reduceIte,reduceIte,Qa,Qh,Qb,Qc,Qd,Qe,Qf,Qg,reduceCtorEq, *,w64_nat hlt hl,-hpj,-f4,-f5]; done)
   ·have hi1:i≤xs.length:=by omega
    have hi2:i+(xs.length - i)=xs.length:=by omega
    have hj2:j=xs.length:=by omega
    subst hj2
    rw [List.take_length] at f4
    clear hi hk3 hk4 hp
    (repeat' (first
 | (with_reducible first|refine callX.by (idxFKey_c _ _ ?_ _ _ ?_ ?_) ?_|assumption|(refine Qw hK _ ?_; clear hK K)|refine Qw ‹_› _ ?_|refine Qx ‹_› ?_|refine Qi fun K hK=>?_|refine Qj T fun K hK=>?_|refine Ql fun A B hA hB=>?_|refine Qm ?_|refine Qn ?_|refine Qp ?_|refine Qr ?_)
 | ((with_reducible first|apply Qy|apply Qz|apply QA)<;>intro hb<;>try simp only [nr] at hb)
 | simp only [go_sem,↓reduceIte,reduceIte,Qa,Qh,Qb,Qc,Qd,Qe,Qf,Qg,reduceCtorEq, *]
 | with_reducible refine fun (bn:Bool) hbn=>?_))
    all_goals ((repeat clear hK); (repeat clear hA); (repeat clear hB))
theorem indexKey_c (xs:List Key) (k_kind:Int) (k_name:List UInt8) (hl:Small xs.length):CallR Tryz.prog 136 [.slice false (avs xs),.agg [.int .i64 k_kind,.str k_name]] (.val (.int .i64 (idxF (fun x=>decide ((⟨k_kind,k_name⟩:Key)=x)) xs 0))):=by
 refine CallR.go2 (T:=T) Tryz.call136 Tryz.func136 rfl Tryz.ntmps136 (congrArg Array.toList Tryz.results136) (by decide) fun ts hn h0 h1=>?_
 (repeat' (first
 | (with_reducible first|assumption|(refine Qw hK _ ?_; clear hK K)|refine Qw ‹_› _ ?_|refine Qx ‹_› ?_|refine Qi fun K hK=>?_|refine Qj T fun K hK=>?_|refine Qk (id:=4) T mixed Wd7 (by kernel_rfl) fun K hK=>?_|refine Ql fun A B hA hB=>?_|refine Qm ?_|refine Qn ?_|refine Qp ?_|refine Qr ?_)
 | ((with_reducible first|apply Qy|apply Qz|apply QA)<;>intro hb<;>try simp only [nr] at hb)
 | simp only [go_sem,↓reduceIte,reduceIte,Qa,Qh,Qb,Qc,Qd,Qe,Qf,Qg,reduceCtorEq, *]
 | with_reducible refine fun (bn:Bool) hbn=>?_))
 refine Qs [0,3,7] (fun m ts'=>∃ (i:Nat),m=xs.length - i∧i≤xs.length∧idxF (fun x=>decide ((⟨k_kind,k_name⟩:Key)=x)) xs 0=idxF (fun x=>decide ((⟨k_kind,k_name⟩:Key)=x)) (xs.drop i) i∧ts'.tmp 8=.int .i64 i) xs.length ?_ ?_
 ·refine ⟨0,?_⟩
  simp only [go_sem,↓reduceIte,reduceIte,Qa,Qh,Qb,Qc,Qd,Qe,Qf,Qg,reduceCtorEq, *]
 ·rintro m A hM ts' hk ⟨i,hm,f1,f2,s1⟩
  simp only [go_sem,↓reduceIte,reduceIte,Qa,Qh,Qb,Qc,Qd,Qe,Qf,Qg,reduceCtorEq, *] at hk
  by_cases hlt:i < xs.length
  ·rw [List.drop_eq_getElem_cons hlt,idxF] at f2
   (repeat' (first
 | (with_reducible first|assumption|(refine Qw hK _ ?_; clear hK K)|refine Qw ‹_› _ ?_|refine Qx ‹_› ?_|refine Qi fun K hK=>?_|refine Qj T fun K hK=>?_|refine Qk (id:=4) T mixed Wd7 (by kernel_rfl) fun K hK=>?_|refine Ql fun A B hA hB=>?_|refine Qm ?_|refine Qn ?_|refine Qp ?_|refine Qr ?_)
 | ((with_reducible first|apply Qy|apply Qz|apply QA)<;>intro hb<;>try simp only [nr] at hb)
 | simp only [go_sem,↓reduceIte,reduceIte,Qa,Qh,Qb,Qc,Qd,Qe,Qf,Qg,reduceCtorEq, *,-f2]
 | with_reducible refine fun (bn:Bool) hbn=>?_))
   all_goals ((repeat clear hK); (repeat clear hA); (repeat clear hB))
   ·rw [if_pos (by simp only [decide_eq_true_eq]; simp_all [ext_Key])] at f2
    simp_all
   ·rw [if_neg (by simp_all [ext_Key])] at f2
    (refine hM.on (xs.length - (i+1)) (by omega) (by simp only [go_sem,↓reduceIte,reduceIte,Qa,Qh,Qb,Qc,Qd,Qe,Qf,Qg,reduceCtorEq, *,w64_nat hlt hl,-f2]) ⟨i+1,rfl,by omega,f2,?_⟩; simp only [go_sem,↓reduceIte,reduceIte,Qa,Qh,Qb,Qc,Qd,Qe,Qf,Qg,reduceCtorEq, *,w64_nat hlt hl,-f2]; done)
  ·rw [List.drop_eq_nil_of_le (by omega),idxF] at f2
   (repeat' (first
 | (with_reducible first|assumption|(refine Qw hK _ ?_; clear hK K)|refine Qw ‹_› _ ?_|refine Qx ‹_› ?_|refine Qi fun K hK=>?_|refine Qj T fun K hK=>?_|refine Qk (id:=4) T mixed Wd7 (by kernel_rfl) fun K hK=>?_|refine Ql fun A B hA hB=>?_|refine Qm ?_|refine Qn ?_|refine Qp ?_|refine Qr ?_)
 | ((with_reducible first|apply Qy|apply Qz|apply QA)<;>intro hb<;>try simp only [nr] at hb)
 | simp only [go_sem,↓reduceIte,reduceIte,Qa,Qh,Qb,Qc,Qd,Qe,Qf,Qg,reduceCtorEq, *]
 | with_reducible refine fun (bn:Bool) hbn=>?_))
theorem containsKey_c (xs:List Key) (k_kind:Int) (k_name:List UInt8) (hl:Small xs.length):CallR Tryz.prog 78 [.slice false (avs xs),.agg [.int .i64 k_kind,.str k_name]] (.val (.bool (xs.any fun x=>decide ((⟨k_kind,k_name⟩:Key)=x)))):=by
 have ha:=idxF_any (fun x=>decide ((⟨k_kind,k_name⟩:Key)=x)) xs
 refine CallR.go2 (T:=T) Tryz.call78 Tryz.func78 rfl Tryz.ntmps78 (congrArg Array.toList Tryz.results78) (by decide) fun ts hn h0 h1=>?_
 (repeat' (first
 | (with_reducible first|refine callX.by (indexKey_c _ _ _ ?_) ?_|assumption|(refine Qw hK _ ?_; clear hK K)|refine Qw ‹_› _ ?_|refine Qx ‹_› ?_|refine Qi fun K hK=>?_|refine Qj T fun K hK=>?_|refine Ql fun A B hA hB=>?_|refine Qn ?_|refine Qr ?_)
 | ((with_reducible first|apply Qy|apply Qz|apply QA)<;>intro hb<;>try simp only [nr] at hb)
 | simp only [go_sem,↓reduceIte,reduceIte,Qa,Qh,Qb,Qc,Qd,Qe,Qf,Qg,reduceCtorEq, *]
 | with_reducible refine fun (bn:Bool) hbn=>?_))
theorem tfilter_c (fn:FuncId) (caps:List AV) (hc:Caps caps) (p:Res→Bool) (xs:List Res) (hp:∀ x∈xs,CallR Tryz.prog fn (.agg [.int .i64 x.kind,.str x.name,.int .i64 x.ver,.int .i64 x.port,.str x.to',.slice false (avs x.rules'),.slice false (avs x.hosts)] :: caps) (.val (.bool (p x)))) (hl:Small xs.length):CallR Tryz.prog 118 [.slice false (avs xs),.clo (.func fn) [] caps] (.own 7 (avs (xs.filter p))):=by
 have hca:=hc.args
 have hcp:=hc.pure
 have hcn:=hc.nrm
 refine CallR.go2 (T:=T) Tryz.call118 Tryz.func118 rfl Tryz.ntmps118 (congrArg Array.toList Tryz.results118) (by decide) fun ts hn h0 h1=>?_
 (repeat' (first
 | (with_reducible first|assumption|(refine Qw hK _ ?_; clear hK K)|refine Qw ‹_› _ ?_|refine Qx ‹_› ?_|refine Qi fun K hK=>?_|refine Qj T fun K hK=>?_|refine Ql fun A B hA hB=>?_|refine Qm ?_|refine Qn ?_|refine Qp ?_|refine Qr ?_)
 | ((with_reducible first|apply Qy|apply Qz|apply QA)<;>intro hb<;>try simp only [nr] at hb)
 | simp only [go_sem,↓reduceIte,reduceIte,Qa,Qh,Qb,Qc,Qd,Qe,Qf,Qg,reduceCtorEq, *,-hp]
 | with_reducible refine fun (bn:Bool) hbn=>?_))
 refine SpecC.virt 5 20 7 (by decide) (by simp only [go_sem,↓reduceIte,reduceIte,Qa,Qh,Qb,Qc,Qd,Qe,Qf,Qg,reduceCtorEq, *,-hp]) ?_
 refine Qs [1,8,9] (fun m ts'=>∃ (i:Nat),∃ (g:Nat),∃ (ys:List Res),m=xs.length - i∧i≤xs.length∧ys.length≤i∧xs.filter p=ys++(xs.drop i).filter p∧ts'.tmp 5=.os 20 g ys.length∧ts'.gen 20=g∧ts'.obj 20=.arr 7 (avs ys)∧ts'.tmp 10=.int .i64 i) xs.length ?_ ?_
 ·refine ⟨0,ts.gen 20+1,[],rfl,Nat.zero_le _,Nat.le_refl _,rfl,?_⟩
  simp only [go_sem,↓reduceIte,reduceIte,Qa,Qh,Qb,Qc,Qd,Qe,Qf,Qg,reduceCtorEq, *,-hp,avs_nil]
 ·rintro m A hM ts' hk ⟨i,g,ys,hm,f1,f2,f3,s1,s2,s3,s4⟩
  simp only [go_sem,↓reduceIte,reduceIte,Qa,Qh,Qb,Qc,Qd,Qe,Qf,Qg,reduceCtorEq, *] at hk
  by_cases hlt:i < xs.length
  ·rw [List.drop_eq_getElem_cons hlt,List.filter_cons] at f3
   have hpi:=hp _ (QC hlt)
   have hr:Room (ys.length+1) 104:=room_small (by unfold Small at hl; omega) (by decide)
   (repeat' (first
 | (with_reducible first|refine callX.by (hpi) ?_|assumption|(refine Qw hK _ ?_; clear hK K)|refine Qw ‹_› _ ?_|refine Qx ‹_› ?_|refine Qi fun K hK=>?_|refine Qj T fun K hK=>?_|refine Ql fun A B hA hB=>?_|refine Qm ?_|refine Qn ?_|refine Qp ?_|refine Qr ?_)
 | ((with_reducible first|apply Qy|apply Qz|apply QA)<;>intro hb<;>try simp only [nr] at hb)
 | simp only [go_sem,↓reduceIte,reduceIte,Qa,Qh,Qb,Qc,Qd,Qe,Qf,Qg,reduceCtorEq, *,-hp,-hpi,-f3]
 | with_reducible refine fun (bn:Bool) hbn=>?_))
   all_goals ((repeat clear hK); (repeat clear hA); (repeat clear hB))
   ·rw [if_pos hb] at f3
    (refine hM.on (xs.length - (i+1)) (by omega) (by simp only [go_sem,↓reduceIte,reduceIte,Qa,Qh,Qb,Qc,Qd,Qe,Qf,Qg,reduceCtorEq, *,w64_nat hlt hl,List.length_append,-f3,-hp,-hpi]) ⟨i+1,g+1,ys++[xs[i]],rfl,by omega,by simp; omega,by rw [f3,List.append_assoc]; rfl,?_⟩; simp only [go_sem,↓reduceIte,reduceIte,Qa,Qh,Qb,Qc,Qd,Qe,Qf,Qg,reduceCtorEq, *,w64_nat hlt hl,List.length_append,-f3,-hp,-hpi]; done)
   ·rw [if_neg (by simp [hb])] at f3
    (refine hM.on (xs.length - (i+1)) (by omega) (by simp only [go_sem,↓reduceIte,reduceIte,Qa,Qh,Qb,Qc,Qd,Qe,Qf,Qg,reduceCtorEq, *,w64_nat hlt hl,-f3,-hp,-hpi]) ⟨i+1,g,ys,rfl,by omega,by omega,f3,?_⟩; simp only [go_sem,↓reduceIte,reduceIte,Qa,Qh,Qb,Qc,Qd,Qe,Qf,Qg,reduceCtorEq, *,w64_nat hlt hl,-f3,-hp,-hpi]; done)
  ·rw [List.drop_eq_nil_of_le (by omega),List.filter_nil,List.append_nil] at f3
   (repeat' (first
 | (with_reducible first|assumption|(refine Qw hK _ ?_; clear hK K)|refine Qw ‹_› _ ?_|refine Qx ‹_› ?_|refine Qi fun K hK=>?_|refine Qj T fun K hK=>?_|refine Ql fun A B hA hB=>?_|refine Qm ?_|refine Qn ?_|refine Qp ?_|refine Qr ?_)
 | ((with_reducible first|apply Qy|apply Qz|apply QA)<;>intro hb<;>try simp only [nr] at hb)
 | simp only [go_sem,↓reduceIte,reduceIte,Qa,Qh,Qb,Qc,Qd,Qe,Qf,Qg,reduceCtorEq, *,-hp]
 | with_reducible refine fun (bn:Bool) hbn=>?_))
theorem tkind1_c (r_kind:Int) (r_name:List UInt8) (r_ver:Int) (r_port:Int) (r_to:List UInt8) (r_rules:List Rule) (r_hosts:List Int) (k:Int):CallR Tryz.prog 127 [.agg [.int .i64 r_kind,.str r_name,.int .i64 r_ver,.int .i64 r_port,.str r_to,.slice false (avs r_rules),.slice false (avs r_hosts)],.ro [.int .i64 k]] (.val (.bool (decide (r_kind=k)))):=by
 refine CallR.go2 (T:=T) Tryz.call127 Tryz.func127 rfl Tryz.ntmps127 (congrArg Array.toList Tryz.results127) (by decide) fun ts hn h0 h1=>?_
 (repeat' (first
 | (with_reducible first|assumption|(refine Qw hK _ ?_; clear hK K)|refine Qw ‹_› _ ?_|refine Qx ‹_› ?_|refine Qi fun K hK=>?_|refine Qj T fun K hK=>?_|refine Ql fun A B hA hB=>?_|refine Qn ?_|refine Qr ?_)
 | ((with_reducible first|apply Qy|apply Qz|apply QA)<;>intro hb<;>try simp only [nr] at hb)
 | simp only [go_sem,↓reduceIte,reduceIte,Qa,Qh,Qb,Qc,Qd,Qe,Qf,Qg,reduceCtorEq, *]
 | with_reducible refine fun (bn:Bool) hbn=>?_))
theorem caps_int (a:Int):Caps [.ro [.int .i64 a]]:=⟨by simp only [go_sem,Bool.and_self],by simp only [go_sem]⟩
def tkind (l:List Res) (k:Int):List Res:=l.filter fun r=>decide (r.kind=k)
theorem tkind_c (xs:List Res) (k:Int) (hl:Small xs.length):CallR Tryz.prog 67 [.slice false (avs xs),.int .i64 k] (.own 7 (avs (tkind xs k))):=by
 have hf:=tfilter_c 127 [.ro [.int .i64 k]] (caps_int k) (fun r=>decide (r.kind=k)) xs (fun x _=>tkind1_c x.kind x.name x.ver x.port x.to' x.rules' x.hosts k) hl
 refine CallR.go2 (T:=T) Tryz.call67 Tryz.func67 rfl Tryz.ntmps67 (congrArg Array.toList Tryz.results67) (by decide) fun ts hn h0 h1=>?_
 (repeat' (first
 | (with_reducible first|refine callX.by (hf) ?_|refine callX.by (tfilter_c _ _ ?_ _ _ ?_ ?_) ?_|assumption|(refine Qw hK _ ?_; clear hK K)|refine Qw ‹_› _ ?_|refine Qx ‹_› ?_|refine Qi fun K hK=>?_|refine Qj T fun K hK=>?_|refine Ql fun A B hA hB=>?_|refine Qn ?_|refine Qr ?_)
 | ((with_reducible first|apply Qy|apply Qz|apply QA)<;>intro hb<;>try simp only [nr] at hb)
 | simp only [go_sem,↓reduceIte,reduceIte,Qa,Qh,Qb,Qc,Qd,Qe,Qf,Qg,reduceCtorEq, *,-hf]
 | with_reducible refine fun (bn:Bool) hbn=>?_))
 all_goals rfl
def zRes:Res:=⟨0,[],0,0,[],[],[]⟩
def tget (l:List Res) (k:Key):Option Res:=l.find? fun r=>decide (keyOf r=k)
def ofR (l:List Res) (M:List (Key × Bool)):List (Key × Bool):=l.foldl (fun M r=>mput M (keyOf r) true) M
theorem refsOf_c (xs:List Res) (hl:Small xs.length):CallR Tryz.prog 70 [.slice false (avs xs)] (.val (.mp (mks (ofR xs [])) (mvs (ofR xs [])))):=by
 refine CallR.go1 (T:=T) Tryz.call70 Tryz.func70 rfl Tryz.ntmps70 (congrArg Array.toList Tryz.results70) (by decide) fun ts hn h0=>?_
 (repeat' (first
 | (with_reducible first|refine callX.by (rkey_c _ _ _ _ _ _ _) ?_|assumption|(refine Qw hK _ ?_; clear hK K)|refine Qw ‹_› _ ?_|refine Qx ‹_› ?_|refine Qi fun K hK=>?_|refine Qj T fun K hK=>?_|refine Ql fun A B hA hB=>?_|refine Qm ?_|refine Qn ?_|refine Qp ?_|refine Qr ?_)
 | ((with_reducible first|apply Qy|apply Qz|apply QA)<;>intro hb<;>try simp only [nr] at hb)
 | simp only [go_sem,↓reduceIte,reduceIte,Qa,Qh,Qb,Qc,Qd,Qe,Qf,Qg,reduceCtorEq, *]
 | with_reducible refine fun (bn:Bool) hbn=>?_))
 refine Qs [7,8] (fun m ts'=>∃ (i:Nat),∃ (M:List (Key × Bool)),m=xs.length - i∧i≤xs.length∧ofR xs []=ofR (xs.drop i) M∧ts'.tmp 3=.mref 6 (ts.gen 6+1)∧ts'.gen 6=ts.gen 6+1∧ts'.obj 6=.mp (mks M) (mvs M)∧ts'.tmp 9=.int .i64 i) xs.length ?_ ?_
 ·refine ⟨0,[],rfl,Nat.zero_le _,rfl,?_⟩
  simp only [go_sem,↓reduceIte,reduceIte,Qa,Qh,Qb,Qc,Qd,Qe,Qf,Qg,reduceCtorEq, *]
 ·rintro m A hM ts' hk ⟨i,M,hm,f1,f2,s1,s2,s3,s4⟩
  simp only [go_sem,↓reduceIte,reduceIte,Qa,Qh,Qb,Qc,Qd,Qe,Qf,Qg,reduceCtorEq, *] at hk
  by_cases hlt:i < xs.length
  ·rw [List.drop_eq_getElem_cons hlt] at f2
   (repeat' (first
 | (with_reducible first|refine callX.by (rkey_c _ _ _ _ _ _ _) ?_|assumption|(refine Qw hK _ ?_; clear hK K)|refine Qw ‹_› _ ?_|refine Qx ‹_› ?_|refine Qi fun K hK=>?_|refine Qj T fun K hK=>?_|refine Ql fun A B hA hB=>?_|refine Qm ?_|refine Qn ?_|refine Qp ?_|refine Qr ?_)
 | ((with_reducible first|apply Qy|apply Qz|apply QA)<;>intro hb<;>try simp only [nr] at hb)
 | simp only [go_sem,↓reduceIte,reduceIte,Qa,Qh,Qb,Qc,Qd,Qe,Qf,Qg,reduceCtorEq, *,-f2]
 | with_reducible refine fun (bn:Bool) hbn=>?_))
   all_goals ((repeat clear hK); (repeat clear hA); (repeat clear hB))
   (refine hM.on (xs.length - (i+1)) (by omega) (by simp only [go_sem,↓reduceIte,reduceIte,Qa,Qh,Qb,Qc,Qd,Qe,Qf,Qg,reduceCtorEq, *,w64_nat hlt hl,keyOf,-f2]) ⟨i+1,mput M (keyOf xs[i]) true,rfl,by omega,by rw [f2]; rfl,?_⟩; simp only [go_sem,↓reduceIte,reduceIte,Qa,Qh,Qb,Qc,Qd,Qe,Qf,Qg,reduceCtorEq, *,w64_nat hlt hl,keyOf,-f2]; done)
  ·rw [List.drop_eq_nil_of_le (by omega)] at f2
   have e:ofR xs []=M:=f2
   rw [e]
   (repeat' (first
 | (with_reducible first|refine callX.by (rkey_c _ _ _ _ _ _ _) ?_|assumption|(refine Qw hK _ ?_; clear hK K)|refine Qw ‹_› _ ?_|refine Qx ‹_› ?_|refine Qi fun K hK=>?_|refine Qj T fun K hK=>?_|refine Ql fun A B hA hB=>?_|refine Qm ?_|refine Qn ?_|refine Qp ?_|refine Qr ?_)
 | ((with_reducible first|apply Qy|apply Qz|apply QA)<;>intro hb<;>try simp only [nr] at hb)
 | simp only [go_sem,↓reduceIte,reduceIte,Qa,Qh,Qb,Qc,Qd,Qe,Qf,Qg,reduceCtorEq, *,-f2]
 | with_reducible refine fun (bn:Bool) hbn=>?_))
   all_goals ((repeat clear hK); (repeat clear hA); (repeat clear hB))
   all_goals rfl
end Go.Proofs.YtmjkjmoeicnbnaaGreatDoor.Lg
