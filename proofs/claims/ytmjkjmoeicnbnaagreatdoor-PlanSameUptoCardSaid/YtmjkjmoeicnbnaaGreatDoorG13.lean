/- Parts of the proof, one behind the other. -/
import Derived.Test.YtmjkjmoeicnbnaaGreatDoorG12
namespace Go.Proofs.YtmjkjmoeicnbnaaGreatDoor.Lg
set_option maxRecDepth 100000
set_option linter.unusedVariables false
set_option linter.unusedSimpArgs false
open Go
open Nat renaming reduceEqDiff → Qa, reduceLT → Qb, reduceLeDiff → Qc, reduceAdd → Qd, reduceMul → Qe, reduceSub → Qf, reduceBEq → Qg
open String renaming reduceEq → Qh
open SpecC renaming seqW → Qi, regW → Qj, drawW → Qk, condW → Ql, block → Qm, skip → Qn, exit → Qp, ret → Qr, loopF → Qs
open NxK renaming out → Qw
open Nx renaming out → Qx
open condK renaming split → Qy
open gK renaming split_t → Qz, split_f → QA
open List renaming getElem_mem → QC
@[go_sem] def Wd2:List (List Nat×List Nat):=[([16],[17,20,21,22,23,24]),([17],[16,20,21,22,23,24]),([18],[20,21,22,23,24]),([19],[20,21,22,23,24]),([20],[16,17,18,19,21,22]),([21],[16,17,18,19,20,24]),([22],[16,17,18,19,20]),([23],[16,17,18,19]),([24],[16,17,18,19,21])]
@[go_sem] def Wd3:List (List Nat×List Nat):=[([35],[36,39,40,41,42,43]),([36],[35,39,40,41,42,43]),([37],[39,40,41,42,43]),([38],[39,40,41,42,43]),([39],[35,36,37,38,40,41]),([40],[35,36,37,38,39,43]),([41],[35,36,37,38,39]),([42],[35,36,37,38]),([43],[35,36,37,38,40])]
theorem kcT_drop {xs:List Key} {k:Nat} (h0:0 < k) (h:k < xs.length):kcT (xs.drop (k - 1))=if xs[k]=xs[k - 1] then kcT (xs.drop k) else xs[k] :: kcT (xs.drop k):=by
 have e:xs.drop (k - 1)=xs[k - 1] :: xs[k] :: xs.drop (k+1):=by
  rw [List.drop_eq_getElem_cons (by omega:k - 1 < xs.length)]
  congr 1
  have:k - 1+1=k:=by omega
  rw [this,List.drop_eq_getElem_cons h]
 rw [e,kcT,← List.drop_eq_getElem_cons h]
theorem kcT_last {xs:List Key} {k:Nat} (h:xs.length≤k+1):kcT (xs.drop k)=[]:=by
 have:(xs.drop k).length≤1:=by simp; omega
 match hx:xs.drop k,this with
 | [],_=>rfl
 | [_],_=>rfl
set_option maxHeartbeats 4000000 in
theorem compactKey_c (xs:List Key) (hl:Small xs.length):CallM Tryz.prog 74 2 (avs xs) [] (.own 2 (avs (kcompact xs))):=by
 refine CallM.go0 (T:=T) Tryz.call74 Tryz.func74 rfl Tryz.ntmps74 (congrArg Array.toList Tryz.results74) (by decide) fun ts hn h0 hg0 ho0=>?_
 by_cases h2:xs.length < 2
 ·have hc:kcompact xs=xs:=by
   match xs,h2 with
   | [],_=>rfl
   | [_],_=>rfl
  (repeat' (first
 | (with_reducible first|assumption|(refine Qw hK _ ?_; clear hK K)|refine Qw ‹_› _ ?_|refine Qx ‹_› ?_|refine Qi fun K hK=>?_|refine Qj T fun K hK=>?_|refine Qk (id:=6) T mixed Wd2 (by kernel_rfl) fun K hK=>?_|refine Qk (id:=11) T mixed Wd3 (by kernel_rfl) fun K hK=>?_|refine Ql fun A B hA hB=>?_|refine Qm ?_|refine Qn ?_|refine Qp ?_|refine Qr ?_)
 | ((with_reducible first|apply Qy|apply Qz|apply QA)<;>intro hb<;>try simp only [nr] at hb)
 | simp only [go_sem,↓reduceIte,reduceIte,Qa,Qh,Qb,Qc,Qd,Qe,Qf,Qg,reduceCtorEq, *,hc]
 | with_reducible refine fun (bn:Bool) hbn=>?_))
 ·(repeat' (first
 | (with_reducible first|assumption|(refine Qw hK _ ?_; clear hK K)|refine Qw ‹_› _ ?_|refine Qx ‹_› ?_|refine Qi fun K hK=>?_|refine Qj T fun K hK=>?_|refine Qk (id:=6) T mixed Wd2 (by kernel_rfl) fun K hK=>?_|refine Qk (id:=11) T mixed Wd3 (by kernel_rfl) fun K hK=>?_|refine Ql fun A B hA hB=>?_|refine Qm ?_|refine Qn ?_|refine Qp ?_|refine Qr ?_)
 | ((with_reducible first|apply Qy|apply Qz|apply QA)<;>intro hb<;>try simp only [nr] at hb)
 | simp only [go_sem,↓reduceIte,reduceIte,Qa,Qh,Qb,Qc,Qd,Qe,Qf,Qg,reduceCtorEq, *]
 | with_reducible refine fun (bn:Bool) hbn=>?_))
  refine Qs [0] (fun m ts'=>∃ (k:Nat),m=xs.length - k∧1≤k∧k≤xs.length∧kcompact xs=xs.take k++kcT (xs.drop (k - 1))∧ts'.tmp 3=.int .i64 k) (xs.length - 1) ?_ ?_
  ·refine ⟨1,rfl,Nat.le_refl _,by omega,rfl,?_⟩
   simp only [go_sem,↓reduceIte,reduceIte,Qa,Qh,Qb,Qc,Qd,Qe,Qf,Qg,reduceCtorEq, *]
   rfl
  ·rintro m A hM ts' hk ⟨k,hm,f1,f2,f3,s1⟩
   simp only [go_sem,↓reduceIte,reduceIte,Qa,Qh,Qb,Qc,Qd,Qe,Qf,Qg,reduceCtorEq, *] at hk
   by_cases hlt:k < xs.length
   ·have hw:IntKind.i64.wrap ((k:Int) - 1)=((k - 1:Nat):Int):=by
     rw [w64_pred (show Small k by unfold Small at *; omega)]; omega
    have hk1:k - 1 < xs.length:=by omega
    simp only [kcT_drop f1 hlt,ext_Key] at f3
    (repeat' (first
 | (with_reducible first|assumption|(refine Qw hK _ ?_; clear hK K)|refine Qw ‹_› _ ?_|refine Qx ‹_› ?_|refine Qi fun K hK=>?_|refine Qj T fun K hK=>?_|refine Qk (id:=6) T mixed Wd2 (by kernel_rfl) fun K hK=>?_|refine Qk (id:=11) T mixed Wd3 (by kernel_rfl) fun K hK=>?_|refine Ql fun A B hA hB=>?_|refine Qm ?_|refine Qn ?_|refine Qp ?_|refine Qr ?_)
 | ((with_reducible first|apply Qy|apply Qz|apply QA)<;>intro hb<;>try simp only [nr] at hb)
 | simp only [go_sem,↓reduceIte,reduceIte,Qa,Qh,Qb,Qc,Qd,Qe,Qf,Qg,reduceCtorEq, *,hw,-f3]
 | with_reducible refine fun (bn:Bool) hbn=>?_))
    ·have hk4:kcompact xs=xs.take k++kcT (xs.drop k):=by rw [f3,if_pos (by clear hM hK; grind)]
     clear f3 hM
     refine Qs [4] (fun m ts'=>∃ (q:Nat),∃ (j:Nat),∃ (ys:List Key),m=xs.length - j∧1≤j∧k+j≤xs.length∧q≤k+j - 1∧ys.length=xs.length∧kcompact xs=ys.take q++kcT (xs.drop (k+j - 1))∧ys.drop (k+j - 1)=xs.drop (k+j - 1)∧ts'.tmp 0=.os 0 0 xs.length∧ts'.gen 0=0∧ts'.obj 0=.arr 2 (avs ys)∧ts'.tmp 3=.int .i64 q∧ts'.tmp 5=.int .i64 j) (xs.length - 1) ?_ ?_
     ·refine ⟨k,1,xs,rfl,Nat.le_refl _,by omega,by omega,rfl,hk4,rfl,?_⟩
      simp only [go_sem,↓reduceIte,reduceIte,Qa,Qh,Qb,Qc,Qd,Qe,Qf,Qg,reduceCtorEq, *,-hk4]
      all_goals rfl
     ·clear hk4
      rintro m A hM ts' hk ⟨q,j,ys,hm,f1,f2,f3,f4,f5,f6,s1,s2,s3,s4,s5⟩
      simp only [go_sem,↓reduceIte,reduceIte,Qa,Qh,Qb,Qc,Qd,Qe,Qf,Qg,reduceCtorEq, *] at hk
      by_cases hjt:j < xs.length - k
      ·have hw2:IntKind.i64.wrap ((j:Int) - 1)=((j - 1:Nat):Int):=by
        rw [w64_pred (show Small j by unfold Small at *; omega)]; omega
       have hkj:k+j < xs.length:=by omega
       have hky:k+j < ys.length:=by omega
       have hkj1:k+(j - 1) < xs.length:=by omega
       have hky1:k+(j - 1) < ys.length:=by omega
       have e1:k+(j - 1)=k+j - 1:=by omega
       have hy2:ys[k+(j - 1)]=xs[k+(j - 1)]:=by
        have:=congrArg (fun l=>l[0]?) f6
        simp only [List.getElem?_drop,Nat.add_zero,← e1] at this
        rwa [List.getElem?_eq_getElem hky1,List.getElem?_eq_getElem hkj1,Option.some.injEq] at this
       have hy1:ys[k+j]=xs[k+j]:=by
        have:=congrArg (fun l=>l[1]?) f6
        have e2:k+j - 1+1=k+j:=by omega
        simp only [List.getElem?_drop,e2] at this
        rwa [List.getElem?_eq_getElem hky,List.getElem?_eq_getElem hkj,Option.some.injEq] at this
       have hdr:ys.drop (k+j)=xs.drop (k+j):=by
        have:=congrArg (List.drop 1) f6
        have e2:k+j - 1+1=k+j:=by omega
        simpa only [List.drop_drop,e2] using this
       have hq:q < xs.length:=by omega
       have hj1:j - 1 < xs.length - k:=by omega
       have hjx:j < xs.length:=by omega
       have hkT:=kcT_drop (show 0 < k+j by omega) hkj
       simp only [← e1] at hkT
       rw [← e1,hkT] at f5
       have e3:k+(j+1) - 1=k+j:=by omega
       (repeat' (first
 | (with_reducible first|assumption|(refine Qw hK _ ?_; clear hK K)|refine Qw ‹_› _ ?_|refine Qx ‹_› ?_|refine Qi fun K hK=>?_|refine Qj T fun K hK=>?_|refine Qk (id:=6) T mixed Wd2 (by kernel_rfl) fun K hK=>?_|refine Qk (id:=11) T mixed Wd3 (by kernel_rfl) fun K hK=>?_|refine Ql fun A B hA hB=>?_|refine Qm ?_|refine Qn ?_|refine Qp ?_|refine Qr ?_)
 | ((with_reducible first|apply Qy|apply Qz|apply QA)<;>intro hb<;>try simp only [nr] at hb)
 | simp only [go_sem,↓reduceIte,reduceIte,Qa,Qh,Qb,Qc,Qd,Qe,Qf,Qg,reduceCtorEq, *,hw2,-f5,-f6,-hdr,-hkT,-e1]
 | with_reducible refine fun (bn:Bool) hbn=>?_))
       all_goals ((repeat clear hK); (repeat clear hA); (repeat clear hB))
       ·(refine hM.on (xs.length - (j+1)) (by omega) (by simp only [go_sem,↓reduceIte,reduceIte,Qa,Qh,Qb,Qc,Qd,Qe,Qf,Qg,reduceCtorEq, *,w64_nat hq hl,w64_nat hjx hl,-f5,-f6,-hdr,-hkT,-e1]) ⟨q+1,j+1,ys.set q xs[k+j],rfl,by omega,by omega,by omega,by simp [f4],by clear hM; rw [f5,if_neg (by grind [ext_Key]),take_set_succ _ (by omega),e3,List.append_assoc]; rfl,by rw [e3,List.drop_set,if_pos (by omega),hdr],?_⟩; simp only [go_sem,↓reduceIte,reduceIte,Qa,Qh,Qb,Qc,Qd,Qe,Qf,Qg,reduceCtorEq, *,w64_nat hq hl,w64_nat hjx hl,-f5,-f6,-hdr,-hkT,-e1]; done)
       ·(refine hM.on (xs.length - (j+1)) (by omega) (by simp only [go_sem,↓reduceIte,reduceIte,Qa,Qh,Qb,Qc,Qd,Qe,Qf,Qg,reduceCtorEq, *,w64_nat hjx hl,-f5,-f6,-hdr,-hkT,-e1]) ⟨q,j+1,ys,rfl,by omega,by omega,by omega,f4,by clear hM; rw [f5,if_pos (by grind [ext_Key]),e3],by rw [e3,hdr],?_⟩; simp only [go_sem,↓reduceIte,reduceIte,Qa,Qh,Qb,Qc,Qd,Qe,Qf,Qg,reduceCtorEq, *,w64_nat hjx hl,-f5,-f6,-hdr,-hkT,-e1]; done)
      ·have hkj:k+j=xs.length:=by omega
       have f7:kcompact xs=ys.take q:=by rw [f5,kcT_last (by omega),List.append_nil]
       have hq1:q≤xs.length:=by omega
       have hq2:q+(xs.length - q)=xs.length:=by omega
       clear f5 f6
       (repeat' (first
 | (with_reducible first|assumption|(refine Qw hK _ ?_; clear hK K)|refine Qw ‹_› _ ?_|refine Qx ‹_› ?_|refine Qi fun K hK=>?_|refine Qj T fun K hK=>?_|refine Qk (id:=6) T mixed Wd2 (by kernel_rfl) fun K hK=>?_|refine Qk (id:=11) T mixed Wd3 (by kernel_rfl) fun K hK=>?_|refine Ql fun A B hA hB=>?_|refine Qm ?_|refine Qn ?_|refine Qp ?_|refine Qr ?_)
 | ((with_reducible first|apply Qy|apply Qz|apply QA)<;>intro hb<;>try simp only [nr] at hb)
 | simp only [go_sem,↓reduceIte,reduceIte,Qa,Qh,Qb,Qc,Qd,Qe,Qf,Qg,reduceCtorEq, *]
 | with_reducible refine fun (bn:Bool) hbn=>?_))
    ·all_goals ((repeat clear hK); (repeat clear hA); (repeat clear hB))
     (refine hM.on (xs.length - (k+1)) (by omega) (by simp only [go_sem,↓reduceIte,reduceIte,Qa,Qh,Qb,Qc,Qd,Qe,Qf,Qg,reduceCtorEq, *,w64_nat hlt hl,-f3]) ⟨k+1,rfl,by omega,by omega,by clear hM; rw [f3,if_neg (by grind),List.take_succ_eq_append_getElem hlt,List.append_assoc]; rfl,?_⟩; simp only [go_sem,↓reduceIte,reduceIte,Qa,Qh,Qb,Qc,Qd,Qe,Qf,Qg,reduceCtorEq, *,w64_nat hlt hl,-f3]; done)
   ·have hc:kcompact xs=xs:=by rw [f3,List.take_of_length_le (by omega),kcT_last (by omega)]; simp
    (repeat' (first
 | (with_reducible first|assumption|(refine Qw hK _ ?_; clear hK K)|refine Qw ‹_› _ ?_|refine Qx ‹_› ?_|refine Qi fun K hK=>?_|refine Qj T fun K hK=>?_|refine Qk (id:=6) T mixed Wd2 (by kernel_rfl) fun K hK=>?_|refine Qk (id:=11) T mixed Wd3 (by kernel_rfl) fun K hK=>?_|refine Ql fun A B hA hB=>?_|refine Qm ?_|refine Qn ?_|refine Qp ?_|refine Qr ?_)
 | ((with_reducible first|apply Qy|apply Qz|apply QA)<;>intro hb<;>try simp only [nr] at hb)
 | simp only [go_sem,↓reduceIte,reduceIte,Qa,Qh,Qb,Qc,Qd,Qe,Qf,Qg,reduceCtorEq, *,hc,-f3]
 | with_reducible refine fun (bn:Bool) hbn=>?_))
@[go_sem] def Wd4:List (List Nat×List Nat):=[([16],[17,20,21,22,23]),([17],[16,20,21,22,23]),([18],[20,21,22,23]),([19],[20,21,22,23]),([20],[16,17,18,19,21]),([21],[16,17,18,19,20]),([22],[16,17,18,19]),([23],[16,17,18,19])]
theorem eqI_c (xs ys:List Int) (hl:Small xs.length):CallR Tryz.prog 204 [.slice false (avs xs),.slice false (avs ys)] (.val (.bool (decide (xs=ys)))):=by
 refine CallR.go2 (T:=T) Tryz.call204 Tryz.func204 rfl Tryz.ntmps204 (congrArg Array.toList Tryz.results204) (by decide) fun ts hn h0 h1=>?_
 by_cases hll:xs.length=ys.length
 ·(repeat' (first
 | (with_reducible first|assumption|(refine Qw hK _ ?_; clear hK K)|refine Qw ‹_› _ ?_|refine Qx ‹_› ?_|refine Qi fun K hK=>?_|refine Qj T fun K hK=>?_|refine Qk (id:=6) T mixed Wd4 (by kernel_rfl) fun K hK=>?_|refine Ql fun A B hA hB=>?_|refine Qm ?_|refine Qn ?_|refine Qp ?_|refine Qr ?_)
 | ((with_reducible first|apply Qy|apply Qz|apply QA)<;>intro hb<;>try simp only [nr] at hb)
 | simp only [go_sem,↓reduceIte,reduceIte,Qa,Qh,Qb,Qc,Qd,Qe,Qf,Qg,reduceCtorEq, *]
 | with_reducible refine fun (bn:Bool) hbn=>?_))
  refine Qs [0,1,12] (fun m ts'=>∃ (i:Nat),m=xs.length - i∧i≤xs.length∧xs.take i=ys.take i∧ts'.tmp 13=.int .i64 i) xs.length ?_ ?_
  ·refine ⟨0,?_⟩
   simp only [go_sem,↓reduceIte,reduceIte,Qa,Qh,Qb,Qc,Qd,Qe,Qf,Qg,reduceCtorEq, *]
  ·rintro m A hM ts' hk ⟨i,hm,f1,f2,s1⟩
   simp only [go_sem,↓reduceIte,reduceIte,Qa,Qh,Qb,Qc,Qd,Qe,Qf,Qg,reduceCtorEq, *] at hk
   by_cases hlt:i < xs.length
   ·have hlu:i < ys.length:=by omega
    have hne:=take_ne hlt hlu
    (repeat' (first
 | (with_reducible first|assumption|(refine Qw hK _ ?_; clear hK K)|refine Qw ‹_› _ ?_|refine Qx ‹_› ?_|refine Qi fun K hK=>?_|refine Qj T fun K hK=>?_|refine Qk (id:=6) T mixed Wd4 (by kernel_rfl) fun K hK=>?_|refine Ql fun A B hA hB=>?_|refine Qm ?_|refine Qn ?_|refine Qp ?_|refine Qr ?_)
 | ((with_reducible first|apply Qy|apply Qz|apply QA)<;>intro hb<;>try simp only [nr] at hb)
 | simp only [go_sem,↓reduceIte,reduceIte,Qa,Qh,Qb,Qc,Qd,Qe,Qf,Qg,reduceCtorEq, *]
 | with_reducible refine fun (bn:Bool) hbn=>?_))
    all_goals ((repeat clear hK); (repeat clear hA); (repeat clear hB))
    all_goals first
     | (refine hM.on (xs.length - (i+1)) (by omega) (by simp only [go_sem,↓reduceIte,reduceIte,Qa,Qh,Qb,Qc,Qd,Qe,Qf,Qg,reduceCtorEq, *,w64_nat hlt hl]) ⟨i+1,rfl,by omega,by clear hM; apply take_get f2 hlt hlu; grind,?_⟩; simp only [go_sem,↓reduceIte,reduceIte,Qa,Qh,Qb,Qc,Qd,Qe,Qf,Qg,reduceCtorEq, *,w64_nat hlt hl]; done)
     | (clear hM; grind)
   ·have:=take_all f2 hlt hll
    (repeat' (first
 | (with_reducible first|assumption|(refine Qw hK _ ?_; clear hK K)|refine Qw ‹_› _ ?_|refine Qx ‹_› ?_|refine Qi fun K hK=>?_|refine Qj T fun K hK=>?_|refine Qk (id:=6) T mixed Wd4 (by kernel_rfl) fun K hK=>?_|refine Ql fun A B hA hB=>?_|refine Qm ?_|refine Qn ?_|refine Qp ?_|refine Qr ?_)
 | ((with_reducible first|apply Qy|apply Qz|apply QA)<;>intro hb<;>try simp only [nr] at hb)
 | simp only [go_sem,↓reduceIte,reduceIte,Qa,Qh,Qb,Qc,Qd,Qe,Qf,Qg,reduceCtorEq, *]
 | with_reducible refine fun (bn:Bool) hbn=>?_))
    all_goals ((repeat clear hK); (repeat clear hA); (repeat clear hB))
    all_goals (clear hM; grind)
 ·have:¬ xs=ys:=by rintro rfl; exact hll rfl
  (repeat' (first
 | (with_reducible first|assumption|(refine Qw hK _ ?_; clear hK K)|refine Qw ‹_› _ ?_|refine Qx ‹_› ?_|refine Qi fun K hK=>?_|refine Qj T fun K hK=>?_|refine Qk (id:=6) T mixed Wd4 (by kernel_rfl) fun K hK=>?_|refine Ql fun A B hA hB=>?_|refine Qm ?_|refine Qn ?_|refine Qp ?_|refine Qr ?_)
 | ((with_reducible first|apply Qy|apply Qz|apply QA)<;>intro hb<;>try simp only [nr] at hb)
 | simp only [go_sem,↓reduceIte,reduceIte,Qa,Qh,Qb,Qc,Qd,Qe,Qf,Qg,reduceCtorEq, *]
 | with_reducible refine fun (bn:Bool) hbn=>?_))
  all_goals ((repeat clear hK); (repeat clear hA); (repeat clear hB))
  all_goals grind
theorem eqW_c (xs ys:List Weight) (hl:Small xs.length):CallR Tryz.prog 203 [.slice false (avs xs),.slice false (avs ys)] (.val (.bool (decide (xs=ys)))):=by
 refine CallR.go2 (T:=T) Tryz.call203 Tryz.func203 rfl Tryz.ntmps203 (congrArg Array.toList Tryz.results203) (by decide) fun ts hn h0 h1=>?_
 by_cases hll:xs.length=ys.length
 ·(repeat' (first
 | (with_reducible first|assumption|(refine Qw hK _ ?_; clear hK K)|refine Qw ‹_› _ ?_|refine Qx ‹_› ?_|refine Qi fun K hK=>?_|refine Qj T fun K hK=>?_|refine Qk (id:=6) T mixed Wd4 (by kernel_rfl) fun K hK=>?_|refine Ql fun A B hA hB=>?_|refine Qm ?_|refine Qn ?_|refine Qp ?_|refine Qr ?_)
 | ((with_reducible first|apply Qy|apply Qz|apply QA)<;>intro hb<;>try simp only [nr] at hb)
 | simp only [go_sem,↓reduceIte,reduceIte,Qa,Qh,Qb,Qc,Qd,Qe,Qf,Qg,reduceCtorEq, *]
 | with_reducible refine fun (bn:Bool) hbn=>?_))
  refine Qs [0,1,12] (fun m ts'=>∃ (i:Nat),m=xs.length - i∧i≤xs.length∧xs.take i=ys.take i∧ts'.tmp 13=.int .i64 i) xs.length ?_ ?_
  ·refine ⟨0,?_⟩
   simp only [go_sem,↓reduceIte,reduceIte,Qa,Qh,Qb,Qc,Qd,Qe,Qf,Qg,reduceCtorEq, *]
  ·rintro m A hM ts' hk ⟨i,hm,f1,f2,s1⟩
   simp only [go_sem,↓reduceIte,reduceIte,Qa,Qh,Qb,Qc,Qd,Qe,Qf,Qg,reduceCtorEq, *] at hk
   by_cases hlt:i < xs.length
   ·have hlu:i < ys.length:=by omega
    have hne:=take_ne hlt hlu
    rw [ext_Weight] at hne
    (repeat' (first
 | (with_reducible first|assumption|(refine Qw hK _ ?_; clear hK K)|refine Qw ‹_› _ ?_|refine Qx ‹_› ?_|refine Qi fun K hK=>?_|refine Qj T fun K hK=>?_|refine Qk (id:=6) T mixed Wd4 (by kernel_rfl) fun K hK=>?_|refine Ql fun A B hA hB=>?_|refine Qm ?_|refine Qn ?_|refine Qp ?_|refine Qr ?_)
 | ((with_reducible first|apply Qy|apply Qz|apply QA)<;>intro hb<;>try simp only [nr] at hb)
 | simp only [go_sem,↓reduceIte,reduceIte,Qa,Qh,Qb,Qc,Qd,Qe,Qf,Qg,reduceCtorEq, *]
 | with_reducible refine fun (bn:Bool) hbn=>?_))
    all_goals ((repeat clear hK); (repeat clear hA); (repeat clear hB))
    all_goals first
     | (refine hM.on (xs.length - (i+1)) (by omega) (by simp only [go_sem,↓reduceIte,reduceIte,Qa,Qh,Qb,Qc,Qd,Qe,Qf,Qg,reduceCtorEq, *,w64_nat hlt hl]) ⟨i+1,rfl,by omega,by clear hM; apply take_get f2 hlt hlu; rw [ext_Weight]; grind,?_⟩; simp only [go_sem,↓reduceIte,reduceIte,Qa,Qh,Qb,Qc,Qd,Qe,Qf,Qg,reduceCtorEq, *,w64_nat hlt hl]; done)
     | (clear hM; grind)
   ·have:=take_all f2 hlt hll
    (repeat' (first
 | (with_reducible first|assumption|(refine Qw hK _ ?_; clear hK K)|refine Qw ‹_› _ ?_|refine Qx ‹_› ?_|refine Qi fun K hK=>?_|refine Qj T fun K hK=>?_|refine Qk (id:=6) T mixed Wd4 (by kernel_rfl) fun K hK=>?_|refine Ql fun A B hA hB=>?_|refine Qm ?_|refine Qn ?_|refine Qp ?_|refine Qr ?_)
 | ((with_reducible first|apply Qy|apply Qz|apply QA)<;>intro hb<;>try simp only [nr] at hb)
 | simp only [go_sem,↓reduceIte,reduceIte,Qa,Qh,Qb,Qc,Qd,Qe,Qf,Qg,reduceCtorEq, *]
 | with_reducible refine fun (bn:Bool) hbn=>?_))
    all_goals ((repeat clear hK); (repeat clear hA); (repeat clear hB))
    all_goals (clear hM; grind)
 ·have:¬ xs=ys:=by rintro rfl; exact hll rfl
  (repeat' (first
 | (with_reducible first|assumption|(refine Qw hK _ ?_; clear hK K)|refine Qw ‹_› _ ?_|refine Qx ‹_› ?_|refine Qi fun K hK=>?_|refine Qj T fun K hK=>?_|refine Qk (id:=6) T mixed Wd4 (by kernel_rfl) fun K hK=>?_|refine Ql fun A B hA hB=>?_|refine Qm ?_|refine Qn ?_|refine Qp ?_|refine Qr ?_)
 | ((with_reducible first|apply Qy|apply Qz|apply QA)<;>intro hb<;>try simp only [nr] at hb)
 | simp only [go_sem,↓reduceIte,reduceIte,Qa,Qh,Qb,Qc,Qd,Qe,Qf,Qg,reduceCtorEq, *]
 | with_reducible refine fun (bn:Bool) hbn=>?_))
  all_goals ((repeat clear hK); (repeat clear hA); (repeat clear hB))
  all_goals grind
theorem alike1_c (x_host:List UInt8) (x_pfx:List UInt8) (x_split:List Weight) (y_host:List UInt8) (y_pfx:List UInt8) (y_split:List Weight) (hl:Small x_split.length):CallR Tryz.prog 202 [.agg [.str x_host,.str x_pfx,.slice false (avs x_split)],.agg [.str y_host,.str y_pfx,.slice false (avs y_split)]] (.val (.bool (decide ((⟨x_host,x_pfx,x_split⟩:Rule)=(⟨y_host,y_pfx,y_split⟩:Rule))))):=by
 refine CallR.go2 (T:=T) Tryz.call202 Tryz.func202 rfl Tryz.ntmps202 (congrArg Array.toList Tryz.results202) (by decide) fun ts hn h0 h1=>?_
 (repeat' (first
 | (with_reducible first|refine callX.by (eqW_c _ _ ?_) ?_|assumption|(refine Qw hK _ ?_; clear hK K)|refine Qw ‹_› _ ?_|refine Qx ‹_› ?_|refine Qi fun K hK=>?_|refine Qj T fun K hK=>?_|refine Ql fun A B hA hB=>?_|refine Qn ?_|refine Qr ?_)
 | ((with_reducible first|apply Qy|apply Qz|apply QA)<;>intro hb<;>try simp only [nr] at hb)
 | simp only [go_sem,↓reduceIte,reduceIte,Qa,Qh,Qb,Qc,Qd,Qe,Qf,Qg,reduceCtorEq, *]
 | with_reducible refine fun (bn:Bool) hbn=>?_))
 all_goals ((repeat clear hK); (repeat clear hA); (repeat clear hB))
 all_goals simp_all
theorem eqFR_c (fn:FuncId) (caps:List AV) (hc:Caps caps) (xs ys:List Rule) (hp:∀ x∈xs,∀ y,CallR Tryz.prog fn (.agg [.str x.host,.str x.pfx,.slice false (avs x.split)] :: .agg [.str y.host,.str y.pfx,.slice false (avs y.split)] :: caps) (.val (.bool (decide (x=y))))) (hl:Small xs.length):CallR Tryz.prog 205 [.slice false (avs xs),.slice false (avs ys),.clo (.func fn) [] caps] (.val (.bool (decide (xs=ys)))):=by
 have hca:=hc.args
 have hcp:=hc.pure
 have hcn:=hc.nrm
 refine CallR.go3 (T:=T) Tryz.call205 Tryz.func205 rfl Tryz.ntmps205 (congrArg Array.toList Tryz.results205) (by decide) fun ts hn h0 h1 h2=>?_
 by_cases hll:xs.length=ys.length
 ·(repeat' (first
 | (with_reducible first|assumption|(refine Qw hK _ ?_; clear hK K)|refine Qw ‹_› _ ?_|refine Qx ‹_› ?_|refine Qi fun K hK=>?_|refine Qj T fun K hK=>?_|refine Ql fun A B hA hB=>?_|refine Qm ?_|refine Qn ?_|refine Qp ?_|refine Qr ?_)
 | ((with_reducible first|apply Qy|apply Qz|apply QA)<;>intro hb<;>try simp only [nr] at hb)
 | simp only [go_sem,↓reduceIte,reduceIte,Qa,Qh,Qb,Qc,Qd,Qe,Qf,Qg,reduceCtorEq, *,-hp]
 | with_reducible refine fun (bn:Bool) hbn=>?_))
  refine Qs [1,2,15,16] (fun m ts'=>∃ (i:Nat),m=xs.length - i∧i≤xs.length∧xs.take i=ys.take i∧ts'.tmp 17=.int .i64 i) xs.length ?_ ?_
  ·refine ⟨0,?_⟩
   simp only [go_sem,↓reduceIte,reduceIte,Qa,Qh,Qb,Qc,Qd,Qe,Qf,Qg,reduceCtorEq, *,-hp]
  ·rintro m A hM ts' hk ⟨i,hm,f1,f2,s1⟩
   simp only [go_sem,↓reduceIte,reduceIte,Qa,Qh,Qb,Qc,Qd,Qe,Qf,Qg,reduceCtorEq, *] at hk
   by_cases hlt:i < xs.length
   ·have hlu:i < ys.length:=by omega
    have hne:=take_ne hlt hlu
    have hpi:=hp _ (QC hlt) ys[i]
    (repeat' (first
 | (with_reducible first|refine callX.by (hpi) ?_|assumption|(refine Qw hK _ ?_; clear hK K)|refine Qw ‹_› _ ?_|refine Qx ‹_› ?_|refine Qi fun K hK=>?_|refine Qj T fun K hK=>?_|refine Ql fun A B hA hB=>?_|refine Qm ?_|refine Qn ?_|refine Qp ?_|refine Qr ?_)
 | ((with_reducible first|apply Qy|apply Qz|apply QA)<;>intro hb<;>try simp only [nr] at hb)
 | simp only [go_sem,↓reduceIte,reduceIte,Qa,Qh,Qb,Qc,Qd,Qe,Qf,Qg,reduceCtorEq, *,-hp,-hpi]
 | with_reducible refine fun (bn:Bool) hbn=>?_))
    all_goals ((repeat clear hK); (repeat clear hA); (repeat clear hB))
    all_goals first
     | (refine hM.on (xs.length - (i+1)) (by omega) (by simp only [go_sem,↓reduceIte,reduceIte,Qa,Qh,Qb,Qc,Qd,Qe,Qf,Qg,reduceCtorEq, *,w64_nat hlt hl,-hp,-hpi]) ⟨i+1,rfl,by omega,take_get f2 hlt hlu (of_decide_eq_true hb),?_⟩; simp only [go_sem,↓reduceIte,reduceIte,Qa,Qh,Qb,Qc,Qd,Qe,Qf,Qg,reduceCtorEq, *,w64_nat hlt hl,-hp,-hpi]; done)
     | (clear hM hp hpi; grind)
   ·have:=take_all f2 hlt hll
    (repeat' (first
 | (with_reducible first|assumption|(refine Qw hK _ ?_; clear hK K)|refine Qw ‹_› _ ?_|refine Qx ‹_› ?_|refine Qi fun K hK=>?_|refine Qj T fun K hK=>?_|refine Ql fun A B hA hB=>?_|refine Qm ?_|refine Qn ?_|refine Qp ?_|refine Qr ?_)
 | ((with_reducible first|apply Qy|apply Qz|apply QA)<;>intro hb<;>try simp only [nr] at hb)
 | simp only [go_sem,↓reduceIte,reduceIte,Qa,Qh,Qb,Qc,Qd,Qe,Qf,Qg,reduceCtorEq, *,-hp]
 | with_reducible refine fun (bn:Bool) hbn=>?_))
    all_goals ((repeat clear hK); (repeat clear hA); (repeat clear hB))
    all_goals (clear hM hp; grind)
 ·have:¬ xs=ys:=by rintro rfl; exact hll rfl
  (repeat' (first
 | (with_reducible first|assumption|(refine Qw hK _ ?_; clear hK K)|refine Qw ‹_› _ ?_|refine Qx ‹_› ?_|refine Qi fun K hK=>?_|refine Qj T fun K hK=>?_|refine Ql fun A B hA hB=>?_|refine Qm ?_|refine Qn ?_|refine Qp ?_|refine Qr ?_)
 | ((with_reducible first|apply Qy|apply Qz|apply QA)<;>intro hb<;>try simp only [nr] at hb)
 | simp only [go_sem,↓reduceIte,reduceIte,Qa,Qh,Qb,Qc,Qd,Qe,Qf,Qg,reduceCtorEq, *,-hp]
 | with_reducible refine fun (bn:Bool) hbn=>?_))
  all_goals ((repeat clear hK); (repeat clear hA); (repeat clear hB))
  all_goals (clear hp; grind)
def alikeP (a b:Res):Bool:=decide (a.kind=b.kind∧a.name=b.name∧a.port=b.port∧a.to'=b.to'∧a.rules'=b.rules'∧a.hosts=b.hosts)
set_option maxHeartbeats 4000000 in
theorem alikeP_c (a_kind:Int) (a_name:List UInt8) (a_ver:Int) (a_port:Int) (a_to:List UInt8) (a_rules:List Rule) (a_hosts:List Int) (b_kind:Int) (b_name:List UInt8) (b_ver:Int) (b_port:Int) (b_to:List UInt8) (b_rules:List Rule) (b_hosts:List Int) (hh:Small a_hosts.length) (hl:Small a_rules.length) (hs:∀ x∈a_rules,SmRule x):CallR Tryz.prog 161 [.agg [.int .i64 a_kind,.str a_name,.int .i64 a_ver,.int .i64 a_port,.str a_to,.slice false (avs a_rules),.slice false (avs a_hosts)],.agg [.int .i64 b_kind,.str b_name,.int .i64 b_ver,.int .i64 b_port,.str b_to,.slice false (avs b_rules),.slice false (avs b_hosts)]] (.val (.bool (alikeP (⟨a_kind,a_name,a_ver,a_port,a_to,a_rules,a_hosts⟩:Res) (⟨b_kind,b_name,b_ver,b_port,b_to,b_rules,b_hosts⟩:Res)))):=by
 have h:=eqFR_c 202 [] Caps.nil a_rules b_rules (fun x hx y=>alike1_c x.host x.pfx x.split y.host y.pfx y.split (hs x hx).2.2.1) hl
 refine CallR.go2 (T:=T) Tryz.call161 Tryz.func161 rfl Tryz.ntmps161 (congrArg Array.toList Tryz.results161) (by decide) fun ts hn h0 h1=>?_
 (repeat' (first
 | (with_reducible first|refine callX.by (h) ?_|refine callX.by (alike1_c _ _ _ _ _ _ ?_) ?_|refine callX.by (rkey_c _ _ _ _ _ _ _) ?_|refine callX.by (eqI_c _ _ ?_) ?_|refine callX.by (eqFR_c _ _ ?_ _ _ ?_ ?_) ?_|assumption|(refine Qw hK _ ?_; clear hK K)|refine Qw ‹_› _ ?_|refine Qx ‹_› ?_|refine Qi fun K hK=>?_|refine Qj T fun K hK=>?_|refine Qk (id:=2) T mixed [([6],[8,11,12,13,14,15,16,17,18,19,20,21,22,23,24,25,26,27,28,29,30,31,32,33,34,35,36,37,38,39]),([7],[8,12,13,14,15,16,17,18,19,20,21,22,23,24,25,26,27,28,29,30,31,32,33,34,35,36,37,38,39]),([8],[6,7,12,13,14,15,16,17,18,19,20,21,22,23,24,25,26,27,28,29,30,31,32,33,34,35,36,37,38,39]),([9],[19,20,21,22,23,24,25,26,27,28,29,30,31,32,33,34,35,36,37,38,39]),([10],[19,20,21,22,23,24,25,26,27,28,29,30,31,32,33,34,35,36,37,38,39]),([11],[6,26,27,28,29,30,31,32,33,34,35,36,37,38,39]),([12],[6,7,8,14,15,17,18,19,20,21,22,23,24,25,26,27,28,29,30,31,32,33,34,35,36,37,38,39]),([13],[6,7,8,14,15,18,19,20,21,22,23,24,25,26,27,28,29,30,31,32,33,34,35,36,37,38,39]),([14],[6,7,8,12,13,17,18,19,20,21,22,23,24,25,26,27,28,29,30,31,32,33,34,35,36,37,38,39]),([15],[6,7,8,12,13,18,19,20,21,22,23,24,25,26,27,28,29,30,31,32,33,34,35,36,37,38,39]),([16],[6,7,8,19,20,21,22,23,24,25,26,27,28,29,30,31,32,33,34,35,36,37,38,39]),([17],[6,7,8,12,14,26,27,28,29,30,31,32,33,34,35,36,37,38,39]),([18],[6,7,8,12,13,14,15,32,33,34,35,36,37,38,39]),([19],[6,7,8,9,10,12,13,14,15,16,21,22,24,25,26,27,28,29,30,31,32,33,34,35,36,37,38,39]),([20],[6,7,8,9,10,12,13,14,15,16,21,22,25,26,27,28,29,30,31,32,33,34,35,36,37,38,39]),([21],[6,7,8,9,10,12,13,14,15,16,19,20,24,25,26,27,28,29,30,31,32,33,34,35,36,37,38,39]),([22],[6,7,8,9,10,12,13,14,15,16,19,20,25,26,27,28,29,30,31,32,33,34,35,36,37,38,39]),([23],[6,7,8,9,10,12,13,14,15,16,26,27,28,29,30,31,32,33,34,35,36,37,38,39]),([24],[6,7,8,9,10,12,13,14,15,16,19,21,32,33,34,35,36,37,38,39]),([25],[6,7,8,9,10,12,13,14,15,16,19,20,21,22,33,34,35,36,37,38,39]),([26],[6,7,8,9,10,11,12,13,14,15,16,17,19,20,21,22,23,28,29,31,32,33,34,35,36,37,38,39]),([27],[6,7,8,9,10,11,12,13,14,15,16,17,19,20,21,22,23,28,29,33,34,35,36,37,38,39]),([28],[6,7,8,9,10,11,12,13,14,15,16,17,19,20,21,22,23,26,27,31,32,33,34,35,36,37,38,39]),([29],[6,7,8,9,10,11,12,13,14,15,16,17,19,20,21,22,23,26,27,33,34,35,36,37,38,39]),([30],[6,7,8,9,10,11,12,13,14,15,16,17,19,20,21,22,23]),([31],[6,7,8,9,10,11,12,13,14,15,16,17,19,20,21,22,23,26,28]),([32],[6,7,8,9,10,11,12,13,14,15,16,17,18,19,20,21,22,23,24,26,28]),([33],[6,7,8,9,10,11,12,13,14,15,16,17,18,19,20,21,22,23,24,25,26,27,28,29,35,36,37,39]),([34],[6,7,8,9,10,11,12,13,14,15,16,17,18,19,20,21,22,23,24,25,26,27,28,29,35,36,37]),([35],[6,7,8,9,10,11,12,13,14,15,16,17,18,19,20,21,22,23,24,25,26,27,28,29,33,34,37,39]),([36],[6,7,8,9,10,11,12,13,14,15,16,17,18,19,20,21,22,23,24,25,26,27,28,29,33,34,37]),([37],[6,7,8,9,10,11,12,13,14,15,16,17,18,19,20,21,22,23,24,25,26,27,28,29,33,34,35,36]),([38],[6,7,8,9,10,11,12,13,14,15,16,17,18,19,20,21,22,23,24,25,26,27,28,29]),([39],[6,7,8,9,10,11,12,13,14,15,16,17,18,19,20,21,22,23,24,25,26,27,28,29,33,35])] (by kernel_rfl) fun K hK=>?_|refine Ql fun A B hA hB=>?_|refine Qn ?_|refine Qr ?_)
 | ((with_reducible first|apply Qy|apply Qz|apply QA)<;>intro hb<;>try simp only [nr] at hb)
 | simp only [go_sem,↓reduceIte,reduceIte,Qa,Qh,Qb,Qc,Qd,Qe,Qf,Qg,reduceCtorEq, *,-hs,-h]
 | with_reducible refine fun (bn:Bool) hbn=>?_))
 all_goals ((repeat clear hK); (repeat clear hA); (repeat clear hB))
 all_goals (clear h hs; grind [alikeP])
theorem sameP_c (a_kind:Int) (a_name:List UInt8) (a_ver:Int) (a_port:Int) (a_to:List UInt8) (a_rules:List Rule) (a_hosts:List Int) (b_kind:Int) (b_name:List UInt8) (b_ver:Int) (b_port:Int) (b_to:List UInt8) (b_rules:List Rule) (b_hosts:List Int) (hh:Small a_hosts.length) (hl:Small a_rules.length) (hs:∀ x∈a_rules,SmRule x):CallR Tryz.prog 120 [.agg [.int .i64 a_kind,.str a_name,.int .i64 a_ver,.int .i64 a_port,.str a_to,.slice false (avs a_rules),.slice false (avs a_hosts)],.agg [.int .i64 b_kind,.str b_name,.int .i64 b_ver,.int .i64 b_port,.str b_to,.slice false (avs b_rules),.slice false (avs b_hosts)]] (.val (.bool (decide ((⟨a_kind,a_name,a_ver,a_port,a_to,a_rules,a_hosts⟩:Res)=(⟨b_kind,b_name,b_ver,b_port,b_to,b_rules,b_hosts⟩:Res))))):=by
 refine CallR.go2 (T:=T) Tryz.call120 Tryz.func120 rfl Tryz.ntmps120 (congrArg Array.toList Tryz.results120) (by decide) fun ts hn h0 h1=>?_
 (repeat' (first
 | (with_reducible first|refine callX.by (alikeP_c _ _ _ _ _ _ _ _ _ _ _ _ _ _ ?_ ?_ ?_) ?_|assumption|(refine Qw hK _ ?_; clear hK K)|refine Qw ‹_› _ ?_|refine Qx ‹_› ?_|refine Qi fun K hK=>?_|refine Qj T fun K hK=>?_|refine Ql fun A B hA hB=>?_|refine Qn ?_|refine Qr ?_)
 | ((with_reducible first|apply Qy|apply Qz|apply QA)<;>intro hb<;>try simp only [nr] at hb)
 | simp only [go_sem,↓reduceIte,reduceIte,Qa,Qh,Qb,Qc,Qd,Qe,Qf,Qg,reduceCtorEq, *,-hs]
 | with_reducible refine fun (bn:Bool) hbn=>?_))
 all_goals ((repeat clear hK); (repeat clear hA); (repeat clear hB))
 all_goals (clear hs; grind [alikeP])
def keysW (l:List Weight):List Key:=(l.filter fun w=>decide (0 < w.w)).map fun w=>⟨2,w.cluster⟩
def keysR (l:List Rule):List Key:=l.flatMap fun x=>keysW x.split
def baseR (r:Res):List Key:=if r.to'=[] then [] else [⟨IntKind.i64.wrap (r.kind+1),r.to'⟩]
def refsR (r:Res):List Key:=if saneR r=0 then kcompact (ksort (baseR r++keysR r.rules')) else []
theorem keysR_cons (x:Rule) (l:List Rule):keysR (x :: l)=keysW x.split++keysR l:=rfl
theorem keysW_cons (w:Weight) (l:List Weight):keysW (w :: l)=(if 0 < w.w then [⟨2,w.cluster⟩] else [])++keysW l:=by
 unfold keysW
 by_cases h:0 < w.w<;>simp [h]
theorem sane_small {r:Res} (h:saneR r=0):smallR r=true:=by
 unfold saneR at h
 cases hs:smallR r with
 | true=>rfl
 | false =>
  rw [hs] at h
  split at h
  ·cases h
  ·split at h
   ·cases h
   ·simp at h
theorem small_bounds {r:Res} (h:smallR r=true):r.rules'.length≤8∧r.hosts.length≤8∧∀ x∈r.rules',x.split.length≤4:=by
 simp only [smallR,Bool.and_eq_true,decide_eq_true_eq,List.all_eq_true] at h
 refine ⟨h.2.2.1,h.2.2.2.1,fun x hx=>?_⟩
 have:=h.2.2.2.2.2 x hx
 simp only [smallRule,Bool.and_eq_true,decide_eq_true_eq] at this
 exact this.1
theorem keysW_len (l:List Weight):(keysW l).length≤l.length:=by
 unfold keysW
 rw [List.length_map]
 exact List.length_filter_le _ _
set_option maxHeartbeats 4000000 in
theorem refsR_c (r_kind:Int) (r_name:List UInt8) (r_ver:Int) (r_port:Int) (r_to:List UInt8) (r_rules:List Rule) (r_hosts:List Int) (hl:Small r_rules.length) (hh:Small r_hosts.length) (hs:∀ x∈r_rules,SmRule x):CallR Tryz.prog 71 [.agg [.int .i64 r_kind,.str r_name,.int .i64 r_ver,.int .i64 r_port,.str r_to,.slice false (avs r_rules),.slice false (avs r_hosts)]] (.own 2 (avs (refsR (⟨r_kind,r_name,r_ver,r_port,r_to,r_rules,r_hosts⟩:Res)))):=by
 by_cases hsn:saneR (⟨r_kind,r_name,r_ver,r_port,r_to,r_rules,r_hosts⟩:Res)=0
 rotate_left
 ·have hr:refsR (⟨r_kind,r_name,r_ver,r_port,r_to,r_rules,r_hosts⟩:Res)=[]:=if_neg hsn
  rw [hr]
  refine CallR.go1 (T:=T) Tryz.call71 Tryz.func71 rfl Tryz.ntmps71 (congrArg Array.toList Tryz.results71) (by decide) fun ts hn h0=>?_
  (repeat' (first
 | (with_reducible first|refine callX.by (saneR_c _ _ _ _ _ _ _ ?_ ?_ ?_) ?_|refine callX.by awqs ?_)
 | (with_reducible refine callX.ar ?_ ?_ (sortKey_c ?_ ?_); (focus (simp only [go_sem,↓reduceIte,reduceIte,Qa,Qh,Qb,Qc,Qd,Qe,Qf,Qg,reduceCtorEq, *,-hs]; first|done|rfl)))
 | with_reducible refine callX.by (kcmp_c _ _ _ _) ?_
 | (with_reducible refine callX.mv ?_ ?_ ?_ (compactKey_c ?_ ?_); (focus (simp only [go_sem,↓reduceIte,reduceIte,Qa,Qh,Qb,Qc,Qd,Qe,Qf,Qg,reduceCtorEq, *,-hs]; first|done|rfl)); (focus (simp only [go_sem,↓reduceIte,reduceIte,Qa,Qh,Qb,Qc,Qd,Qe,Qf,Qg,reduceCtorEq, *,-hs]; first|done|rfl)))
 | (with_reducible first|assumption|(refine Qw hK _ ?_; clear hK K)|refine Qw ‹_› _ ?_|refine Qx ‹_› ?_|refine Qi fun K hK=>?_|refine Qj T fun K hK=>?_|refine Ql fun A B hA hB=>?_|refine Qm ?_|refine Qn ?_|refine Qp ?_|refine Qr ?_)
 | ((with_reducible first|apply Qy|apply Qz|apply QA)<;>intro hb<;>try simp only [nr] at hb)
 | simp only [go_sem,↓reduceIte,reduceIte,Qa,Qh,Qb,Qc,Qd,Qe,Qf,Qg,reduceCtorEq, *,-hs]
 | with_reducible refine fun (bn:Bool) hbn=>?_))
  all_goals rfl
 obtain ⟨hb1,hb2,hb3⟩:=small_bounds (sane_small hsn)
 simp only at hb1 hb2 hb3
 have hr:refsR (⟨r_kind,r_name,r_ver,r_port,r_to,r_rules,r_hosts⟩:Res)=kcompact (ksort (baseR (⟨r_kind,r_name,r_ver,r_port,r_to,r_rules,r_hosts⟩:Res)++keysR r_rules)):=if_pos hsn
 rw [hr]
 obtain ⟨bs,hbs⟩:∃ bs,baseR (⟨r_kind,r_name,r_ver,r_port,r_to,r_rules,r_hosts⟩:Res)=bs:=⟨_,rfl⟩
 rw [hbs]
 have hbl:bs.length≤1:=by
  rw [← hbs]; unfold baseR; split<;>simp
 clear hr
 have hr0:Room 1 24:=room_big (by decide) (by decide)
 have hsk:∀ x∈r_rules,Small x.split.length:=fun x hx=>(hs x hx).2.2.1
 refine CallR.go1 (T:=T) Tryz.call71 Tryz.func71 rfl Tryz.ntmps71 (congrArg Array.toList Tryz.results71) (by decide) fun ts hn h0=>?_
 (repeat' (first
 | (with_reducible first|refine SpecC.cutAtS 6 [1] (fun ts'=>∃ (g:Nat),ts'.tmp 3=.os 3 g bs.length∧ts'.gen 3=g∧ts'.obj 3=.arr 2 (avs bs)) ?_ ?_|refine callX.by (saneR_c _ _ _ _ _ _ _ ?_ ?_ ?_) ?_|refine callX.by awqs ?_)
 | (with_reducible refine callX.ar ?_ ?_ (sortKey_c ?_ ?_); (focus (simp only [go_sem,↓reduceIte,reduceIte,Qa,Qh,Qb,Qc,Qd,Qe,Qf,Qg,reduceCtorEq, *,-hs,-hsk,-hb3]; first|done|rfl)))
 | with_reducible refine callX.by (kcmp_c _ _ _ _) ?_
 | (with_reducible refine callX.mv ?_ ?_ ?_ (compactKey_c ?_ ?_); (focus (simp only [go_sem,↓reduceIte,reduceIte,Qa,Qh,Qb,Qc,Qd,Qe,Qf,Qg,reduceCtorEq, *,-hs,-hsk,-hb3]; first|done|rfl)); (focus (simp only [go_sem,↓reduceIte,reduceIte,Qa,Qh,Qb,Qc,Qd,Qe,Qf,Qg,reduceCtorEq, *,-hs,-hsk,-hb3]; first|done|rfl)))
 | (with_reducible first|assumption|(refine Qw hK _ ?_; clear hK K)|refine Qw ‹_› _ ?_|refine Qx ‹_› ?_|refine Qi fun K hK=>?_|refine Qj T fun K hK=>?_|refine Ql fun A B hA hB=>?_|refine Qm ?_|refine Qn ?_|refine Qp ?_|refine Qr ?_)
 | ((with_reducible first|apply Qy|apply Qz|apply QA)<;>intro hb<;>try simp only [nr] at hb)
 | simp only [go_sem,↓reduceIte,reduceIte,Qa,Qh,Qb,Qc,Qd,Qe,Qf,Qg,reduceCtorEq, *,-hs,-hsk,-hb3]
 | with_reducible refine fun (bn:Bool) hbn=>?_))
 ·have e:bs=[⟨IntKind.i64.wrap (r_kind+1),r_to⟩]:=by rw [← hbs]; unfold baseR; rw [if_neg (of_decide_eq_false hb)]
  subst e
  have ea:avs [(⟨IntKind.i64.wrap (r_kind+1),r_to⟩:Key)]=[AV.agg [AV.int IntKind.i64 (IntKind.i64.wrap (r_kind+1)),AV.str r_to]]:=rfl
  (repeat clear hK); (repeat clear hA); (repeat clear hB)
  (refine ⟨_,(Ent.ren 3 22 (by simp only [go_sem,↓reduceIte,reduceIte,Qa,Qh,Qb,Qc,Qd,Qe,Qf,Qg,reduceCtorEq, *,-hs,-hsk,-hb3]; done) (by simp only [go_sem,↓reduceIte,reduceIte,Qa,Qh,Qb,Qc,Qd,Qe,Qf,Qg,reduceCtorEq, *,-hs,-hsk,-hb3]; done)),by simp only [go_sem,↓reduceIte,reduceIte,Qa,Qh,Qb,Qc,Qd,Qe,Qf,Qg,reduceCtorEq, *,-hs,-hsk,-hb3]; done,⟨ts.gen 3+1,?_⟩⟩; simp only [go_sem,↓reduceIte,reduceIte,Qa,Qh,Qb,Qc,Qd,Qe,Qf,Qg,reduceCtorEq, *,-hs,-hsk,-hb3]; done)
 ·have e:bs=[]:=by rw [← hbs]; unfold baseR; rw [if_pos (of_decide_eq_true hb)]
  subst e
  (repeat clear hK); (repeat clear hA); (repeat clear hB)
  (refine ⟨_,(Ent.virt 3 2 (by simp only [go_sem,↓reduceIte,reduceIte,Qa,Qh,Qb,Qc,Qd,Qe,Qf,Qg,reduceCtorEq, *,-hs,-hsk,-hb3,avs_nil]; done) (by decide)),by simp only [go_sem,↓reduceIte,reduceIte,Qa,Qh,Qb,Qc,Qd,Qe,Qf,Qg,reduceCtorEq, *,-hs,-hsk,-hb3,avs_nil]; done,⟨ts.gen 3+1,?_⟩⟩; simp only [go_sem,↓reduceIte,reduceIte,Qa,Qh,Qb,Qc,Qd,Qe,Qf,Qg,reduceCtorEq, *,-hs,-hsk,-hb3,avs_nil]; done)
 ·intro ts2 hk3
  rintro ⟨g2,v1,v2,v3⟩
  simp only [go_sem,↓reduceIte,reduceIte,Qa,Qh,Qb,Qc,Qd,Qe,Qf,Qg,reduceCtorEq, *] at hk3
  (repeat' (first
 | (with_reducible first|refine callX.by (saneR_c _ _ _ _ _ _ _ ?_ ?_ ?_) ?_|refine callX.by awqs ?_)
 | (with_reducible refine callX.ar ?_ ?_ (sortKey_c ?_ ?_); (focus (simp only [go_sem,↓reduceIte,reduceIte,Qa,Qh,Qb,Qc,Qd,Qe,Qf,Qg,reduceCtorEq, *,-hs,-hsk,-hb3]; first|done|rfl)))
 | with_reducible refine callX.by (kcmp_c _ _ _ _) ?_
 | (with_reducible refine callX.mv ?_ ?_ ?_ (compactKey_c ?_ ?_); (focus (simp only [go_sem,↓reduceIte,reduceIte,Qa,Qh,Qb,Qc,Qd,Qe,Qf,Qg,reduceCtorEq, *,-hs,-hsk,-hb3]; first|done|rfl)); (focus (simp only [go_sem,↓reduceIte,reduceIte,Qa,Qh,Qb,Qc,Qd,Qe,Qf,Qg,reduceCtorEq, *,-hs,-hsk,-hb3]; first|done|rfl)))
 | (with_reducible first|assumption|(refine Qw hK _ ?_; clear hK K)|refine Qw ‹_› _ ?_|refine Qx ‹_› ?_|refine Qi fun K hK=>?_|refine Qj T fun K hK=>?_|refine Ql fun A B hA hB=>?_|refine Qm ?_|refine Qn ?_|refine Qp ?_|refine Qr ?_)
 | ((with_reducible first|apply Qy|apply Qz|apply QA)<;>intro hb<;>try simp only [nr] at hb)
 | simp only [go_sem,↓reduceIte,reduceIte,Qa,Qh,Qb,Qc,Qd,Qe,Qf,Qg,reduceCtorEq, *,-hs,-hsk,-hb3]
 | with_reducible refine fun (bn:Bool) hbn=>?_))
  refine Qs [24,25] (fun m ts'=>∃ (i:Nat),∃ (g:Nat),∃ (ys:List Key),m=r_rules.length - i∧i≤r_rules.length∧ys.length≤1+4 * i∧bs++keysR r_rules=ys++keysR (r_rules.drop i)∧ts'.tmp 3=.os 3 g ys.length∧ts'.gen 3=g∧ts'.obj 3=.arr 2 (avs ys)∧ts'.tmp 26=.int .i64 i) r_rules.length ?_ ?_
  ·refine ⟨0,g2,bs,rfl,Nat.zero_le _,by omega,rfl,?_⟩
   simp only [go_sem,↓reduceIte,reduceIte,Qa,Qh,Qb,Qc,Qd,Qe,Qf,Qg,reduceCtorEq, *,-hs,-hsk,-hb3]
  ·rintro m A hM ts' hk ⟨i,g,ys,hm,f1,f2,f3,s1,s2,s3,s4⟩
   simp only [go_sem,↓reduceIte,reduceIte,Qa,Qh,Qb,Qc,Qd,Qe,Qf,Qg,reduceCtorEq, *] at hk
   by_cases hlt:i < r_rules.length
   ·rw [List.drop_eq_getElem_cons hlt,keysR_cons] at f3
    have hx4:=hb3 _ (QC hlt)
    have hxs:=hsk _ (QC hlt)
    (repeat' (first
 | (with_reducible first|refine callX.by (saneR_c _ _ _ _ _ _ _ ?_ ?_ ?_) ?_|refine callX.by awqs ?_)
 | (with_reducible refine callX.ar ?_ ?_ (sortKey_c ?_ ?_); (focus (simp only [go_sem,↓reduceIte,reduceIte,Qa,Qh,Qb,Qc,Qd,Qe,Qf,Qg,reduceCtorEq, *,-hs,-hsk,-hb3,-f3]; first|done|rfl)))
 | with_reducible refine callX.by (kcmp_c _ _ _ _) ?_
 | (with_reducible refine callX.mv ?_ ?_ ?_ (compactKey_c ?_ ?_); (focus (simp only [go_sem,↓reduceIte,reduceIte,Qa,Qh,Qb,Qc,Qd,Qe,Qf,Qg,reduceCtorEq, *,-hs,-hsk,-hb3,-f3]; first|done|rfl)); (focus (simp only [go_sem,↓reduceIte,reduceIte,Qa,Qh,Qb,Qc,Qd,Qe,Qf,Qg,reduceCtorEq, *,-hs,-hsk,-hb3,-f3]; first|done|rfl)))
 | (with_reducible first|assumption|(refine Qw hK _ ?_; clear hK K)|refine Qw ‹_› _ ?_|refine Qx ‹_› ?_|refine Qi fun K hK=>?_|refine Qj T fun K hK=>?_|refine Ql fun A B hA hB=>?_|refine Qm ?_|refine Qn ?_|refine Qp ?_|refine Qr ?_)
 | ((with_reducible first|apply Qy|apply Qz|apply QA)<;>intro hb<;>try simp only [nr] at hb)
 | simp only [go_sem,↓reduceIte,reduceIte,Qa,Qh,Qb,Qc,Qd,Qe,Qf,Qg,reduceCtorEq, *,-hs,-hsk,-hb3,-f3]
 | with_reducible refine fun (bn:Bool) hbn=>?_))
    refine Qs [24,25,26,31,32] (fun m ts'=>∃ (j:Nat),∃ (g':Nat),∃ (zs:List Key),m=r_rules[i].split.length - j∧j≤r_rules[i].split.length∧zs.length≤1+4 * i+j∧ys++keysW r_rules[i].split=zs++keysW (r_rules[i].split.drop j)∧ts'.tmp 3=.os 3 g' zs.length∧ts'.gen 3=g'∧ts'.obj 3=.arr 2 (avs zs)∧ts'.tmp 33=.int .i64 j) r_rules[i].split.length ?_ ?_
    ·refine ⟨0,g,ys,rfl,Nat.zero_le _,by omega,rfl,?_⟩
     simp only [go_sem,↓reduceIte,reduceIte,Qa,Qh,Qb,Qc,Qd,Qe,Qf,Qg,reduceCtorEq, *,-hs,-hsk,-hb3,-f3]
    ·revert hM f3
     intro hM0 f30
     rintro m A hM ts' hk ⟨j,g',zs,hm,f1,f2,f3,s1,s2,s3,s4⟩
     simp only [go_sem,↓reduceIte,reduceIte,Qa,Qh,Qb,Qc,Qd,Qe,Qf,Qg,reduceCtorEq, *] at hk
     by_cases hjt:j < r_rules[i].split.length
     ·rw [List.drop_eq_getElem_cons hjt,keysW_cons] at f3
      have hr1:Room (zs.length+1) 24:=room_big (by omega) (by decide)
      (repeat' (first
 | (with_reducible first|refine callX.by (saneR_c _ _ _ _ _ _ _ ?_ ?_ ?_) ?_|refine callX.by awqs ?_)
 | (with_reducible refine callX.ar ?_ ?_ (sortKey_c ?_ ?_); (focus (simp only [go_sem,↓reduceIte,reduceIte,Qa,Qh,Qb,Qc,Qd,Qe,Qf,Qg,reduceCtorEq, *,-hs,-hsk,-hb3,-f3,-f30]; first|done|rfl)))
 | with_reducible refine callX.by (kcmp_c _ _ _ _) ?_
 | (with_reducible refine callX.mv ?_ ?_ ?_ (compactKey_c ?_ ?_); (focus (simp only [go_sem,↓reduceIte,reduceIte,Qa,Qh,Qb,Qc,Qd,Qe,Qf,Qg,reduceCtorEq, *,-hs,-hsk,-hb3,-f3,-f30]; first|done|rfl)); (focus (simp only [go_sem,↓reduceIte,reduceIte,Qa,Qh,Qb,Qc,Qd,Qe,Qf,Qg,reduceCtorEq, *,-hs,-hsk,-hb3,-f3,-f30]; first|done|rfl)))
 | (with_reducible first|assumption|(refine Qw hK _ ?_; clear hK K)|refine Qw ‹_› _ ?_|refine Qx ‹_› ?_|refine Qi fun K hK=>?_|refine Qj T fun K hK=>?_|refine Ql fun A B hA hB=>?_|refine Qm ?_|refine Qn ?_|refine Qp ?_|refine Qr ?_)
 | ((with_reducible first|apply Qy|apply Qz|apply QA)<;>intro hb<;>try simp only [nr] at hb)
 | simp only [go_sem,↓reduceIte,reduceIte,Qa,Qh,Qb,Qc,Qd,Qe,Qf,Qg,reduceCtorEq, *,-hs,-hsk,-hb3,-f3,-f30]
 | with_reducible refine fun (bn:Bool) hbn=>?_))
      all_goals ((repeat clear hK); (repeat clear hA); (repeat clear hB))
      ·(refine hM.onE (r_rules[i].split.length - (j+1)) (Ent.ren 3 45 ?_ ?_) ?_ ?_ ?_; (focus (simp only [go_sem,↓reduceIte,reduceIte,Qa,Qh,Qb,Qc,Qd,Qe,Qf,Qg,reduceCtorEq, *,w64_nat hjt hxs,List.length_append,-f3,-f30,-hM0]; first|done|rfl)); (focus (simp only [go_sem,↓reduceIte,reduceIte,Qa,Qh,Qb,Qc,Qd,Qe,Qf,Qg,reduceCtorEq, *,w64_nat hjt hxs,List.length_append,-f3,-f30,-hM0]; first|done|rfl)); omega; (focus (simp only [go_sem,↓reduceIte,reduceIte,Qa,Qh,Qb,Qc,Qd,Qe,Qf,Qg,reduceCtorEq, *,w64_nat hjt hxs,List.length_append,-f3,-f30,-hM0]; done)); refine ⟨j+1,g'+1,zs++[⟨2,r_rules[i].split[j].cluster⟩],rfl,by omega,by simp; omega,by rw [f3,if_pos hb,List.append_assoc],?_⟩; simp only [go_sem,↓reduceIte,reduceIte,Qa,Qh,Qb,Qc,Qd,Qe,Qf,Qg,reduceCtorEq, *,w64_nat hjt hxs,List.length_append,-f3,-f30,-hM0]; done)
      ·rw [if_neg (by omega),List.nil_append] at f3
       (refine hM.on (r_rules[i].split.length - (j+1)) (by omega) (by simp only [go_sem,↓reduceIte,reduceIte,Qa,Qh,Qb,Qc,Qd,Qe,Qf,Qg,reduceCtorEq, *,w64_nat hjt hxs,-f3,-f30,-hM0]) ⟨j+1,g',zs,rfl,by omega,by omega,f3,?_⟩; simp only [go_sem,↓reduceIte,reduceIte,Qa,Qh,Qb,Qc,Qd,Qe,Qf,Qg,reduceCtorEq, *,w64_nat hjt hxs,-f3,-f30,-hM0]; done)
     ·rw [List.drop_eq_nil_of_le (by omega)] at f3
      (repeat' (first
 | (with_reducible first|refine callX.by (saneR_c _ _ _ _ _ _ _ ?_ ?_ ?_) ?_|refine callX.by awqs ?_)
 | (with_reducible refine callX.ar ?_ ?_ (sortKey_c ?_ ?_); (focus (simp only [go_sem,↓reduceIte,reduceIte,Qa,Qh,Qb,Qc,Qd,Qe,Qf,Qg,reduceCtorEq, *,-hs,-hsk,-hb3,-f3,-f30]; first|done|rfl)))
 | with_reducible refine callX.by (kcmp_c _ _ _ _) ?_
 | (with_reducible refine callX.mv ?_ ?_ ?_ (compactKey_c ?_ ?_); (focus (simp only [go_sem,↓reduceIte,reduceIte,Qa,Qh,Qb,Qc,Qd,Qe,Qf,Qg,reduceCtorEq, *,-hs,-hsk,-hb3,-f3,-f30]; first|done|rfl)); (focus (simp only [go_sem,↓reduceIte,reduceIte,Qa,Qh,Qb,Qc,Qd,Qe,Qf,Qg,reduceCtorEq, *,-hs,-hsk,-hb3,-f3,-f30]; first|done|rfl)))
 | (with_reducible first|assumption|(refine Qw hK _ ?_; clear hK K)|refine Qw ‹_› _ ?_|refine Qx ‹_› ?_|refine Qi fun K hK=>?_|refine Qj T fun K hK=>?_|refine Ql fun A B hA hB=>?_|refine Qm ?_|refine Qn ?_|refine Qp ?_|refine Qr ?_)
 | ((with_reducible first|apply Qy|apply Qz|apply QA)<;>intro hb<;>try simp only [nr] at hb)
 | simp only [go_sem,↓reduceIte,reduceIte,Qa,Qh,Qb,Qc,Qd,Qe,Qf,Qg,reduceCtorEq, *,-hs,-hsk,-hb3,-f3,-f30]
 | with_reducible refine fun (bn:Bool) hbn=>?_))
      all_goals ((repeat clear hK); (repeat clear hA); (repeat clear hB))
      all_goals (clear hM; revert hM0; intro hM)
      (refine hM.on (r_rules.length - (i+1)) (by omega) (by simp only [go_sem,↓reduceIte,reduceIte,Qa,Qh,Qb,Qc,Qd,Qe,Qf,Qg,reduceCtorEq, *,w64_nat hlt hl,-f3,-f30,-hs,-hsk,-hb3]) ⟨i+1,g',zs,rfl,by omega,by omega,by rw [f30,← List.append_assoc,f3]; simp [keysW],?_⟩; simp only [go_sem,↓reduceIte,reduceIte,Qa,Qh,Qb,Qc,Qd,Qe,Qf,Qg,reduceCtorEq, *,w64_nat hlt hl,-f3,-f30,-hs,-hsk,-hb3]; done)
   ·rw [List.drop_eq_nil_of_le (by omega)] at f3
    have e:ys=bs++keysR r_rules:=by rw [f3]; simp [keysR]
    subst e
    clear f3
    have hk1:=ksort_length (bs++keysR r_rules)
    have htk:(ksort (bs++keysR r_rules)).take (bs++keysR r_rules).length=ksort (bs++keysR r_rules):=List.take_of_length_le (by omega)
    have htk2:(ksort (bs++keysR r_rules)).take (bs.length+(keysR r_rules).length)=ksort (bs++keysR r_rules):=List.take_of_length_le (by rw [hk1,List.length_append]; exact Nat.le_refl _)
    have hsm1:Small (bs++keysR r_rules).length:=by unfold Small; omega
    have hsm2:Small (ksort (bs++keysR r_rules)).length:=by rw [hk1]; exact hsm1
    (repeat' (first
 | (with_reducible first|refine callX.by (saneR_c _ _ _ _ _ _ _ ?_ ?_ ?_) ?_|refine callX.by awqs ?_)
 | (with_reducible refine callX.ar ?_ ?_ (sortKey_c ?_ ?_); (focus (simp only [go_sem,↓reduceIte,reduceIte,Qa,Qh,Qb,Qc,Qd,Qe,Qf,Qg,reduceCtorEq, *,Nat.le_refl,-hs,-hsk,-hb3]; first|done|rfl)))
 | with_reducible refine callX.by (kcmp_c _ _ _ _) ?_
 | (with_reducible refine callX.mv ?_ ?_ ?_ (compactKey_c ?_ ?_); (focus (simp only [go_sem,↓reduceIte,reduceIte,Qa,Qh,Qb,Qc,Qd,Qe,Qf,Qg,reduceCtorEq, *,Nat.le_refl,-hs,-hsk,-hb3]; first|done|rfl)); (focus (simp only [go_sem,↓reduceIte,reduceIte,Qa,Qh,Qb,Qc,Qd,Qe,Qf,Qg,reduceCtorEq, *,Nat.le_refl,-hs,-hsk,-hb3]; first|done|rfl)))
 | (with_reducible first|assumption|(refine Qw hK _ ?_; clear hK K)|refine Qw ‹_› _ ?_|refine Qx ‹_› ?_|refine Qi fun K hK=>?_|refine Qj T fun K hK=>?_|refine Ql fun A B hA hB=>?_|refine Qm ?_|refine Qn ?_|refine Qp ?_|refine Qr ?_)
 | ((with_reducible first|apply Qy|apply Qz|apply QA)<;>intro hb<;>try simp only [nr] at hb)
 | simp only [go_sem,↓reduceIte,reduceIte,Qa,Qh,Qb,Qc,Qd,Qe,Qf,Qg,reduceCtorEq, *,Nat.le_refl,-hs,-hsk,-hb3]
 | with_reducible refine fun (bn:Bool) hbn=>?_))
    all_goals ((repeat clear hK); (repeat clear hA); (repeat clear hB))
    all_goals rfl
end Go.Proofs.YtmjkjmoeicnbnaaGreatDoor.Lg
