/- Parts of the proof, one behind the other. -/
import Derived.Test.YtmjkjmoeicnbnaaGreatDoorG21
namespace Go.Proofs.YtmjkjmoeicnbnaaGreatDoor.Lg
set_option maxRecDepth 100000
set_option linter.unusedVariables false
set_option linter.unusedSimpArgs false
open Go
open Nat renaming reduceEqDiff → Qa, reduceLT → Qb, reduceLeDiff → Qc, reduceAdd → Qd, reduceMul → Qe, reduceSub → Qf, reduceBEq → Qg
open String renaming reduceEq → Qh
open SpecC renaming seqW → Qi, regW → Qj, condW → Ql, block → Qm, skip → Qn, exit → Qp, ret → Qr, loopF → Qs
open NxK renaming out → Qw
open Nx renaming out → Qx
open condK renaming split → Qy
open gK renaming split_t → Qz, split_f → QA
def restK (l:List Res) (out:List Key) (r:Res) (j:Nat):List Key:=if keyOf r∈out then ((refsR r).drop j).foldl (addK l) out else out
theorem restK_in {l:List Res} {p:List Key} {r:Res} {j:Nat} (h:keyOf r∈p) (hj:j < (refsR r).length):restK l p r j=restK l (addK l p (refsR r)[j]) r (j+1):=by
 unfold restK
 rw [if_pos h,if_pos (addK_sub l p _ h),List.drop_eq_getElem_cons hj,List.foldl_cons]
theorem restK_end {l:List Res} {p:List Key} {r:Res} {j:Nat} (hj:(refsR r).length≤j):restK l p r j=p:=by
 unfold restK
 rw [List.drop_eq_nil_of_le hj]
 split<;>rfl
theorem restK_out {l:List Res} {p:List Key} {r:Res} {j:Nat} (h:¬ keyOf r∈p):restK l p r j=p:=by
 unfold restK
 rw [if_neg h]
theorem kind0_cons (x:Res) (l:List Res):kind0K (x :: l)=if x.kind=0 then keyOf x :: kind0K l else kind0K l:=by
 unfold kind0K
 rw [List.filter_cons]
 by_cases h:x.kind=0<;>simp [h]
set_option maxHeartbeats 8000000 in
theorem reached06_c (xs:List Res) (hl:xs.length≤65536) (hs:∀ r∈xs,SmRes r):CallR Tryz.prog 85 [.slice false (avs xs)] (.own 2 (avs (reached06 xs))):=by
 have hsl:=small_le hl
 refine CallR.go1 (T:=T) Tryz.call85 Tryz.func85 rfl Tryz.ntmps85 (congrArg Array.toList Tryz.results85) (by decide) fun ts hn h0=>?_
 (repeat' (first
 | (with_reducible first|refine callX.by (rkey3_c _ _ _ _ _ _ _) ?_|refine callX.by (refs03_c _ _ _ _ _ _ _ ?_ ?_ ?_ ?_) ?_|refine callX.by (has6_c _ _ _ ?_) ?_|refine callX.by (there_c _ _ _ ?_) ?_|assumption|(refine Qw hK _ ?_; clear hK K)|refine Qw ‹_› _ ?_|refine Qx ‹_› ?_|refine Qi fun K hK=>?_|refine Qj T fun K hK=>?_|refine Ql fun A B hA hB=>?_|refine Qm ?_|refine Qn ?_|refine Qp ?_|refine Qr ?_)
 | ((with_reducible first|apply Qy|apply Qz|apply QA)<;>intro hb<;>try simp only [nr] at hb)
 | simp only [go_sem,↓reduceIte,reduceIte,Qa,Qh,Qb,Qc,Qd,Qe,Qf,Qg,reduceCtorEq, *,-hs]
 | with_reducible refine fun (bn:Bool) hbn=>?_))
 refine SpecC.ent (Ent.virt 3 2 (by simp only [go_sem,↓reduceIte,reduceIte,Qa,Qh,Qb,Qc,Qd,Qe,Qf,Qg,reduceCtorEq, *,-hs]) (by decide)) ?_
 refine Qs [0] (fun m ts'=>∃ (i:Nat),∃ (g:Nat),∃ (ys:List Key),m=xs.length - i∧i≤xs.length∧ys.length≤i∧kind0K xs=ys++kind0K (xs.drop i)∧ts'.tmp 3=.os 3 g ys.length∧ts'.gen 3=g∧ts'.obj 3=.arr 2 (avs ys)∧ts'.tmp 4=.int .i64 i) xs.length ?_ ?_
 ·refine ⟨0,ts.gen 3+1,[],rfl,Nat.zero_le _,Nat.le_refl _,rfl,?_⟩
  simp only [go_sem,↓reduceIte,reduceIte,Qa,Qh,Qb,Qc,Qd,Qe,Qf,Qg,reduceCtorEq, *,-hs,avs_nil]
 ·rintro m A hM ts' hk ⟨i,g,ys,hm,f1,f2,f3,s1,s2,s3,s4⟩
  simp only [go_sem,↓reduceIte,reduceIte,Qa,Qh,Qb,Qc,Qd,Qe,Qf,Qg,reduceCtorEq, *] at hk
  by_cases hlt:i < xs.length
  ·rw [List.drop_eq_getElem_cons hlt,kind0_cons] at f3
   have hr:Room (ys.length+1) 24:=room_small (by omega) (by decide)
   by_cases hc:xs[i].kind=0
   ·rw [if_pos hc] at f3
    (repeat' (first
 | (with_reducible first|refine callX.by (rkey3_c _ _ _ _ _ _ _) ?_|refine callX.by (refs03_c _ _ _ _ _ _ _ ?_ ?_ ?_ ?_) ?_|refine callX.by (has6_c _ _ _ ?_) ?_|refine callX.by (there_c _ _ _ ?_) ?_|assumption|(refine Qw hK _ ?_; clear hK K)|refine Qw ‹_› _ ?_|refine Qx ‹_› ?_|refine Qi fun K hK=>?_|refine Qj T fun K hK=>?_|refine Ql fun A B hA hB=>?_|refine Qm ?_|refine Qn ?_|refine Qp ?_|refine Qr ?_)
 | ((with_reducible first|apply Qy|apply Qz|apply QA)<;>intro hb<;>try simp only [nr] at hb)
 | simp only [go_sem,↓reduceIte,reduceIte,Qa,Qh,Qb,Qc,Qd,Qe,Qf,Qg,reduceCtorEq, *,-hs,-f3]
 | with_reducible refine fun (bn:Bool) hbn=>?_))
    all_goals ((repeat clear hK); (repeat clear hA); (repeat clear hB))
    all_goals (refine hM.onE (xs.length - (i+1)) (Ent.ren 3 28 ?_ ?_) ?_ ?_ ?_; (focus (simp only [go_sem,↓reduceIte,reduceIte,Qa,Qh,Qb,Qc,Qd,Qe,Qf,Qg,reduceCtorEq, *,w64_nat hlt hsl,List.length_append,keyOf,-hs,-f3]; first|done|rfl)); (focus (simp only [go_sem,↓reduceIte,reduceIte,Qa,Qh,Qb,Qc,Qd,Qe,Qf,Qg,reduceCtorEq, *,w64_nat hlt hsl,List.length_append,keyOf,-hs,-f3]; first|done|rfl)); omega; (focus (simp only [go_sem,↓reduceIte,reduceIte,Qa,Qh,Qb,Qc,Qd,Qe,Qf,Qg,reduceCtorEq, *,w64_nat hlt hsl,List.length_append,keyOf,-hs,-f3]; done)); refine ⟨i+1,ts'.gen 3+1,ys++[keyOf xs[i]],rfl,by omega,by simp; omega,by rw [f3,List.append_assoc]; rfl,?_⟩; simp only [go_sem,↓reduceIte,reduceIte,Qa,Qh,Qb,Qc,Qd,Qe,Qf,Qg,reduceCtorEq, *,w64_nat hlt hsl,List.length_append,keyOf,-hs,-f3]; done)
   ·rw [if_neg hc] at f3
    (repeat' (first
 | (with_reducible first|refine callX.by (rkey3_c _ _ _ _ _ _ _) ?_|refine callX.by (refs03_c _ _ _ _ _ _ _ ?_ ?_ ?_ ?_) ?_|refine callX.by (has6_c _ _ _ ?_) ?_|refine callX.by (there_c _ _ _ ?_) ?_|assumption|(refine Qw hK _ ?_; clear hK K)|refine Qw ‹_› _ ?_|refine Qx ‹_› ?_|refine Qi fun K hK=>?_|refine Qj T fun K hK=>?_|refine Ql fun A B hA hB=>?_|refine Qm ?_|refine Qn ?_|refine Qp ?_|refine Qr ?_)
 | ((with_reducible first|apply Qy|apply Qz|apply QA)<;>intro hb<;>try simp only [nr] at hb)
 | simp only [go_sem,↓reduceIte,reduceIte,Qa,Qh,Qb,Qc,Qd,Qe,Qf,Qg,reduceCtorEq, *,-hs,-f3]
 | with_reducible refine fun (bn:Bool) hbn=>?_))
    all_goals ((repeat clear hK); (repeat clear hA); (repeat clear hB))
    all_goals (refine hM.on (xs.length - (i+1)) (by omega) (by simp only [go_sem,↓reduceIte,reduceIte,Qa,Qh,Qb,Qc,Qd,Qe,Qf,Qg,reduceCtorEq, *,w64_nat hlt hsl,-hs,-f3]) ⟨i+1,g,ys,rfl,by omega,by omega,f3,?_⟩; simp only [go_sem,↓reduceIte,reduceIte,Qa,Qh,Qb,Qc,Qd,Qe,Qf,Qg,reduceCtorEq, *,w64_nat hlt hsl,-hs,-f3]; done)
  ·rw [List.drop_eq_nil_of_le (by omega)] at f3
   have e0:kind0K xs=ys:=by rw [f3]; simp [kind0K]
   clear f3 hM hm
   (repeat' (first
 | (with_reducible first|refine callX.by (rkey3_c _ _ _ _ _ _ _) ?_|refine callX.by (refs03_c _ _ _ _ _ _ _ ?_ ?_ ?_ ?_) ?_|refine callX.by (has6_c _ _ _ ?_) ?_|refine callX.by (there_c _ _ _ ?_) ?_|assumption|(refine Qw hK _ ?_; clear hK K)|refine Qw ‹_› _ ?_|refine Qx ‹_› ?_|refine Qi fun K hK=>?_|refine Qj T fun K hK=>?_|refine Ql fun A B hA hB=>?_|refine Qm ?_|refine Qn ?_|refine Qp ?_|refine Qr ?_)
 | ((with_reducible first|apply Qy|apply Qz|apply QA)<;>intro hb<;>try simp only [nr] at hb)
 | simp only [go_sem,↓reduceIte,reduceIte,Qa,Qh,Qb,Qc,Qd,Qe,Qf,Qg,reduceCtorEq, *,-hs,-e0]
 | with_reducible refine fun (bn:Bool) hbn=>?_))
   refine Qs [0] (fun m ts'=>∃ (n:Nat),∃ (g:Nat),∃ (out:List Key),m=4 - n∧n≤4∧out.length≤xs.length+33 * (n * xs.length)∧roundsK xs (4 - n) out=reached06 xs∧ts'.tmp 3=.os 3 g out.length∧ts'.gen 3=g∧ts'.obj 3=.arr 2 (avs out)∧ts'.tmp 5=.int .i64 n) 4 ?_ ?_
   ·refine ⟨0,g,ys,rfl,by omega,by omega,by rw [← e0]; rfl,?_⟩
    simp only [go_sem,↓reduceIte,reduceIte,Qa,Qh,Qb,Qc,Qd,Qe,Qf,Qg,reduceCtorEq, *,-hs,-e0]
   ·clear e0
    rintro m A hM ts' hk ⟨n,g,out,hm,f1,f2,f3,s1,s2,s3,s4⟩
    simp only [go_sem,↓reduceIte,reduceIte,Qa,Qh,Qb,Qc,Qd,Qe,Qf,Qg,reduceCtorEq, *] at hk
    have hMn:=hM
    have hmn:=hm
    by_cases hn4:n < 4
    ·have hn4':(n:Int) < 4:=by omega
     have h4s:Small 4:=by unfold Small; omega
     have e1:roundsK xs (4 - (n+1)) (roundK xs out)=reached06 xs:=by
      rw [← f3,show 4 - n=4 - (n+1)+1 by omega]; rfl
     clear f3 hM hm
     (repeat' (first
 | (with_reducible first|refine callX.by (rkey3_c _ _ _ _ _ _ _) ?_|refine callX.by (refs03_c _ _ _ _ _ _ _ ?_ ?_ ?_ ?_) ?_|refine callX.by (has6_c _ _ _ ?_) ?_|refine callX.by (there_c _ _ _ ?_) ?_|assumption|(refine Qw hK _ ?_; clear hK K)|refine Qw ‹_› _ ?_|refine Qx ‹_› ?_|refine Qi fun K hK=>?_|refine Qj T fun K hK=>?_|refine Ql fun A B hA hB=>?_|refine Qm ?_|refine Qn ?_|refine Qp ?_|refine Qr ?_)
 | ((with_reducible first|apply Qy|apply Qz|apply QA)<;>intro hb<;>try simp only [nr] at hb)
 | simp only [go_sem,↓reduceIte,reduceIte,Qa,Qh,Qb,Qc,Qd,Qe,Qf,Qg,reduceCtorEq, *,-hs,-e1,-hMn]
 | with_reducible refine fun (bn:Bool) hbn=>?_))
     refine Qs [0,5] (fun m ts'=>∃ (i:Nat),∃ (g:Nat),∃ (o:List Key),m=xs.length - i∧i≤xs.length∧o.length≤out.length+33 * i∧(xs.drop i).foldl (stepK xs) o=roundK xs out∧ts'.tmp 3=.os 3 g o.length∧ts'.gen 3=g∧ts'.obj 3=.arr 2 (avs o)∧ts'.tmp 6=.int .i64 i) xs.length ?_ ?_
     ·refine ⟨0,g,out,rfl,Nat.zero_le _,by omega,rfl,?_⟩
      simp only [go_sem,↓reduceIte,reduceIte,Qa,Qh,Qb,Qc,Qd,Qe,Qf,Qg,reduceCtorEq, *,-hs,-e1,-hMn]
     ·rintro m A hM ts' hk ⟨i,g,o,hm,f1,f2,f3,s1,s2,s3,s4⟩
      simp only [go_sem,↓reduceIte,reduceIte,Qa,Qh,Qb,Qc,Qd,Qe,Qf,Qg,reduceCtorEq, *] at hk
      have hMi:=hM
      have hmi:=hm
      by_cases hlt:i < xs.length
      ·rw [List.drop_eq_getElem_cons hlt,List.foldl_cons] at f3
       have hx:=hs _ (List.getElem_mem hlt)
       have w1:=refs03_c xs[i].kind xs[i].name xs[i].ver xs[i].port xs[i].to' xs[i].rules' xs[i].hosts hx.2.2.1 hx.2.2.2.2 hx.2.2.2.1 hx.2.1
       have w1:CallR Tryz.prog 75 [.agg [.int .i64 xs[i].kind,.str xs[i].name,.int .i64 xs[i].ver,.int .i64 xs[i].port,.str xs[i].to',.slice false (avs xs[i].rules'),.slice false (avs xs[i].hosts)]] (.val (.slice false (avs (refsR xs[i])))):=w1
       have hrl:=refs_len xs[i]
       have hrs:Small (refsR xs[i]).length:=by unfold Small; omega
       have hbig:n * xs.length≤4 * 65536:=Nat.mul_le_mul (by omega) hl
       have hol:out.length≤9000000:=by omega
       have hor:o.length≤12000000:=by omega
       have hrest:=f3
       have hoo:=f2
       clear hx hM hm f3
       (repeat' (first
 | (with_reducible first|refine callX.by (w1) ?_|refine callX.by (rkey3_c _ _ _ _ _ _ _) ?_|refine callX.by (refs03_c _ _ _ _ _ _ _ ?_ ?_ ?_ ?_) ?_|refine callX.by (has6_c _ _ _ ?_) ?_|refine callX.by (there_c _ _ _ ?_) ?_|assumption|(refine Qw hK _ ?_; clear hK K)|refine Qw ‹_› _ ?_|refine Qx ‹_› ?_|refine Qi fun K hK=>?_|refine Qj T fun K hK=>?_|refine Ql fun A B hA hB=>?_|refine Qm ?_|refine Qn ?_|refine Qp ?_|refine Qr ?_)
 | ((with_reducible first|apply Qy|apply Qz|apply QA)<;>intro hb<;>try simp only [nr] at hb)
 | simp only [go_sem,↓reduceIte,reduceIte,Qa,Qh,Qb,Qc,Qd,Qe,Qf,Qg,reduceCtorEq, *,-hs,-e1,-hMn,-hMi,-w1,-hrest]
 | with_reducible refine fun (bn:Bool) hbn=>?_))
       refine Qs [0,5,6,7] (fun m ts'=>∃ (j:Nat),∃ (g:Nat),∃ (p:List Key),m=(refsR xs[i]).length - j∧j≤(refsR xs[i]).length∧p.length≤o.length+j∧restK xs p xs[i] j=stepK xs o xs[i]∧(¬ keyOf xs[i]∈p→j=0)∧ts'.tmp 3=.os 3 g p.length∧ts'.gen 3=g∧ts'.obj 3=.arr 2 (avs p)∧ts'.tmp 8=.int .i64 j) (refsR xs[i]).length ?_ ?_
       ·refine ⟨0,g,o,rfl,Nat.zero_le _,Nat.le_refl _,rfl,fun _=>rfl,?_⟩
        simp only [go_sem,↓reduceIte,reduceIte,Qa,Qh,Qb,Qc,Qd,Qe,Qf,Qg,reduceCtorEq, *,-hs,-e1,-hMn,-hMi,-hrest]
       ·rintro m A hM ts' hk ⟨j,g,p,hm,f1,f2,f3,f4,s1,s2,s3,s4⟩
        simp only [go_sem,↓reduceIte,reduceIte,Qa,Qh,Qb,Qc,Qd,Qe,Qf,Qg,reduceCtorEq, *] at hk
        have w2:=has6_c p xs[i].kind xs[i].name (by unfold Small; omega)
        have w2:CallR Tryz.prog 64 [.slice false (avs p),.agg [.int .i64 xs[i].kind,.str xs[i].name]] (.val (.bool (decide (keyOf xs[i]∈p)))):=w2
        have hMj:=hM
        have fin:p=stepK xs o xs[i]→(xs.drop (i+1)).foldl (stepK xs) p=roundK xs out:=fun e=>by rw [e]; exact hrest
        by_cases hin:keyOf xs[i]∈p
        ·rw [decide_eq_true hin] at w2
         by_cases hjl:j < (refsR xs[i]).length
         ·rw [restK_in hin hjl] at f3
          have w3:=there_c xs (refsR xs[i])[j].kind (refsR xs[i])[j].name hsl
          have w3:CallR Tryz.prog 76 [.slice false (avs xs),.agg [.int .i64 (refsR xs[i])[j].kind,.str (refsR xs[i])[j].name]] (.val (.bool (tget xs (refsR xs[i])[j]).isSome)):=w3
          have w4:=has6_c p (refsR xs[i])[j].kind (refsR xs[i])[j].name (by unfold Small; omega)
          have w4:CallR Tryz.prog 64 [.slice false (avs p),.agg [.int .i64 (refsR xs[i])[j].kind,.str (refsR xs[i])[j].name]] (.val (.bool (decide ((refsR xs[i])[j]∈p)))):=w4
          have hin2:=addK_sub xs p (refsR xs[i])[j] hin
          by_cases hc:(tget xs (refsR xs[i])[j]).isSome=true∧¬ (refsR xs[i])[j]∈p
          ·have ea:addK xs p (refsR xs[i])[j]=p++[(refsR xs[i])[j]]:=by unfold addK; rw [if_pos hc]
           rw [ea] at f3 hin2
           obtain ⟨c1,c2⟩:=hc
           rw [c1] at w3
           rw [decide_eq_false c2] at w4
           have hr:Room (p.length+1) 24:=room_small (by omega) (by decide)
           clear ea fin hrest
           (repeat' (first
 | (with_reducible first|refine callX.by (w2) ?_|refine callX.by (w3) ?_|refine callX.by (w4) ?_|refine callX.by (rkey3_c _ _ _ _ _ _ _) ?_|refine callX.by (refs03_c _ _ _ _ _ _ _ ?_ ?_ ?_ ?_) ?_|refine callX.by (has6_c _ _ _ ?_) ?_|refine callX.by (there_c _ _ _ ?_) ?_|assumption|(refine Qw hK _ ?_; clear hK K)|refine Qw ‹_› _ ?_|refine Qx ‹_› ?_|refine Qi fun K hK=>?_|refine Qj T fun K hK=>?_|refine Ql fun A B hA hB=>?_|refine Qm ?_|refine Qn ?_|refine Qp ?_|refine Qr ?_)
 | ((with_reducible first|apply Qy|apply Qz|apply QA)<;>intro hb<;>try simp only [nr] at hb)
 | simp only [go_sem,↓reduceIte,reduceIte,Qa,Qh,Qb,Qc,Qd,Qe,Qf,Qg,reduceCtorEq, *,-hs,-e1,-hMn,-hMi,-hMj,-f3,-f4,-w2,-w3,-w4,-hin,-hin2,-c1,-c2]
 | with_reducible refine fun (bn:Bool) hbn=>?_))
           all_goals ((repeat clear hK); (repeat clear hA); (repeat clear hB))
           all_goals (refine hM.onE ((refsR xs[i]).length - (j+1)) (Ent.ren 3 80 ?_ ?_) ?_ ?_ ?_; (focus (simp only [go_sem,↓reduceIte,reduceIte,Qa,Qh,Qb,Qc,Qd,Qe,Qf,Qg,reduceCtorEq, *,w64_nat hjl hrs,List.length_append,-hs,-e1,-hMn,-hMi,-hMj,-f3,-f4,-w2,-w3,-w4,-hin,-hin2,-c1,-c2]; first|done|rfl)); (focus (simp only [go_sem,↓reduceIte,reduceIte,Qa,Qh,Qb,Qc,Qd,Qe,Qf,Qg,reduceCtorEq, *,w64_nat hjl hrs,List.length_append,-hs,-e1,-hMn,-hMi,-hMj,-f3,-f4,-w2,-w3,-w4,-hin,-hin2,-c1,-c2]; first|done|rfl)); omega; (focus (simp only [go_sem,↓reduceIte,reduceIte,Qa,Qh,Qb,Qc,Qd,Qe,Qf,Qg,reduceCtorEq, *,w64_nat hjl hrs,List.length_append,-hs,-e1,-hMn,-hMi,-hMj,-f3,-f4,-w2,-w3,-w4,-hin,-hin2,-c1,-c2]; done)); refine ⟨j+1,ts'.gen 3+1,p++[(refsR xs[i])[j]],rfl,by omega,by simp; omega,f3,fun h=>absurd hin2 h,?_⟩; simp only [go_sem,↓reduceIte,reduceIte,Qa,Qh,Qb,Qc,Qd,Qe,Qf,Qg,reduceCtorEq, *,w64_nat hjl hrs,List.length_append,-hs,-e1,-hMn,-hMi,-hMj,-f3,-f4,-w2,-w3,-w4,-hin,-hin2,-c1,-c2]; done)
          ·have ea:addK xs p (refsR xs[i])[j]=p:=by unfold addK; rw [if_neg hc]
           rw [ea] at f3
           clear ea fin hrest hin2
           by_cases c1:(tget xs (refsR xs[i])[j]).isSome=true
           ·have c2:(refsR xs[i])[j]∈p:=Classical.byContradiction fun h=>hc ⟨c1,h⟩
            rw [c1] at w3
            rw [decide_eq_true c2] at w4
            clear hc
            (repeat' (first
 | (with_reducible first|refine callX.by (w2) ?_|refine callX.by (w3) ?_|refine callX.by (w4) ?_|refine callX.by (rkey3_c _ _ _ _ _ _ _) ?_|refine callX.by (refs03_c _ _ _ _ _ _ _ ?_ ?_ ?_ ?_) ?_|refine callX.by (has6_c _ _ _ ?_) ?_|refine callX.by (there_c _ _ _ ?_) ?_|assumption|(refine Qw hK _ ?_; clear hK K)|refine Qw ‹_› _ ?_|refine Qx ‹_› ?_|refine Qi fun K hK=>?_|refine Qj T fun K hK=>?_|refine Ql fun A B hA hB=>?_|refine Qm ?_|refine Qn ?_|refine Qp ?_|refine Qr ?_)
 | ((with_reducible first|apply Qy|apply Qz|apply QA)<;>intro hb<;>try simp only [nr] at hb)
 | simp only [go_sem,↓reduceIte,reduceIte,Qa,Qh,Qb,Qc,Qd,Qe,Qf,Qg,reduceCtorEq, *,-hs,-e1,-hMn,-hMi,-hMj,-f3,-f4,-w2,-w3,-w4,-hin,-c1,-c2]
 | with_reducible refine fun (bn:Bool) hbn=>?_))
            all_goals ((repeat clear hK); (repeat clear hA); (repeat clear hB))
            all_goals (refine hM.on ((refsR xs[i]).length - (j+1)) (by omega) (by simp only [go_sem,↓reduceIte,reduceIte,Qa,Qh,Qb,Qc,Qd,Qe,Qf,Qg,reduceCtorEq, *,w64_nat hjl hrs,-hs,-e1,-hMn,-hMi,-hMj,-f3,-f4,-w2,-w3,-w4,-hin,-c1,-c2]) ⟨j+1,g,p,rfl,by omega,by omega,f3,fun h=>absurd hin h,?_⟩; simp only [go_sem,↓reduceIte,reduceIte,Qa,Qh,Qb,Qc,Qd,Qe,Qf,Qg,reduceCtorEq, *,w64_nat hjl hrs,-hs,-e1,-hMn,-hMi,-hMj,-f3,-f4,-w2,-w3,-w4,-hin,-c1,-c2]; done)
           ·have c1':(tget xs (refsR xs[i])[j]).isSome=false:=by simpa using c1
            rw [c1'] at w3
            clear hc c1 c1'
            (repeat' (first
 | (with_reducible first|refine callX.by (w2) ?_|refine callX.by (w3) ?_|refine callX.by (w4) ?_|refine callX.by (rkey3_c _ _ _ _ _ _ _) ?_|refine callX.by (refs03_c _ _ _ _ _ _ _ ?_ ?_ ?_ ?_) ?_|refine callX.by (has6_c _ _ _ ?_) ?_|refine callX.by (there_c _ _ _ ?_) ?_|assumption|(refine Qw hK _ ?_; clear hK K)|refine Qw ‹_› _ ?_|refine Qx ‹_› ?_|refine Qi fun K hK=>?_|refine Qj T fun K hK=>?_|refine Ql fun A B hA hB=>?_|refine Qm ?_|refine Qn ?_|refine Qp ?_|refine Qr ?_)
 | ((with_reducible first|apply Qy|apply Qz|apply QA)<;>intro hb<;>try simp only [nr] at hb)
 | simp only [go_sem,↓reduceIte,reduceIte,Qa,Qh,Qb,Qc,Qd,Qe,Qf,Qg,reduceCtorEq, *,-hs,-e1,-hMn,-hMi,-hMj,-f3,-f4,-w2,-w3,-w4,-hin]
 | with_reducible refine fun (bn:Bool) hbn=>?_))
            all_goals ((repeat clear hK); (repeat clear hA); (repeat clear hB))
            all_goals (refine hM.on ((refsR xs[i]).length - (j+1)) (by omega) (by simp only [go_sem,↓reduceIte,reduceIte,Qa,Qh,Qb,Qc,Qd,Qe,Qf,Qg,reduceCtorEq, *,w64_nat hjl hrs,-hs,-e1,-hMn,-hMi,-hMj,-f3,-f4,-w2,-w3,-w4,-hin]) ⟨j+1,g,p,rfl,by omega,by omega,f3,fun h=>absurd hin h,?_⟩; simp only [go_sem,↓reduceIte,reduceIte,Qa,Qh,Qb,Qc,Qd,Qe,Qf,Qg,reduceCtorEq, *,w64_nat hjl hrs,-hs,-e1,-hMn,-hMi,-hMj,-f3,-f4,-w2,-w3,-w4,-hin]; done)
         ·rw [restK_end (by omega)] at f3
          have hfin:=fin f3
          clear fin hrest f3 f4
          (repeat' (first
 | (with_reducible first|refine callX.by (w2) ?_|refine callX.by (rkey3_c _ _ _ _ _ _ _) ?_|refine callX.by (refs03_c _ _ _ _ _ _ _ ?_ ?_ ?_ ?_) ?_|refine callX.by (has6_c _ _ _ ?_) ?_|refine callX.by (there_c _ _ _ ?_) ?_|assumption|(refine Qw hK _ ?_; clear hK K)|refine Qw ‹_› _ ?_|refine Qx ‹_› ?_|refine Qi fun K hK=>?_|refine Qj T fun K hK=>?_|refine Ql fun A B hA hB=>?_|refine Qm ?_|refine Qn ?_|refine Qp ?_|refine Qr ?_)
 | ((with_reducible first|apply Qy|apply Qz|apply QA)<;>intro hb<;>try simp only [nr] at hb)
 | simp only [go_sem,↓reduceIte,reduceIte,Qa,Qh,Qb,Qc,Qd,Qe,Qf,Qg,reduceCtorEq, *,-hs,-e1,-hMn,-hMi,-hMj,-w2,-hin,-hfin]
 | with_reducible refine fun (bn:Bool) hbn=>?_))
          all_goals ((repeat clear hK); (repeat clear hA); (repeat clear hB))
          all_goals (clear hM; have hM:=hMi; (refine hM.on (xs.length - (i+1)) (by omega) (by simp only [go_sem,↓reduceIte,reduceIte,Qa,Qh,Qb,Qc,Qd,Qe,Qf,Qg,reduceCtorEq, *,w64_nat hlt hsl,-hs,-e1,-hMn,-hMi,-hMj,-w2,-hin,-hfin]) ⟨i+1,g,p,rfl,by omega,by omega,hfin,?_⟩; simp only [go_sem,↓reduceIte,reduceIte,Qa,Qh,Qb,Qc,Qd,Qe,Qf,Qg,reduceCtorEq, *,w64_nat hlt hsl,-hs,-e1,-hMn,-hMi,-hMj,-w2,-hin,-hfin]; done))
        ·rw [decide_eq_false hin] at w2
         have hj0:=f4 hin
         subst hj0
         rw [restK_out hin] at f3
         have hfin:=fin f3
         clear fin hrest f3 f4
         (repeat' (first
 | (with_reducible first|refine callX.by (w2) ?_|refine callX.by (rkey3_c _ _ _ _ _ _ _) ?_|refine callX.by (refs03_c _ _ _ _ _ _ _ ?_ ?_ ?_ ?_) ?_|refine callX.by (has6_c _ _ _ ?_) ?_|refine callX.by (there_c _ _ _ ?_) ?_|assumption|(refine Qw hK _ ?_; clear hK K)|refine Qw ‹_› _ ?_|refine Qx ‹_› ?_|refine Qi fun K hK=>?_|refine Qj T fun K hK=>?_|refine Ql fun A B hA hB=>?_|refine Qm ?_|refine Qn ?_|refine Qp ?_|refine Qr ?_)
 | ((with_reducible first|apply Qy|apply Qz|apply QA)<;>intro hb<;>try simp only [nr] at hb)
 | simp only [go_sem,↓reduceIte,reduceIte,Qa,Qh,Qb,Qc,Qd,Qe,Qf,Qg,reduceCtorEq, *,-hs,-e1,-hMn,-hMi,-hMj,-w2,-hin,-hfin]
 | with_reducible refine fun (bn:Bool) hbn=>?_))
         all_goals ((repeat clear hK); (repeat clear hA); (repeat clear hB))
         all_goals (clear hM; have hM:=hMi; (refine hM.on (xs.length - (i+1)) (by omega) (by simp only [go_sem,↓reduceIte,reduceIte,Qa,Qh,Qb,Qc,Qd,Qe,Qf,Qg,reduceCtorEq, *,w64_nat hlt hsl,-hs,-e1,-hMn,-hMi,-hMj,-w2,-hin,-hfin]) ⟨i+1,g,p,rfl,by omega,by omega,hfin,?_⟩; simp only [go_sem,↓reduceIte,reduceIte,Qa,Qh,Qb,Qc,Qd,Qe,Qf,Qg,reduceCtorEq, *,w64_nat hlt hsl,-hs,-e1,-hMn,-hMi,-hMj,-w2,-hin,-hfin]; done))
      ·rw [List.drop_eq_nil_of_le (by omega),List.foldl_nil] at f3
       have hi:i=xs.length:=by omega
       subst hi
       rw [← f3] at e1
       have hmul:(n+1) * xs.length=n * xs.length+xs.length:=by rw [Nat.add_mul,Nat.one_mul]
       clear f3
       (repeat' (first
 | (with_reducible first|refine callX.by (rkey3_c _ _ _ _ _ _ _) ?_|refine callX.by (refs03_c _ _ _ _ _ _ _ ?_ ?_ ?_ ?_) ?_|refine callX.by (has6_c _ _ _ ?_) ?_|refine callX.by (there_c _ _ _ ?_) ?_|assumption|(refine Qw hK _ ?_; clear hK K)|refine Qw ‹_› _ ?_|refine Qx ‹_› ?_|refine Qi fun K hK=>?_|refine Qj T fun K hK=>?_|refine Ql fun A B hA hB=>?_|refine Qm ?_|refine Qn ?_|refine Qp ?_|refine Qr ?_)
 | ((with_reducible first|apply Qy|apply Qz|apply QA)<;>intro hb<;>try simp only [nr] at hb)
 | simp only [go_sem,↓reduceIte,reduceIte,Qa,Qh,Qb,Qc,Qd,Qe,Qf,Qg,reduceCtorEq, *,-hs,-e1,-hMn,-hMi]
 | with_reducible refine fun (bn:Bool) hbn=>?_))
       all_goals ((repeat clear hK); (repeat clear hA); (repeat clear hB))
       all_goals (clear hM; have hM:=hMn; (refine hM.on (4 - (n+1)) (by omega) (by simp only [go_sem,↓reduceIte,reduceIte,Qa,Qh,Qb,Qc,Qd,Qe,Qf,Qg,reduceCtorEq, *,w64_nat hn4 h4s,-hs,-e1,-hMn,-hMi,-hmul]) ⟨n+1,g,o,rfl,by omega,by rw [hmul]; omega,e1,?_⟩; simp only [go_sem,↓reduceIte,reduceIte,Qa,Qh,Qb,Qc,Qd,Qe,Qf,Qg,reduceCtorEq, *,w64_nat hn4 h4s,-hs,-e1,-hMn,-hMi,-hmul]; done))
    ·have hn:n=4:=by omega
     subst hn
     have e1:reached06 xs=out:=by rw [← f3]; rfl
     rw [e1]
     (repeat' (first
 | (with_reducible first|refine callX.by (rkey3_c _ _ _ _ _ _ _) ?_|refine callX.by (refs03_c _ _ _ _ _ _ _ ?_ ?_ ?_ ?_) ?_|refine callX.by (has6_c _ _ _ ?_) ?_|refine callX.by (there_c _ _ _ ?_) ?_|assumption|(refine Qw hK _ ?_; clear hK K)|refine Qw ‹_› _ ?_|refine Qx ‹_› ?_|refine Qi fun K hK=>?_|refine Qj T fun K hK=>?_|refine Ql fun A B hA hB=>?_|refine Qm ?_|refine Qn ?_|refine Qp ?_|refine Qr ?_)
 | ((with_reducible first|apply Qy|apply Qz|apply QA)<;>intro hb<;>try simp only [nr] at hb)
 | simp only [go_sem,↓reduceIte,reduceIte,Qa,Qh,Qb,Qc,Qd,Qe,Qf,Qg,reduceCtorEq, *,-hs,-f3]
 | with_reducible refine fun (bn:Bool) hbn=>?_))
     all_goals trace_state
theorem rounds_len (l:List Res):∀ (n:Nat) (out:List Key),(roundsK l n out).length≤out.length+n * (33 * l.length)
 | 0,out=>by simp [roundsK]
 | n+1,out=>by
  have h1:=rounds_len l n (roundK l out)
  have h2:∀ (m:List Res) (o:List Key),(m.foldl (stepK l) o).length≤o.length+33 * m.length:=by
   intro m
   induction m with
   | nil=>intro o; simp
   | cons r m ih =>
    intro o
    have:=ih (stepK l o r)
    have:=stepK_len l o r
    simp only [List.foldl_cons,List.length_cons]
    omega
  have h3:=h2 l out
  unfold roundsK
  have h4:(roundK l out).length≤out.length+33 * l.length:=h3
  rw [Nat.add_mul,Nat.one_mul]
  omega
theorem reached06_len (l:List Res):(reached06 l).length≤l.length+4 * (33 * l.length):=by
 refine Nat.le_trans (rounds_len l 4 _) (Nat.add_le_add_right ?_ _)
 unfold kind0K
 rw [List.length_map]
 exact List.length_filter_le _ _
def reach06 (l:List Res):List Res:=l.filter fun r=>decide (keyOf r∈reached06 l)
theorem reach06_c (xs:List Res) (hl:xs.length≤65536) (hs:∀ r∈xs,SmRes r):CallR Tryz.prog 23 [.slice false (avs xs)] (.val (.slice false (avs (reach06 xs)))):=by
 have hsl:=small_le hl
 have w0:=(reached06_c xs hl hs).frz
 have hrl:=reached06_len xs
 have key:CallR Tryz.prog 23 [.slice false (avs xs)] (.own 7 (avs (reach06 xs))):=by
  unfold reach06
  generalize reached06 xs=K6 at *
  have hK6:Small K6.length:=by unfold Small; omega
  refine CallR.go1 (T:=T) Tryz.call23 Tryz.func23 rfl Tryz.ntmps23 (congrArg Array.toList Tryz.results23) (by decide) fun ts hn h0=>?_
  (repeat' (first
 | (with_reducible first|refine callX.by (w0) ?_|refine callX.by (reached06_c _ ?_ ?_) ?_|refine callX.by (rkey3_c _ _ _ _ _ _ _) ?_|refine callX.by (has6_c _ _ _ ?_) ?_|assumption|(refine Qw hK _ ?_; clear hK K)|refine Qw ‹_› _ ?_|refine Qx ‹_› ?_|refine Qi fun K hK=>?_|refine Qj T fun K hK=>?_|refine Ql fun A B hA hB=>?_|refine Qm ?_|refine Qn ?_|refine Qp ?_|refine Qr ?_)
 | ((with_reducible first|apply Qy|apply Qz|apply QA)<;>intro hb<;>try simp only [nr] at hb)
 | simp only [go_sem,↓reduceIte,reduceIte,Qa,Qh,Qb,Qc,Qd,Qe,Qf,Qg,reduceCtorEq, *,-hs,-w0]
 | with_reducible refine fun (bn:Bool) hbn=>?_))
  refine SpecC.ent (Ent.virt 4 7 (by simp only [go_sem,↓reduceIte,reduceIte,Qa,Qh,Qb,Qc,Qd,Qe,Qf,Qg,reduceCtorEq, *,-hs,-w0]) (by decide)) ?_
  refine Qs [0,3] (fun m ts'=>∃ (i:Nat),∃ (g:Nat),∃ (ys:List Res),m=xs.length - i∧i≤xs.length∧ys.length≤i∧xs.filter (fun r=>decide (keyOf r∈K6))=ys++(xs.drop i).filter (fun r=>decide (keyOf r∈K6))∧ts'.tmp 4=.os 4 g ys.length∧ts'.gen 4=g∧ts'.obj 4=.arr 7 (avs ys)∧ts'.tmp 5=.int .i64 i) xs.length ?_ ?_
  ·refine ⟨0,ts.gen 4+1,[],rfl,Nat.zero_le _,Nat.le_refl _,rfl,?_⟩
   simp only [go_sem,↓reduceIte,reduceIte,Qa,Qh,Qb,Qc,Qd,Qe,Qf,Qg,reduceCtorEq, *,-hs,-w0,avs_nil]
  ·rintro m A hM ts' hk ⟨i,g,ys,hm,f1,f2,f3,s1,s2,s3,s4⟩
   simp only [go_sem,↓reduceIte,reduceIte,Qa,Qh,Qb,Qc,Qd,Qe,Qf,Qg,reduceCtorEq, *] at hk
   by_cases hlt:i < xs.length
   ·rw [List.drop_eq_getElem_cons hlt,List.filter_cons] at f3
    have w1:=has6_c K6 xs[i].kind xs[i].name hK6
    have w1:CallR Tryz.prog 64 [.slice false (avs K6),.agg [.int .i64 xs[i].kind,.str xs[i].name]] (.val (.bool (decide (keyOf xs[i]∈K6)))):=w1
    have hr:Room (ys.length+1) 104:=room_small (by omega) (by decide)
    by_cases hc:keyOf xs[i]∈K6
    ·rw [if_pos (by simpa using hc)] at f3
     rw [decide_eq_true hc] at w1
     (repeat' (first
 | (with_reducible first|refine callX.by (w1) ?_|refine callX.by (reached06_c _ ?_ ?_) ?_|refine callX.by (rkey3_c _ _ _ _ _ _ _) ?_|refine callX.by (has6_c _ _ _ ?_) ?_|assumption|(refine Qw hK _ ?_; clear hK K)|refine Qw ‹_› _ ?_|refine Qx ‹_› ?_|refine Qi fun K hK=>?_|refine Qj T fun K hK=>?_|refine Ql fun A B hA hB=>?_|refine Qm ?_|refine Qn ?_|refine Qp ?_|refine Qr ?_)
 | ((with_reducible first|apply Qy|apply Qz|apply QA)<;>intro hb<;>try simp only [nr] at hb)
 | simp only [go_sem,↓reduceIte,reduceIte,Qa,Qh,Qb,Qc,Qd,Qe,Qf,Qg,reduceCtorEq, *,-hs,-w0,-w1,-f3,-hc]
 | with_reducible refine fun (bn:Bool) hbn=>?_))
     all_goals ((repeat clear hK); (repeat clear hA); (repeat clear hB))
     all_goals (refine hM.onE (xs.length - (i+1)) (Ent.ren 4 27 ?_ ?_) ?_ ?_ ?_; (focus (simp only [go_sem,↓reduceIte,reduceIte,Qa,Qh,Qb,Qc,Qd,Qe,Qf,Qg,reduceCtorEq, *,w64_nat hlt hsl,List.length_append,-hs,-w0,-w1,-f3,-hc]; first|done|rfl)); (focus (simp only [go_sem,↓reduceIte,reduceIte,Qa,Qh,Qb,Qc,Qd,Qe,Qf,Qg,reduceCtorEq, *,w64_nat hlt hsl,List.length_append,-hs,-w0,-w1,-f3,-hc]; first|done|rfl)); omega; (focus (simp only [go_sem,↓reduceIte,reduceIte,Qa,Qh,Qb,Qc,Qd,Qe,Qf,Qg,reduceCtorEq, *,w64_nat hlt hsl,List.length_append,-hs,-w0,-w1,-f3,-hc]; done)); refine ⟨i+1,ts'.gen 4+1,ys++[xs[i]],rfl,by omega,by simp; omega,by rw [f3,List.append_assoc]; rfl,?_⟩; simp only [go_sem,↓reduceIte,reduceIte,Qa,Qh,Qb,Qc,Qd,Qe,Qf,Qg,reduceCtorEq, *,w64_nat hlt hsl,List.length_append,-hs,-w0,-w1,-f3,-hc]; done)
    ·rw [if_neg (by simpa using hc)] at f3
     rw [decide_eq_false hc] at w1
     (repeat' (first
 | (with_reducible first|refine callX.by (w1) ?_|refine callX.by (reached06_c _ ?_ ?_) ?_|refine callX.by (rkey3_c _ _ _ _ _ _ _) ?_|refine callX.by (has6_c _ _ _ ?_) ?_|assumption|(refine Qw hK _ ?_; clear hK K)|refine Qw ‹_› _ ?_|refine Qx ‹_› ?_|refine Qi fun K hK=>?_|refine Qj T fun K hK=>?_|refine Ql fun A B hA hB=>?_|refine Qm ?_|refine Qn ?_|refine Qp ?_|refine Qr ?_)
 | ((with_reducible first|apply Qy|apply Qz|apply QA)<;>intro hb<;>try simp only [nr] at hb)
 | simp only [go_sem,↓reduceIte,reduceIte,Qa,Qh,Qb,Qc,Qd,Qe,Qf,Qg,reduceCtorEq, *,-hs,-w0,-w1,-f3,-hc]
 | with_reducible refine fun (bn:Bool) hbn=>?_))
     all_goals ((repeat clear hK); (repeat clear hA); (repeat clear hB))
     all_goals (refine hM.on (xs.length - (i+1)) (by omega) (by simp only [go_sem,↓reduceIte,reduceIte,Qa,Qh,Qb,Qc,Qd,Qe,Qf,Qg,reduceCtorEq, *,w64_nat hlt hsl,-hs,-w0,-w1,-f3,-hc]) ⟨i+1,g,ys,rfl,by omega,by omega,f3,?_⟩; simp only [go_sem,↓reduceIte,reduceIte,Qa,Qh,Qb,Qc,Qd,Qe,Qf,Qg,reduceCtorEq, *,w64_nat hlt hsl,-hs,-w0,-w1,-f3,-hc]; done)
   ·rw [List.drop_eq_nil_of_le (by omega),List.filter_nil,List.append_nil] at f3
    (repeat' (first
 | (with_reducible first|refine callX.by (reached06_c _ ?_ ?_) ?_|refine callX.by (rkey3_c _ _ _ _ _ _ _) ?_|refine callX.by (has6_c _ _ _ ?_) ?_|assumption|(refine Qw hK _ ?_; clear hK K)|refine Qw ‹_› _ ?_|refine Qx ‹_› ?_|refine Qi fun K hK=>?_|refine Qj T fun K hK=>?_|refine Ql fun A B hA hB=>?_|refine Qm ?_|refine Qn ?_|refine Qp ?_|refine Qr ?_)
 | ((with_reducible first|apply Qy|apply Qz|apply QA)<;>intro hb<;>try simp only [nr] at hb)
 | simp only [go_sem,↓reduceIte,reduceIte,Qa,Qh,Qb,Qc,Qd,Qe,Qf,Qg,reduceCtorEq, *,-hs,-w0,-f3]
 | with_reducible refine fun (bn:Bool) hbn=>?_))
    all_goals rw [f3]
 exact key.frz
def lacks06 (l:List Res) (r:Res):Bool:=(refsR r).any fun k=>!(tget l k).isSome
def served06 (l:List Res):Int:=if (reach06 l).any (lacks06 l)=true then 6 else if (reach06 l).any bare=true then 7 else 0
theorem reach06_len (l:List Res):(reach06 l).length≤l.length:=List.length_filter_le _ _
theorem reach06_mem {l:List Res} {r:Res} (h:r∈reach06 l):r∈l:=(List.mem_filter.1 h).1
set_option maxHeartbeats 8000000 in
theorem served06_c (xs:List Res) (hl:xs.length≤65536) (hs:∀ r∈xs,SmRes r):CallR Tryz.prog 25 [.slice false (avs xs)] (.val (.int .i64 (served06 xs))):=by
 have hsl:=small_le hl
 have w0:=reach06_c xs hl hs
 have hRl:=reach06_len xs
 have hRm:∀ r∈reach06 xs,SmRes r:=fun r hr=>hs r (reach06_mem hr)
 unfold served06
 generalize reach06 xs=R at *
 have hRs:Small R.length:=by unfold Small; omega
 clear hs
 refine CallR.go1 (T:=T) Tryz.call25 Tryz.func25 rfl Tryz.ntmps25 (congrArg Array.toList Tryz.results25) (by decide) fun ts hn h0=>?_
 (repeat' (first
 | (with_reducible first|refine callX.by (w0) ?_|refine callX.by (reach06_c _ ?_ ?_) ?_|refine callX.by (refs03_c _ _ _ _ _ _ _ ?_ ?_ ?_ ?_) ?_|refine callX.by (there_c _ _ _ ?_) ?_|assumption|(refine Qw hK _ ?_; clear hK K)|refine Qw ‹_› _ ?_|refine Qx ‹_› ?_|refine Qi fun K hK=>?_|refine Qj T fun K hK=>?_|refine Ql fun A B hA hB=>?_|refine Qm ?_|refine Qn ?_|refine Qp ?_|refine Qr ?_)
 | ((with_reducible first|apply Qy|apply Qz|apply QA)<;>intro hb<;>try simp only [nr] at hb)
 | simp only [go_sem,↓reduceIte,reduceIte,Qa,Qh,Qb,Qc,Qd,Qe,Qf,Qg,reduceCtorEq, *,-hRm,-w0]
 | with_reducible refine fun (bn:Bool) hbn=>?_))
 refine Qs [0,3] (fun m ts'=>∃ (i:Nat),m=R.length - i∧i≤R.length∧R.any (lacks06 xs)=(R.drop i).any (lacks06 xs)∧ts'.tmp 4=.int .i64 i) R.length ?_ ?_
 ·refine ⟨0,?_⟩
  simp only [go_sem,↓reduceIte,reduceIte,Qa,Qh,Qb,Qc,Qd,Qe,Qf,Qg,reduceCtorEq, *,-hRm,-w0]
 ·rintro m A hM ts' hk ⟨i,hm,f1,f2,s1⟩
  simp only [go_sem,↓reduceIte,reduceIte,Qa,Qh,Qb,Qc,Qd,Qe,Qf,Qg,reduceCtorEq, *] at hk
  have hMo:=hM
  have hmo:=hm
  by_cases hlt:i < R.length
  ·rw [List.drop_eq_getElem_cons hlt,List.any_cons] at f2
   have hout:=f2
   have hx:=hRm _ (List.getElem_mem hlt)
   have w1:=refs03_c R[i].kind R[i].name R[i].ver R[i].port R[i].to' R[i].rules' R[i].hosts hx.2.2.1 hx.2.2.2.2 hx.2.2.2.1 hx.2.1
   have w1:CallR Tryz.prog 75 [.agg [.int .i64 R[i].kind,.str R[i].name,.int .i64 R[i].ver,.int .i64 R[i].port,.str R[i].to',.slice false (avs R[i].rules'),.slice false (avs R[i].hosts)]] (.val (.slice false (avs (refsR R[i])))):=w1
   have hrl:=refs_len R[i]
   have hrs:Small (refsR R[i]).length:=by unfold Small; omega
   clear hx hM hm f2
   (repeat' (first
 | (with_reducible first|refine callX.by (w1) ?_|refine callX.by (reach06_c _ ?_ ?_) ?_|refine callX.by (refs03_c _ _ _ _ _ _ _ ?_ ?_ ?_ ?_) ?_|refine callX.by (there_c _ _ _ ?_) ?_|assumption|(refine Qw hK _ ?_; clear hK K)|refine Qw ‹_› _ ?_|refine Qx ‹_› ?_|refine Qi fun K hK=>?_|refine Qj T fun K hK=>?_|refine Ql fun A B hA hB=>?_|refine Qm ?_|refine Qn ?_|refine Qp ?_|refine Qr ?_)
 | ((with_reducible first|apply Qy|apply Qz|apply QA)<;>intro hb<;>try simp only [nr] at hb)
 | simp only [go_sem,↓reduceIte,reduceIte,Qa,Qh,Qb,Qc,Qd,Qe,Qf,Qg,reduceCtorEq, *,-hRm,-w0,-w1,-hMo,-hout]
 | with_reducible refine fun (bn:Bool) hbn=>?_))
   refine Qs [0,3,4,5] (fun m ts'=>∃ (j:Nat),m=(refsR R[i]).length - j∧j≤(refsR R[i]).length∧lacks06 xs R[i]=((refsR R[i]).drop j).any (fun k=>!(tget xs k).isSome)∧ts'.tmp 6=.int .i64 j) (refsR R[i]).length ?_ ?_
   ·refine ⟨0,rfl,Nat.zero_le _,rfl,?_⟩
    simp only [go_sem,↓reduceIte,reduceIte,Qa,Qh,Qb,Qc,Qd,Qe,Qf,Qg,reduceCtorEq, *,-hRm,-w0,-w1,-hMo,-hout]
   ·rintro m A hM ts' hk ⟨j,hm,f1,f2,s1⟩
    simp only [go_sem,↓reduceIte,reduceIte,Qa,Qh,Qb,Qc,Qd,Qe,Qf,Qg,reduceCtorEq, *] at hk
    by_cases hjl:j < (refsR R[i]).length
    ·rw [List.drop_eq_getElem_cons hjl,List.any_cons] at f2
     have w3:=there_c xs (refsR R[i])[j].kind (refsR R[i])[j].name hsl
     have w3:CallR Tryz.prog 76 [.slice false (avs xs),.agg [.int .i64 (refsR R[i])[j].kind,.str (refsR R[i])[j].name]] (.val (.bool (tget xs (refsR R[i])[j]).isSome)):=w3
     cases hb0:(tget xs (refsR R[i])[j]).isSome
     ·rw [hb0] at w3 f2
      have e:(if R.any (lacks06 xs)=true then (6:Int) else if R.any bare=true then 7 else 0)=6:=by
       rw [if_pos]
       rw [hout,f2]; rfl
      rw [e]
      (repeat' (first
 | (with_reducible first|refine callX.by (w3) ?_|refine callX.by (reach06_c _ ?_ ?_) ?_|refine callX.by (refs03_c _ _ _ _ _ _ _ ?_ ?_ ?_ ?_) ?_|refine callX.by (there_c _ _ _ ?_) ?_|assumption|(refine Qw hK _ ?_; clear hK K)|refine Qw ‹_› _ ?_|refine Qx ‹_› ?_|refine Qi fun K hK=>?_|refine Qj T fun K hK=>?_|refine Ql fun A B hA hB=>?_|refine Qm ?_|refine Qn ?_|refine Qp ?_|refine Qr ?_)
 | ((with_reducible first|apply Qy|apply Qz|apply QA)<;>intro hb<;>try simp only [nr] at hb)
 | simp only [go_sem,↓reduceIte,reduceIte,Qa,Qh,Qb,Qc,Qd,Qe,Qf,Qg,reduceCtorEq, *,-hRm,-w0,-w1,-w3,-hMo,-hout,-f2]
 | with_reducible refine fun (bn:Bool) hbn=>?_))
      all_goals (first|rfl|exact e.symm|trace_state)
     ·rw [hb0] at w3 f2
      rw [Bool.not_true,Bool.false_or] at f2
      (repeat' (first
 | (with_reducible first|refine callX.by (w3) ?_|refine callX.by (reach06_c _ ?_ ?_) ?_|refine callX.by (refs03_c _ _ _ _ _ _ _ ?_ ?_ ?_ ?_) ?_|refine callX.by (there_c _ _ _ ?_) ?_|assumption|(refine Qw hK _ ?_; clear hK K)|refine Qw ‹_› _ ?_|refine Qx ‹_› ?_|refine Qi fun K hK=>?_|refine Qj T fun K hK=>?_|refine Ql fun A B hA hB=>?_|refine Qm ?_|refine Qn ?_|refine Qp ?_|refine Qr ?_)
 | ((with_reducible first|apply Qy|apply Qz|apply QA)<;>intro hb<;>try simp only [nr] at hb)
 | simp only [go_sem,↓reduceIte,reduceIte,Qa,Qh,Qb,Qc,Qd,Qe,Qf,Qg,reduceCtorEq, *,-hRm,-w0,-w1,-w3,-hMo,-hout,-f2]
 | with_reducible refine fun (bn:Bool) hbn=>?_))
      all_goals ((repeat clear hK); (repeat clear hA); (repeat clear hB))
      all_goals (refine hM.on ((refsR R[i]).length - (j+1)) (by omega) (by simp only [go_sem,↓reduceIte,reduceIte,Qa,Qh,Qb,Qc,Qd,Qe,Qf,Qg,reduceCtorEq, *,w64_nat hjl hrs,-hRm,-w0,-w1,-w3,-hMo,-hout,-f2]) ⟨j+1,rfl,by omega,f2,?_⟩; simp only [go_sem,↓reduceIte,reduceIte,Qa,Qh,Qb,Qc,Qd,Qe,Qf,Qg,reduceCtorEq, *,w64_nat hjl hrs,-hRm,-w0,-w1,-w3,-hMo,-hout,-f2]; done)
    ·rw [List.drop_eq_nil_of_le (by omega),List.any_nil] at f2
     rw [f2,Bool.false_or] at hout
     (repeat' (first
 | (with_reducible first|refine callX.by (reach06_c _ ?_ ?_) ?_|refine callX.by (refs03_c _ _ _ _ _ _ _ ?_ ?_ ?_ ?_) ?_|refine callX.by (there_c _ _ _ ?_) ?_|assumption|(refine Qw hK _ ?_; clear hK K)|refine Qw ‹_› _ ?_|refine Qx ‹_› ?_|refine Qi fun K hK=>?_|refine Qj T fun K hK=>?_|refine Ql fun A B hA hB=>?_|refine Qm ?_|refine Qn ?_|refine Qp ?_|refine Qr ?_)
 | ((with_reducible first|apply Qy|apply Qz|apply QA)<;>intro hb<;>try simp only [nr] at hb)
 | simp only [go_sem,↓reduceIte,reduceIte,Qa,Qh,Qb,Qc,Qd,Qe,Qf,Qg,reduceCtorEq, *,-hRm,-w0,-w1,-hMo,-hout,-f2]
 | with_reducible refine fun (bn:Bool) hbn=>?_))
     all_goals ((repeat clear hK); (repeat clear hA); (repeat clear hB))
     all_goals (clear hM; have hM:=hMo; (refine hM.on (R.length - (i+1)) (by omega) (by simp only [go_sem,↓reduceIte,reduceIte,Qa,Qh,Qb,Qc,Qd,Qe,Qf,Qg,reduceCtorEq, *,w64_nat hlt hRs,-hRm,-w0,-w1,-hMo,-hout,-f2]) ⟨i+1,rfl,by omega,hout,?_⟩; simp only [go_sem,↓reduceIte,reduceIte,Qa,Qh,Qb,Qc,Qd,Qe,Qf,Qg,reduceCtorEq, *,w64_nat hlt hRs,-hRm,-w0,-w1,-hMo,-hout,-f2]; done))
  ·rw [List.drop_eq_nil_of_le (by omega),List.any_nil] at f2
   have e2:(if R.any (lacks06 xs)=true then (6:Int) else if R.any bare=true then 7 else 0)=if R.any bare=true then 7 else 0:=by
    rw [if_neg (by rw [f2]; simp)]
   clear hM hm hMo hmo f2
   (repeat' (first
 | (with_reducible first|refine callX.by (reach06_c _ ?_ ?_) ?_|refine callX.by (refs03_c _ _ _ _ _ _ _ ?_ ?_ ?_ ?_) ?_|refine callX.by (there_c _ _ _ ?_) ?_|assumption|(refine Qw hK _ ?_; clear hK K)|refine Qw ‹_› _ ?_|refine Qx ‹_› ?_|refine Qi fun K hK=>?_|refine Qj T fun K hK=>?_|refine Ql fun A B hA hB=>?_|refine Qm ?_|refine Qn ?_|refine Qp ?_|refine Qr ?_)
 | ((with_reducible first|apply Qy|apply Qz|apply QA)<;>intro hb<;>try simp only [nr] at hb)
 | simp only [go_sem,↓reduceIte,reduceIte,Qa,Qh,Qb,Qc,Qd,Qe,Qf,Qg,reduceCtorEq, *,-hRm,-w0,-e2]
 | with_reducible refine fun (bn:Bool) hbn=>?_))
   refine Qs [3] (fun m ts'=>∃ (p:Nat),m=R.length - p∧p≤R.length∧R.any bare=(R.drop p).any bare∧ts'.tmp 7=.int .i64 p) R.length ?_ ?_
   ·refine ⟨0,rfl,Nat.zero_le _,rfl,?_⟩
    simp only [go_sem,↓reduceIte,reduceIte,Qa,Qh,Qb,Qc,Qd,Qe,Qf,Qg,reduceCtorEq, *,-hRm,-w0,-e2]
   ·rintro m A hM ts' hk ⟨p,hm,f1,f2,s1⟩
    simp only [go_sem,↓reduceIte,reduceIte,Qa,Qh,Qb,Qc,Qd,Qe,Qf,Qg,reduceCtorEq, *] at hk
    by_cases hlt2:p < R.length
    ·rw [List.drop_eq_getElem_cons hlt2,List.any_cons] at f2
     by_cases hb:R[p].kind=3∧R[p].hosts.length=0
     ·obtain ⟨b1,b2⟩:=hb
      have e:(if R.any (lacks06 xs)=true then (6:Int) else if R.any bare=true then 7 else 0)=7:=by
       rw [e2,if_pos]
       rw [f2]; simp [bare,b1,b2]
      have b2':(R[p].hosts.length:Int)=0:=by omega
      rw [e]
      (repeat' (first
 | (with_reducible first|refine callX.by (reach06_c _ ?_ ?_) ?_|refine callX.by (refs03_c _ _ _ _ _ _ _ ?_ ?_ ?_ ?_) ?_|refine callX.by (there_c _ _ _ ?_) ?_|assumption|(refine Qw hK _ ?_; clear hK K)|refine Qw ‹_› _ ?_|refine Qx ‹_› ?_|refine Qi fun K hK=>?_|refine Qj T fun K hK=>?_|refine Ql fun A B hA hB=>?_|refine Qm ?_|refine Qn ?_|refine Qp ?_|refine Qr ?_)
 | ((with_reducible first|apply Qy|apply Qz|apply QA)<;>intro hb<;>try simp only [nr] at hb)
 | simp only [go_sem,↓reduceIte,reduceIte,Qa,Qh,Qb,Qc,Qd,Qe,Qf,Qg,reduceCtorEq, *,-hRm,-w0,-e2,-f2]
 | with_reducible refine fun (bn:Bool) hbn=>?_))
      all_goals (first|rfl|exact e.symm|trace_state)
     ·have hbf:bare R[p]=false:=by
       unfold bare
       by_cases h1:R[p].kind=3
       ·have:¬ R[p].hosts.length=0:=fun h=>hb ⟨h1,h⟩
        simp only [h1,this,decide_true,decide_false,Bool.true_and]
       ·simp only [h1,decide_false,Bool.false_and]
      rw [hbf,Bool.false_or] at f2
      (repeat' (first
 | (with_reducible first|refine callX.by (reach06_c _ ?_ ?_) ?_|refine callX.by (refs03_c _ _ _ _ _ _ _ ?_ ?_ ?_ ?_) ?_|refine callX.by (there_c _ _ _ ?_) ?_|assumption|(refine Qw hK _ ?_; clear hK K)|refine Qw ‹_› _ ?_|refine Qx ‹_› ?_|refine Qi fun K hK=>?_|refine Qj T fun K hK=>?_|refine Ql fun A B hA hB=>?_|refine Qm ?_|refine Qn ?_|refine Qp ?_|refine Qr ?_)
 | ((with_reducible first|apply Qy|apply Qz|apply QA)<;>intro hb<;>try simp only [nr] at hb)
 | simp only [go_sem,↓reduceIte,reduceIte,Qa,Qh,Qb,Qc,Qd,Qe,Qf,Qg,reduceCtorEq, *,-hRm,-w0,-e2,-f2,-hb,-hbf]
 | with_reducible refine fun (bn:Bool) hbn=>?_))
      all_goals ((repeat clear hK); (repeat clear hA); (repeat clear hB))
      all_goals first
       | (refine hM.on (R.length - (p+1)) (by omega) (by simp only [go_sem,↓reduceIte,reduceIte,Qa,Qh,Qb,Qc,Qd,Qe,Qf,Qg,reduceCtorEq, *,w64_nat hlt2 hRs,-hRm,-w0,-e2,-f2,-hb,-hbf]) ⟨p+1,rfl,by omega,f2,?_⟩; simp only [go_sem,↓reduceIte,reduceIte,Qa,Qh,Qb,Qc,Qd,Qe,Qf,Qg,reduceCtorEq, *,w64_nat hlt2 hRs,-hRm,-w0,-e2,-f2,-hb,-hbf]; done)
       | (exfalso; simp_all; done)
       | trace_state
    ·rw [List.drop_eq_nil_of_le (by omega),List.any_nil] at f2
     have e:(if R.any (lacks06 xs)=true then (6:Int) else if R.any bare=true then 7 else 0)=0:=by
      rw [e2,if_neg (by rw [f2]; simp)]
     rw [e]
     (repeat' (first
 | (with_reducible first|refine callX.by (reach06_c _ ?_ ?_) ?_|refine callX.by (refs03_c _ _ _ _ _ _ _ ?_ ?_ ?_ ?_) ?_|refine callX.by (there_c _ _ _ ?_) ?_|assumption|(refine Qw hK _ ?_; clear hK K)|refine Qw ‹_› _ ?_|refine Qx ‹_› ?_|refine Qi fun K hK=>?_|refine Qj T fun K hK=>?_|refine Ql fun A B hA hB=>?_|refine Qm ?_|refine Qn ?_|refine Qp ?_|refine Qr ?_)
 | ((with_reducible first|apply Qy|apply Qz|apply QA)<;>intro hb<;>try simp only [nr] at hb)
 | simp only [go_sem,↓reduceIte,reduceIte,Qa,Qh,Qb,Qc,Qd,Qe,Qf,Qg,reduceCtorEq, *,-hRm,-w0,-e2,-f2]
 | with_reducible refine fun (bn:Bool) hbn=>?_))
     all_goals (first|rfl|exact e.symm|trace_state)
theorem kcT_len:∀ l:List Key,(kcT l).length≤l.length - 1
 | []=>by simp [kcT]
 | [a]=>by simp [kcT]
 | a :: b :: l=>by
  have:=kcT_len (b :: l)
  unfold kcT
  split<;>simp only [List.length_cons] at *<;>omega
theorem kcompact_len (l:List Key):(kcompact l).length≤l.length:=by
 unfold kcompact
 have:=kcT_len l
 rw [List.length_append,List.length_take]
 omega
theorem missK_len (l:List Res):(missK l).length≤33 * l.length:=by
 unfold missK
 refine Nat.le_trans (kcompact_len _) ?_
 rw [ksort_length]
 unfold missR
 generalize ofR l []=M
 induction l with
 | nil=>simp
 | cons r l ih =>
  rw [List.flatMap_cons,List.length_append,List.length_cons]
  have h1:(keepK M (refsR r)).length≤(refsR r).length:=List.length_filter_le _ _
  have h2:=refs_len r
  omega
end Go.Proofs.YtmjkjmoeicnbnaaGreatDoor.Lg
