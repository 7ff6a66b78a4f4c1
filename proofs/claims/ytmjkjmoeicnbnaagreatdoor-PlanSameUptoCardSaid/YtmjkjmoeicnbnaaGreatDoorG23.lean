/- Parts of the proof, one behind the other. -/
import Derived.Test.YtmjkjmoeicnbnaaGreatDoorG22
namespace Go.Proofs.YtmjkjmoeicnbnaaGreatDoor.Lg
set_option maxRecDepth 100000
set_option linter.unusedVariables false
set_option linter.unusedSimpArgs false
open Go
open Nat renaming reduceEqDiff → Qa, reduceLT → Qb, reduceLeDiff → Qc, reduceAdd → Qd, reduceMul → Qe, reduceSub → Qf, reduceBEq → Qg
open String renaming reduceEq → Qh
open SpecC renaming seqW → Qi, regW → Qj, drawW → Qk, condW → Ql, block → Qm, skip → Qn, exit → Qp, ret → Qr, loopF → Qs
open NxK renaming out → Qw
open Nx renaming out → Qx
open condK renaming split → Qy
open gK renaming split_t → Qz, split_f → QA
@[go_sem] def Wd14:List (List Nat×List Nat):=[([93],[95,97,98,99,100,101,102,103,104,105,106,107,108,109,110,111,112]),([94],[95,98,99,100,101,102,103,104,105,106,107,108,109,110,111,112]),([95],[93,94,98,99,100,101,102,103,104,105,106,107,108,109,110,111,112]),([96],[99,100,101,102,103,104,105,106,107,108,109,110,111,112]),([97],[93,99,100,102,103,104,105,106,107,108,109,110,111,112]),([98],[93,94,95,99,100,103,104,105,106,107,108,109,110,111,112]),([99],[93,94,95,96,97,98,102,103,104,105,106,107,108,109,110,111,112]),([100],[93,94,95,96,97,98,103,104,105,106,107,108,109,110,111,112]),([101],[93,94,95,96,107,108,109,110,111,112]),([102],[93,94,95,96,97,99]),([103],[93,94,95,96,97,98,99,100,106,107,108,109,110,111,112]),([104],[93,94,95,96,97,98,99,100,107,108,109,110,111,112]),([105],[93,94,95,96,97,98,99,100]),([106],[93,94,95,96,97,98,99,100,103]),([107],[93,94,95,96,97,98,99,100,101,103,104,109,110,112]),([108],[93,94,95,96,97,98,99,100,101,103,104,109,110]),([109],[93,94,95,96,97,98,99,100,101,103,104,107,108,112]),([110],[93,94,95,96,97,98,99,100,101,103,104,107,108]),([111],[93,94,95,96,97,98,99,100,101,103,104]),([112],[93,94,95,96,97,98,99,100,101,103,104,107,109])]
theorem late_nil {a b:List Res} {H:List Key} (ha:Up (a.map keyOf)) (kb:Kin b) (h:∀ m,m < 7→fullP (candAt a b H m)=false):diffA a b=[]:=by
 rw [List.eq_nil_iff_forall_not_mem]
 intro r hr
 have hk:=kb r ((mem_diffA ha).1 hr).1
 have h0:=(no_door (h 3 (by omega))).1 r hr
 have h1:=no_late (i:=6) (by omega) (h 6 (by omega)) hr
 have h2:=no_late (i:=5) (by omega) (h 5 (by omega)) hr
 have h3:=no_late (i:=4) (by omega) (h 4 (by omega)) hr
 omega
theorem next_facts {a b:List Res} {H:List Key} {s:Step} (ha:Up (a.map keyOf)) (kb:Kin b) (h:nextP a b H=some s) :
  (∀ r∈s.adds,r.kind=s.kind∧r∈b)∧(∀ k∈s.gone,k.kind=s.kind∧k∈diffG a b∧(s.kind≠0→k ∉ H∧¬ 0 < (referrers a k).length∧diffA a b=[]))∧0 < s.adds.length+s.gone.length:=by
 obtain ⟨j,j1,j2,j3,j4⟩:=next_some h
 refine ⟨fun r hr=>?_,fun k hk=>?_,full_pos j3⟩
 ·have hb:=(next_sub h).1.subset hr
  refine ⟨?_,hb⟩
  rw [j2] at hr ⊢
  unfold candAt at hr ⊢
  split at hr
  ·rename_i h3; simp only [if_pos h3]; exact (mem_early.1 hr).2.1
  ·rename_i h3
   split at hr
   ·rename_i h4; simp only [if_neg h3,if_pos h4]; exact (mem_tkind.1 hr).2
   ·rename_i h4
    split at hr
    ·rename_i h7; simp only [if_neg h3,if_neg h4,if_pos h7]; exact (mem_tkind.1 hr).2
    ·simp at hr
 ·rw [j2] at hk ⊢
  unfold candAt at hk ⊢
  split at hk
  ·simp at hk
  ·rename_i h3
   split at hk
   ·rename_i h4; simp only [if_neg h3,if_pos h4]
    obtain ⟨q1,q2⟩:=mem_off.1 hk
    exact ⟨q2,q1,fun h=>absurd rfl h⟩
   ·rename_i h4
    split at hk
    ·simp at hk
    ·rename_i h7; simp only [if_neg h3,if_neg h4,if_neg h7]
     obtain ⟨q1,q2,q3,q4⟩:=mem_free.1 hk
     exact ⟨q2,q1,fun _=>⟨q3,fun h=>q4 ((ref_pos a k).1 h),late_nil ha kb fun m hm=>j4 m (by omega)⟩⟩
set_option maxHeartbeats 8000000 in
theorem planOrder_c (a b:List Res) (H:List Key) (hl:Small a.length) (hs:∀ r∈a,SmRes r) (hl2:Small b.length) (hs2:∀ r∈b,SmRes r) (hH:Small H.length):CallR Tryz.prog 8 [.slice false (avs a),.slice false (avs b),.slice false (avs H)] (.val (.bool true)):=by
 have w0:=awake15_c
 have w1:=fewP_c a b H hl hs hl2 hs2
 by_cases hf:fewP a b H=true
 rotate_left
 ·have hf:fewP a b H=false:=by simpa using hf
  rw [hf] at w1
  refine CallR.go3 (T:=T) Tryz.call8 Tryz.func8 rfl Tryz.ntmps8 (congrArg Array.toList Tryz.results8) (by decide) fun ts hn h0 h1 h2=>?_
  (repeat' (first
 | (with_reducible first|refine callX.by (w0) ?_|refine callX.by (w1) ?_|refine callX.by awake15_c ?_|refine callX.by (fewP_c _ _ _ ?_ ?_ ?_ ?_) ?_|refine callX.by (tsane_c _ ?_ ?_) ?_|refine callX.by (nextPl_c _ _ _ ?_ ?_ ?_ ?_ ?_) ?_|refine callX.by (diff_c _ _ ?_ ?_ ?_) ?_|refine callX.by (waitsP_c _ _ _ ?_ ?_ ?_ ?_ ?_) ?_|refine callX.by (rkey_c _ _ _ _ _ _ _) ?_|refine callX.by (tget_c _ _ _ ?_) ?_|refine callX.by (has6_c _ _ _ ?_) ?_|refine callX.by (referrers_c _ _ _ ?_ ?_) ?_|assumption|(refine Qw hK _ ?_; clear hK K)|refine Qw ‹_› _ ?_|refine Qx ‹_› ?_|refine Qi fun K hK=>?_|refine Qj T fun K hK=>?_|refine Qk (id:=12) T mixed Wd14 (by kernel_rfl) fun K hK=>?_|refine Ql fun A B hA hB=>?_|refine Qm ?_|refine Qn ?_|refine Qp ?_|refine Qr ?_)
 | ((with_reducible first|apply Qy|apply Qz|apply QA)<;>intro hb<;>try simp only [nr] at hb)
 | simp only [go_sem,↓reduceIte,reduceIte,Qa,Qh,Qb,Qc,Qd,Qe,Qf,Qg,reduceCtorEq, *,-hs,-hs2,-w0,-w1]
 | with_reducible refine fun (bn:Bool) hbn=>?_))
 rw [hf] at w1
 obtain ⟨hl8,hm8,hH8⟩:=fewP_t hf
 have w2:=tsane_c a hl hs
 by_cases ht:tsane a=0
 rotate_left
 ·refine CallR.go3 (T:=T) Tryz.call8 Tryz.func8 rfl Tryz.ntmps8 (congrArg Array.toList Tryz.results8) (by decide) fun ts hn h0 h1 h2=>?_
  (repeat' (first
 | (with_reducible first|refine callX.by (w0) ?_|refine callX.by (w1) ?_|refine callX.by (w2) ?_|refine callX.by awake15_c ?_|refine callX.by (fewP_c _ _ _ ?_ ?_ ?_ ?_) ?_|refine callX.by (tsane_c _ ?_ ?_) ?_|refine callX.by (nextPl_c _ _ _ ?_ ?_ ?_ ?_ ?_) ?_|refine callX.by (diff_c _ _ ?_ ?_ ?_) ?_|refine callX.by (waitsP_c _ _ _ ?_ ?_ ?_ ?_ ?_) ?_|refine callX.by (rkey_c _ _ _ _ _ _ _) ?_|refine callX.by (tget_c _ _ _ ?_) ?_|refine callX.by (has6_c _ _ _ ?_) ?_|refine callX.by (referrers_c _ _ _ ?_ ?_) ?_|assumption|(refine Qw hK _ ?_; clear hK K)|refine Qw ‹_› _ ?_|refine Qx ‹_› ?_|refine Qi fun K hK=>?_|refine Qj T fun K hK=>?_|refine Qk (id:=12) T mixed Wd14 (by kernel_rfl) fun K hK=>?_|refine Ql fun A B hA hB=>?_|refine Qm ?_|refine Qn ?_|refine Qp ?_|refine Qr ?_)
 | ((with_reducible first|apply Qy|apply Qz|apply QA)<;>intro hb<;>try simp only [nr] at hb)
 | simp only [go_sem,↓reduceIte,reduceIte,Qa,Qh,Qb,Qc,Qd,Qe,Qf,Qg,reduceCtorEq, *,-hs,-hs2,-w0,-w1,-w2]
 | with_reducible refine fun (bn:Bool) hbn=>?_))
 have w3:=tsane_c b hl2 hs2
 by_cases ht2:tsane b=0
 rotate_left
 ·rw [ht] at w2
  refine CallR.go3 (T:=T) Tryz.call8 Tryz.func8 rfl Tryz.ntmps8 (congrArg Array.toList Tryz.results8) (by decide) fun ts hn h0 h1 h2=>?_
  (repeat' (first
 | (with_reducible first|refine callX.by (w0) ?_|refine callX.by (w1) ?_|refine callX.by (w2) ?_|refine callX.by (w3) ?_|refine callX.by awake15_c ?_|refine callX.by (fewP_c _ _ _ ?_ ?_ ?_ ?_) ?_|refine callX.by (tsane_c _ ?_ ?_) ?_|refine callX.by (nextPl_c _ _ _ ?_ ?_ ?_ ?_ ?_) ?_|refine callX.by (diff_c _ _ ?_ ?_ ?_) ?_|refine callX.by (waitsP_c _ _ _ ?_ ?_ ?_ ?_ ?_) ?_|refine callX.by (rkey_c _ _ _ _ _ _ _) ?_|refine callX.by (tget_c _ _ _ ?_) ?_|refine callX.by (has6_c _ _ _ ?_) ?_|refine callX.by (referrers_c _ _ _ ?_ ?_) ?_|assumption|(refine Qw hK _ ?_; clear hK K)|refine Qw ‹_› _ ?_|refine Qx ‹_› ?_|refine Qi fun K hK=>?_|refine Qj T fun K hK=>?_|refine Qk (id:=12) T mixed Wd14 (by kernel_rfl) fun K hK=>?_|refine Ql fun A B hA hB=>?_|refine Qm ?_|refine Qn ?_|refine Qp ?_|refine Qr ?_)
 | ((with_reducible first|apply Qy|apply Qz|apply QA)<;>intro hb<;>try simp only [nr] at hb)
 | simp only [go_sem,↓reduceIte,reduceIte,Qa,Qh,Qb,Qc,Qd,Qe,Qf,Qg,reduceCtorEq, *,-hs,-hs2,-w0,-w1,-w2,-w3]
 | with_reducible refine fun (bn:Bool) hbn=>?_))
 rw [ht] at w2
 rw [ht2] at w3
 have hca:=conf_of ht
 have hcb:=conf_of ht2
 have hla:=hca.len
 have hlb:=hcb.len
 have hre:=reachOk_of (l:=b) (by omega) hs2 hcb.up
 have w4:=nextPl_c a b H (by omega) hl2 hs hH hre
 have w5:=diff_c a b hl hl2 hs
 have w6:=waitsP_c a b H (by omega) hl2 hs hH hre
 clear hf ht ht2 hre
 cases hno:nextP a b H with
 | none =>
  have eW:waitsP a b H=diffG a b:=by unfold waitsP; rw [hno]; rfl
  rw [hno] at w4
  rw [eW] at w6
  rw [none_A hca.up hcb.kin hno] at w5
  simp only [avs_nil,Option.getD_none,Option.isSome_none,zStep] at w4 w5 w6
  clear eW hno hca hcb
  generalize diffG a b=V at *
  have z00:IntKind.i64.wrap ((0:Int)+0)=0:=by decide
  refine CallR.go3 (T:=T) Tryz.call8 Tryz.func8 rfl Tryz.ntmps8 (congrArg Array.toList Tryz.results8) (by decide) fun ts hn h0 h1 h2=>?_
  (repeat' (first
 | (with_reducible first|refine callX.by (w0) ?_|refine callX.by (w1) ?_|refine callX.by (w2) ?_|refine callX.by (w3) ?_|refine callX.by (w4) ?_|refine callX.by (w5) ?_|refine callX.by (w6) ?_|refine callX.by awake15_c ?_|refine callX.by (fewP_c _ _ _ ?_ ?_ ?_ ?_) ?_|refine callX.by (tsane_c _ ?_ ?_) ?_|refine callX.by (nextPl_c _ _ _ ?_ ?_ ?_ ?_ ?_) ?_|refine callX.by (diff_c _ _ ?_ ?_ ?_) ?_|refine callX.by (waitsP_c _ _ _ ?_ ?_ ?_ ?_ ?_) ?_|refine callX.by (rkey_c _ _ _ _ _ _ _) ?_|refine callX.by (tget_c _ _ _ ?_) ?_|refine callX.by (has6_c _ _ _ ?_) ?_|refine callX.by (referrers_c _ _ _ ?_ ?_) ?_|assumption|(refine Qw hK _ ?_; clear hK K)|refine Qw ‹_› _ ?_|refine Qx ‹_› ?_|refine Qi fun K hK=>?_|refine Qj T fun K hK=>?_|refine Qk (id:=12) T mixed Wd14 (by kernel_rfl) fun K hK=>?_|refine Ql fun A B hA hB=>?_|refine Qm ?_|refine Qn ?_|refine Qp ?_|refine Qr ?_)
 | ((with_reducible first|apply Qy|apply Qz|apply QA)<;>intro hb<;>try simp only [nr] at hb)
 | simp only [go_sem,↓reduceIte,reduceIte,Qa,Qh,Qb,Qc,Qd,Qe,Qf,Qg,reduceCtorEq, *,-hs,-hs2,-w0,-w1,-w2,-w3,-w4,-w5,-w6,List.length_nil,decide_true]
 | with_reducible refine fun (bn:Bool) hbn=>?_))
  all_goals trace_state
 | some s =>
  have eW:waitsP a b H=[]:=by unfold waitsP; rw [hno]; rfl
  obtain ⟨F1,F2,F3⟩:=next_facts hca.up hcb.kin hno
  obtain ⟨_,n2,n3⟩:=next_sub hno
  rw [hno] at w4
  rw [eW] at w6
  simp only [avs_nil,Option.getD_some,Option.isSome_some] at w4 w6
  have hb1:∀ r∈b,tget b ⟨r.kind,r.name⟩=some r:=fun r hr=>tget_key hcb.nodup hr
  have hGl:=(diffG_sub a b).length_le
  have hDl:=(diffA_sub a b).length_le
  rw [List.length_map] at hGl
  clear eW hno hca hcb
  generalize diffG a b=V at *
  generalize diffA a b=D at *
  obtain ⟨kd,X,Y⟩:=s
  simp only at w4 F1 F2 F3 n2 n3
  have hXs:Small X.length:=by unfold Small; omega
  have hYs:Small Y.length:=by unfold Small; omega
  have hVs:Small V.length:=by unfold Small; omega
  have hw:IntKind.i64.wrap ((X.length:Int)+(Y.length:Int))=((X.length+Y.length:Nat):Int):=by
   rw [← Int.natCast_add]; exact IntWalk.i64_in _ (by omega)
  have hpos:(0:Int) < ((X.length+Y.length:Nat):Int):=by omega
  refine CallR.go3 (T:=T) Tryz.call8 Tryz.func8 rfl Tryz.ntmps8 (congrArg Array.toList Tryz.results8) (by decide) fun ts hn h0 h1 h2=>?_
  (repeat' (first
 | (with_reducible first|refine callX.by (w0) ?_|refine callX.by (w1) ?_|refine callX.by (w2) ?_|refine callX.by (w3) ?_|refine callX.by (w4) ?_|refine callX.by (w5) ?_|refine callX.by awake15_c ?_|refine callX.by (fewP_c _ _ _ ?_ ?_ ?_ ?_) ?_|refine callX.by (tsane_c _ ?_ ?_) ?_|refine callX.by (nextPl_c _ _ _ ?_ ?_ ?_ ?_ ?_) ?_|refine callX.by (diff_c _ _ ?_ ?_ ?_) ?_|refine callX.by (waitsP_c _ _ _ ?_ ?_ ?_ ?_ ?_) ?_|refine callX.by (rkey_c _ _ _ _ _ _ _) ?_|refine callX.by (tget_c _ _ _ ?_) ?_|refine callX.by (has6_c _ _ _ ?_) ?_|refine callX.by (referrers_c _ _ _ ?_ ?_) ?_|assumption|(refine Qw hK _ ?_; clear hK K)|refine Qw ‹_› _ ?_|refine Qx ‹_› ?_|refine Qi fun K hK=>?_|refine Qj T fun K hK=>?_|refine Qk (id:=12) T mixed Wd14 (by kernel_rfl) fun K hK=>?_|refine Ql fun A B hA hB=>?_|refine Qm ?_|refine Qn ?_|refine Qp ?_|refine Qr ?_)
 | ((with_reducible first|apply Qy|apply Qz|apply QA)<;>intro hb<;>try simp only [nr] at hb)
 | simp only [go_sem,↓reduceIte,reduceIte,Qa,Qh,Qb,Qc,Qd,Qe,Qf,Qg,reduceCtorEq, *,-hs,-hs2,-w0,-w1,-w2,-w3,-w4,-w5,-w6,-F1,-F2,-F3,-hb1]
 | with_reducible refine fun (bn:Bool) hbn=>?_))
  refine Qs [0,1,2,7,8,10,11] (fun m ts'=>∃ (i:Nat),m=X.length - i∧i≤X.length∧ts'.tmp 12=.int .i64 i∧ts'.tmp 8=.ref 8 (ts.gen 8+1) 0∧ts'.gen 8=ts.gen 8+1∧ts'.obj 8=.box [.int .i64 kd,.slice false (avs X),.slice false (avs Y)]) X.length ?_ ?_
  ·refine ⟨0,rfl,Nat.zero_le _,?_⟩
   simp only [go_sem,↓reduceIte,reduceIte,Qa,Qh,Qb,Qc,Qd,Qe,Qf,Qg,reduceCtorEq, *,-hs,-hs2,-w0,-w1,-w2,-w3,-w4,-w5,-w6,-F1,-F2,-F3,-hb1]
  ·rintro m A hM ts' hk ⟨i,hm,f1,s1,s2,s3,s4⟩
   simp only [go_sem,↓reduceIte,reduceIte,Qa,Qh,Qb,Qc,Qd,Qe,Qf,Qg,reduceCtorEq, *] at hk
   by_cases hlt:i < X.length
   ·obtain ⟨v1,v2⟩:=F1 _ (List.getElem_mem hlt)
    have w7:=tget_c b X[i].kind X[i].name hl2
    rw [hb1 _ v2,Option.getD_some,Option.isSome_some,av_Res,v1] at w7
    (repeat' (first
 | (with_reducible first|refine callX.by (w7) ?_|refine callX.by awake15_c ?_|refine callX.by (fewP_c _ _ _ ?_ ?_ ?_ ?_) ?_|refine callX.by (tsane_c _ ?_ ?_) ?_|refine callX.by (nextPl_c _ _ _ ?_ ?_ ?_ ?_ ?_) ?_|refine callX.by (diff_c _ _ ?_ ?_ ?_) ?_|refine callX.by (waitsP_c _ _ _ ?_ ?_ ?_ ?_ ?_) ?_|refine callX.by (rkey_c _ _ _ _ _ _ _) ?_|refine callX.by (tget_c _ _ _ ?_) ?_|refine callX.by (has6_c _ _ _ ?_) ?_|refine callX.by (referrers_c _ _ _ ?_ ?_) ?_|assumption|(refine Qw hK _ ?_; clear hK K)|refine Qw ‹_› _ ?_|refine Qx ‹_› ?_|refine Qi fun K hK=>?_|refine Qj T fun K hK=>?_|refine Qk (id:=12) T mixed Wd14 (by kernel_rfl) fun K hK=>?_|refine Ql fun A B hA hB=>?_|refine Qm ?_|refine Qn ?_|refine Qp ?_|refine Qr ?_)
 | ((with_reducible first|apply Qy|apply Qz|apply QA)<;>intro hb<;>try simp only [nr] at hb)
 | simp only [go_sem,↓reduceIte,reduceIte,Qa,Qh,Qb,Qc,Qd,Qe,Qf,Qg,reduceCtorEq, *,-hs,-hs2,-w0,-w1,-w2,-w3,-w4,-w5,-w6,-F1,-F2,-F3,-hb1,-w7,-v2]
 | with_reducible refine fun (bn:Bool) hbn=>?_))
    all_goals ((repeat clear hK); (repeat clear hA); (repeat clear hB))
    all_goals (refine hM.on (X.length - (i+1)) (by omega) (by simp only [go_sem,↓reduceIte,reduceIte,Qa,Qh,Qb,Qc,Qd,Qe,Qf,Qg,reduceCtorEq, *,w64_nat hlt hXs,-hs,-hs2,-w0,-w1,-w2,-w3,-w4,-w5,-w6,-F1,-F2,-F3,-hb1,-w7,-v2]) ⟨i+1,rfl,by omega,?_⟩; simp only [go_sem,↓reduceIte,reduceIte,Qa,Qh,Qb,Qc,Qd,Qe,Qf,Qg,reduceCtorEq, *,w64_nat hlt hXs,-hs,-hs2,-w0,-w1,-w2,-w3,-w4,-w5,-w6,-F1,-F2,-F3,-hb1,-w7,-v2]; done)
   ·(repeat' (first
 | (with_reducible first|refine callX.by awake15_c ?_|refine callX.by (fewP_c _ _ _ ?_ ?_ ?_ ?_) ?_|refine callX.by (tsane_c _ ?_ ?_) ?_|refine callX.by (nextPl_c _ _ _ ?_ ?_ ?_ ?_ ?_) ?_|refine callX.by (diff_c _ _ ?_ ?_ ?_) ?_|refine callX.by (waitsP_c _ _ _ ?_ ?_ ?_ ?_ ?_) ?_|refine callX.by (rkey_c _ _ _ _ _ _ _) ?_|refine callX.by (tget_c _ _ _ ?_) ?_|refine callX.by (has6_c _ _ _ ?_) ?_|refine callX.by (referrers_c _ _ _ ?_ ?_) ?_|assumption|(refine Qw hK _ ?_; clear hK K)|refine Qw ‹_› _ ?_|refine Qx ‹_› ?_|refine Qi fun K hK=>?_|refine Qj T fun K hK=>?_|refine Qk (id:=12) T mixed Wd14 (by kernel_rfl) fun K hK=>?_|refine Ql fun A B hA hB=>?_|refine Qm ?_|refine Qn ?_|refine Qp ?_|refine Qr ?_)
 | ((with_reducible first|apply Qy|apply Qz|apply QA)<;>intro hb<;>try simp only [nr] at hb)
 | simp only [go_sem,↓reduceIte,reduceIte,Qa,Qh,Qb,Qc,Qd,Qe,Qf,Qg,reduceCtorEq, *,-hs,-hs2,-w0,-w1,-w2,-w3,-w4,-w5,-w6,-F1,-F2,-F3,-hb1]
 | with_reducible refine fun (bn:Bool) hbn=>?_))
    clear hM hm
    refine Qs [0,1,2,7,8,10,11] (fun m ts'=>∃ (j:Nat),m=Y.length - j∧j≤Y.length∧ts'.tmp 15=.int .i64 j∧ts'.tmp 8=.ref 8 (ts.gen 8+1) 0∧ts'.gen 8=ts.gen 8+1∧ts'.obj 8=.box [.int .i64 kd,.slice false (avs X),.slice false (avs Y)]) Y.length ?_ ?_
    ·refine ⟨0,rfl,Nat.zero_le _,?_⟩
     simp only [go_sem,↓reduceIte,reduceIte,Qa,Qh,Qb,Qc,Qd,Qe,Qf,Qg,reduceCtorEq, *,-hs,-hs2,-w0,-w1,-w2,-w3,-w4,-w5,-w6,-F1,-F2,-F3,-hb1]
    ·rintro m A hM ts' hk ⟨j,hm,f1,s1,s2,s3,s4⟩
     simp only [go_sem,↓reduceIte,reduceIte,Qa,Qh,Qb,Qc,Qd,Qe,Qf,Qg,reduceCtorEq, *] at hk
     by_cases hlt2:j < Y.length
     ·obtain ⟨v1,v2,v3⟩:=F2 _ (List.getElem_mem hlt2)
      have w7:=has6_c V Y[j].kind Y[j].name hVs
      rw [show decide ((⟨Y[j].kind,Y[j].name⟩:Key)∈V)=true from decide_eq_true v2,v1] at w7
      by_cases h00:kd=0
      ·subst h00
       (repeat' (first
 | (with_reducible first|refine callX.by (w7) ?_|refine callX.by awake15_c ?_|refine callX.by (fewP_c _ _ _ ?_ ?_ ?_ ?_) ?_|refine callX.by (tsane_c _ ?_ ?_) ?_|refine callX.by (nextPl_c _ _ _ ?_ ?_ ?_ ?_ ?_) ?_|refine callX.by (diff_c _ _ ?_ ?_ ?_) ?_|refine callX.by (waitsP_c _ _ _ ?_ ?_ ?_ ?_ ?_) ?_|refine callX.by (rkey_c _ _ _ _ _ _ _) ?_|refine callX.by (tget_c _ _ _ ?_) ?_|refine callX.by (has6_c _ _ _ ?_) ?_|refine callX.by (referrers_c _ _ _ ?_ ?_) ?_|assumption|(refine Qw hK _ ?_; clear hK K)|refine Qw ‹_› _ ?_|refine Qx ‹_› ?_|refine Qi fun K hK=>?_|refine Qj T fun K hK=>?_|refine Qk (id:=12) T mixed Wd14 (by kernel_rfl) fun K hK=>?_|refine Ql fun A B hA hB=>?_|refine Qm ?_|refine Qn ?_|refine Qp ?_|refine Qr ?_)
 | ((with_reducible first|apply Qy|apply Qz|apply QA)<;>intro hb<;>try simp only [nr] at hb)
 | simp only [go_sem,↓reduceIte,reduceIte,Qa,Qh,Qb,Qc,Qd,Qe,Qf,Qg,reduceCtorEq, *,-hs,-hs2,-w0,-w1,-w2,-w3,-w4,-w5,-w6,-F1,-F2,-F3,-hb1,-w7,-v2,-v3]
 | with_reducible refine fun (bn:Bool) hbn=>?_))
       all_goals ((repeat clear hK); (repeat clear hA); (repeat clear hB))
       all_goals (refine hM.on (Y.length - (j+1)) (by omega) (by simp only [go_sem,↓reduceIte,reduceIte,Qa,Qh,Qb,Qc,Qd,Qe,Qf,Qg,reduceCtorEq, *,w64_nat hlt2 hYs,-hs,-hs2,-w0,-w1,-w2,-w3,-w4,-w5,-w6,-F1,-F2,-F3,-hb1,-w7,-v2,-v3]) ⟨j+1,rfl,by omega,?_⟩; simp only [go_sem,↓reduceIte,reduceIte,Qa,Qh,Qb,Qc,Qd,Qe,Qf,Qg,reduceCtorEq, *,w64_nat hlt2 hYs,-hs,-hs2,-w0,-w1,-w2,-w3,-w4,-w5,-w6,-F1,-F2,-F3,-hb1,-w7,-v2,-v3]; done)
      ·obtain ⟨u1,u2,u3⟩:=v3 h00
       have w8:=has6_c H Y[j].kind Y[j].name hH
       rw [show decide ((⟨Y[j].kind,Y[j].name⟩:Key)∈H)=false from decide_eq_false u1,v1] at w8
       have w9:=(referrers_c a Y[j].kind Y[j].name (by omega) hs).frz
       have u2:(referrers a ⟨Y[j].kind,Y[j].name⟩).length=0:=by
        have:¬ 0 < (referrers a ⟨Y[j].kind,Y[j].name⟩).length:=u2
        omega
       rw [List.length_eq_zero_iff.1 u2,v1,avs_nil] at w9
       (repeat' (first
 | (with_reducible first|refine callX.by (w7) ?_|refine callX.by (w8) ?_|refine callX.by (w9) ?_|refine callX.by awake15_c ?_|refine callX.by (fewP_c _ _ _ ?_ ?_ ?_ ?_) ?_|refine callX.by (tsane_c _ ?_ ?_) ?_|refine callX.by (nextPl_c _ _ _ ?_ ?_ ?_ ?_ ?_) ?_|refine callX.by (diff_c _ _ ?_ ?_ ?_) ?_|refine callX.by (waitsP_c _ _ _ ?_ ?_ ?_ ?_ ?_) ?_|refine callX.by (rkey_c _ _ _ _ _ _ _) ?_|refine callX.by (tget_c _ _ _ ?_) ?_|refine callX.by (has6_c _ _ _ ?_) ?_|refine callX.by (referrers_c _ _ _ ?_ ?_) ?_|assumption|(refine Qw hK _ ?_; clear hK K)|refine Qw ‹_› _ ?_|refine Qx ‹_› ?_|refine Qi fun K hK=>?_|refine Qj T fun K hK=>?_|refine Qk (id:=12) T mixed Wd14 (by kernel_rfl) fun K hK=>?_|refine Ql fun A B hA hB=>?_|refine Qm ?_|refine Qn ?_|refine Qp ?_|refine Qr ?_)
 | ((with_reducible first|apply Qy|apply Qz|apply QA)<;>intro hb<;>try simp only [nr] at hb)
 | simp only [go_sem,↓reduceIte,reduceIte,Qa,Qh,Qb,Qc,Qd,Qe,Qf,Qg,reduceCtorEq, *,-hs,-hs2,-w0,-w1,-w2,-w3,-w4,-w5,-w6,-F1,-F2,-F3,-hb1,-w7,-w8,-w9,-v2,-v3,-u1,-u2,List.length_nil,Int.lt_irrefl]
 | with_reducible refine fun (bn:Bool) hbn=>?_))
       all_goals ((repeat clear hK); (repeat clear hA); (repeat clear hB))
       all_goals (refine hM.on (Y.length - (j+1)) (by omega) (by simp only [go_sem,↓reduceIte,reduceIte,Qa,Qh,Qb,Qc,Qd,Qe,Qf,Qg,reduceCtorEq, *,w64_nat hlt2 hYs,-hs,-hs2,-w0,-w1,-w2,-w3,-w4,-w5,-w6,-F1,-F2,-F3,-hb1,-w7,-w8,-w9,-v2,-v3,-u1,-u2]) ⟨j+1,rfl,by omega,?_⟩; simp only [go_sem,↓reduceIte,reduceIte,Qa,Qh,Qb,Qc,Qd,Qe,Qf,Qg,reduceCtorEq, *,w64_nat hlt2 hYs,-hs,-hs2,-w0,-w1,-w2,-w3,-w4,-w5,-w6,-F1,-F2,-F3,-hb1,-w7,-w8,-w9,-v2,-v3,-u1,-u2]; done)
     ·(repeat' (first
 | (with_reducible first|refine callX.by (w6) ?_|refine callX.by awake15_c ?_|refine callX.by (fewP_c _ _ _ ?_ ?_ ?_ ?_) ?_|refine callX.by (tsane_c _ ?_ ?_) ?_|refine callX.by (nextPl_c _ _ _ ?_ ?_ ?_ ?_ ?_) ?_|refine callX.by (diff_c _ _ ?_ ?_ ?_) ?_|refine callX.by (waitsP_c _ _ _ ?_ ?_ ?_ ?_ ?_) ?_|refine callX.by (rkey_c _ _ _ _ _ _ _) ?_|refine callX.by (tget_c _ _ _ ?_) ?_|refine callX.by (has6_c _ _ _ ?_) ?_|refine callX.by (referrers_c _ _ _ ?_ ?_) ?_|assumption|(refine Qw hK _ ?_; clear hK K)|refine Qw ‹_› _ ?_|refine Qx ‹_› ?_|refine Qi fun K hK=>?_|refine Qj T fun K hK=>?_|refine Qk (id:=12) T mixed Wd14 (by kernel_rfl) fun K hK=>?_|refine Ql fun A B hA hB=>?_|refine Qm ?_|refine Qn ?_|refine Qp ?_|refine Qr ?_)
 | ((with_reducible first|apply Qy|apply Qz|apply QA)<;>intro hb<;>try simp only [nr] at hb)
 | simp only [go_sem,↓reduceIte,reduceIte,Qa,Qh,Qb,Qc,Qd,Qe,Qf,Qg,reduceCtorEq, *,-hs,-hs2,-w0,-w1,-w2,-w3,-w4,-w5,-w6,-F1,-F2,-F3,-hb1,List.length_nil,decide_true]
 | with_reducible refine fun (bn:Bool) hbn=>?_))
      all_goals ((repeat clear hK); (repeat clear hA); (repeat clear hB))
      all_goals trace_state
def goodE (l:List Res):Bool:=decide (tsane l=0) && decide (served l=0)
theorem goodN_c (xs:List Res) (hl:xs.length≤65536) (hs:∀ r∈xs,SmRes r) (hn:¬ tsane xs=0):CallR Tryz.prog 66 [.slice false (avs xs)] (.val (.bool false)):=by
 have hl2:=small_le hl
 refine CallR.go1 (T:=T) Tryz.call66 Tryz.func66 rfl Tryz.ntmps66 (congrArg Array.toList Tryz.results66) (by decide) fun ts hn h0=>?_
 (repeat' (first
 | (with_reducible first|refine callX.by (tsane_c _ ?_ ?_) ?_|refine callX.by (served_c _ ?_ ?_ ?_) ?_|refine callX.by a6sc ?_|assumption|(refine Qw hK _ ?_; clear hK K)|refine Qw ‹_› _ ?_|refine Qx ‹_› ?_|refine Qi fun K hK=>?_|refine Qj T fun K hK=>?_|refine Ql fun A B hA hB=>?_|refine Qn ?_|refine Qr ?_)
 | ((with_reducible first|apply Qy|apply Qz|apply QA)<;>intro hb<;>try simp only [nr] at hb)
 | simp only [go_sem,↓reduceIte,reduceIte,Qa,Qh,Qb,Qc,Qd,Qe,Qf,Qg,reduceCtorEq, *,-hs]
 | with_reducible refine fun (bn:Bool) hbn=>?_))
theorem goodS_c (xs:List Res) (hl:xs.length≤65536) (hs:∀ r∈xs,SmRes r) (hn:tsane xs=0) (hnd:(xs.map keyOf).Nodup):CallR Tryz.prog 66 [.slice false (avs xs)] (.val (.bool (decide (served xs=0)))):=by
 have hl2:=small_le hl
 refine CallR.go1 (T:=T) Tryz.call66 Tryz.func66 rfl Tryz.ntmps66 (congrArg Array.toList Tryz.results66) (by decide) fun ts hn h0=>?_
 (repeat' (first
 | (with_reducible first|refine callX.by (tsane_c _ ?_ ?_) ?_|refine callX.by (served_c _ ?_ ?_ ?_) ?_|refine callX.by a6sc ?_|assumption|(refine Qw hK _ ?_; clear hK K)|refine Qw ‹_› _ ?_|refine Qx ‹_› ?_|refine Qi fun K hK=>?_|refine Qj T fun K hK=>?_|refine Ql fun A B hA hB=>?_|refine Qn ?_|refine Qr ?_)
 | ((with_reducible first|apply Qy|apply Qz|apply QA)<;>intro hb<;>try simp only [nr] at hb)
 | simp only [go_sem,↓reduceIte,reduceIte,Qa,Qh,Qb,Qc,Qd,Qe,Qf,Qg,reduceCtorEq, *,-hs,-hnd]
 | with_reducible refine fun (bn:Bool) hbn=>?_))
theorem goodE_c (xs:List Res) (hl:xs.length≤65536) (hs:∀ r∈xs,SmRes r) (hnd:tsane xs=0→(xs.map keyOf).Nodup):CallR Tryz.prog 66 [.slice false (avs xs)] (.val (.bool (goodE xs))):=by
 by_cases h:tsane xs=0
 ·have:=goodS_c xs hl hs h (hnd h)
  unfold goodE
  rw [decide_eq_true h,Bool.true_and]
  exact this
 ·have:=goodN_c xs hl hs h
  unfold goodE
  rw [decide_eq_false h,Bool.false_and]
  exact this
theorem good_fit {l:List Res} (h:goodE l=true) (hm:missK l=[]):Fit l∧Conf l:=by
 unfold goodE at h
 simp only [Bool.and_eq_true,decide_eq_true_eq] at h
 have hc:=conf_of h.1
 refine ⟨⟨hc.up,hc.kin,h.2,fun r hr k hk=>Classical.byContradiction fun hn=>?_⟩,hc⟩
 have:=(mem_missK l k).2 ⟨⟨r,hr,hk⟩,hn⟩
 rw [hm] at this; simp at this
set_option maxHeartbeats 8000000 in
theorem planServes_c (a b:List Res) (H:List Key) (hl:Small a.length) (hs:∀ r∈a,SmRes r) (hl2:Small b.length) (hs2:∀ r∈b,SmRes r) (hH:Small H.length):CallR Tryz.prog 11 [.slice false (avs a),.slice false (avs b),.slice false (avs H)] (.val (.bool true)):=by
 have w0:=awake15_c
 have w1:=fewP_c a b H hl hs hl2 hs2
 by_cases hf:fewP a b H=true
 rotate_left
 ·have hf:fewP a b H=false:=by simpa using hf
  rw [hf] at w1
  refine CallR.go3 (T:=T) Tryz.call11 Tryz.func11 rfl Tryz.ntmps11 (congrArg Array.toList Tryz.results11) (by decide) fun ts hn h0 h1 h2=>?_
  (repeat' (first
 | (with_reducible first|refine callX.by (w0) ?_|refine callX.by (w1) ?_|refine callX.by awake15_c ?_|refine callX.by (fewP_c _ _ _ ?_ ?_ ?_ ?_) ?_|refine callX.by (goodN_c _ ?_ ?_ ?_) ?_|refine callX.by (goodS_c _ ?_ ?_ ?_ ?_) ?_|refine callX.by (goodE_c _ ?_ ?_ ?_) ?_|refine callX.by sm8gc ?_|refine callX.by (missing_c _ ?_ ?_) ?_|refine callX.by a6mc ?_|refine callX.by (allP_c _ _ _ ?_ ?_ ?_ ?_ ?_ ?_) ?_|refine callX.by (applyP_c _ _ _ _ ?_ ?_ ?_ ?_) ?_|refine callX.by (served_c _ ?_ ?_ ?_) ?_|refine callX.by a6sc ?_|refine callX.by (tsame_c _ _ ?_ ?_) ?_|assumption|(refine Qw hK _ ?_; clear hK K)|refine Qw ‹_› _ ?_|refine Qx ‹_› ?_|refine Qi fun K hK=>?_|refine Qj T fun K hK=>?_|refine Ql fun A B hA hB=>?_|refine Qm ?_|refine Qn ?_|refine Qp ?_|refine Qr ?_)
 | ((with_reducible first|apply Qy|apply Qz|apply QA)<;>intro hb<;>try simp only [nr] at hb)
 | simp only [go_sem,↓reduceIte,reduceIte,Qa,Qh,Qb,Qc,Qd,Qe,Qf,Qg,reduceCtorEq, *,-hs,-hs2,-w0,-w1]
 | with_reducible refine fun (bn:Bool) hbn=>?_))
 rw [hf] at w1
 obtain ⟨hl8,hm8,hH8⟩:=fewP_t hf
 have w2:=goodE_c a (by omega) hs (fun h=>(conf_of h).nodup)
 cases hg:goodE a with
 | false =>
  rw [hg] at w2
  refine CallR.go3 (T:=T) Tryz.call11 Tryz.func11 rfl Tryz.ntmps11 (congrArg Array.toList Tryz.results11) (by decide) fun ts hn h0 h1 h2=>?_
  (repeat' (first
 | (with_reducible first|refine callX.by (w0) ?_|refine callX.by (w1) ?_|refine callX.by (w2) ?_|refine callX.by awake15_c ?_|refine callX.by (fewP_c _ _ _ ?_ ?_ ?_ ?_) ?_|refine callX.by (goodN_c _ ?_ ?_ ?_) ?_|refine callX.by (goodS_c _ ?_ ?_ ?_ ?_) ?_|refine callX.by (goodE_c _ ?_ ?_ ?_) ?_|refine callX.by sm8gc ?_|refine callX.by (missing_c _ ?_ ?_) ?_|refine callX.by a6mc ?_|refine callX.by (allP_c _ _ _ ?_ ?_ ?_ ?_ ?_ ?_) ?_|refine callX.by (applyP_c _ _ _ _ ?_ ?_ ?_ ?_) ?_|refine callX.by (served_c _ ?_ ?_ ?_) ?_|refine callX.by a6sc ?_|refine callX.by (tsame_c _ _ ?_ ?_) ?_|assumption|(refine Qw hK _ ?_; clear hK K)|refine Qw ‹_› _ ?_|refine Qx ‹_› ?_|refine Qi fun K hK=>?_|refine Qj T fun K hK=>?_|refine Ql fun A B hA hB=>?_|refine Qm ?_|refine Qn ?_|refine Qp ?_|refine Qr ?_)
 | ((with_reducible first|apply Qy|apply Qz|apply QA)<;>intro hb<;>try simp only [nr] at hb)
 | simp only [go_sem,↓reduceIte,reduceIte,Qa,Qh,Qb,Qc,Qd,Qe,Qf,Qg,reduceCtorEq, *,-hs,-hs2,-w0,-w1,-w2]
 | with_reducible refine fun (bn:Bool) hbn=>?_))
 | true =>
 rw [hg] at w2
 have w3:=goodE_c b (by omega) hs2 (fun h=>(conf_of h).nodup)
 cases hg2:goodE b with
 | false =>
  rw [hg2] at w3
  refine CallR.go3 (T:=T) Tryz.call11 Tryz.func11 rfl Tryz.ntmps11 (congrArg Array.toList Tryz.results11) (by decide) fun ts hn h0 h1 h2=>?_
  (repeat' (first
 | (with_reducible first|refine callX.by (w0) ?_|refine callX.by (w1) ?_|refine callX.by (w2) ?_|refine callX.by (w3) ?_|refine callX.by awake15_c ?_|refine callX.by (fewP_c _ _ _ ?_ ?_ ?_ ?_) ?_|refine callX.by (goodN_c _ ?_ ?_ ?_) ?_|refine callX.by (goodS_c _ ?_ ?_ ?_ ?_) ?_|refine callX.by (goodE_c _ ?_ ?_ ?_) ?_|refine callX.by sm8gc ?_|refine callX.by (missing_c _ ?_ ?_) ?_|refine callX.by a6mc ?_|refine callX.by (allP_c _ _ _ ?_ ?_ ?_ ?_ ?_ ?_) ?_|refine callX.by (applyP_c _ _ _ _ ?_ ?_ ?_ ?_) ?_|refine callX.by (served_c _ ?_ ?_ ?_) ?_|refine callX.by a6sc ?_|refine callX.by (tsame_c _ _ ?_ ?_) ?_|assumption|(refine Qw hK _ ?_; clear hK K)|refine Qw ‹_› _ ?_|refine Qx ‹_› ?_|refine Qi fun K hK=>?_|refine Qj T fun K hK=>?_|refine Ql fun A B hA hB=>?_|refine Qm ?_|refine Qn ?_|refine Qp ?_|refine Qr ?_)
 | ((with_reducible first|apply Qy|apply Qz|apply QA)<;>intro hb<;>try simp only [nr] at hb)
 | simp only [go_sem,↓reduceIte,reduceIte,Qa,Qh,Qb,Qc,Qd,Qe,Qf,Qg,reduceCtorEq, *,-hs,-hs2,-w0,-w1,-w2,-w3]
 | with_reducible refine fun (bn:Bool) hbn=>?_))
 | true =>
 rw [hg2] at w3
 have w4:=(missing_c b (by omega) hs2).frz
 have w5:=(missing_c a (by omega) hs).frz
 have hml:=missK_len b
 have hml2:=missK_len a
 by_cases hm1:missK b=[]
 rotate_left
 ·generalize missK b=M1 at *
  have hp:(0:Int) < (M1.length:Int):=by have:=List.length_pos_iff.2 hm1; omega
  refine CallR.go3 (T:=T) Tryz.call11 Tryz.func11 rfl Tryz.ntmps11 (congrArg Array.toList Tryz.results11) (by decide) fun ts hn h0 h1 h2=>?_
  (repeat' (first
 | (with_reducible first|refine callX.by (w0) ?_|refine callX.by (w1) ?_|refine callX.by (w2) ?_|refine callX.by (w3) ?_|refine callX.by (w4) ?_|refine callX.by awake15_c ?_|refine callX.by (fewP_c _ _ _ ?_ ?_ ?_ ?_) ?_|refine callX.by (goodN_c _ ?_ ?_ ?_) ?_|refine callX.by (goodS_c _ ?_ ?_ ?_ ?_) ?_|refine callX.by (goodE_c _ ?_ ?_ ?_) ?_|refine callX.by sm8gc ?_|refine callX.by (missing_c _ ?_ ?_) ?_|refine callX.by a6mc ?_|refine callX.by (allP_c _ _ _ ?_ ?_ ?_ ?_ ?_ ?_) ?_|refine callX.by (applyP_c _ _ _ _ ?_ ?_ ?_ ?_) ?_|refine callX.by (served_c _ ?_ ?_ ?_) ?_|refine callX.by a6sc ?_|refine callX.by (tsame_c _ _ ?_ ?_) ?_|assumption|(refine Qw hK _ ?_; clear hK K)|refine Qw ‹_› _ ?_|refine Qx ‹_› ?_|refine Qi fun K hK=>?_|refine Qj T fun K hK=>?_|refine Ql fun A B hA hB=>?_|refine Qm ?_|refine Qn ?_|refine Qp ?_|refine Qr ?_)
 | ((with_reducible first|apply Qy|apply Qz|apply QA)<;>intro hb<;>try simp only [nr] at hb)
 | simp only [go_sem,↓reduceIte,reduceIte,Qa,Qh,Qb,Qc,Qd,Qe,Qf,Qg,reduceCtorEq, *,-hs,-hs2,-w0,-w1,-w2,-w3,-w4,-w5,-hm1]
 | with_reducible refine fun (bn:Bool) hbn=>?_))
 by_cases hm2:missK a=[]
 rotate_left
 ·rw [hm1,avs_nil] at w4
  generalize missK a=M1 at *
  have hp:(0:Int) < (M1.length:Int):=by have:=List.length_pos_iff.2 hm2; omega
  refine CallR.go3 (T:=T) Tryz.call11 Tryz.func11 rfl Tryz.ntmps11 (congrArg Array.toList Tryz.results11) (by decide) fun ts hn h0 h1 h2=>?_
  (repeat' (first
 | (with_reducible first|refine callX.by (w0) ?_|refine callX.by (w1) ?_|refine callX.by (w2) ?_|refine callX.by (w3) ?_|refine callX.by (w4) ?_|refine callX.by (w5) ?_|refine callX.by awake15_c ?_|refine callX.by (fewP_c _ _ _ ?_ ?_ ?_ ?_) ?_|refine callX.by (goodN_c _ ?_ ?_ ?_) ?_|refine callX.by (goodS_c _ ?_ ?_ ?_ ?_) ?_|refine callX.by (goodE_c _ ?_ ?_ ?_) ?_|refine callX.by sm8gc ?_|refine callX.by (missing_c _ ?_ ?_) ?_|refine callX.by a6mc ?_|refine callX.by (allP_c _ _ _ ?_ ?_ ?_ ?_ ?_ ?_) ?_|refine callX.by (applyP_c _ _ _ _ ?_ ?_ ?_ ?_) ?_|refine callX.by (served_c _ ?_ ?_ ?_) ?_|refine callX.by a6sc ?_|refine callX.by (tsame_c _ _ ?_ ?_) ?_|assumption|(refine Qw hK _ ?_; clear hK K)|refine Qw ‹_› _ ?_|refine Qx ‹_› ?_|refine Qi fun K hK=>?_|refine Qj T fun K hK=>?_|refine Ql fun A B hA hB=>?_|refine Qm ?_|refine Qn ?_|refine Qp ?_|refine Qr ?_)
 | ((with_reducible first|apply Qy|apply Qz|apply QA)<;>intro hb<;>try simp only [nr] at hb)
 | simp only [go_sem,↓reduceIte,reduceIte,Qa,Qh,Qb,Qc,Qd,Qe,Qf,Qg,reduceCtorEq, *,-hs,-hs2,-w0,-w1,-w2,-w3,-w4,-w5,-hm1,-hm2,List.length_nil,Int.lt_irrefl]
 | with_reducible refine fun (bn:Bool) hbn=>?_))
 obtain ⟨fa,hca⟩:=good_fit hg hm2
 obtain ⟨fb,hcb⟩:=good_fit hg2 hm1
 rw [hm1,avs_nil] at w4
 rw [hm2,avs_nil] at w5
 clear hm1 hm2 hml hml2 hg hg2
 have hla:=hca.len
 have hlb:=hcb.len
 have hre:=reachOk_of (l:=b) (by omega) hs2 hcb.up
 have w6:=(allP_c a b H hl8 hm8 hs hs2 hH hre).frz
 have w7:CallR Tryz.prog 34 [.slice false (avs a),.slice false (avs b),.slice false []] (.val (.slice false (avs (runP b [] 400 a)))):=(allP_c a b [] hl8 hm8 hs hs2 (by simp [Small]) hre).frz
 obtain ⟨e,hat,hXl⟩:=At.start (H:=H) hca.up hcb.up (show a.length+b.length < 400 by omega)
 obtain ⟨e2,hat2,hYl⟩:=At.start (H:=[]) hca.up hcb.up (show a.length+b.length < 400 by omega)
 have hten:=ten_steps fb.up fb.kin hat2.chain fa.up 0 (fun m h=>by omega) (by omega)
 generalize runP b H 400 a=X at *
 generalize runP b [] 400 a=Y at *
 have hXs:Small X.length:=by unfold Small; omega
 have hYs:Small Y.length:=by unfold Small; omega
 clear hca hcb hf
 refine CallR.go3 (T:=T) Tryz.call11 Tryz.func11 rfl Tryz.ntmps11 (congrArg Array.toList Tryz.results11) (by decide) fun ts hn h0 h1 h2=>?_
 (repeat' (first
 | (with_reducible first|refine callX.by (w0) ?_|refine callX.by (w1) ?_|refine callX.by (w2) ?_|refine callX.by (w3) ?_|refine callX.by (w4) ?_|refine callX.by (w5) ?_|refine callX.by (w6) ?_|refine callX.by awake15_c ?_|refine callX.by (fewP_c _ _ _ ?_ ?_ ?_ ?_) ?_|refine callX.by (goodN_c _ ?_ ?_ ?_) ?_|refine callX.by (goodS_c _ ?_ ?_ ?_ ?_) ?_|refine callX.by (goodE_c _ ?_ ?_ ?_) ?_|refine callX.by sm8gc ?_|refine callX.by (missing_c _ ?_ ?_) ?_|refine callX.by a6mc ?_|refine callX.by (allP_c _ _ _ ?_ ?_ ?_ ?_ ?_ ?_) ?_|refine callX.by (applyP_c _ _ _ _ ?_ ?_ ?_ ?_) ?_|refine callX.by (served_c _ ?_ ?_ ?_) ?_|refine callX.by a6sc ?_|refine callX.by (tsame_c _ _ ?_ ?_) ?_|assumption|(refine Qw hK _ ?_; clear hK K)|refine Qw ‹_› _ ?_|refine Qx ‹_› ?_|refine Qi fun K hK=>?_|refine Qj T fun K hK=>?_|refine Ql fun A B hA hB=>?_|refine Qm ?_|refine Qn ?_|refine Qp ?_|refine Qr ?_)
 | ((with_reducible first|apply Qy|apply Qz|apply QA)<;>intro hb<;>try simp only [nr] at hb)
 | simp only [go_sem,↓reduceIte,reduceIte,Qa,Qh,Qb,Qc,Qd,Qe,Qf,Qg,reduceCtorEq, *,-hs,-hs2,-hre,-w0,-w1,-w2,-w3,-w4,-w5,-w6,-w7,List.length_nil,Int.lt_irrefl]
 | with_reducible refine fun (bn:Bool) hbn=>?_))
 refine Qs [0,1,7,8] (fun m ts'=>∃ (i:Nat),∃ (x:List Res),m=X.length - i∧i≤X.length∧At a b H e x (X.drop i)∧(InvA a b x∨InvB b x)∧ts'.tmp 9=.slice false (avs x)∧ts'.tmp 10=.int .i64 i) X.length ?_ ?_
 ·refine ⟨0,a,rfl,Nat.zero_le _,hat,.inl (invA_refl fa.up),?_⟩
  simp only [go_sem,↓reduceIte,reduceIte,Qa,Qh,Qb,Qc,Qd,Qe,Qf,Qg,reduceCtorEq, *,-hs,-hs2,-hre,-w0,-w1,-w2,-w3,-w4,-w5,-w6,-w7]
 ·rintro m A hM ts' hk ⟨i,x,hm,f1,f2,f3,s1,s2⟩
  simp only [go_sem,↓reduceIte,reduceIte,Qa,Qh,Qb,Qc,Qd,Qe,Qf,Qg,reduceCtorEq, *] at hk
  by_cases hlt:i < X.length
  ·rw [List.drop_eq_getElem_cons hlt] at f2
   have hxl:x.length≤128:=by have:=f2.len; omega
   obtain ⟨q1,q2⟩:=f2.step fb.up
   obtain ⟨_,q3,q4⟩:=next_sub q1
   have w8:=applyP_c x X[i].kind X[i].adds X[i].gone (by unfold Small; omega) (by unfold Small; omega) (by unfold Small; omega) (by unfold Small; omega)
   rw [show (⟨X[i].kind,X[i].adds,X[i].gone⟩:Step)=X[i] from rfl] at w8
   have q5:=inv_step fb f3 q1
   have hx2:(applyP x X[i]).length≤128:=by have:=q2.len; omega
   have w9:=served_c (applyP x X[i]) (by omega) (q2.sm hs hs2) (up_nodup q2.up)
   rw [inv_served fa fb q5] at w9
   (repeat' (first
 | (with_reducible first|refine callX.by (w8) ?_|refine callX.by (w9) ?_|refine callX.by awake15_c ?_|refine callX.by (fewP_c _ _ _ ?_ ?_ ?_ ?_) ?_|refine callX.by (goodN_c _ ?_ ?_ ?_) ?_|refine callX.by (goodS_c _ ?_ ?_ ?_ ?_) ?_|refine callX.by (goodE_c _ ?_ ?_ ?_) ?_|refine callX.by sm8gc ?_|refine callX.by (missing_c _ ?_ ?_) ?_|refine callX.by a6mc ?_|refine callX.by (allP_c _ _ _ ?_ ?_ ?_ ?_ ?_ ?_) ?_|refine callX.by (applyP_c _ _ _ _ ?_ ?_ ?_ ?_) ?_|refine callX.by (served_c _ ?_ ?_ ?_) ?_|refine callX.by a6sc ?_|refine callX.by (tsame_c _ _ ?_ ?_) ?_|assumption|(refine Qw hK _ ?_; clear hK K)|refine Qw ‹_› _ ?_|refine Qx ‹_› ?_|refine Qi fun K hK=>?_|refine Qj T fun K hK=>?_|refine Ql fun A B hA hB=>?_|refine Qm ?_|refine Qn ?_|refine Qp ?_|refine Qr ?_)
 | ((with_reducible first|apply Qy|apply Qz|apply QA)<;>intro hb<;>try simp only [nr] at hb)
 | simp only [go_sem,↓reduceIte,reduceIte,Qa,Qh,Qb,Qc,Qd,Qe,Qf,Qg,reduceCtorEq, *,-hs,-hs2,-hre,-w0,-w1,-w2,-w3,-w4,-w5,-w6,-w7,-w8,-w9,-q1,-q2,-q5,-f2,-f3]
 | with_reducible refine fun (bn:Bool) hbn=>?_))
   all_goals ((repeat clear hK); (repeat clear hA); (repeat clear hB))
   all_goals (refine hM.on (X.length - (i+1)) (by omega) (by simp only [go_sem,↓reduceIte,reduceIte,Qa,Qh,Qb,Qc,Qd,Qe,Qf,Qg,reduceCtorEq, *,w64_nat hlt hXs,-hs,-hs2,-hre,-w0,-w1,-w2,-w3,-w4,-w5,-w6,-w7,-w8,-w9,-q1,-q2,-q5,-f2,-f3]) ⟨i+1,applyP x X[i],rfl,by omega,q2,q5,?_⟩; simp only [go_sem,↓reduceIte,reduceIte,Qa,Qh,Qb,Qc,Qd,Qe,Qf,Qg,reduceCtorEq, *,w64_nat hlt hXs,-hs,-hs2,-hre,-w0,-w1,-w2,-w3,-w4,-w5,-w6,-w7,-w8,-w9,-q1,-q2,-q5,-f2,-f3]; done)
  ·clear f2 f3
   (repeat' (first
 | (with_reducible first|refine callX.by (w7) ?_|refine callX.by awake15_c ?_|refine callX.by (fewP_c _ _ _ ?_ ?_ ?_ ?_) ?_|refine callX.by (goodN_c _ ?_ ?_ ?_) ?_|refine callX.by (goodS_c _ ?_ ?_ ?_ ?_) ?_|refine callX.by (goodE_c _ ?_ ?_ ?_) ?_|refine callX.by sm8gc ?_|refine callX.by (missing_c _ ?_ ?_) ?_|refine callX.by a6mc ?_|refine callX.by (allP_c _ _ _ ?_ ?_ ?_ ?_ ?_ ?_) ?_|refine callX.by (applyP_c _ _ _ _ ?_ ?_ ?_ ?_) ?_|refine callX.by (served_c _ ?_ ?_ ?_) ?_|refine callX.by a6sc ?_|refine callX.by (tsame_c _ _ ?_ ?_) ?_|assumption|(refine Qw hK _ ?_; clear hK K)|refine Qw ‹_› _ ?_|refine Qx ‹_› ?_|refine Qi fun K hK=>?_|refine Qj T fun K hK=>?_|refine Ql fun A B hA hB=>?_|refine Qm ?_|refine Qn ?_|refine Qp ?_|refine Qr ?_)
 | ((with_reducible first|apply Qy|apply Qz|apply QA)<;>intro hb<;>try simp only [nr] at hb)
 | simp only [go_sem,↓reduceIte,reduceIte,Qa,Qh,Qb,Qc,Qd,Qe,Qf,Qg,reduceCtorEq, *,-hs,-hs2,-hre,-w0,-w1,-w2,-w3,-w4,-w5,-w6,-w7]
 | with_reducible refine fun (bn:Bool) hbn=>?_))
   clear hM hm
   refine Qs [1,7,11] (fun m ts'=>∃ (j:Nat),∃ (y:List Res),m=Y.length - j∧j≤Y.length∧At a b [] e2 y (Y.drop j)∧ts'.tmp 12=.slice false (avs y)∧ts'.tmp 13=.int .i64 j) Y.length ?_ ?_
   ·refine ⟨0,a,rfl,Nat.zero_le _,hat2,?_⟩
    simp only [go_sem,↓reduceIte,reduceIte,Qa,Qh,Qb,Qc,Qd,Qe,Qf,Qg,reduceCtorEq, *,-hs,-hs2,-hre,-w0,-w1,-w2,-w3,-w4,-w5,-w6,-w7]
   ·rintro m A hM ts' hk ⟨j,y,hm,f1,f2,s1,s2⟩
    simp only [go_sem,↓reduceIte,reduceIte,Qa,Qh,Qb,Qc,Qd,Qe,Qf,Qg,reduceCtorEq, *] at hk
    by_cases hlt2:j < Y.length
    ·rw [List.drop_eq_getElem_cons hlt2] at f2
     have hxl:y.length≤128:=by have:=f2.len; omega
     obtain ⟨q1,q2⟩:=f2.step fb.up
     obtain ⟨_,q3,q4⟩:=next_sub q1
     have w8:=applyP_c y Y[j].kind Y[j].adds Y[j].gone (by unfold Small; omega) (by unfold Small; omega) (by unfold Small; omega) (by unfold Small; omega)
     rw [show (⟨Y[j].kind,Y[j].adds,Y[j].gone⟩:Step)=Y[j] from rfl] at w8
     (repeat' (first
 | (with_reducible first|refine callX.by (w8) ?_|refine callX.by awake15_c ?_|refine callX.by (fewP_c _ _ _ ?_ ?_ ?_ ?_) ?_|refine callX.by (goodN_c _ ?_ ?_ ?_) ?_|refine callX.by (goodS_c _ ?_ ?_ ?_ ?_) ?_|refine callX.by (goodE_c _ ?_ ?_ ?_) ?_|refine callX.by sm8gc ?_|refine callX.by (missing_c _ ?_ ?_) ?_|refine callX.by a6mc ?_|refine callX.by (allP_c _ _ _ ?_ ?_ ?_ ?_ ?_ ?_) ?_|refine callX.by (applyP_c _ _ _ _ ?_ ?_ ?_ ?_) ?_|refine callX.by (served_c _ ?_ ?_ ?_) ?_|refine callX.by a6sc ?_|refine callX.by (tsame_c _ _ ?_ ?_) ?_|assumption|(refine Qw hK _ ?_; clear hK K)|refine Qw ‹_› _ ?_|refine Qx ‹_› ?_|refine Qi fun K hK=>?_|refine Qj T fun K hK=>?_|refine Ql fun A B hA hB=>?_|refine Qm ?_|refine Qn ?_|refine Qp ?_|refine Qr ?_)
 | ((with_reducible first|apply Qy|apply Qz|apply QA)<;>intro hb<;>try simp only [nr] at hb)
 | simp only [go_sem,↓reduceIte,reduceIte,Qa,Qh,Qb,Qc,Qd,Qe,Qf,Qg,reduceCtorEq, *,-hs,-hs2,-hre,-w0,-w1,-w2,-w3,-w4,-w5,-w6,-w7,-w8,-q1,-q2,-f2]
 | with_reducible refine fun (bn:Bool) hbn=>?_))
     all_goals ((repeat clear hK); (repeat clear hA); (repeat clear hB))
     all_goals (refine hM.on (Y.length - (j+1)) (by omega) (by simp only [go_sem,↓reduceIte,reduceIte,Qa,Qh,Qb,Qc,Qd,Qe,Qf,Qg,reduceCtorEq, *,w64_nat hlt2 hYs,-hs,-hs2,-hre,-w0,-w1,-w2,-w3,-w4,-w5,-w6,-w7,-w8,-q1,-q2,-f2]) ⟨j+1,applyP y Y[j],rfl,by omega,q2,?_⟩; simp only [go_sem,↓reduceIte,reduceIte,Qa,Qh,Qb,Qc,Qd,Qe,Qf,Qg,reduceCtorEq, *,w64_nat hlt2 hYs,-hs,-hs2,-hre,-w0,-w1,-w2,-w3,-w4,-w5,-w6,-w7,-w8,-q1,-q2,-f2]; done)
    ·rw [List.drop_eq_nil_of_le (by omega)] at f2
     obtain ⟨rfl,hno⟩:=f2.stop
     have eb:y=b:=end_eq f2.up fb.up (f2.kin fa.kin fb.kin) fb.kin fb.miss hno
     have w8:=tsame_c b b hl2 hs2
     subst eb
     rw [decide_eq_true rfl] at w8
     have hten':(Y.length:Int)≤10:=by omega
     (repeat' (first
 | (with_reducible first|refine callX.by (w8) ?_|refine callX.by awake15_c ?_|refine callX.by (fewP_c _ _ _ ?_ ?_ ?_ ?_) ?_|refine callX.by (goodN_c _ ?_ ?_ ?_) ?_|refine callX.by (goodS_c _ ?_ ?_ ?_ ?_) ?_|refine callX.by (goodE_c _ ?_ ?_ ?_) ?_|refine callX.by sm8gc ?_|refine callX.by (missing_c _ ?_ ?_) ?_|refine callX.by a6mc ?_|refine callX.by (allP_c _ _ _ ?_ ?_ ?_ ?_ ?_ ?_) ?_|refine callX.by (applyP_c _ _ _ _ ?_ ?_ ?_ ?_) ?_|refine callX.by (served_c _ ?_ ?_ ?_) ?_|refine callX.by a6sc ?_|refine callX.by (tsame_c _ _ ?_ ?_) ?_|assumption|(refine Qw hK _ ?_; clear hK K)|refine Qw ‹_› _ ?_|refine Qx ‹_› ?_|refine Qi fun K hK=>?_|refine Qj T fun K hK=>?_|refine Ql fun A B hA hB=>?_|refine Qm ?_|refine Qn ?_|refine Qp ?_|refine Qr ?_)
 | ((with_reducible first|apply Qy|apply Qz|apply QA)<;>intro hb<;>try simp only [nr] at hb)
 | simp only [go_sem,↓reduceIte,reduceIte,Qa,Qh,Qb,Qc,Qd,Qe,Qf,Qg,reduceCtorEq, *,-hs,-hs2,-hre,-w0,-w1,-w2,-w3,-w4,-w5,-w6,-w7,-w8,-f2,-hno]
 | with_reducible refine fun (bn:Bool) hbn=>?_))
     all_goals ((repeat clear hK); (repeat clear hA); (repeat clear hB))
     all_goals trace_state
end Go.Proofs.YtmjkjmoeicnbnaaGreatDoor.Lg
