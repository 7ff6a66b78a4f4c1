/- Parts of the proof, one behind the other. -/
import Derived.Test.YtmjkjmoeicnbnaaGreatDoorG20
namespace Go.Proofs.YtmjkjmoeicnbnaaGreatDoor.Lg
set_option maxRecDepth 100000
set_option linter.unusedVariables false
set_option linter.unusedSimpArgs false
open Go
open Nat renaming reduceEqDiff → Qa, reduceLT → Qb, reduceLeDiff → Qc, reduceAdd → Qd, reduceMul → Qe, reduceSub → Qf, reduceBEq → Qg
open String renaming reduceEq → Qh
open SpecC renaming seqW → Qi, regW → Qj, drawW → Qk, condW → Ql, block → Qm, skip → Qn, exit → Qp, ret → Qr, loopF → Qs
open NxK renaming out → Qw
open Nx renaming out → Qx
open condK renaming split → Qy
open gK renaming split_t → Qz, split_f → QA
open List renaming getElem_mem → QC
@[go_sem] def Wd17:List (List Nat×List Nat):=[([13],[14,17,18]),([14],[13,17,18]),([15],[18]),([16],[18]),([17],[13,14,18]),([18],[13,14,15,16,17])]
@[go_sem] def Wd18:List (List Nat×List Nat):=[([15],[16,19,20,21,22]),([16],[15,19,20,21,22]),([17],[20,21,22]),([18],[20,22]),([19],[15,16,20,22]),([20],[15,16,17,18,19,22]),([21],[15,16,17,22]),([22],[15,16,17,18,19,20,21])]
theorem tget_cons (x:Res) (l:List Res) (k:Key):tget (x :: l) k=if keyOf x=k then some x else tget l k:=by
 unfold tget
 rw [List.find?_cons]
 by_cases h:keyOf x=k<;>simp [h]
theorem get05_c (xs:List Res) (k_kind:Int) (k_name:List UInt8) (hl:Small xs.length):CallR Tryz.prog 134 [.slice false (avs xs),.agg [.int .i64 k_kind,.str k_name]] (.val (.tup [Dat.av ((tget xs (⟨k_kind,k_name⟩:Key)).getD zRes),.bool (tget xs (⟨k_kind,k_name⟩:Key)).isSome])):=by
 rw [av_Res]
 refine CallR.go2 (T:=T) Tryz.call134 Tryz.func134 rfl Tryz.ntmps134 (congrArg Array.toList Tryz.results134) (by decide) fun ts hn h0 h1=>?_
 (repeat' (first
 | (with_reducible first|refine callX.by (rkey3_c _ _ _ _ _ _ _) ?_|assumption|(refine Qw hK _ ?_; clear hK K)|refine Qw ‹_› _ ?_|refine Qx ‹_› ?_|refine Qi fun K hK=>?_|refine Qj T fun K hK=>?_|refine Qk (id:=4) T mixed Wd17 (by kernel_rfl) fun K hK=>?_|refine Ql fun A B hA hB=>?_|refine Qm ?_|refine Qn ?_|refine Qp ?_|refine Qr ?_)
 | ((with_reducible first|apply Qy|apply Qz|apply QA)<;>intro hb<;>try simp only [nr] at hb)
 | simp only [go_sem,↓reduceIte,reduceIte,Qa,Qh,Qb,Qc,Qd,Qe,Qf,Qg,reduceCtorEq, *]
 | with_reducible refine fun (bn:Bool) hbn=>?_))
 refine Qs [0,3] (fun m ts'=>∃ (i:Nat),m=xs.length - i∧i≤xs.length∧tget xs (⟨k_kind,k_name⟩:Key)=tget (xs.drop i) (⟨k_kind,k_name⟩:Key)∧ts'.tmp 6=.int .i64 i∧ts'.tmp 4=.ref 4 (ts.gen 4+1) 0∧ts'.gen 4=ts.gen 4+1∧ts'.obj 4=.box [.int .i64 0,.str [],.int .i64 0,.int .i64 0,.str [],.slice true [],.slice true []]) xs.length ?_ ?_
 ·refine ⟨0,?_⟩
  simp only [go_sem,↓reduceIte,reduceIte,Qa,Qh,Qb,Qc,Qd,Qe,Qf,Qg,reduceCtorEq, *]
 ·rintro m A hM ts' hk ⟨i,hm,f1,f2,s1,s2,s3,s4⟩
  simp only [go_sem,↓reduceIte,reduceIte,Qa,Qh,Qb,Qc,Qd,Qe,Qf,Qg,reduceCtorEq, *] at hk
  by_cases hlt:i < xs.length
  ·rw [List.drop_eq_getElem_cons hlt,tget_cons] at f2
   by_cases hk:keyOf xs[i]=(⟨k_kind,k_name⟩:Key)
   ·rw [if_pos hk] at f2
    have hk1:xs[i].kind=k_kind:=congrArg Key.kind hk
    have hk2:xs[i].name=k_name:=congrArg Key.name hk
    rw [f2]
    (repeat' (first
 | (with_reducible first|refine callX.by (rkey3_c _ _ _ _ _ _ _) ?_|assumption|(refine Qw hK _ ?_; clear hK K)|refine Qw ‹_› _ ?_|refine Qx ‹_› ?_|refine Qi fun K hK=>?_|refine Qj T fun K hK=>?_|refine Qk (id:=4) T mixed Wd17 (by kernel_rfl) fun K hK=>?_|refine Ql fun A B hA hB=>?_|refine Qm ?_|refine Qn ?_|refine Qp ?_|refine Qr ?_)
 | ((with_reducible first|apply Qy|apply Qz|apply QA)<;>intro hb<;>try simp only [nr] at hb)
 | simp only [go_sem,↓reduceIte,reduceIte,Qa,Qh,Qb,Qc,Qd,Qe,Qf,Qg,reduceCtorEq, *,-f2,-hk,Option.getD_some,Option.isSome_some]
 | with_reducible refine fun (bn:Bool) hbn=>?_))
    all_goals trace_state
   ·rw [if_neg hk] at f2
    have hk1:¬ (xs[i].kind=k_kind∧xs[i].name=k_name):=fun h=>hk (by unfold keyOf; rw [h.1,h.2])
    (repeat' (first
 | (with_reducible first|refine callX.by (rkey3_c _ _ _ _ _ _ _) ?_|assumption|(refine Qw hK _ ?_; clear hK K)|refine Qw ‹_› _ ?_|refine Qx ‹_› ?_|refine Qi fun K hK=>?_|refine Qj T fun K hK=>?_|refine Qk (id:=4) T mixed Wd17 (by kernel_rfl) fun K hK=>?_|refine Ql fun A B hA hB=>?_|refine Qm ?_|refine Qn ?_|refine Qp ?_|refine Qr ?_)
 | ((with_reducible first|apply Qy|apply Qz|apply QA)<;>intro hb<;>try simp only [nr] at hb)
 | simp only [go_sem,↓reduceIte,reduceIte,Qa,Qh,Qb,Qc,Qd,Qe,Qf,Qg,reduceCtorEq, *,-f2,-hk]
 | with_reducible refine fun (bn:Bool) hbn=>?_))
    all_goals ((repeat clear hK); (repeat clear hA); (repeat clear hB))
    all_goals first
     | (refine hM.on (xs.length - (i+1)) (by omega) (by simp only [go_sem,↓reduceIte,reduceIte,Qa,Qh,Qb,Qc,Qd,Qe,Qf,Qg,reduceCtorEq, *,w64_nat hlt hl,-f2,-hk]) ⟨i+1,rfl,by omega,f2,?_⟩; simp only [go_sem,↓reduceIte,reduceIte,Qa,Qh,Qb,Qc,Qd,Qe,Qf,Qg,reduceCtorEq, *,w64_nat hlt hl,-f2,-hk]; done)
     | (exfalso; simp_all; done)
     | trace_state
  ·rw [List.drop_eq_nil_of_le (by omega)] at f2
   have e:tget xs (⟨k_kind,k_name⟩:Key)=none:=by rw [f2]; rfl
   rw [e]
   (repeat' (first
 | (with_reducible first|refine callX.by (rkey3_c _ _ _ _ _ _ _) ?_|assumption|(refine Qw hK _ ?_; clear hK K)|refine Qw ‹_› _ ?_|refine Qx ‹_› ?_|refine Qi fun K hK=>?_|refine Qj T fun K hK=>?_|refine Qk (id:=4) T mixed Wd17 (by kernel_rfl) fun K hK=>?_|refine Ql fun A B hA hB=>?_|refine Qm ?_|refine Qn ?_|refine Qp ?_|refine Qr ?_)
 | ((with_reducible first|apply Qy|apply Qz|apply QA)<;>intro hb<;>try simp only [nr] at hb)
 | simp only [go_sem,↓reduceIte,reduceIte,Qa,Qh,Qb,Qc,Qd,Qe,Qf,Qg,reduceCtorEq, *,-f2,zRes,Option.getD_none,Option.isSome_none]
 | with_reducible refine fun (bn:Bool) hbn=>?_))
   all_goals ((repeat clear hK); (repeat clear hA); (repeat clear hB))
   all_goals first|rfl|exact ⟨rfl,rfl⟩
theorem sideR_cons (x:Res) (l:List Res) (k:Key) (c:Int):sideR (x :: l) k c=if kcmp (keyOf x) k=c then x :: sideR l k c else sideR l k c:=by
 unfold sideR
 rw [List.filter_cons]
 by_cases h:kcmp (keyOf x) k=c<;>simp [h]
theorem part05_c (xs:List Res) (k_kind:Int) (k_name:List UInt8) (c:Int) (hl:Small xs.length) (hs:∀ r∈xs,SmRes r) (hkn:Small k_name.length):CallR Tryz.prog 187 [.slice false (avs xs),.agg [.int .i64 k_kind,.str k_name],.int .i64 c] (.own 7 (avs (sideR xs (⟨k_kind,k_name⟩:Key) c))):=by
 refine CallR.go3 (T:=T) Tryz.call187 Tryz.func187 rfl Tryz.ntmps187 (congrArg Array.toList Tryz.results187) (by decide) fun ts hn h0 h1 h2=>?_
 (repeat' (first
 | (with_reducible first|refine callX.by (rkey3_c _ _ _ _ _ _ _) ?_|refine callX.by (kcmp3_c _ _ _ _ ?_ ?_) ?_|assumption|(refine Qw hK _ ?_; clear hK K)|refine Qw ‹_› _ ?_|refine Qx ‹_› ?_|refine Qi fun K hK=>?_|refine Qj T fun K hK=>?_|refine Qk (id:=5) T mixed Wd18 (by kernel_rfl) fun K hK=>?_|refine Ql fun A B hA hB=>?_|refine Qm ?_|refine Qn ?_|refine Qp ?_|refine Qr ?_)
 | ((with_reducible first|apply Qy|apply Qz|apply QA)<;>intro hb<;>try simp only [nr] at hb)
 | simp only [go_sem,↓reduceIte,reduceIte,Qa,Qh,Qb,Qc,Qd,Qe,Qf,Qg,reduceCtorEq, *,-hs]
 | with_reducible refine fun (bn:Bool) hbn=>?_))
 refine SpecC.ent (Ent.virt 7 7 (by simp only [go_sem,↓reduceIte,reduceIte,Qa,Qh,Qb,Qc,Qd,Qe,Qf,Qg,reduceCtorEq, *,-hs]) (by decide)) ?_
 refine Qs [0,2,4] (fun m ts'=>∃ (i:Nat),∃ (g:Nat),∃ (ys:List Res),m=xs.length - i∧i≤xs.length∧ys.length≤i∧sideR xs (⟨k_kind,k_name⟩:Key) c=ys++sideR (xs.drop i) (⟨k_kind,k_name⟩:Key) c∧ts'.tmp 7=.os 7 g ys.length∧ts'.gen 7=g∧ts'.obj 7=.arr 7 (avs ys)∧ts'.tmp 8=.int .i64 i) xs.length ?_ ?_
 ·refine ⟨0,ts.gen 7+1,[],rfl,Nat.zero_le _,Nat.le_refl _,rfl,?_⟩
  simp only [go_sem,↓reduceIte,reduceIte,Qa,Qh,Qb,Qc,Qd,Qe,Qf,Qg,reduceCtorEq, *,-hs,avs_nil]
 ·rintro m A hM ts' hk ⟨i,g,ys,hm,f1,f2,f3,s1,s2,s3,s4⟩
  simp only [go_sem,↓reduceIte,reduceIte,Qa,Qh,Qb,Qc,Qd,Qe,Qf,Qg,reduceCtorEq, *] at hk
  by_cases hlt:i < xs.length
  ·rw [List.drop_eq_getElem_cons hlt,sideR_cons,show keyOf xs[i]=⟨xs[i].kind,xs[i].name⟩ from rfl] at f3
   have hr:Room (ys.length+1) 104:=room_small (by unfold Small at hl; omega) (by decide)
   have w1:=kcmp3_c xs[i].kind k_kind xs[i].name k_name (hs _ (QC hlt)).1 hkn
   rw [kcmp3_eq] at w1
   by_cases hc:kcmp ⟨xs[i].kind,xs[i].name⟩ (⟨k_kind,k_name⟩:Key)=c
   ·rw [if_pos hc] at f3
    (repeat' (first
 | (with_reducible first|refine callX.by (w1) ?_|refine callX.by (rkey3_c _ _ _ _ _ _ _) ?_|refine callX.by (kcmp3_c _ _ _ _ ?_ ?_) ?_|assumption|(refine Qw hK _ ?_; clear hK K)|refine Qw ‹_› _ ?_|refine Qx ‹_› ?_|refine Qi fun K hK=>?_|refine Qj T fun K hK=>?_|refine Qk (id:=5) T mixed Wd18 (by kernel_rfl) fun K hK=>?_|refine Ql fun A B hA hB=>?_|refine Qm ?_|refine Qn ?_|refine Qp ?_|refine Qr ?_)
 | ((with_reducible first|apply Qy|apply Qz|apply QA)<;>intro hb<;>try simp only [nr] at hb)
 | simp only [go_sem,↓reduceIte,reduceIte,Qa,Qh,Qb,Qc,Qd,Qe,Qf,Qg,reduceCtorEq, *,-hs,-w1,-f3]
 | with_reducible refine fun (bn:Bool) hbn=>?_))
    all_goals ((repeat clear hK); (repeat clear hA); (repeat clear hB))
    all_goals (refine hM.onE (xs.length - (i+1)) (Ent.ren 7 30 ?_ ?_) ?_ ?_ ?_; (focus (simp only [go_sem,↓reduceIte,reduceIte,Qa,Qh,Qb,Qc,Qd,Qe,Qf,Qg,reduceCtorEq, *,w64_nat hlt hl,List.length_append,-hs,-w1,-f3]; first|done|rfl)); (focus (simp only [go_sem,↓reduceIte,reduceIte,Qa,Qh,Qb,Qc,Qd,Qe,Qf,Qg,reduceCtorEq, *,w64_nat hlt hl,List.length_append,-hs,-w1,-f3]; first|done|rfl)); omega; (focus (simp only [go_sem,↓reduceIte,reduceIte,Qa,Qh,Qb,Qc,Qd,Qe,Qf,Qg,reduceCtorEq, *,w64_nat hlt hl,List.length_append,-hs,-w1,-f3]; done)); refine ⟨i+1,ts'.gen 7+1,ys++[xs[i]],rfl,by omega,by simp; omega,by rw [f3,List.append_assoc]; rfl,?_⟩; simp only [go_sem,↓reduceIte,reduceIte,Qa,Qh,Qb,Qc,Qd,Qe,Qf,Qg,reduceCtorEq, *,w64_nat hlt hl,List.length_append,-hs,-w1,-f3]; done)
   ·rw [if_neg hc] at f3
    (repeat' (first
 | (with_reducible first|refine callX.by (w1) ?_|refine callX.by (rkey3_c _ _ _ _ _ _ _) ?_|refine callX.by (kcmp3_c _ _ _ _ ?_ ?_) ?_|assumption|(refine Qw hK _ ?_; clear hK K)|refine Qw ‹_› _ ?_|refine Qx ‹_› ?_|refine Qi fun K hK=>?_|refine Qj T fun K hK=>?_|refine Qk (id:=5) T mixed Wd18 (by kernel_rfl) fun K hK=>?_|refine Ql fun A B hA hB=>?_|refine Qm ?_|refine Qn ?_|refine Qp ?_|refine Qr ?_)
 | ((with_reducible first|apply Qy|apply Qz|apply QA)<;>intro hb<;>try simp only [nr] at hb)
 | simp only [go_sem,↓reduceIte,reduceIte,Qa,Qh,Qb,Qc,Qd,Qe,Qf,Qg,reduceCtorEq, *,-hs,-w1,-f3]
 | with_reducible refine fun (bn:Bool) hbn=>?_))
    all_goals ((repeat clear hK); (repeat clear hA); (repeat clear hB))
    all_goals (refine hM.on (xs.length - (i+1)) (by omega) (by simp only [go_sem,↓reduceIte,reduceIte,Qa,Qh,Qb,Qc,Qd,Qe,Qf,Qg,reduceCtorEq, *,w64_nat hlt hl,-hs,-w1,-f3]) ⟨i+1,g,ys,rfl,by omega,by omega,f3,?_⟩; simp only [go_sem,↓reduceIte,reduceIte,Qa,Qh,Qb,Qc,Qd,Qe,Qf,Qg,reduceCtorEq, *,w64_nat hlt hl,-hs,-w1,-f3]; done)
  ·rw [List.drop_eq_nil_of_le (by omega)] at f3
   have e:sideR xs (⟨k_kind,k_name⟩:Key) c=ys:=by rw [f3]; simp [sideR]
   rw [e]
   (repeat' (first
 | (with_reducible first|refine callX.by (rkey3_c _ _ _ _ _ _ _) ?_|refine callX.by (kcmp3_c _ _ _ _ ?_ ?_) ?_|assumption|(refine Qw hK _ ?_; clear hK K)|refine Qw ‹_› _ ?_|refine Qx ‹_› ?_|refine Qi fun K hK=>?_|refine Qj T fun K hK=>?_|refine Qk (id:=5) T mixed Wd18 (by kernel_rfl) fun K hK=>?_|refine Ql fun A B hA hB=>?_|refine Qm ?_|refine Qn ?_|refine Qp ?_|refine Qr ?_)
 | ((with_reducible first|apply Qy|apply Qz|apply QA)<;>intro hb<;>try simp only [nr] at hb)
 | simp only [go_sem,↓reduceIte,reduceIte,Qa,Qh,Qb,Qc,Qd,Qe,Qf,Qg,reduceCtorEq, *,-hs,-f3]
 | with_reducible refine fun (bn:Bool) hbn=>?_))
   all_goals ((repeat clear hK); (repeat clear hA); (repeat clear hB))
   all_goals trace_state
theorem with05_c (xs:List Res) (r:Res) (hl:Small xs.length) (hl2:Small (withR xs r).length) (hs:∀ r∈xs,SmRes r) (hr:SmRes r):CallR Tryz.prog 148 [.slice false (avs xs),.agg [.int .i64 r.kind,.str r.name,.int .i64 r.ver,.int .i64 r.port,.str r.to',.slice false (avs r.rules'),.slice false (avs r.hosts)]] (.own 7 (avs (withR xs r))):=by
 have w1:=part05_c xs r.kind r.name (-1) hl hs hr.1
 have w2:=part05_c xs r.kind r.name 1 hl hs hr.1
 have e:withR xs r=sideR xs ⟨r.kind,r.name⟩ (-1)++[r]++sideR xs ⟨r.kind,r.name⟩ 1:=rfl
 rw [e] at hl2 ⊢
 generalize sideR xs ⟨r.kind,r.name⟩ (-1)=A1 at *
 generalize sideR xs ⟨r.kind,r.name⟩ 1=A2 at *
 have hr1:Room (A1.length+1) 104:=room_small (by unfold Small at hl2; simp only [List.length_append,List.length_singleton] at hl2; omega) (by decide)
 have hr2:Room (A1.length+1+A2.length) 104:=room_small (by unfold Small at hl2; simp only [List.length_append,List.length_singleton] at hl2; omega) (by decide)
 clear e
 refine CallR.go2 (T:=T) Tryz.call148 Tryz.func148 rfl Tryz.ntmps148 (congrArg Array.toList Tryz.results148) (by decide) fun ts hn h0 h1=>?_
 (repeat' (first
 | (with_reducible first|refine callX.by (w1) ?_|refine callX.by (w2) ?_|refine callX.by (rkey3_c _ _ _ _ _ _ _) ?_|refine callX.by (part05_c _ _ _ _ ?_ ?_ ?_) ?_|assumption|(refine Qw hK _ ?_; clear hK K)|refine Qw ‹_› _ ?_|refine Qx ‹_› ?_|refine Qi fun K hK=>?_|refine Qj T fun K hK=>?_|refine Ql fun A B hA hB=>?_|refine Qn ?_|refine Qr ?_)
 | ((with_reducible first|apply Qy|apply Qz|apply QA)<;>intro hb<;>try simp only [nr] at hb)
 | simp only [go_sem,↓reduceIte,reduceIte,Qa,Qh,Qb,Qc,Qd,Qe,Qf,Qg,reduceCtorEq, *,-hs,-hr,-w1,-w2,List.length_append]
 | with_reducible refine fun (bn:Bool) hbn=>?_))
 all_goals rw [List.take_of_length_le (by simp; omega)]
theorem twithout_cons (x:Res) (l:List Res) (k:Key):twithout (x :: l) k=if keyOf x=k then twithout l k else x :: twithout l k:=by
 unfold twithout
 rw [List.filter_cons]
 by_cases h:keyOf x=k<;>simp [h]
theorem without05_c (xs:List Res) (k_kind:Int) (k_name:List UInt8) (hl:Small xs.length):CallR Tryz.prog 147 [.slice false (avs xs),.agg [.int .i64 k_kind,.str k_name]] (.own 7 (avs (twithout xs (⟨k_kind,k_name⟩:Key)))):=by
 refine CallR.go2 (T:=T) Tryz.call147 Tryz.func147 rfl Tryz.ntmps147 (congrArg Array.toList Tryz.results147) (by decide) fun ts hn h0 h1=>?_
 (repeat' (first
 | (with_reducible first|refine callX.by (rkey3_c _ _ _ _ _ _ _) ?_|assumption|(refine Qw hK _ ?_; clear hK K)|refine Qw ‹_› _ ?_|refine Qx ‹_› ?_|refine Qi fun K hK=>?_|refine Qj T fun K hK=>?_|refine Qk (id:=5) T mixed Wd17 (by kernel_rfl) fun K hK=>?_|refine Ql fun A B hA hB=>?_|refine Qm ?_|refine Qn ?_|refine Qp ?_|refine Qr ?_)
 | ((with_reducible first|apply Qy|apply Qz|apply QA)<;>intro hb<;>try simp only [nr] at hb)
 | simp only [go_sem,↓reduceIte,reduceIte,Qa,Qh,Qb,Qc,Qd,Qe,Qf,Qg,reduceCtorEq, *]
 | with_reducible refine fun (bn:Bool) hbn=>?_))
 refine SpecC.ent (Ent.virt 5 7 (by simp only [go_sem,↓reduceIte,reduceIte,Qa,Qh,Qb,Qc,Qd,Qe,Qf,Qg,reduceCtorEq, *]) (by decide)) ?_
 refine Qs [0,3] (fun m ts'=>∃ (i:Nat),∃ (g:Nat),∃ (ys:List Res),m=xs.length - i∧i≤xs.length∧ys.length≤i∧twithout xs (⟨k_kind,k_name⟩:Key)=ys++twithout (xs.drop i) (⟨k_kind,k_name⟩:Key)∧ts'.tmp 5=.os 5 g ys.length∧ts'.gen 5=g∧ts'.obj 5=.arr 7 (avs ys)∧ts'.tmp 6=.int .i64 i) xs.length ?_ ?_
 ·refine ⟨0,ts.gen 5+1,[],rfl,Nat.zero_le _,Nat.le_refl _,rfl,?_⟩
  simp only [go_sem,↓reduceIte,reduceIte,Qa,Qh,Qb,Qc,Qd,Qe,Qf,Qg,reduceCtorEq, *,avs_nil]
 ·rintro m A hM ts' hk ⟨i,g,ys,hm,f1,f2,f3,s1,s2,s3,s4⟩
  simp only [go_sem,↓reduceIte,reduceIte,Qa,Qh,Qb,Qc,Qd,Qe,Qf,Qg,reduceCtorEq, *] at hk
  by_cases hlt:i < xs.length
  ·rw [List.drop_eq_getElem_cons hlt,twithout_cons] at f3
   have hr:Room (ys.length+1) 104:=room_small (by unfold Small at hl; omega) (by decide)
   by_cases hk:keyOf xs[i]=(⟨k_kind,k_name⟩:Key)
   ·rw [if_pos hk] at f3
    have hk1:xs[i].kind=k_kind:=congrArg Key.kind hk
    have hk2:xs[i].name=k_name:=congrArg Key.name hk
    (repeat' (first
 | (with_reducible first|refine callX.by (rkey3_c _ _ _ _ _ _ _) ?_|assumption|(refine Qw hK _ ?_; clear hK K)|refine Qw ‹_› _ ?_|refine Qx ‹_› ?_|refine Qi fun K hK=>?_|refine Qj T fun K hK=>?_|refine Qk (id:=5) T mixed Wd17 (by kernel_rfl) fun K hK=>?_|refine Ql fun A B hA hB=>?_|refine Qm ?_|refine Qn ?_|refine Qp ?_|refine Qr ?_)
 | ((with_reducible first|apply Qy|apply Qz|apply QA)<;>intro hb<;>try simp only [nr] at hb)
 | simp only [go_sem,↓reduceIte,reduceIte,Qa,Qh,Qb,Qc,Qd,Qe,Qf,Qg,reduceCtorEq, *,-hk,-f3]
 | with_reducible refine fun (bn:Bool) hbn=>?_))
    all_goals ((repeat clear hK); (repeat clear hA); (repeat clear hB))
    all_goals first
     | (refine hM.on (xs.length - (i+1)) (by omega) (by simp only [go_sem,↓reduceIte,reduceIte,Qa,Qh,Qb,Qc,Qd,Qe,Qf,Qg,reduceCtorEq, *,w64_nat hlt hl,-hk,-f3]) ⟨i+1,g,ys,rfl,by omega,by omega,f3,?_⟩; simp only [go_sem,↓reduceIte,reduceIte,Qa,Qh,Qb,Qc,Qd,Qe,Qf,Qg,reduceCtorEq, *,w64_nat hlt hl,-hk,-f3]; done)
     | (exfalso; simp_all; done)
     | trace_state
   ·rw [if_neg hk] at f3
    have hk1:¬ (xs[i].kind=k_kind∧xs[i].name=k_name):=fun h=>hk (by unfold keyOf; rw [h.1,h.2])
    (repeat' (first
 | (with_reducible first|refine callX.by (rkey3_c _ _ _ _ _ _ _) ?_|assumption|(refine Qw hK _ ?_; clear hK K)|refine Qw ‹_› _ ?_|refine Qx ‹_› ?_|refine Qi fun K hK=>?_|refine Qj T fun K hK=>?_|refine Qk (id:=5) T mixed Wd17 (by kernel_rfl) fun K hK=>?_|refine Ql fun A B hA hB=>?_|refine Qm ?_|refine Qn ?_|refine Qp ?_|refine Qr ?_)
 | ((with_reducible first|apply Qy|apply Qz|apply QA)<;>intro hb<;>try simp only [nr] at hb)
 | simp only [go_sem,↓reduceIte,reduceIte,Qa,Qh,Qb,Qc,Qd,Qe,Qf,Qg,reduceCtorEq, *,-hk,-f3]
 | with_reducible refine fun (bn:Bool) hbn=>?_))
    all_goals ((repeat clear hK); (repeat clear hA); (repeat clear hB))
    all_goals first
     | (refine hM.onE (xs.length - (i+1)) (Ent.ren 5 26 ?_ ?_) ?_ ?_ ?_; (focus (simp only [go_sem,↓reduceIte,reduceIte,Qa,Qh,Qb,Qc,Qd,Qe,Qf,Qg,reduceCtorEq, *,w64_nat hlt hl,List.length_append,-hk,-f3]; first|done|rfl)); (focus (simp only [go_sem,↓reduceIte,reduceIte,Qa,Qh,Qb,Qc,Qd,Qe,Qf,Qg,reduceCtorEq, *,w64_nat hlt hl,List.length_append,-hk,-f3]; first|done|rfl)); omega; (focus (simp only [go_sem,↓reduceIte,reduceIte,Qa,Qh,Qb,Qc,Qd,Qe,Qf,Qg,reduceCtorEq, *,w64_nat hlt hl,List.length_append,-hk,-f3]; done)); refine ⟨i+1,ts'.gen 5+1,ys++[xs[i]],rfl,by omega,by simp; omega,by rw [f3,List.append_assoc]; rfl,?_⟩; simp only [go_sem,↓reduceIte,reduceIte,Qa,Qh,Qb,Qc,Qd,Qe,Qf,Qg,reduceCtorEq, *,w64_nat hlt hl,List.length_append,-hk,-f3]; done)
     | (exfalso; simp_all; done)
     | trace_state
  ·rw [List.drop_eq_nil_of_le (by omega)] at f3
   have e:twithout xs (⟨k_kind,k_name⟩:Key)=ys:=by rw [f3]; simp [twithout]
   rw [e]
   (repeat' (first
 | (with_reducible first|refine callX.by (rkey3_c _ _ _ _ _ _ _) ?_|assumption|(refine Qw hK _ ?_; clear hK K)|refine Qw ‹_› _ ?_|refine Qx ‹_› ?_|refine Qi fun K hK=>?_|refine Qj T fun K hK=>?_|refine Qk (id:=5) T mixed Wd17 (by kernel_rfl) fun K hK=>?_|refine Ql fun A B hA hB=>?_|refine Qm ?_|refine Qn ?_|refine Qp ?_|refine Qr ?_)
 | ((with_reducible first|apply Qy|apply Qz|apply QA)<;>intro hb<;>try simp only [nr] at hb)
 | simp only [go_sem,↓reduceIte,reduceIte,Qa,Qh,Qb,Qc,Qd,Qe,Qf,Qg,reduceCtorEq, *,-f3]
 | with_reducible refine fun (bn:Bool) hbn=>?_))
   all_goals ((repeat clear hK); (repeat clear hA); (repeat clear hB))
   all_goals trace_state
theorem patch05_c (xs adds:List Res) (gone:List Key) (hx:Small xs.length) (ha:Small adds.length) (hg:Small gone.length) (hl:Small (xs.length+adds.length)) (hs:∀ r∈xs,SmRes r) (hsa:∀ r∈adds,SmRes r) :
  CallR Tryz.prog 103 [.slice false (avs xs),.slice false (avs adds),.slice false (avs gone)] (.val (.slice false (avs (patchR xs adds gone)))):=by
 refine CallR.go3 (T:=T) Tryz.call103 Tryz.func103 rfl Tryz.ntmps103 (congrArg Array.toList Tryz.results103) (by decide) fun ts hn h0 h1 h2=>?_
 (repeat' (first
 | (with_reducible first|refine callX.by (without05_c _ _ _ ?_) ?_|refine callX.by (with05_c _ _ ?_ ?_ ?_ ?_) ?_|assumption|(refine Qw hK _ ?_; clear hK K)|refine Qw ‹_› _ ?_|refine Qx ‹_› ?_|refine Qi fun K hK=>?_|refine Qj T fun K hK=>?_|refine Ql fun A B hA hB=>?_|refine Qm ?_|refine Qn ?_|refine Qp ?_|refine Qr ?_)
 | ((with_reducible first|apply Qy|apply Qz|apply QA)<;>intro hb<;>try simp only [nr] at hb)
 | simp only [go_sem,↓reduceIte,reduceIte,Qa,Qh,Qb,Qc,Qd,Qe,Qf,Qg,reduceCtorEq, *,-hs,-hsa]
 | with_reducible refine fun (bn:Bool) hbn=>?_))
 refine Qs [1,2] (fun m ts'=>∃ (i:Nat),∃ (ys:List Res),m=gone.length - i∧i≤gone.length∧ys.length≤xs.length∧(gone.drop i).foldl twithout ys=gone.foldl twithout xs∧(∀ r∈ys,SmRes r)∧ts'.tmp 0=.slice false (avs ys)∧ts'.tmp 7=.int .i64 i) gone.length ?_ ?_
 ·refine ⟨0,xs,rfl,Nat.zero_le _,Nat.le_refl _,rfl,hs,?_⟩
  simp only [go_sem,↓reduceIte,reduceIte,Qa,Qh,Qb,Qc,Qd,Qe,Qf,Qg,reduceCtorEq, *,-hs,-hsa]
 ·rintro m A hM ts' hk ⟨i,ys,hm,f1,f2,f3,f4,s1,s2⟩
  simp only [go_sem,↓reduceIte,reduceIte,Qa,Qh,Qb,Qc,Qd,Qe,Qf,Qg,reduceCtorEq, *] at hk
  by_cases hlt:i < gone.length
  ·rw [List.drop_eq_getElem_cons hlt,List.foldl_cons] at f3
   have hys:Small ys.length:=by unfold Small at hx ⊢; omega
   have w1:=(without05_c ys gone[i].kind gone[i].name hys).frz
   have hle:=twithout_len ys gone[i]
   have hm:∀ r∈twithout ys gone[i],SmRes r:=fun r hr=>f4 r (twithout_mem hr)
   (repeat' (first
 | (with_reducible first|refine callX.by (w1) ?_|refine callX.by (without05_c _ _ _ ?_) ?_|refine callX.by (with05_c _ _ ?_ ?_ ?_ ?_) ?_|assumption|(refine Qw hK _ ?_; clear hK K)|refine Qw ‹_› _ ?_|refine Qx ‹_› ?_|refine Qi fun K hK=>?_|refine Qj T fun K hK=>?_|refine Ql fun A B hA hB=>?_|refine Qm ?_|refine Qn ?_|refine Qp ?_|refine Qr ?_)
 | ((with_reducible first|apply Qy|apply Qz|apply QA)<;>intro hb<;>try simp only [nr] at hb)
 | simp only [go_sem,↓reduceIte,reduceIte,Qa,Qh,Qb,Qc,Qd,Qe,Qf,Qg,reduceCtorEq, *,-hs,-hsa,-f3,-f4,-hm,-w1]
 | with_reducible refine fun (bn:Bool) hbn=>?_))
   all_goals ((repeat clear hK); (repeat clear hA); (repeat clear hB))
   all_goals (refine hM.on (gone.length - (i+1)) (by omega) (by simp only [go_sem,↓reduceIte,reduceIte,Qa,Qh,Qb,Qc,Qd,Qe,Qf,Qg,reduceCtorEq, *,w64_nat hlt hg,-hs,-hsa,-f3,-f4,-hm,-w1]) ⟨i+1,twithout ys gone[i],rfl,by omega,by omega,f3,hm,?_⟩; simp only [go_sem,↓reduceIte,reduceIte,Qa,Qh,Qb,Qc,Qd,Qe,Qf,Qg,reduceCtorEq, *,w64_nat hlt hg,-hs,-hsa,-f3,-f4,-hm,-w1]; done)
  ·rw [List.drop_eq_nil_of_le (by omega),List.foldl_nil] at f3
   subst f3
   (repeat' (first
 | (with_reducible first|refine callX.by (without05_c _ _ _ ?_) ?_|refine callX.by (with05_c _ _ ?_ ?_ ?_ ?_) ?_|assumption|(refine Qw hK _ ?_; clear hK K)|refine Qw ‹_› _ ?_|refine Qx ‹_› ?_|refine Qi fun K hK=>?_|refine Qj T fun K hK=>?_|refine Ql fun A B hA hB=>?_|refine Qm ?_|refine Qn ?_|refine Qp ?_|refine Qr ?_)
 | ((with_reducible first|apply Qy|apply Qz|apply QA)<;>intro hb<;>try simp only [nr] at hb)
 | simp only [go_sem,↓reduceIte,reduceIte,Qa,Qh,Qb,Qc,Qd,Qe,Qf,Qg,reduceCtorEq, *,-hs,-hsa,-f4]
 | with_reducible refine fun (bn:Bool) hbn=>?_))
   clear hM hm
   refine Qs [1] (fun m ts'=>∃ (j:Nat),∃ (zs:List Res),m=adds.length - j∧j≤adds.length∧zs.length≤xs.length+j∧(adds.drop j).foldl withR zs=patchR xs adds gone∧(∀ r∈zs,SmRes r)∧ts'.tmp 0=.slice false (avs zs)∧ts'.tmp 8=.int .i64 j) adds.length ?_ ?_
   ·refine ⟨0,gone.foldl twithout xs,rfl,Nat.zero_le _,by omega,rfl,f4,?_⟩
    simp only [go_sem,↓reduceIte,reduceIte,Qa,Qh,Qb,Qc,Qd,Qe,Qf,Qg,reduceCtorEq, *,-hs,-hsa,-f4]
   ·clear f4 f2 f1
    rintro m A hM ts' hk ⟨j,zs,hm,f1,f2,f3,f4,s1,s2⟩
    simp only [go_sem,↓reduceIte,reduceIte,Qa,Qh,Qb,Qc,Qd,Qe,Qf,Qg,reduceCtorEq, *] at hk
    by_cases hlt2:j < adds.length
    ·rw [List.drop_eq_getElem_cons hlt2,List.foldl_cons] at f3
     have hle:=withR_len zs adds[j]
     have hzs:Small zs.length:=by unfold Small at hl ⊢; omega
     have hzr:Small (withR zs adds[j]).length:=by unfold Small at hl ⊢; omega
     have w1:=(with05_c zs adds[j] hzs hzr f4 (hsa _ (QC hlt2))).frz
     have hm:∀ r∈withR zs adds[j],SmRes r:=fun r hr=>(withR_mem hr).elim (fun e=>e▸hsa _ (QC hlt2)) (f4 r)
     (repeat' (first
 | (with_reducible first|refine callX.by (w1) ?_|refine callX.by (without05_c _ _ _ ?_) ?_|refine callX.by (with05_c _ _ ?_ ?_ ?_ ?_) ?_|assumption|(refine Qw hK _ ?_; clear hK K)|refine Qw ‹_› _ ?_|refine Qx ‹_› ?_|refine Qi fun K hK=>?_|refine Qj T fun K hK=>?_|refine Ql fun A B hA hB=>?_|refine Qm ?_|refine Qn ?_|refine Qp ?_|refine Qr ?_)
 | ((with_reducible first|apply Qy|apply Qz|apply QA)<;>intro hb<;>try simp only [nr] at hb)
 | simp only [go_sem,↓reduceIte,reduceIte,Qa,Qh,Qb,Qc,Qd,Qe,Qf,Qg,reduceCtorEq, *,-hs,-hsa,-f3,-f4,-hm,-w1]
 | with_reducible refine fun (bn:Bool) hbn=>?_))
     all_goals ((repeat clear hK); (repeat clear hA); (repeat clear hB))
     all_goals (refine hM.on (adds.length - (j+1)) (by omega) (by simp only [go_sem,↓reduceIte,reduceIte,Qa,Qh,Qb,Qc,Qd,Qe,Qf,Qg,reduceCtorEq, *,w64_nat hlt2 ha,-hs,-hsa,-f3,-f4,-hm,-w1]) ⟨j+1,withR zs adds[j],rfl,by omega,by omega,f3,hm,?_⟩; simp only [go_sem,↓reduceIte,reduceIte,Qa,Qh,Qb,Qc,Qd,Qe,Qf,Qg,reduceCtorEq, *,w64_nat hlt2 ha,-hs,-hsa,-f3,-f4,-hm,-w1]; done)
    ·rw [List.drop_eq_nil_of_le (by omega),List.foldl_nil] at f3
     subst f3
     (repeat' (first
 | (with_reducible first|refine callX.by (without05_c _ _ _ ?_) ?_|refine callX.by (with05_c _ _ ?_ ?_ ?_ ?_) ?_|assumption|(refine Qw hK _ ?_; clear hK K)|refine Qw ‹_› _ ?_|refine Qx ‹_› ?_|refine Qi fun K hK=>?_|refine Qj T fun K hK=>?_|refine Ql fun A B hA hB=>?_|refine Qm ?_|refine Qn ?_|refine Qp ?_|refine Qr ?_)
 | ((with_reducible first|apply Qy|apply Qz|apply QA)<;>intro hb<;>try simp only [nr] at hb)
 | simp only [go_sem,↓reduceIte,reduceIte,Qa,Qh,Qb,Qc,Qd,Qe,Qf,Qg,reduceCtorEq, *,-hs,-hsa,-f4]
 | with_reducible refine fun (bn:Bool) hbn=>?_))
@[go_sem] def Wd19:List (List Nat×List Nat):=[([31],[32,33,36,37,38,39,40]),([32],[31,35,36,37,38,39,40]),([33],[31,36,37,38,39,40]),([34],[37,38,39,40]),([35],[32,37,38,39,40]),([36],[31,32,33,37,38,39,40]),([37],[31,32,33,34,35,36,38]),([38],[31,32,33,34,35,36,37]),([39],[31,32,33,34,35,36]),([40],[31,32,33,34,35,36])]
@[go_sem] def Wd20:List (List Nat×List Nat):=[([55],[56,59,60,61,62,63,64,65,66,67,68,69,70,71,72,73,74,75,76,77,78,79,80,81]),([56],[55,59,60,61,62,63,64,65,66,67,68,69,70,71,72,73,74,75,76,77,78,79,80,81]),([57],[60,61,62,63,64,65,66,67,68,69,70,71,72,73,74,75,76,77,78,79,80,81]),([58],[61,62,63,64,65,66,67,68,69,70,71,72,73,74,75,76,77,78,79,80,81]),([59],[55,56,62,63,64,65,66,67,68,69,70,71,72,73,74,75,76,77,78,79,80,81]),([60],[55,56,57,70,71,72,73,74,75,76,77,78,79,80,81]),([61],[55,56,57,58]),([62],[55,56,57,58,59,63,66,67,68,69,70,71,72,73,74,75,76,77,78,79,80,81]),([63],[55,56,57,58,59,62,66,67,68,69,70,71,72,73,74,75,76,77,78,79,80,81]),([64],[55,56,57,58,59,67,68,69,70,71,72,73,74,75,76,77,78,79,80,81]),([65],[55,56,57,58,59,68,69,70,71,72,73,74,75,76,77,78,79,80,81]),([66],[55,56,57,58,59,62,63,69,70,71,72,73,74,75,76,77,78,79,80,81]),([67],[55,56,57,58,59,62,63,64,70,71,72,73,74,75,76,77,78,79,80,81]),([68],[55,56,57,58,59,62,63,64,65]),([69],[55,56,57,58,59,62,63,64,65,66]),([70],[55,56,57,58,59,60,62,63,64,65,66,67,71,74,75,76,77,78,79,80,81]),([71],[55,56,57,58,59,60,62,63,64,65,66,67,70,74,75,76,77,78,79,80,81]),([72],[55,56,57,58,59,60,62,63,64,65,66,67,75,76,77,78,79,80,81]),([73],[55,56,57,58,59,60,62,63,64,65,66,67,75,76,77,78,79,81]),([74],[55,56,57,58,59,60,62,63,64,65,66,67,70,71,75,76,77,78,79]),([75],[55,56,57,58,59,60,62,63,64,65,66,67,70,71,72,73,74,76,79,80,81]),([76],[55,56,57,58,59,60,62,63,64,65,66,67,70,71,72,73,74,75,79,80,81]),([77],[55,56,57,58,59,60,62,63,64,65,66,67,70,71,72,73,74,80,81]),([78],[55,56,57,58,59,60,62,63,64,65,66,67,70,71,72,73,74,81]),([79],[55,56,57,58,59,60,62,63,64,65,66,67,70,71,72,73,74,75,76]),([80],[55,56,57,58,59,60,62,63,64,65,66,67,70,71,72,75,76,77]),([81],[55,56,57,58,59,60,62,63,64,65,66,67,70,71,72,73,75,76,77,78])]
def portP (l:List Res):Prop:=l.Pairwise fun a b=>¬ (a.kind=0∧b.kind=0∧a.port=b.port)
theorem portsM_iff:∀ (l:List Res) (M:List (Int × Bool)),(∀ p b,mget M p=some b→b=true) →
  (portsM l M=true↔(∀ r∈l,mget M r.port=none)∧l.Pairwise fun a b=>¬ a.port=b.port)
 | [],M,_=>by simp [portsM]
 | r :: l,M,hM=>by
  unfold portsM
  by_cases h:mget M r.port=none
  ·have hM':∀ p b,mget (mput M r.port true) p=some b→b=true:=fun p b hb=>by
    rw [mget_mput] at hb
    split at hb
    ·cases hb; rfl
    ·exact hM p b hb
   rw [h]
   simp only [Option.getD_none,Bool.false_eq_true,if_false]
   rw [portsM_iff l _ hM']
   simp only [mget_mput,List.mem_cons,List.pairwise_cons]
   constructor
   ·rintro ⟨h1,h2⟩
    refine ⟨?_,?_,h2⟩
    ·rintro x (rfl|hx)
     ·exact h
     ·have:=h1 x hx
      split at this
      ·cases this
      ·exact this
    ·intro x hx e
     have:=h1 x hx
     rw [if_pos (by first|exact e|exact e.symm)] at this
     cases this
   ·rintro ⟨h1,h2,h3⟩
    refine ⟨fun x hx=>?_,h3⟩
    rw [if_neg (by first|exact h2 x hx|exact fun e=>h2 x hx e.symm)]
    exact h1 x (.inr hx)
  ·obtain ⟨b,hb⟩:=Option.ne_none_iff_exists'.1 h
   have:=hM _ _ hb
   subst this
   rw [hb]
   simp only [Option.getD_some,if_true]
   constructor
   ·intro h; cases h
   ·rintro ⟨h1,_⟩
    rw [h1 r (by simp)] at hb
    cases hb
theorem ports_iff (l:List Res):portsM (tkind l 0) []=true↔portP l:=by
 rw [portsM_iff _ _ (by intro p b h; simp [mget] at h)]
 unfold tkind portP
 rw [List.pairwise_filter]
 constructor
 ·rintro ⟨_,h⟩
  exact h.imp fun hab h=>hab (by simpa using h.1) (by simpa using h.2.1) h.2.2
 ·intro h
  exact ⟨fun r _=>by simp [mget],h.imp fun hab h1 h2 h3=>hab ⟨by simpa using h1,by simpa using h2,h3⟩⟩
def badAt (l:List Res) (a b:Nat):Prop:=∃ (ha:a < l.length) (hb:b < l.length),l[a].kind=0∧l[b].kind=0∧l[a].port=l[b].port
theorem portP_iff (l:List Res):portP l↔∀ a b,b < a→a < l.length→¬ badAt l a b:=by
 unfold portP
 rw [List.pairwise_iff_getElem]
 constructor
 ·rintro h a b hab hal ⟨ha,hb,h1,h2,h3⟩
  exact h b a hb ha hab ⟨h2,h1,h3.symm⟩
 ·rintro h i j hi hj hij ⟨h1,h2,h3⟩
  exact h j i hij hj ⟨hj,hi,h2,h1,h3.symm⟩
theorem firstBad_cons (r:Res) (l:List Res):firstBad (r :: l)=if saneR r=0 then firstBad l else saneR r:=rfl
set_option maxHeartbeats 8000000 in
theorem sane05_c (xs:List Res) (hl:Small xs.length) (hs:∀ r∈xs,SmRes r):CallR Tryz.prog 188 [.slice false (avs xs)] (.val (.int .i64 (tsane xs))):=by
 by_cases h64:64 < xs.length
 ·have e:tsane xs=3:=by simp [tsane,h64]
  have h64':(64:Int) < (xs.length:Int):=by omega
  rw [e]
  refine CallR.go1 (T:=T) Tryz.call188 Tryz.func188 rfl Tryz.ntmps188 (congrArg Array.toList Tryz.results188) (by decide) fun ts hn h0=>?_
  (repeat' (first
 | (with_reducible first|refine callX.by (sane03_c _ _ _ _ _ _ _ ?_ ?_ ?_) ?_|refine callX.by (rkey3_c _ _ _ _ _ _ _) ?_|refine callX.by (kcmp3_c _ _ _ _ ?_ ?_) ?_|assumption|(refine Qw hK _ ?_; clear hK K)|refine Qw ‹_› _ ?_|refine Qx ‹_› ?_|refine Qi fun K hK=>?_|refine Qj T fun K hK=>?_|refine Qk (id:=12) T mixed Wd19 (by kernel_rfl) fun K hK=>?_|refine Qk (id:=20) T mixed Wd20 (by kernel_rfl) fun K hK=>?_|refine Ql fun A B hA hB=>?_|refine Qm ?_|refine Qn ?_|refine Qp ?_|refine Qr ?_)
 | ((with_reducible first|apply Qy|apply Qz|apply QA)<;>intro hb<;>try simp only [nr] at hb)
 | simp only [go_sem,↓reduceIte,reduceIte,Qa,Qh,Qb,Qc,Qd,Qe,Qf,Qg,reduceCtorEq, *,-hs]
 | with_reducible refine fun (bn:Bool) hbn=>?_))
 have h64':¬ (64:Int) < (xs.length:Int):=by omega
 refine CallR.go1 (T:=T) Tryz.call188 Tryz.func188 rfl Tryz.ntmps188 (congrArg Array.toList Tryz.results188) (by decide) fun ts hn h0=>?_
 (repeat' (first
 | (with_reducible first|refine callX.by (sane03_c _ _ _ _ _ _ _ ?_ ?_ ?_) ?_|refine callX.by (rkey3_c _ _ _ _ _ _ _) ?_|refine callX.by (kcmp3_c _ _ _ _ ?_ ?_) ?_|assumption|(refine Qw hK _ ?_; clear hK K)|refine Qw ‹_› _ ?_|refine Qx ‹_› ?_|refine Qi fun K hK=>?_|refine Qj T fun K hK=>?_|refine Qk (id:=12) T mixed Wd19 (by kernel_rfl) fun K hK=>?_|refine Qk (id:=20) T mixed Wd20 (by kernel_rfl) fun K hK=>?_|refine Ql fun A B hA hB=>?_|refine Qm ?_|refine Qn ?_|refine Qp ?_|refine Qr ?_)
 | ((with_reducible first|apply Qy|apply Qz|apply QA)<;>intro hb<;>try simp only [nr] at hb)
 | simp only [go_sem,↓reduceIte,reduceIte,Qa,Qh,Qb,Qc,Qd,Qe,Qf,Qg,reduceCtorEq, *,-hs]
 | with_reducible refine fun (bn:Bool) hbn=>?_))
 refine Qs [0] (fun m ts'=>∃ (i:Nat),m=xs.length - i∧i≤xs.length∧firstBad xs=firstBad (xs.drop i)∧ts'.tmp 3=.int .i64 i) xs.length ?_ ?_
 ·refine ⟨0,?_⟩
  simp only [go_sem,↓reduceIte,reduceIte,Qa,Qh,Qb,Qc,Qd,Qe,Qf,Qg,reduceCtorEq, *,-hs]
 ·rintro m A hM ts' hk ⟨i,hm,f1,f2,s1⟩
  simp only [go_sem,↓reduceIte,reduceIte,Qa,Qh,Qb,Qc,Qd,Qe,Qf,Qg,reduceCtorEq, *] at hk
  by_cases hlt:i < xs.length
  ·rw [List.drop_eq_getElem_cons hlt,firstBad_cons] at f2
   have hx:=hs _ (QC hlt)
   have w1:=sane03_c xs[i].kind xs[i].name xs[i].ver xs[i].port xs[i].to' xs[i].rules' xs[i].hosts hx.2.2.1 hx.2.2.2.2 hx.2.2.2.1
   have w1:CallR Tryz.prog 133 [.agg [.int .i64 xs[i].kind,.str xs[i].name,.int .i64 xs[i].ver,.int .i64 xs[i].port,.str xs[i].to',.slice false (avs xs[i].rules'),.slice false (avs xs[i].hosts)]] (.val (.int .i64 (saneR xs[i]))):=w1
   by_cases h0:saneR xs[i]=0
   ·rw [if_pos h0] at f2
    rw [h0] at w1
    clear hx h0
    (repeat' (first
 | (with_reducible first|refine callX.by (w1) ?_|refine callX.by (sane03_c _ _ _ _ _ _ _ ?_ ?_ ?_) ?_|refine callX.by (rkey3_c _ _ _ _ _ _ _) ?_|refine callX.by (kcmp3_c _ _ _ _ ?_ ?_) ?_|assumption|(refine Qw hK _ ?_; clear hK K)|refine Qw ‹_› _ ?_|refine Qx ‹_› ?_|refine Qi fun K hK=>?_|refine Qj T fun K hK=>?_|refine Qk (id:=12) T mixed Wd19 (by kernel_rfl) fun K hK=>?_|refine Qk (id:=20) T mixed Wd20 (by kernel_rfl) fun K hK=>?_|refine Ql fun A B hA hB=>?_|refine Qm ?_|refine Qn ?_|refine Qp ?_|refine Qr ?_)
 | ((with_reducible first|apply Qy|apply Qz|apply QA)<;>intro hb<;>try simp only [nr] at hb)
 | simp only [go_sem,↓reduceIte,reduceIte,Qa,Qh,Qb,Qc,Qd,Qe,Qf,Qg,reduceCtorEq, *,-hs,-w1,-f2]
 | with_reducible refine fun (bn:Bool) hbn=>?_))
    all_goals ((repeat clear hK); (repeat clear hA); (repeat clear hB))
    all_goals (refine hM.on (xs.length - (i+1)) (by omega) (by simp only [go_sem,↓reduceIte,reduceIte,Qa,Qh,Qb,Qc,Qd,Qe,Qf,Qg,reduceCtorEq, *,w64_nat hlt hl,-hs,-w1,-f2]) ⟨i+1,rfl,by omega,f2,?_⟩; simp only [go_sem,↓reduceIte,reduceIte,Qa,Qh,Qb,Qc,Qd,Qe,Qf,Qg,reduceCtorEq, *,w64_nat hlt hl,-hs,-w1,-f2]; done)
   ·rw [if_neg h0] at f2
    have e:tsane xs=saneR xs[i]:=by simp [tsane,h64,f2,h0]
    rw [e]
    clear hx e f2
    (repeat' (first
 | (with_reducible first|refine callX.by (w1) ?_|refine callX.by (sane03_c _ _ _ _ _ _ _ ?_ ?_ ?_) ?_|refine callX.by (rkey3_c _ _ _ _ _ _ _) ?_|refine callX.by (kcmp3_c _ _ _ _ ?_ ?_) ?_|assumption|(refine Qw hK _ ?_; clear hK K)|refine Qw ‹_› _ ?_|refine Qx ‹_› ?_|refine Qi fun K hK=>?_|refine Qj T fun K hK=>?_|refine Qk (id:=12) T mixed Wd19 (by kernel_rfl) fun K hK=>?_|refine Qk (id:=20) T mixed Wd20 (by kernel_rfl) fun K hK=>?_|refine Ql fun A B hA hB=>?_|refine Qm ?_|refine Qn ?_|refine Qp ?_|refine Qr ?_)
 | ((with_reducible first|apply Qy|apply Qz|apply QA)<;>intro hb<;>try simp only [nr] at hb)
 | simp only [go_sem,↓reduceIte,reduceIte,Qa,Qh,Qb,Qc,Qd,Qe,Qf,Qg,reduceCtorEq, *,-hs,-w1]
 | with_reducible refine fun (bn:Bool) hbn=>?_))
  ·rw [List.drop_eq_nil_of_le (by omega),firstBad] at f2
   have e1:tsane xs=if upR xs=false then 2 else if portsM (tkind xs 0) []=false then 13 else 0:=by simp [tsane,h64,f2]
   clear f2 hM hm
   (repeat' (first
 | (with_reducible first|refine callX.by (sane03_c _ _ _ _ _ _ _ ?_ ?_ ?_) ?_|refine callX.by (rkey3_c _ _ _ _ _ _ _) ?_|refine callX.by (kcmp3_c _ _ _ _ ?_ ?_) ?_|assumption|(refine Qw hK _ ?_; clear hK K)|refine Qw ‹_› _ ?_|refine Qx ‹_› ?_|refine Qi fun K hK=>?_|refine Qj T fun K hK=>?_|refine Qk (id:=12) T mixed Wd19 (by kernel_rfl) fun K hK=>?_|refine Qk (id:=20) T mixed Wd20 (by kernel_rfl) fun K hK=>?_|refine Ql fun A B hA hB=>?_|refine Qm ?_|refine Qn ?_|refine Qp ?_|refine Qr ?_)
 | ((with_reducible first|apply Qy|apply Qz|apply QA)<;>intro hb<;>try simp only [nr] at hb)
 | simp only [go_sem,↓reduceIte,reduceIte,Qa,Qh,Qb,Qc,Qd,Qe,Qf,Qg,reduceCtorEq, *,-hs,-e1]
 | with_reducible refine fun (bn:Bool) hbn=>?_))
   refine Qs [0] (fun m ts'=>∃ (j:Nat),m=xs.length - j∧1≤j∧(j≤xs.length∨j=1)∧upR xs=upR (xs.drop (j - 1))∧ts'.tmp 5=.int .i64 j) (xs.length - 1) ?_ ?_
   ·refine ⟨1,rfl,Nat.le_refl _,.inr rfl,rfl,?_⟩
    simp only [go_sem,↓reduceIte,reduceIte,Qa,Qh,Qb,Qc,Qd,Qe,Qf,Qg,reduceCtorEq, *,-hs,-e1]
    all_goals rfl
   ·rintro m A hM ts' hk ⟨j,hm,f1,f2,f3,s1⟩
    simp only [go_sem,↓reduceIte,reduceIte,Qa,Qh,Qb,Qc,Qd,Qe,Qf,Qg,reduceCtorEq, *] at hk
    by_cases hlt2:j < xs.length
    ·have hj1:j - 1 < xs.length:=by omega
     have ejj:j - 1+1=j:=by omega
     rw [List.drop_eq_getElem_cons hj1,ejj,List.drop_eq_getElem_cons hlt2,upR_cons2,← List.drop_eq_getElem_cons hlt2] at f3
     have w1:=kcmp3_c xs[j - 1].kind xs[j].kind xs[j - 1].name xs[j].name (hs _ (QC hj1)).1 (hs _ (QC hlt2)).1
     rw [kcmp3_eq] at w1
     have hw:IntKind.i64.wrap ((j:Int) - 1)=((j - 1:Nat):Int):=by
      rw [show ((j:Int) - 1)=((j - 1:Nat):Int) by omega]; exact IntWalk.i64_in _ (by unfold Small at hl; omega)
     by_cases hc:kcmp (keyOf xs[j - 1]) (keyOf xs[j]) < 0
     ·have hc1:¬ (0:Int)≤kcmp ⟨xs[j - 1].kind,xs[j - 1].name⟩ ⟨xs[j].kind,xs[j].name⟩:=by
       have:kcmp ⟨xs[j - 1].kind,xs[j - 1].name⟩ ⟨xs[j].kind,xs[j].name⟩ < 0:=hc
       omega
      rw [decide_eq_true hc,Bool.true_and] at f3
      (repeat' (first
 | (with_reducible first|refine callX.by (w1) ?_|refine callX.by (sane03_c _ _ _ _ _ _ _ ?_ ?_ ?_) ?_|refine callX.by (rkey3_c _ _ _ _ _ _ _) ?_|refine callX.by (kcmp3_c _ _ _ _ ?_ ?_) ?_|assumption|(refine Qw hK _ ?_; clear hK K)|refine Qw ‹_› _ ?_|refine Qx ‹_› ?_|refine Qi fun K hK=>?_|refine Qj T fun K hK=>?_|refine Qk (id:=12) T mixed Wd19 (by kernel_rfl) fun K hK=>?_|refine Qk (id:=20) T mixed Wd20 (by kernel_rfl) fun K hK=>?_|refine Ql fun A B hA hB=>?_|refine Qm ?_|refine Qn ?_|refine Qp ?_|refine Qr ?_)
 | ((with_reducible first|apply Qy|apply Qz|apply QA)<;>intro hb<;>try simp only [nr] at hb)
 | simp only [go_sem,↓reduceIte,reduceIte,Qa,Qh,Qb,Qc,Qd,Qe,Qf,Qg,reduceCtorEq, *,-hs,-e1,-w1,-f3,-hc,-ejj]
 | with_reducible refine fun (bn:Bool) hbn=>?_))
      all_goals ((repeat clear hK); (repeat clear hA); (repeat clear hB))
      all_goals (refine hM.on (xs.length - (j+1)) (by omega) (by simp only [go_sem,↓reduceIte,reduceIte,Qa,Qh,Qb,Qc,Qd,Qe,Qf,Qg,reduceCtorEq, *,w64_nat hlt2 hl,-hs,-w1,-f3,-hc,-ejj,Nat.add_sub_cancel]) ⟨j+1,rfl,by omega,.inl (by omega),f3,?_⟩; simp only [go_sem,↓reduceIte,reduceIte,Qa,Qh,Qb,Qc,Qd,Qe,Qf,Qg,reduceCtorEq, *,w64_nat hlt2 hl,-hs,-w1,-f3,-hc,-ejj,Nat.add_sub_cancel]; done)
     ·have hc1:(0:Int)≤kcmp ⟨xs[j - 1].kind,xs[j - 1].name⟩ ⟨xs[j].kind,xs[j].name⟩:=by
       have:¬ kcmp ⟨xs[j - 1].kind,xs[j - 1].name⟩ ⟨xs[j].kind,xs[j].name⟩ < 0:=hc
       omega
      rw [decide_eq_false hc,Bool.false_and] at f3
      have e:tsane xs=2:=by rw [e1,if_pos f3]
      (repeat' (first
 | (with_reducible first|refine callX.by (w1) ?_|refine callX.by (sane03_c _ _ _ _ _ _ _ ?_ ?_ ?_) ?_|refine callX.by (rkey3_c _ _ _ _ _ _ _) ?_|refine callX.by (kcmp3_c _ _ _ _ ?_ ?_) ?_|assumption|(refine Qw hK _ ?_; clear hK K)|refine Qw ‹_› _ ?_|refine Qx ‹_› ?_|refine Qi fun K hK=>?_|refine Qj T fun K hK=>?_|refine Qk (id:=12) T mixed Wd19 (by kernel_rfl) fun K hK=>?_|refine Qk (id:=20) T mixed Wd20 (by kernel_rfl) fun K hK=>?_|refine Ql fun A B hA hB=>?_|refine Qm ?_|refine Qn ?_|refine Qp ?_|refine Qr ?_)
 | ((with_reducible first|apply Qy|apply Qz|apply QA)<;>intro hb<;>try simp only [nr] at hb)
 | simp only [go_sem,↓reduceIte,reduceIte,Qa,Qh,Qb,Qc,Qd,Qe,Qf,Qg,reduceCtorEq, *,-hs,-e1,-w1,-f3,-hc,-ejj]
 | with_reducible refine fun (bn:Bool) hbn=>?_))
    ·have hup:upR xs=true:=by
      rw [f3]
      by_cases hz:xs.length=0
      ·rw [List.drop_eq_nil_of_le (by omega)]; rfl
      ·have hj1:j - 1 < xs.length:=by omega
       rw [List.drop_eq_getElem_cons hj1,List.drop_eq_nil_of_le (by omega)]; rfl
     have e2:tsane xs=if portsM (tkind xs 0) []=false then 13 else 0:=by rw [e1,if_neg (by rw [hup]; simp)]
     clear f3 f2 hup hM hm f1 e1
     (repeat' (first
 | (with_reducible first|refine callX.by (sane03_c _ _ _ _ _ _ _ ?_ ?_ ?_) ?_|refine callX.by (rkey3_c _ _ _ _ _ _ _) ?_|refine callX.by (kcmp3_c _ _ _ _ ?_ ?_) ?_|assumption|(refine Qw hK _ ?_; clear hK K)|refine Qw ‹_› _ ?_|refine Qx ‹_› ?_|refine Qi fun K hK=>?_|refine Qj T fun K hK=>?_|refine Qk (id:=12) T mixed Wd19 (by kernel_rfl) fun K hK=>?_|refine Qk (id:=20) T mixed Wd20 (by kernel_rfl) fun K hK=>?_|refine Ql fun A B hA hB=>?_|refine Qm ?_|refine Qn ?_|refine Qp ?_|refine Qr ?_)
 | ((with_reducible first|apply Qy|apply Qz|apply QA)<;>intro hb<;>try simp only [nr] at hb)
 | simp only [go_sem,↓reduceIte,reduceIte,Qa,Qh,Qb,Qc,Qd,Qe,Qf,Qg,reduceCtorEq, *,-hs,-e2]
 | with_reducible refine fun (bn:Bool) hbn=>?_))
     refine Qs [0] (fun m ts'=>∃ (p:Nat),m=xs.length - p∧p≤xs.length∧(∀ a b,b < a→a < p→¬ badAt xs a b)∧ts'.tmp 6=.int .i64 p) xs.length ?_ ?_
     ·refine ⟨0,rfl,Nat.zero_le _,fun a b _ h=>by omega,?_⟩
      simp only [go_sem,↓reduceIte,reduceIte,Qa,Qh,Qb,Qc,Qd,Qe,Qf,Qg,reduceCtorEq, *,-hs,-e2]
     ·rintro m A hM ts' hk ⟨p,hm,f1,f2,s1⟩
      simp only [go_sem,↓reduceIte,reduceIte,Qa,Qh,Qb,Qc,Qd,Qe,Qf,Qg,reduceCtorEq, *] at hk
      have hout:=f2
      by_cases hlt3:p < xs.length
      ·(repeat' (first
 | (with_reducible first|refine callX.by (sane03_c _ _ _ _ _ _ _ ?_ ?_ ?_) ?_|refine callX.by (rkey3_c _ _ _ _ _ _ _) ?_|refine callX.by (kcmp3_c _ _ _ _ ?_ ?_) ?_|assumption|(refine Qw hK _ ?_; clear hK K)|refine Qw ‹_› _ ?_|refine Qx ‹_› ?_|refine Qi fun K hK=>?_|refine Qj T fun K hK=>?_|refine Qk (id:=12) T mixed Wd19 (by kernel_rfl) fun K hK=>?_|refine Qk (id:=20) T mixed Wd20 (by kernel_rfl) fun K hK=>?_|refine Ql fun A B hA hB=>?_|refine Qm ?_|refine Qn ?_|refine Qp ?_|refine Qr ?_)
 | ((with_reducible first|apply Qy|apply Qz|apply QA)<;>intro hb<;>try simp only [nr] at hb)
 | simp only [go_sem,↓reduceIte,reduceIte,Qa,Qh,Qb,Qc,Qd,Qe,Qf,Qg,reduceCtorEq, *,-hs,-e2,-f2,-hout]
 | with_reducible refine fun (bn:Bool) hbn=>?_))
       refine Qs [0,6] (fun m ts'=>∃ (q:Nat),m=p - q∧q≤p∧(∀ b,b < q→¬ badAt xs p b)∧ts'.tmp 7=.int .i64 q) p ?_ ?_
       ·refine ⟨0,rfl,Nat.zero_le _,fun b h=>by omega,?_⟩
        simp only [go_sem,↓reduceIte,reduceIte,Qa,Qh,Qb,Qc,Qd,Qe,Qf,Qg,reduceCtorEq, *,-hs,-e2,-f2,-hout]
       ·have hMo:=hM
        have hmo:=hm
        clear hM hm
        rintro m A hM ts' hk ⟨q,hm,f1,f2,s1⟩
        simp only [go_sem,↓reduceIte,reduceIte,Qa,Qh,Qb,Qc,Qd,Qe,Qf,Qg,reduceCtorEq, *] at hk
        by_cases hlt4:q < p
        ·have hq:q < xs.length:=by omega
         by_cases hbad:xs[p].kind=0∧xs[q].kind=0∧xs[p].port=xs[q].port
         ·obtain ⟨b1,b2,b3⟩:=hbad
          have hpp:portsM (tkind xs 0) []=false:=by
           rw [← Bool.not_eq_true,ports_iff,portP_iff]
           exact fun h=>h p q hlt4 hlt3 ⟨hlt3,hq,b1,b2,b3⟩
          have e:tsane xs=13:=by rw [e2,if_pos hpp]
          (repeat' (first
 | (with_reducible first|refine callX.by (sane03_c _ _ _ _ _ _ _ ?_ ?_ ?_) ?_|refine callX.by (rkey3_c _ _ _ _ _ _ _) ?_|refine callX.by (kcmp3_c _ _ _ _ ?_ ?_) ?_|assumption|(refine Qw hK _ ?_; clear hK K)|refine Qw ‹_› _ ?_|refine Qx ‹_› ?_|refine Qi fun K hK=>?_|refine Qj T fun K hK=>?_|refine Qk (id:=12) T mixed Wd19 (by kernel_rfl) fun K hK=>?_|refine Qk (id:=20) T mixed Wd20 (by kernel_rfl) fun K hK=>?_|refine Ql fun A B hA hB=>?_|refine Qm ?_|refine Qn ?_|refine Qp ?_|refine Qr ?_)
 | ((with_reducible first|apply Qy|apply Qz|apply QA)<;>intro hb<;>try simp only [nr] at hb)
 | simp only [go_sem,↓reduceIte,reduceIte,Qa,Qh,Qb,Qc,Qd,Qe,Qf,Qg,reduceCtorEq, *,-hs,-e2,-f2,-hout,-hMo]
 | with_reducible refine fun (bn:Bool) hbn=>?_))
          all_goals trace_state
         ·have hnb:∀ b,b < q+1→¬ badAt xs p b:=fun b hb hx=>by
           by_cases hbq:b < q
           ·exact f2 b hbq hx
           ·have:b=q:=by omega
            subst this
            obtain ⟨_,_,h⟩:=hx
            exact hbad h
          (repeat' (first
 | (with_reducible first|refine callX.by (sane03_c _ _ _ _ _ _ _ ?_ ?_ ?_) ?_|refine callX.by (rkey3_c _ _ _ _ _ _ _) ?_|refine callX.by (kcmp3_c _ _ _ _ ?_ ?_) ?_|assumption|(refine Qw hK _ ?_; clear hK K)|refine Qw ‹_› _ ?_|refine Qx ‹_› ?_|refine Qi fun K hK=>?_|refine Qj T fun K hK=>?_|refine Qk (id:=12) T mixed Wd19 (by kernel_rfl) fun K hK=>?_|refine Qk (id:=20) T mixed Wd20 (by kernel_rfl) fun K hK=>?_|refine Ql fun A B hA hB=>?_|refine Qm ?_|refine Qn ?_|refine Qp ?_|refine Qr ?_)
 | ((with_reducible first|apply Qy|apply Qz|apply QA)<;>intro hb<;>try simp only [nr] at hb)
 | simp only [go_sem,↓reduceIte,reduceIte,Qa,Qh,Qb,Qc,Qd,Qe,Qf,Qg,reduceCtorEq, *,-hs,-e2,-f2,-hout,-hMo,-hnb,-hbad]
 | with_reducible refine fun (bn:Bool) hbn=>?_))
          all_goals ((repeat clear hK); (repeat clear hA); (repeat clear hB))
          all_goals first
           | (refine hM.on (p - (q+1)) (by omega) (by simp only [go_sem,↓reduceIte,reduceIte,Qa,Qh,Qb,Qc,Qd,Qe,Qf,Qg,reduceCtorEq, *,w64_nat hq hl,-hs,-e2,-f2,-hout,-hnb,-hbad]) ⟨q+1,rfl,by omega,hnb,?_⟩; simp only [go_sem,↓reduceIte,reduceIte,Qa,Qh,Qb,Qc,Qd,Qe,Qf,Qg,reduceCtorEq, *,w64_nat hq hl,-hs,-e2,-f2,-hout,-hnb,-hbad]; done)
           | (exfalso; apply hbad; simp_all; done)
           | trace_state
        ·have hno:∀ a b,b < a→a < p+1→¬ badAt xs a b:=fun a b h1 h2=>by
          by_cases hap:a < p
          ·exact hout a b h1 hap
          ·have:a=p:=by omega
           subst this
           exact f2 b (by omega)
         (repeat' (first
 | (with_reducible first|refine callX.by (sane03_c _ _ _ _ _ _ _ ?_ ?_ ?_) ?_|refine callX.by (rkey3_c _ _ _ _ _ _ _) ?_|refine callX.by (kcmp3_c _ _ _ _ ?_ ?_) ?_|assumption|(refine Qw hK _ ?_; clear hK K)|refine Qw ‹_› _ ?_|refine Qx ‹_› ?_|refine Qi fun K hK=>?_|refine Qj T fun K hK=>?_|refine Qk (id:=12) T mixed Wd19 (by kernel_rfl) fun K hK=>?_|refine Qk (id:=20) T mixed Wd20 (by kernel_rfl) fun K hK=>?_|refine Ql fun A B hA hB=>?_|refine Qm ?_|refine Qn ?_|refine Qp ?_|refine Qr ?_)
 | ((with_reducible first|apply Qy|apply Qz|apply QA)<;>intro hb<;>try simp only [nr] at hb)
 | simp only [go_sem,↓reduceIte,reduceIte,Qa,Qh,Qb,Qc,Qd,Qe,Qf,Qg,reduceCtorEq, *,-hs,-e2,-f2,-hMo,-hno,-hout]
 | with_reducible refine fun (bn:Bool) hbn=>?_))
         all_goals ((repeat clear hK); (repeat clear hA); (repeat clear hB))
         clear hM
         have hM:=hMo
         all_goals (refine hM.on (xs.length - (p+1)) (by omega) (by simp only [go_sem,↓reduceIte,reduceIte,Qa,Qh,Qb,Qc,Qd,Qe,Qf,Qg,reduceCtorEq, *,w64_nat hlt3 hl,-hs,-e2,-f2,-hMo,-hno,-hout]) ⟨p+1,rfl,by omega,hno,?_⟩; simp only [go_sem,↓reduceIte,reduceIte,Qa,Qh,Qb,Qc,Qd,Qe,Qf,Qg,reduceCtorEq, *,w64_nat hlt3 hl,-hs,-e2,-f2,-hMo,-hno,-hout]; done)
      ·have hpp:portsM (tkind xs 0) []=true:=(ports_iff xs).2 ((portP_iff xs).2 fun a b h1 h2=>f2 a b h1 (by omega))
       have e:tsane xs=0:=by rw [e2,if_neg (by rw [hpp]; simp)]
       (repeat' (first
 | (with_reducible first|refine callX.by (sane03_c _ _ _ _ _ _ _ ?_ ?_ ?_) ?_|refine callX.by (rkey3_c _ _ _ _ _ _ _) ?_|refine callX.by (kcmp3_c _ _ _ _ ?_ ?_) ?_|assumption|(refine Qw hK _ ?_; clear hK K)|refine Qw ‹_› _ ?_|refine Qx ‹_› ?_|refine Qi fun K hK=>?_|refine Qj T fun K hK=>?_|refine Qk (id:=12) T mixed Wd19 (by kernel_rfl) fun K hK=>?_|refine Qk (id:=20) T mixed Wd20 (by kernel_rfl) fun K hK=>?_|refine Ql fun A B hA hB=>?_|refine Qm ?_|refine Qn ?_|refine Qp ?_|refine Qr ?_)
 | ((with_reducible first|apply Qy|apply Qz|apply QA)<;>intro hb<;>try simp only [nr] at hb)
 | simp only [go_sem,↓reduceIte,reduceIte,Qa,Qh,Qb,Qc,Qd,Qe,Qf,Qg,reduceCtorEq, *,-hs,-e2,-f2,-hout]
 | with_reducible refine fun (bn:Bool) hbn=>?_))
end Go.Proofs.YtmjkjmoeicnbnaaGreatDoor.Lg
