/- Parts of the proof, one behind the other. -/
import Derived.Test.YtdolbhcmdkcpnaaGreatDoorG21
namespace Go.Proofs.YtdolbhcmdkcpnaaGreatDoor.Lg
set_option maxRecDepth 100000
set_option linter.unusedVariables false
set_option linter.unusedSimpArgs false
open Go
open Nat renaming reduceEqDiff → Qa, reduceLT → Qb, reduceLeDiff → Qc, reduceAdd → Qd, reduceMul → Qe, reduceSub → Qf, reduceBEq → Qg
open String renaming reduceEq → Qh
open SpecC renaming seqW → Qi, regW → Qj, drawW → Qk, condW → Ql, block → Qm, skip → Qn, exit → Qp, ret → Qr, loopF → Qs
open NxK renaming out → Qw
open Nx renaming out → Qx
open condK renaming split → Qy
open gK renaming split_t → Qz, split_f → QA
open List renaming getElem_mem → QC
theorem tget_cons (x:Res) (l:List Res) (k:Key):tget (x :: l) k=if keyOf x=k then some x else tget l k:=by
 unfold tget
 rw [List.find?_cons]
 by_cases h:keyOf x=k<;>simp [h]
theorem get05_c (xs:List Res) (k_kind:Int) (k_name:List UInt8) (hl:Small xs.length):CallR Tryz.prog 67 [.slice false (avs xs),.agg [.int .i64 k_kind,.str k_name]] (.val (.tup [Dat.av ((tget xs (⟨k_kind,k_name⟩:Key)).getD zRes),.bool (tget xs (⟨k_kind,k_name⟩:Key)).isSome])):=by
 rw [av_Res]
 refine CallR.go2 (T:=T) Tryz.call67 Tryz.func67 rfl Tryz.ntmps67 (congrArg Array.toList Tryz.results67) (by decide) fun ts hn h0 h1=>?_
 (repeat' (first
 | (with_reducible first|refine callX.by (rkey3_c _ _ _ _ _ _ _) ?_|assumption|(refine Qw hK _ ?_; clear hK K)|refine Qw ‹_› _ ?_|refine Qx ‹_› ?_|refine Qi fun K hK=>?_|refine Qj T fun K hK=>?_|refine Qk (id:=4) T mixed [([13],[14,17,18]),([14],[13,17,18]),([15],[18]),([16],[18]),([17],[13,14,18]),([18],[13,14,15,16,17])] (by kernel_rfl) fun K hK=>?_|refine Ql fun A B hA hB=>?_|refine Qm ?_|refine Qn ?_|refine Qp ?_|refine Qr ?_)
 | ((with_reducible first|apply Qy|apply Qz|apply QA)<;>intro hb<;>try simp only [nr] at hb)
 | simp only [go_sem,↓reduceIte,reduceIte,Qa,Qh,Qb,Qc,Qd,Qe,Qf,Qg,reduceCtorEq, *]
 | with_reducible refine fun (bn:Bool) hbn=>?_))
 refine Qs [0,3] (fun m ts'=>∃ (i:Nat),m=xs.length - i∧i≤xs.length∧tget xs (⟨k_kind,k_name⟩:Key)=tget (xs.drop i) (⟨k_kind,k_name⟩:Key)∧ts'.tmp 6=.int .i64 i∧ts'.tmp 4=.ref 4 (ts.gen 4+1) 0∧ts'.gen 4=ts.gen 4+1∧ts'.obj 4=.box [.int .i64 0,.str [],.int .i64 0,.int .i64 0,.str [],.slice true [],.slice true []]) xs.length ?_ ?_
 ·refine ⟨0,?_⟩
  simp only [go_sem,↓reduceIte,reduceIte,Qa,Qh,Qb,Qc,Qd,Qe,Qf,Qg,reduceCtorEq, *]
 ·rintro m A hM ts' hk ⟨i,hm,f1,f2,s1,s2,s3,s4⟩
  simp only [go_sem,↓reduceIte,reduceIte,Qa,Qh,Qb,Qc,Qd,Qe,Qf,Qg,reduceCtorEq, *] at hk
  by_cases hlt:i < xs.length
  ·rw [List.drop_eq_getElem_cons hlt,tget_cons] at f2
   by_cases hk:keyOf xs[i]=(⟨k_kind,k_name⟩:Key)
   ·rw [if_pos hk] at f2
    have hk1:xs[i].kind=k_kind:=congrArg Key.kind hk
    have hk2:xs[i].name=k_name:=congrArg Key.name hk
    rw [f2]
    (repeat' (first
 | (with_reducible first|refine callX.by (rkey3_c _ _ _ _ _ _ _) ?_|assumption|(refine Qw hK _ ?_; clear hK K)|refine Qw ‹_› _ ?_|refine Qx ‹_› ?_|refine Qi fun K hK=>?_|refine Qj T fun K hK=>?_|refine Qk (id:=4) T mixed [([13],[14,17,18]),([14],[13,17,18]),([15],[18]),([16],[18]),([17],[13,14,18]),([18],[13,14,15,16,17])] (by kernel_rfl) fun K hK=>?_|refine Ql fun A B hA hB=>?_|refine Qm ?_|refine Qn ?_|refine Qp ?_|refine Qr ?_)
 | ((with_reducible first|apply Qy|apply Qz|apply QA)<;>intro hb<;>try simp only [nr] at hb)
 | simp only [go_sem,↓reduceIte,reduceIte,Qa,Qh,Qb,Qc,Qd,Qe,Qf,Qg,reduceCtorEq, *,-f2,-hk,Option.getD_some,Option.isSome_some]
 | with_reducible refine fun (bn:Bool) hbn=>?_))
    all_goals trace_state
   ·rw [if_neg hk] at f2
    have hk1:¬ (xs[i].kind=k_kind∧xs[i].name=k_name):=fun h=>hk (by unfold keyOf; rw [h.1,h.2])
    (repeat' (first
 | (with_reducible first|refine callX.by (rkey3_c _ _ _ _ _ _ _) ?_|assumption|(refine Qw hK _ ?_; clear hK K)|refine Qw ‹_› _ ?_|refine Qx ‹_› ?_|refine Qi fun K hK=>?_|refine Qj T fun K hK=>?_|refine Qk (id:=4) T mixed [([13],[14,17,18]),([14],[13,17,18]),([15],[18]),([16],[18]),([17],[13,14,18]),([18],[13,14,15,16,17])] (by kernel_rfl) fun K hK=>?_|refine Ql fun A B hA hB=>?_|refine Qm ?_|refine Qn ?_|refine Qp ?_|refine Qr ?_)
 | ((with_reducible first|apply Qy|apply Qz|apply QA)<;>intro hb<;>try simp only [nr] at hb)
 | simp only [go_sem,↓reduceIte,reduceIte,Qa,Qh,Qb,Qc,Qd,Qe,Qf,Qg,reduceCtorEq, *,-f2,-hk]
 | with_reducible refine fun (bn:Bool) hbn=>?_))
    all_goals ((repeat clear hK); (repeat clear hA); (repeat clear hB))
    all_goals first
     | (refine hM.on (xs.length - (i+1)) (by omega) (by simp only [go_sem,↓reduceIte,reduceIte,Qa,Qh,Qb,Qc,Qd,Qe,Qf,Qg,reduceCtorEq, *,w64_nat hlt hl,-f2,-hk]) ⟨i+1,rfl,by omega,f2,?_⟩; simp only [go_sem,↓reduceIte,reduceIte,Qa,Qh,Qb,Qc,Qd,Qe,Qf,Qg,reduceCtorEq, *,w64_nat hlt hl,-f2,-hk]; done)
     | (exfalso; simp_all; done)
     | trace_state
  ·rw [List.drop_eq_nil_of_le (by omega)] at f2
   have e:tget xs (⟨k_kind,k_name⟩:Key)=none:=by rw [f2]; rfl
   rw [e]
   (repeat' (first
 | (with_reducible first|refine callX.by (rkey3_c _ _ _ _ _ _ _) ?_|assumption|(refine Qw hK _ ?_; clear hK K)|refine Qw ‹_› _ ?_|refine Qx ‹_› ?_|refine Qi fun K hK=>?_|refine Qj T fun K hK=>?_|refine Qk (id:=4) T mixed [([13],[14,17,18]),([14],[13,17,18]),([15],[18]),([16],[18]),([17],[13,14,18]),([18],[13,14,15,16,17])] (by kernel_rfl) fun K hK=>?_|refine Ql fun A B hA hB=>?_|refine Qm ?_|refine Qn ?_|refine Qp ?_|refine Qr ?_)
 | ((with_reducible first|apply Qy|apply Qz|apply QA)<;>intro hb<;>try simp only [nr] at hb)
 | simp only [go_sem,↓reduceIte,reduceIte,Qa,Qh,Qb,Qc,Qd,Qe,Qf,Qg,reduceCtorEq, *,-f2,zRes,Option.getD_none,Option.isSome_none]
 | with_reducible refine fun (bn:Bool) hbn=>?_))
   all_goals ((repeat clear hK); (repeat clear hA); (repeat clear hB))
   all_goals first|rfl|exact ⟨rfl,rfl⟩
theorem sideR_cons (x:Res) (l:List Res) (k:Key) (c:Int):sideR (x :: l) k c=if kcmp (keyOf x) k=c then x :: sideR l k c else sideR l k c:=by
 unfold sideR
 rw [List.filter_cons]
 by_cases h:kcmp (keyOf x) k=c<;>simp [h]
theorem part05_c (xs:List Res) (k_kind:Int) (k_name:List UInt8) (c:Int) (hl:Small xs.length) (hs:∀ r∈xs,SmRes r) (hkn:Small k_name.length):CallR Tryz.prog 163 [.slice false (avs xs),.agg [.int .i64 k_kind,.str k_name],.int .i64 c] (.own 7 (avs (sideR xs (⟨k_kind,k_name⟩:Key) c))):=by
 refine CallR.go3 (T:=T) Tryz.call163 Tryz.func163 rfl Tryz.ntmps163 (congrArg Array.toList Tryz.results163) (by decide) fun ts hn h0 h1 h2=>?_
 (repeat' (first
 | (with_reducible first|refine callX.by (rkey3_c _ _ _ _ _ _ _) ?_|refine callX.by (kcmp3_c _ _ _ _ ?_ ?_) ?_|assumption|(refine Qw hK _ ?_; clear hK K)|refine Qw ‹_› _ ?_|refine Qx ‹_› ?_|refine Qi fun K hK=>?_|refine Qj T fun K hK=>?_|refine Qk (id:=5) T mixed [([15],[16,19,20,21,22]),([16],[15,19,20,21,22]),([17],[20,21,22]),([18],[20,22]),([19],[15,16,20,22]),([20],[15,16,17,18,19,22]),([21],[15,16,17,22]),([22],[15,16,17,18,19,20,21])] (by kernel_rfl) fun K hK=>?_|refine Ql fun A B hA hB=>?_|refine Qm ?_|refine Qn ?_|refine Qp ?_|refine Qr ?_)
 | ((with_reducible first|apply Qy|apply Qz|apply QA)<;>intro hb<;>try simp only [nr] at hb)
 | simp only [go_sem,↓reduceIte,reduceIte,Qa,Qh,Qb,Qc,Qd,Qe,Qf,Qg,reduceCtorEq, *,-hs]
 | with_reducible refine fun (bn:Bool) hbn=>?_))
 refine SpecC.ent (Ent.virt 7 7 (by simp only [go_sem,↓reduceIte,reduceIte,Qa,Qh,Qb,Qc,Qd,Qe,Qf,Qg,reduceCtorEq, *,-hs]) (by decide)) ?_
 refine Qs [0,2,4] (fun m ts'=>∃ (i:Nat),∃ (g:Nat),∃ (ys:List Res),m=xs.length - i∧i≤xs.length∧ys.length≤i∧sideR xs (⟨k_kind,k_name⟩:Key) c=ys++sideR (xs.drop i) (⟨k_kind,k_name⟩:Key) c∧ts'.tmp 7=.os 7 g ys.length∧ts'.gen 7=g∧ts'.obj 7=.arr 7 (avs ys)∧ts'.tmp 8=.int .i64 i) xs.length ?_ ?_
 ·refine ⟨0,ts.gen 7+1,[],rfl,Nat.zero_le _,Nat.le_refl _,rfl,?_⟩
  simp only [go_sem,↓reduceIte,reduceIte,Qa,Qh,Qb,Qc,Qd,Qe,Qf,Qg,reduceCtorEq, *,-hs,avs_nil]
 ·rintro m A hM ts' hk ⟨i,g,ys,hm,f1,f2,f3,s1,s2,s3,s4⟩
  simp only [go_sem,↓reduceIte,reduceIte,Qa,Qh,Qb,Qc,Qd,Qe,Qf,Qg,reduceCtorEq, *] at hk
  by_cases hlt:i < xs.length
  ·rw [List.drop_eq_getElem_cons hlt,sideR_cons,show keyOf xs[i]=⟨xs[i].kind,xs[i].name⟩ from rfl] at f3
   have hr:Room (ys.length+1) 104:=room_small (by unfold Small at hl; omega) (by decide)
   have w1:=kcmp3_c xs[i].kind k_kind xs[i].name k_name (hs _ (QC hlt)).1 hkn
   rw [kcmp3_eq] at w1
   by_cases hc:kcmp ⟨xs[i].kind,xs[i].name⟩ (⟨k_kind,k_name⟩:Key)=c
   ·rw [if_pos hc] at f3
    (repeat' (first
 | (with_reducible first|refine callX.by (w1) ?_|refine callX.by (rkey3_c _ _ _ _ _ _ _) ?_|refine callX.by (kcmp3_c _ _ _ _ ?_ ?_) ?_|assumption|(refine Qw hK _ ?_; clear hK K)|refine Qw ‹_› _ ?_|refine Qx ‹_› ?_|refine Qi fun K hK=>?_|refine Qj T fun K hK=>?_|refine Qk (id:=5) T mixed [([15],[16,19,20,21,22]),([16],[15,19,20,21,22]),([17],[20,21,22]),([18],[20,22]),([19],[15,16,20,22]),([20],[15,16,17,18,19,22]),([21],[15,16,17,22]),([22],[15,16,17,18,19,20,21])] (by kernel_rfl) fun K hK=>?_|refine Ql fun A B hA hB=>?_|refine Qm ?_|refine Qn ?_|refine Qp ?_|refine Qr ?_)
 | ((with_reducible first|apply Qy|apply Qz|apply QA)<;>intro hb<;>try simp only [nr] at hb)
 | simp only [go_sem,↓reduceIte,reduceIte,Qa,Qh,Qb,Qc,Qd,Qe,Qf,Qg,reduceCtorEq, *,-hs,-w1,-f3]
 | with_reducible refine fun (bn:Bool) hbn=>?_))
    all_goals ((repeat clear hK); (repeat clear hA); (repeat clear hB))
    all_goals (refine hM.onE (xs.length - (i+1)) (Ent.ren 7 30 ?_ ?_) ?_ ?_ ?_; (focus (simp only [go_sem,↓reduceIte,reduceIte,Qa,Qh,Qb,Qc,Qd,Qe,Qf,Qg,reduceCtorEq, *,w64_nat hlt hl,List.length_append,-hs,-w1,-f3]; first|done|rfl)); (focus (simp only [go_sem,↓reduceIte,reduceIte,Qa,Qh,Qb,Qc,Qd,Qe,Qf,Qg,reduceCtorEq, *,w64_nat hlt hl,List.length_append,-hs,-w1,-f3]; first|done|rfl)); omega; (focus (simp only [go_sem,↓reduceIte,reduceIte,Qa,Qh,Qb,Qc,Qd,Qe,Qf,Qg,reduceCtorEq, *,w64_nat hlt hl,List.length_append,-hs,-w1,-f3]; done)); refine ⟨i+1,ts'.gen 7+1,ys++[xs[i]],rfl,by omega,by simp; omega,by rw [f3,List.append_assoc]; rfl,?_⟩; simp only [go_sem,↓reduceIte,reduceIte,Qa,Qh,Qb,Qc,Qd,Qe,Qf,Qg,reduceCtorEq, *,w64_nat hlt hl,List.length_append,-hs,-w1,-f3]; done)
   ·rw [if_neg hc] at f3
    (repeat' (first
 | (with_reducible first|refine callX.by (w1) ?_|refine callX.by (rkey3_c _ _ _ _ _ _ _) ?_|refine callX.by (kcmp3_c _ _ _ _ ?_ ?_) ?_|assumption|(refine Qw hK _ ?_; clear hK K)|refine Qw ‹_› _ ?_|refine Qx ‹_› ?_|refine Qi fun K hK=>?_|refine Qj T fun K hK=>?_|refine Qk (id:=5) T mixed [([15],[16,19,20,21,22]),([16],[15,19,20,21,22]),([17],[20,21,22]),([18],[20,22]),([19],[15,16,20,22]),([20],[15,16,17,18,19,22]),([21],[15,16,17,22]),([22],[15,16,17,18,19,20,21])] (by kernel_rfl) fun K hK=>?_|refine Ql fun A B hA hB=>?_|refine Qm ?_|refine Qn ?_|refine Qp ?_|refine Qr ?_)
 | ((with_reducible first|apply Qy|apply Qz|apply QA)<;>intro hb<;>try simp only [nr] at hb)
 | simp only [go_sem,↓reduceIte,reduceIte,Qa,Qh,Qb,Qc,Qd,Qe,Qf,Qg,reduceCtorEq, *,-hs,-w1,-f3]
 | with_reducible refine fun (bn:Bool) hbn=>?_))
    all_goals ((repeat clear hK); (repeat clear hA); (repeat clear hB))
    all_goals (refine hM.on (xs.length - (i+1)) (by omega) (by simp only [go_sem,↓reduceIte,reduceIte,Qa,Qh,Qb,Qc,Qd,Qe,Qf,Qg,reduceCtorEq, *,w64_nat hlt hl,-hs,-w1,-f3]) ⟨i+1,g,ys,rfl,by omega,by omega,f3,?_⟩; simp only [go_sem,↓reduceIte,reduceIte,Qa,Qh,Qb,Qc,Qd,Qe,Qf,Qg,reduceCtorEq, *,w64_nat hlt hl,-hs,-w1,-f3]; done)
  ·rw [List.drop_eq_nil_of_le (by omega)] at f3
   have e:sideR xs (⟨k_kind,k_name⟩:Key) c=ys:=by rw [f3]; simp [sideR]
   rw [e]
   (repeat' (first
 | (with_reducible first|refine callX.by (rkey3_c _ _ _ _ _ _ _) ?_|refine callX.by (kcmp3_c _ _ _ _ ?_ ?_) ?_|assumption|(refine Qw hK _ ?_; clear hK K)|refine Qw ‹_› _ ?_|refine Qx ‹_› ?_|refine Qi fun K hK=>?_|refine Qj T fun K hK=>?_|refine Qk (id:=5) T mixed [([15],[16,19,20,21,22]),([16],[15,19,20,21,22]),([17],[20,21,22]),([18],[20,22]),([19],[15,16,20,22]),([20],[15,16,17,18,19,22]),([21],[15,16,17,22]),([22],[15,16,17,18,19,20,21])] (by kernel_rfl) fun K hK=>?_|refine Ql fun A B hA hB=>?_|refine Qm ?_|refine Qn ?_|refine Qp ?_|refine Qr ?_)
 | ((with_reducible first|apply Qy|apply Qz|apply QA)<;>intro hb<;>try simp only [nr] at hb)
 | simp only [go_sem,↓reduceIte,reduceIte,Qa,Qh,Qb,Qc,Qd,Qe,Qf,Qg,reduceCtorEq, *,-hs,-f3]
 | with_reducible refine fun (bn:Bool) hbn=>?_))
   all_goals ((repeat clear hK); (repeat clear hA); (repeat clear hB))
   all_goals trace_state
theorem with05_c (xs:List Res) (r:Res) (hl:Small xs.length) (hl2:Small (withR xs r).length) (hs:∀ r∈xs,SmRes r) (hr:SmRes r):CallR Tryz.prog 128 [.slice false (avs xs),.agg [.int .i64 r.kind,.str r.name,.int .i64 r.ver,.int .i64 r.port,.str r.to',.slice false (avs r.rules'),.slice false (avs r.hosts)]] (.own 7 (avs (withR xs r))):=by
 have w1:=part05_c xs r.kind r.name (-1) hl hs hr.1
 have w2:=part05_c xs r.kind r.name 1 hl hs hr.1
 have e:withR xs r=sideR xs ⟨r.kind,r.name⟩ (-1)++[r]++sideR xs ⟨r.kind,r.name⟩ 1:=rfl
 rw [e] at hl2 ⊢
 generalize sideR xs ⟨r.kind,r.name⟩ (-1)=A1 at *
 generalize sideR xs ⟨r.kind,r.name⟩ 1=A2 at *
 have hr1:Room (A1.length+1) 104:=room_small (by unfold Small at hl2; simp only [List.length_append,List.length_singleton] at hl2; omega) (by decide)
 have hr2:Room (A1.length+1+A2.length) 104:=room_small (by unfold Small at hl2; simp only [List.length_append,List.length_singleton] at hl2; omega) (by decide)
 clear e
 refine CallR.go2 (T:=T) Tryz.call128 Tryz.func128 rfl Tryz.ntmps128 (congrArg Array.toList Tryz.results128) (by decide) fun ts hn h0 h1=>?_
 (repeat' (first
 | (with_reducible first|refine callX.by (w1) ?_|refine callX.by (w2) ?_|refine callX.by (rkey3_c _ _ _ _ _ _ _) ?_|refine callX.by (part05_c _ _ _ _ ?_ ?_ ?_) ?_|assumption|(refine Qw hK _ ?_; clear hK K)|refine Qw ‹_› _ ?_|refine Qx ‹_› ?_|refine Qi fun K hK=>?_|refine Qj T fun K hK=>?_|refine Ql fun A B hA hB=>?_|refine Qn ?_|refine Qr ?_)
 | ((with_reducible first|apply Qy|apply Qz|apply QA)<;>intro hb<;>try simp only [nr] at hb)
 | simp only [go_sem,↓reduceIte,reduceIte,Qa,Qh,Qb,Qc,Qd,Qe,Qf,Qg,reduceCtorEq, *,-hs,-hr,-w1,-w2,List.length_append]
 | with_reducible refine fun (bn:Bool) hbn=>?_))
 all_goals rw [List.take_of_length_le (by simp; omega)]
theorem twithout_cons (x:Res) (l:List Res) (k:Key):twithout (x :: l) k=if keyOf x=k then twithout l k else x :: twithout l k:=by
 unfold twithout
 rw [List.filter_cons]
 by_cases h:keyOf x=k<;>simp [h]
theorem without05_c (xs:List Res) (k_kind:Int) (k_name:List UInt8) (hl:Small xs.length):CallR Tryz.prog 127 [.slice false (avs xs),.agg [.int .i64 k_kind,.str k_name]] (.own 7 (avs (twithout xs (⟨k_kind,k_name⟩:Key)))):=by
 refine CallR.go2 (T:=T) Tryz.call127 Tryz.func127 rfl Tryz.ntmps127 (congrArg Array.toList Tryz.results127) (by decide) fun ts hn h0 h1=>?_
 (repeat' (first
 | (with_reducible first|refine callX.by (rkey3_c _ _ _ _ _ _ _) ?_|assumption|(refine Qw hK _ ?_; clear hK K)|refine Qw ‹_› _ ?_|refine Qx ‹_› ?_|refine Qi fun K hK=>?_|refine Qj T fun K hK=>?_|refine Qk (id:=5) T mixed [([13],[14,17,18]),([14],[13,17,18]),([15],[18]),([16],[18]),([17],[13,14,18]),([18],[13,14,15,16,17])] (by kernel_rfl) fun K hK=>?_|refine Ql fun A B hA hB=>?_|refine Qm ?_|refine Qn ?_|refine Qp ?_|refine Qr ?_)
 | ((with_reducible first|apply Qy|apply Qz|apply QA)<;>intro hb<;>try simp only [nr] at hb)
 | simp only [go_sem,↓reduceIte,reduceIte,Qa,Qh,Qb,Qc,Qd,Qe,Qf,Qg,reduceCtorEq, *]
 | with_reducible refine fun (bn:Bool) hbn=>?_))
 refine SpecC.ent (Ent.virt 5 7 (by simp only [go_sem,↓reduceIte,reduceIte,Qa,Qh,Qb,Qc,Qd,Qe,Qf,Qg,reduceCtorEq, *]) (by decide)) ?_
 refine Qs [0,3] (fun m ts'=>∃ (i:Nat),∃ (g:Nat),∃ (ys:List Res),m=xs.length - i∧i≤xs.length∧ys.length≤i∧twithout xs (⟨k_kind,k_name⟩:Key)=ys++twithout (xs.drop i) (⟨k_kind,k_name⟩:Key)∧ts'.tmp 5=.os 5 g ys.length∧ts'.gen 5=g∧ts'.obj 5=.arr 7 (avs ys)∧ts'.tmp 6=.int .i64 i) xs.length ?_ ?_
 ·refine ⟨0,ts.gen 5+1,[],rfl,Nat.zero_le _,Nat.le_refl _,rfl,?_⟩
  simp only [go_sem,↓reduceIte,reduceIte,Qa,Qh,Qb,Qc,Qd,Qe,Qf,Qg,reduceCtorEq, *,avs_nil]
 ·rintro m A hM ts' hk ⟨i,g,ys,hm,f1,f2,f3,s1,s2,s3,s4⟩
  simp only [go_sem,↓reduceIte,reduceIte,Qa,Qh,Qb,Qc,Qd,Qe,Qf,Qg,reduceCtorEq, *] at hk
  by_cases hlt:i < xs.length
  ·rw [List.drop_eq_getElem_cons hlt,twithout_cons] at f3
   have hr:Room (ys.length+1) 104:=room_small (by unfold Small at hl; omega) (by decide)
   by_cases hk:keyOf xs[i]=(⟨k_kind,k_name⟩:Key)
   ·rw [if_pos hk] at f3
    have hk1:xs[i].kind=k_kind:=congrArg Key.kind hk
    have hk2:xs[i].name=k_name:=congrArg Key.name hk
    (repeat' (first
 | (with_reducible first|refine callX.by (rkey3_c _ _ _ _ _ _ _) ?_|assumption|(refine Qw hK _ ?_; clear hK K)|refine Qw ‹_› _ ?_|refine Qx ‹_› ?_|refine Qi fun K hK=>?_|refine Qj T fun K hK=>?_|refine Qk (id:=5) T mixed [([13],[14,17,18]),([14],[13,17,18]),([15],[18]),([16],[18]),([17],[13,14,18]),([18],[13,14,15,16,17])] (by kernel_rfl) fun K hK=>?_|refine Ql fun A B hA hB=>?_|refine Qm ?_|refine Qn ?_|refine Qp ?_|refine Qr ?_)
 | ((with_reducible first|apply Qy|apply Qz|apply QA)<;>intro hb<;>try simp only [nr] at hb)
 | simp only [go_sem,↓reduceIte,reduceIte,Qa,Qh,Qb,Qc,Qd,Qe,Qf,Qg,reduceCtorEq, *,-hk,-f3]
 | with_reducible refine fun (bn:Bool) hbn=>?_))
    all_goals ((repeat clear hK); (repeat clear hA); (repeat clear hB))
    all_goals first
     | (refine hM.on (xs.length - (i+1)) (by omega) (by simp only [go_sem,↓reduceIte,reduceIte,Qa,Qh,Qb,Qc,Qd,Qe,Qf,Qg,reduceCtorEq, *,w64_nat hlt hl,-hk,-f3]) ⟨i+1,g,ys,rfl,by omega,by omega,f3,?_⟩; simp only [go_sem,↓reduceIte,reduceIte,Qa,Qh,Qb,Qc,Qd,Qe,Qf,Qg,reduceCtorEq, *,w64_nat hlt hl,-hk,-f3]; done)
     | (exfalso; simp_all; done)
     | trace_state
   ·rw [if_neg hk] at f3
    have hk1:¬ (xs[i].kind=k_kind∧xs[i].name=k_name):=fun h=>hk (by unfold keyOf; rw [h.1,h.2])
    (repeat' (first
 | (with_reducible first|refine callX.by (rkey3_c _ _ _ _ _ _ _) ?_|assumption|(refine Qw hK _ ?_; clear hK K)|refine Qw ‹_› _ ?_|refine Qx ‹_› ?_|refine Qi fun K hK=>?_|refine Qj T fun K hK=>?_|refine Qk (id:=5) T mixed [([13],[14,17,18]),([14],[13,17,18]),([15],[18]),([16],[18]),([17],[13,14,18]),([18],[13,14,15,16,17])] (by kernel_rfl) fun K hK=>?_|refine Ql fun A B hA hB=>?_|refine Qm ?_|refine Qn ?_|refine Qp ?_|refine Qr ?_)
 | ((with_reducible first|apply Qy|apply Qz|apply QA)<;>intro hb<;>try simp only [nr] at hb)
 | simp only [go_sem,↓reduceIte,reduceIte,Qa,Qh,Qb,Qc,Qd,Qe,Qf,Qg,reduceCtorEq, *,-hk,-f3]
 | with_reducible refine fun (bn:Bool) hbn=>?_))
    all_goals ((repeat clear hK); (repeat clear hA); (repeat clear hB))
    all_goals first
     | (refine hM.onE (xs.length - (i+1)) (Ent.ren 5 26 ?_ ?_) ?_ ?_ ?_; (focus (simp only [go_sem,↓reduceIte,reduceIte,Qa,Qh,Qb,Qc,Qd,Qe,Qf,Qg,reduceCtorEq, *,w64_nat hlt hl,List.length_append,-hk,-f3]; first|done|rfl)); (focus (simp only [go_sem,↓reduceIte,reduceIte,Qa,Qh,Qb,Qc,Qd,Qe,Qf,Qg,reduceCtorEq, *,w64_nat hlt hl,List.length_append,-hk,-f3]; first|done|rfl)); omega; (focus (simp only [go_sem,↓reduceIte,reduceIte,Qa,Qh,Qb,Qc,Qd,Qe,Qf,Qg,reduceCtorEq, *,w64_nat hlt hl,List.length_append,-hk,-f3]; done)); refine ⟨i+1,ts'.gen 5+1,ys++[xs[i]],rfl,by omega,by simp; omega,by rw [f3,List.append_assoc]; rfl,?_⟩; simp only [go_sem,↓reduceIte,reduceIte,Qa,Qh,Qb,Qc,Qd,Qe,Qf,Qg,reduceCtorEq, *,w64_nat hlt hl,List.length_append,-hk,-f3]; done)
     | (exfalso; simp_all; done)
     | trace_state
  ·rw [List.drop_eq_nil_of_le (by omega)] at f3
   have e:twithout xs (⟨k_kind,k_name⟩:Key)=ys:=by rw [f3]; simp [twithout]
   rw [e]
   (repeat' (first
 | (with_reducible first|refine callX.by (rkey3_c _ _ _ _ _ _ _) ?_|assumption|(refine Qw hK _ ?_; clear hK K)|refine Qw ‹_› _ ?_|refine Qx ‹_› ?_|refine Qi fun K hK=>?_|refine Qj T fun K hK=>?_|refine Qk (id:=5) T mixed [([13],[14,17,18]),([14],[13,17,18]),([15],[18]),([16],[18]),([17],[13,14,18]),([18],[13,14,15,16,17])] (by kernel_rfl) fun K hK=>?_|refine Ql fun A B hA hB=>?_|refine Qm ?_|refine Qn ?_|refine Qp ?_|refine Qr ?_)
 | ((with_reducible first|apply Qy|apply Qz|apply QA)<;>intro hb<;>try simp only [nr] at hb)
 | simp only [go_sem,↓reduceIte,reduceIte,Qa,Qh,Qb,Qc,Qd,Qe,Qf,Qg,reduceCtorEq, *,-f3]
 | with_reducible refine fun (bn:Bool) hbn=>?_))
   all_goals ((repeat clear hK); (repeat clear hA); (repeat clear hB))
   all_goals trace_state
theorem patch05_c (xs adds:List Res) (gone:List Key) (hx:Small xs.length) (ha:Small adds.length) (hg:Small gone.length) (hl:Small (xs.length+adds.length)) (hs:∀ r∈xs,SmRes r) (hsa:∀ r∈adds,SmRes r) :
  CallR Tryz.prog 85 [.slice false (avs xs),.slice false (avs adds),.slice false (avs gone)] (.val (.slice false (avs (patchR xs adds gone)))):=by
 refine CallR.go3 (T:=T) Tryz.call85 Tryz.func85 rfl Tryz.ntmps85 (congrArg Array.toList Tryz.results85) (by decide) fun ts hn h0 h1 h2=>?_
 (repeat' (first
 | (with_reducible first|refine callX.by (without05_c _ _ _ ?_) ?_|refine callX.by (with05_c _ _ ?_ ?_ ?_ ?_) ?_|assumption|(refine Qw hK _ ?_; clear hK K)|refine Qw ‹_› _ ?_|refine Qx ‹_› ?_|refine Qi fun K hK=>?_|refine Qj T fun K hK=>?_|refine Ql fun A B hA hB=>?_|refine Qm ?_|refine Qn ?_|refine Qp ?_|refine Qr ?_)
 | ((with_reducible first|apply Qy|apply Qz|apply QA)<;>intro hb<;>try simp only [nr] at hb)
 | simp only [go_sem,↓reduceIte,reduceIte,Qa,Qh,Qb,Qc,Qd,Qe,Qf,Qg,reduceCtorEq, *,-hs,-hsa]
 | with_reducible refine fun (bn:Bool) hbn=>?_))
 refine Qs [1,2] (fun m ts'=>∃ (i:Nat),∃ (ys:List Res),m=gone.length - i∧i≤gone.length∧ys.length≤xs.length∧(gone.drop i).foldl twithout ys=gone.foldl twithout xs∧(∀ r∈ys,SmRes r)∧ts'.tmp 0=.slice false (avs ys)∧ts'.tmp 7=.int .i64 i) gone.length ?_ ?_
 ·refine ⟨0,xs,rfl,Nat.zero_le _,Nat.le_refl _,rfl,hs,?_⟩
  simp only [go_sem,↓reduceIte,reduceIte,Qa,Qh,Qb,Qc,Qd,Qe,Qf,Qg,reduceCtorEq, *,-hs,-hsa]
 ·rintro m A hM ts' hk ⟨i,ys,hm,f1,f2,f3,f4,s1,s2⟩
  simp only [go_sem,↓reduceIte,reduceIte,Qa,Qh,Qb,Qc,Qd,Qe,Qf,Qg,reduceCtorEq, *] at hk
  by_cases hlt:i < gone.length
  ·rw [List.drop_eq_getElem_cons hlt,List.foldl_cons] at f3
   have hys:Small ys.length:=by unfold Small at hx ⊢; omega
   have w1:=(without05_c ys gone[i].kind gone[i].name hys).frz
   have hle:=twithout_len ys gone[i]
   have hm:∀ r∈twithout ys gone[i],SmRes r:=fun r hr=>f4 r (twithout_mem hr)
   (repeat' (first
 | (with_reducible first|refine callX.by (w1) ?_|refine callX.by (without05_c _ _ _ ?_) ?_|refine callX.by (with05_c _ _ ?_ ?_ ?_ ?_) ?_|assumption|(refine Qw hK _ ?_; clear hK K)|refine Qw ‹_› _ ?_|refine Qx ‹_› ?_|refine Qi fun K hK=>?_|refine Qj T fun K hK=>?_|refine Ql fun A B hA hB=>?_|refine Qm ?_|refine Qn ?_|refine Qp ?_|refine Qr ?_)
 | ((with_reducible first|apply Qy|apply Qz|apply QA)<;>intro hb<;>try simp only [nr] at hb)
 | simp only [go_sem,↓reduceIte,reduceIte,Qa,Qh,Qb,Qc,Qd,Qe,Qf,Qg,reduceCtorEq, *,-hs,-hsa,-f3,-f4,-hm,-w1]
 | with_reducible refine fun (bn:Bool) hbn=>?_))
   all_goals ((repeat clear hK); (repeat clear hA); (repeat clear hB))
   all_goals (refine hM.on (gone.length - (i+1)) (by omega) (by simp only [go_sem,↓reduceIte,reduceIte,Qa,Qh,Qb,Qc,Qd,Qe,Qf,Qg,reduceCtorEq, *,w64_nat hlt hg,-hs,-hsa,-f3,-f4,-hm,-w1]) ⟨i+1,twithout ys gone[i],rfl,by omega,by omega,f3,hm,?_⟩; simp only [go_sem,↓reduceIte,reduceIte,Qa,Qh,Qb,Qc,Qd,Qe,Qf,Qg,reduceCtorEq, *,w64_nat hlt hg,-hs,-hsa,-f3,-f4,-hm,-w1]; done)
  ·rw [List.drop_eq_nil_of_le (by omega),List.foldl_nil] at f3
   subst f3
   (repeat' (first
 | (with_reducible first|refine callX.by (without05_c _ _ _ ?_) ?_|refine callX.by (with05_c _ _ ?_ ?_ ?_ ?_) ?_|assumption|(refine Qw hK _ ?_; clear hK K)|refine Qw ‹_› _ ?_|refine Qx ‹_› ?_|refine Qi fun K hK=>?_|refine Qj T fun K hK=>?_|refine Ql fun A B hA hB=>?_|refine Qm ?_|refine Qn ?_|refine Qp ?_|refine Qr ?_)
 | ((with_reducible first|apply Qy|apply Qz|apply QA)<;>intro hb<;>try simp only [nr] at hb)
 | simp only [go_sem,↓reduceIte,reduceIte,Qa,Qh,Qb,Qc,Qd,Qe,Qf,Qg,reduceCtorEq, *,-hs,-hsa,-f4]
 | with_reducible refine fun (bn:Bool) hbn=>?_))
   clear hM hm
   refine Qs [1] (fun m ts'=>∃ (j:Nat),∃ (zs:List Res),m=adds.length - j∧j≤adds.length∧zs.length≤xs.length+j∧(adds.drop j).foldl withR zs=patchR xs adds gone∧(∀ r∈zs,SmRes r)∧ts'.tmp 0=.slice false (avs zs)∧ts'.tmp 8=.int .i64 j) adds.length ?_ ?_
   ·refine ⟨0,gone.foldl twithout xs,rfl,Nat.zero_le _,by omega,rfl,f4,?_⟩
    simp only [go_sem,↓reduceIte,reduceIte,Qa,Qh,Qb,Qc,Qd,Qe,Qf,Qg,reduceCtorEq, *,-hs,-hsa,-f4]
   ·clear f4 f2 f1
    rintro m A hM ts' hk ⟨j,zs,hm,f1,f2,f3,f4,s1,s2⟩
    simp only [go_sem,↓reduceIte,reduceIte,Qa,Qh,Qb,Qc,Qd,Qe,Qf,Qg,reduceCtorEq, *] at hk
    by_cases hlt2:j < adds.length
    ·rw [List.drop_eq_getElem_cons hlt2,List.foldl_cons] at f3
     have hle:=withR_len zs adds[j]
     have hzs:Small zs.length:=by unfold Small at hl ⊢; omega
     have hzr:Small (withR zs adds[j]).length:=by unfold Small at hl ⊢; omega
     have w1:=(with05_c zs adds[j] hzs hzr f4 (hsa _ (QC hlt2))).frz
     have hm:∀ r∈withR zs adds[j],SmRes r:=fun r hr=>(withR_mem hr).elim (fun e=>e▸hsa _ (QC hlt2)) (f4 r)
     (repeat' (first
 | (with_reducible first|refine callX.by (w1) ?_|refine callX.by (without05_c _ _ _ ?_) ?_|refine callX.by (with05_c _ _ ?_ ?_ ?_ ?_) ?_|assumption|(refine Qw hK _ ?_; clear hK K)|refine Qw ‹_› _ ?_|refine Qx ‹_› ?_|refine Qi fun K hK=>?_|refine Qj T fun K hK=>?_|refine Ql fun A B hA hB=>?_|refine Qm ?_|refine Qn ?_|refine Qp ?_|refine Qr ?_)
 | ((with_reducible first|apply Qy|apply Qz|apply QA)<;>intro hb<;>try simp only [nr] at hb)
 | simp only [go_sem,↓reduceIte,reduceIte,Qa,Qh,Qb,Qc,Qd,Qe,Qf,Qg,reduceCtorEq, *,-hs,-hsa,-f3,-f4,-hm,-w1]
 | with_reducible refine fun (bn:Bool) hbn=>?_))
     all_goals ((repeat clear hK); (repeat clear hA); (repeat clear hB))
     all_goals (refine hM.on (adds.length - (j+1)) (by omega) (by simp only [go_sem,↓reduceIte,reduceIte,Qa,Qh,Qb,Qc,Qd,Qe,Qf,Qg,reduceCtorEq, *,w64_nat hlt2 ha,-hs,-hsa,-f3,-f4,-hm,-w1]) ⟨j+1,withR zs adds[j],rfl,by omega,by omega,f3,hm,?_⟩; simp only [go_sem,↓reduceIte,reduceIte,Qa,Qh,Qb,Qc,Qd,Qe,Qf,Qg,reduceCtorEq, *,w64_nat hlt2 ha,-hs,-hsa,-f3,-f4,-hm,-w1]; done)
    ·rw [List.drop_eq_nil_of_le (by omega),List.foldl_nil] at f3
     subst f3
     (repeat' (first
 | (with_reducible first|refine callX.by (without05_c _ _ _ ?_) ?_|refine callX.by (with05_c _ _ ?_ ?_ ?_ ?_) ?_|assumption|(refine Qw hK _ ?_; clear hK K)|refine Qw ‹_› _ ?_|refine Qx ‹_› ?_|refine Qi fun K hK=>?_|refine Qj T fun K hK=>?_|refine Ql fun A B hA hB=>?_|refine Qm ?_|refine Qn ?_|refine Qp ?_|refine Qr ?_)
 | ((with_reducible first|apply Qy|apply Qz|apply QA)<;>intro hb<;>try simp only [nr] at hb)
 | simp only [go_sem,↓reduceIte,reduceIte,Qa,Qh,Qb,Qc,Qd,Qe,Qf,Qg,reduceCtorEq, *,-hs,-hsa,-f4]
 | with_reducible refine fun (bn:Bool) hbn=>?_))
end Go.Proofs.YtdolbhcmdkcpnaaGreatDoor.Lg
