/- Parts of the proof, one behind the other. -/
import Derived.Test.YtmjkjmoeicnbnaaGreatDoorG22
namespace Go.Proofs.YtmjkjmoeicnbnaaGreatDoor.Lg
set_option maxRecDepth 100000
set_option linter.unusedVariables false
set_option linter.unusedSimpArgs false
open Go
open Nat renaming reduceEqDiff → Qa, reduceLT → Qb, reduceLeDiff → Qc, reduceAdd → Qd, reduceMul → Qe, reduceSub → Qf, reduceBEq → Qg
open String renaming reduceEq → Qh
open SpecC renaming seqW → Qi, regW → Qj, drawW → Qk, condW → Ql, block → Qm, skip → Qn, exit → Qp, ret → Qr, loopF → Qs
open NxK renaming out → Qw
open Nx renaming out → Qx
open condK renaming split → Qy
open gK renaming split_t → Qz, split_f → QA
open List renaming getElem_mem → QC
theorem keys05_c (xs:List Res) (hl:xs.length≤65536):CallR Tryz.prog 91 [.slice false (avs xs)] (.own 2 (avs (xs.map keyOf))):=by
 have hsl:=small_le hl
 refine CallR.go1 (T:=T) Tryz.call91 Tryz.func91 rfl Tryz.ntmps91 (congrArg Array.toList Tryz.results91) (by decide) fun ts hn h0=>?_
 (repeat' (first
 | (with_reducible first|refine callX.by (rkey3_c _ _ _ _ _ _ _) ?_|assumption|(refine Qw hK _ ?_; clear hK K)|refine Qw ‹_› _ ?_|refine Qx ‹_› ?_|refine Qi fun K hK=>?_|refine Qj T fun K hK=>?_|refine Ql fun A B hA hB=>?_|refine Qm ?_|refine Qn ?_|refine Qp ?_|refine Qr ?_)
 | ((with_reducible first|apply Qy|apply Qz|apply QA)<;>intro hb<;>try simp only [nr] at hb)
 | simp only [go_sem,↓reduceIte,reduceIte,Qa,Qh,Qb,Qc,Qd,Qe,Qf,Qg,reduceCtorEq, *]
 | with_reducible refine fun (bn:Bool) hbn=>?_))
 refine SpecC.ent (Ent.virt 3 2 (by simp only [go_sem,↓reduceIte,reduceIte,Qa,Qh,Qb,Qc,Qd,Qe,Qf,Qg,reduceCtorEq, *]) (by decide)) ?_
 refine Qs [0] (fun m ts'=>∃ (i:Nat),∃ (g:Nat),∃ (ys:List Key),m=xs.length - i∧i≤xs.length∧ys.length≤i∧xs.map keyOf=ys++(xs.drop i).map keyOf∧ts'.tmp 3=.os 3 g ys.length∧ts'.gen 3=g∧ts'.obj 3=.arr 2 (avs ys)∧ts'.tmp 4=.int .i64 i) xs.length ?_ ?_
 ·refine ⟨0,ts.gen 3+1,[],rfl,Nat.zero_le _,Nat.le_refl _,rfl,?_⟩
  simp only [go_sem,↓reduceIte,reduceIte,Qa,Qh,Qb,Qc,Qd,Qe,Qf,Qg,reduceCtorEq, *,avs_nil]
 ·rintro m A hM ts' hk ⟨i,g,ys,hm,f1,f2,f3,s1,s2,s3,s4⟩
  simp only [go_sem,↓reduceIte,reduceIte,Qa,Qh,Qb,Qc,Qd,Qe,Qf,Qg,reduceCtorEq, *] at hk
  by_cases hlt:i < xs.length
  ·rw [List.drop_eq_getElem_cons hlt,List.map_cons] at f3
   have hr:Room (ys.length+1) 24:=room_small (by omega) (by decide)
   (repeat' (first
 | (with_reducible first|refine callX.by (rkey3_c _ _ _ _ _ _ _) ?_|assumption|(refine Qw hK _ ?_; clear hK K)|refine Qw ‹_› _ ?_|refine Qx ‹_› ?_|refine Qi fun K hK=>?_|refine Qj T fun K hK=>?_|refine Ql fun A B hA hB=>?_|refine Qm ?_|refine Qn ?_|refine Qp ?_|refine Qr ?_)
 | ((with_reducible first|apply Qy|apply Qz|apply QA)<;>intro hb<;>try simp only [nr] at hb)
 | simp only [go_sem,↓reduceIte,reduceIte,Qa,Qh,Qb,Qc,Qd,Qe,Qf,Qg,reduceCtorEq, *,-f3]
 | with_reducible refine fun (bn:Bool) hbn=>?_))
   all_goals ((repeat clear hK); (repeat clear hA); (repeat clear hB))
   all_goals (refine hM.onE (xs.length - (i+1)) (Ent.ren 3 18 ?_ ?_) ?_ ?_ ?_; (focus (simp only [go_sem,↓reduceIte,reduceIte,Qa,Qh,Qb,Qc,Qd,Qe,Qf,Qg,reduceCtorEq, *,w64_nat hlt hsl,List.length_append,keyOf,-f3]; first|done|rfl)); (focus (simp only [go_sem,↓reduceIte,reduceIte,Qa,Qh,Qb,Qc,Qd,Qe,Qf,Qg,reduceCtorEq, *,w64_nat hlt hsl,List.length_append,keyOf,-f3]; first|done|rfl)); omega; (focus (simp only [go_sem,↓reduceIte,reduceIte,Qa,Qh,Qb,Qc,Qd,Qe,Qf,Qg,reduceCtorEq, *,w64_nat hlt hsl,List.length_append,keyOf,-f3]; done)); refine ⟨i+1,ts'.gen 3+1,ys++[keyOf xs[i]],rfl,by omega,by simp; omega,by rw [f3,List.append_assoc]; rfl,?_⟩; simp only [go_sem,↓reduceIte,reduceIte,Qa,Qh,Qb,Qc,Qd,Qe,Qf,Qg,reduceCtorEq, *,w64_nat hlt hsl,List.length_append,keyOf,-f3]; done)
  ·rw [List.drop_eq_nil_of_le (by omega),List.map_nil,List.append_nil] at f3
   (repeat' (first
 | (with_reducible first|refine callX.by (rkey3_c _ _ _ _ _ _ _) ?_|assumption|(refine Qw hK _ ?_; clear hK K)|refine Qw ‹_› _ ?_|refine Qx ‹_› ?_|refine Qi fun K hK=>?_|refine Qj T fun K hK=>?_|refine Ql fun A B hA hB=>?_|refine Qm ?_|refine Qn ?_|refine Qp ?_|refine Qr ?_)
 | ((with_reducible first|apply Qy|apply Qz|apply QA)<;>intro hb<;>try simp only [nr] at hb)
 | simp only [go_sem,↓reduceIte,reduceIte,Qa,Qh,Qb,Qc,Qd,Qe,Qf,Qg,reduceCtorEq, *,-f3]
 | with_reducible refine fun (bn:Bool) hbn=>?_))
   all_goals rw [f3]
theorem tkind_cons' (r:Res) (l:List Res) (k:Int):tkind (r :: l) k=(if r.kind=k then [r] else [])++tkind l k:=by
 unfold tkind
 rw [List.filter_cons]
 by_cases h:r.kind=k<;>simp [h]
theorem kind05_c (xs:List Res) (k:Int) (hl:xs.length≤65536):CallR Tryz.prog 92 [.slice false (avs xs),.int .i64 k] (.own 7 (avs (tkind xs k))):=by
 have hsl:=small_le hl
 refine CallR.go2 (T:=T) Tryz.call92 Tryz.func92 rfl Tryz.ntmps92 (congrArg Array.toList Tryz.results92) (by decide) fun ts hn h0 h1=>?_
 (repeat' (first
 | (with_reducible first|assumption|(refine Qw hK _ ?_; clear hK K)|refine Qw ‹_› _ ?_|refine Qx ‹_› ?_|refine Qi fun K hK=>?_|refine Qj T fun K hK=>?_|refine Ql fun A B hA hB=>?_|refine Qm ?_|refine Qn ?_|refine Qp ?_|refine Qr ?_)
 | ((with_reducible first|apply Qy|apply Qz|apply QA)<;>intro hb<;>try simp only [nr] at hb)
 | simp only [go_sem,↓reduceIte,reduceIte,Qa,Qh,Qb,Qc,Qd,Qe,Qf,Qg,reduceCtorEq, *]
 | with_reducible refine fun (bn:Bool) hbn=>?_))
 refine SpecC.ent (Ent.virt 5 7 (by simp only [go_sem,↓reduceIte,reduceIte,Qa,Qh,Qb,Qc,Qd,Qe,Qf,Qg,reduceCtorEq, *]) (by decide)) ?_
 refine Qs [0,1] (fun m ts'=>∃ (i:Nat),∃ (g:Nat),∃ (ys:List Res),m=xs.length - i∧i≤xs.length∧ys.length≤i∧tkind xs k=ys++tkind (xs.drop i) k∧ts'.tmp 5=.os 5 g ys.length∧ts'.gen 5=g∧ts'.obj 5=.arr 7 (avs ys)∧ts'.tmp 6=.int .i64 i) xs.length ?_ ?_
 ·refine ⟨0,ts.gen 5+1,[],rfl,Nat.zero_le _,Nat.le_refl _,rfl,?_⟩
  simp only [go_sem,↓reduceIte,reduceIte,Qa,Qh,Qb,Qc,Qd,Qe,Qf,Qg,reduceCtorEq, *,avs_nil]
 ·rintro m A hM ts' hk ⟨i,g,ys,hm,f1,f2,f3,s1,s2,s3,s4⟩
  simp only [go_sem,↓reduceIte,reduceIte,Qa,Qh,Qb,Qc,Qd,Qe,Qf,Qg,reduceCtorEq, *] at hk
  by_cases hlt:i < xs.length
  ·rw [List.drop_eq_getElem_cons hlt,tkind_cons'] at f3
   have hr:Room (ys.length+1) 104:=room_small (by omega) (by decide)
   by_cases hc:xs[i].kind=k
   ·rw [if_pos hc] at f3
    subst hc
    (repeat' (first
 | (with_reducible first|assumption|(refine Qw hK _ ?_; clear hK K)|refine Qw ‹_› _ ?_|refine Qx ‹_› ?_|refine Qi fun K hK=>?_|refine Qj T fun K hK=>?_|refine Ql fun A B hA hB=>?_|refine Qm ?_|refine Qn ?_|refine Qp ?_|refine Qr ?_)
 | ((with_reducible first|apply Qy|apply Qz|apply QA)<;>intro hb<;>try simp only [nr] at hb)
 | simp only [go_sem,↓reduceIte,reduceIte,Qa,Qh,Qb,Qc,Qd,Qe,Qf,Qg,reduceCtorEq, *,-f3]
 | with_reducible refine fun (bn:Bool) hbn=>?_))
    all_goals ((repeat clear hK); (repeat clear hA); (repeat clear hB))
    all_goals (refine hM.onE (xs.length - (i+1)) (Ent.ren 5 26 ?_ ?_) ?_ ?_ ?_; (focus (simp only [go_sem,↓reduceIte,reduceIte,Qa,Qh,Qb,Qc,Qd,Qe,Qf,Qg,reduceCtorEq, *,w64_nat hlt hsl,List.length_append,-f3]; first|done|rfl)); (focus (simp only [go_sem,↓reduceIte,reduceIte,Qa,Qh,Qb,Qc,Qd,Qe,Qf,Qg,reduceCtorEq, *,w64_nat hlt hsl,List.length_append,-f3]; first|done|rfl)); omega; (focus (simp only [go_sem,↓reduceIte,reduceIte,Qa,Qh,Qb,Qc,Qd,Qe,Qf,Qg,reduceCtorEq, *,w64_nat hlt hsl,List.length_append,-f3]; done)); refine ⟨i+1,ts'.gen 5+1,ys++[xs[i]],rfl,by omega,by simp; omega,by rw [f3,List.append_assoc],?_⟩; simp only [go_sem,↓reduceIte,reduceIte,Qa,Qh,Qb,Qc,Qd,Qe,Qf,Qg,reduceCtorEq, *,w64_nat hlt hsl,List.length_append,-f3]; done)
   ·rw [if_neg hc,List.nil_append] at f3
    (repeat' (first
 | (with_reducible first|assumption|(refine Qw hK _ ?_; clear hK K)|refine Qw ‹_› _ ?_|refine Qx ‹_› ?_|refine Qi fun K hK=>?_|refine Qj T fun K hK=>?_|refine Ql fun A B hA hB=>?_|refine Qm ?_|refine Qn ?_|refine Qp ?_|refine Qr ?_)
 | ((with_reducible first|apply Qy|apply Qz|apply QA)<;>intro hb<;>try simp only [nr] at hb)
 | simp only [go_sem,↓reduceIte,reduceIte,Qa,Qh,Qb,Qc,Qd,Qe,Qf,Qg,reduceCtorEq, *,-f3]
 | with_reducible refine fun (bn:Bool) hbn=>?_))
    all_goals ((repeat clear hK); (repeat clear hA); (repeat clear hB))
    all_goals (refine hM.on (xs.length - (i+1)) (by omega) (by simp only [go_sem,↓reduceIte,reduceIte,Qa,Qh,Qb,Qc,Qd,Qe,Qf,Qg,reduceCtorEq, *,w64_nat hlt hsl,-f3]) ⟨i+1,g,ys,rfl,by omega,by omega,f3,?_⟩; simp only [go_sem,↓reduceIte,reduceIte,Qa,Qh,Qb,Qc,Qd,Qe,Qf,Qg,reduceCtorEq, *,w64_nat hlt hsl,-f3]; done)
  ·rw [List.drop_eq_nil_of_le (by omega),show tkind [] k=[] from rfl,List.append_nil] at f3
   (repeat' (first
 | (with_reducible first|assumption|(refine Qw hK _ ?_; clear hK K)|refine Qw ‹_› _ ?_|refine Qx ‹_› ?_|refine Qi fun K hK=>?_|refine Qj T fun K hK=>?_|refine Ql fun A B hA hB=>?_|refine Qm ?_|refine Qn ?_|refine Qp ?_|refine Qr ?_)
 | ((with_reducible first|apply Qy|apply Qz|apply QA)<;>intro hb<;>try simp only [nr] at hb)
 | simp only [go_sem,↓reduceIte,reduceIte,Qa,Qh,Qb,Qc,Qd,Qe,Qf,Qg,reduceCtorEq, *,-f3]
 | with_reducible refine fun (bn:Bool) hbn=>?_))
   all_goals rw [f3]
theorem referrers_cons (r:Res) (l:List Res) (k:Key):referrers (r :: l) k=(if k∈refsR r then [keyOf r] else [])++referrers l k:=by
 unfold referrers
 rw [List.filter_cons]
 by_cases h:k∈refsR r<;>simp [h]
theorem referrers06_c (xs:List Res) (k_kind:Int) (k_name:List UInt8) (hl:xs.length≤65536) (hs:∀ r∈xs,SmRes r):CallR Tryz.prog 20 [.slice false (avs xs),.agg [.int .i64 k_kind,.str k_name]] (.own 2 (avs (referrers xs (⟨k_kind,k_name⟩:Key)))):=by
 have hsl:=small_le hl
 refine CallR.go2 (T:=T) Tryz.call20 Tryz.func20 rfl Tryz.ntmps20 (congrArg Array.toList Tryz.results20) (by decide) fun ts hn h0 h1=>?_
 (repeat' (first
 | (with_reducible first|refine callX.by (refs03_c _ _ _ _ _ _ _ ?_ ?_ ?_ ?_) ?_|refine callX.by (has6_c _ _ _ ?_) ?_|refine callX.by (rkey3_c _ _ _ _ _ _ _) ?_|assumption|(refine Qw hK _ ?_; clear hK K)|refine Qw ‹_› _ ?_|refine Qx ‹_› ?_|refine Qi fun K hK=>?_|refine Qj T fun K hK=>?_|refine Qk (id:=5) T mixed Wd16 (by kernel_rfl) fun K hK=>?_|refine Ql fun A B hA hB=>?_|refine Qm ?_|refine Qn ?_|refine Qp ?_|refine Qr ?_)
 | ((with_reducible first|apply Qy|apply Qz|apply QA)<;>intro hb<;>try simp only [nr] at hb)
 | simp only [go_sem,↓reduceIte,reduceIte,Qa,Qh,Qb,Qc,Qd,Qe,Qf,Qg,reduceCtorEq, *,-hs]
 | with_reducible refine fun (bn:Bool) hbn=>?_))
 refine SpecC.ent (Ent.virt 5 2 (by simp only [go_sem,↓reduceIte,reduceIte,Qa,Qh,Qb,Qc,Qd,Qe,Qf,Qg,reduceCtorEq, *,-hs]) (by decide)) ?_
 refine Qs [0,3] (fun m ts'=>∃ (i:Nat),∃ (g:Nat),∃ (ys:List Key),m=xs.length - i∧i≤xs.length∧ys.length≤i∧referrers xs (⟨k_kind,k_name⟩:Key)=ys++referrers (xs.drop i) (⟨k_kind,k_name⟩:Key)∧ts'.tmp 5=.os 5 g ys.length∧ts'.gen 5=g∧ts'.obj 5=.arr 2 (avs ys)∧ts'.tmp 6=.int .i64 i) xs.length ?_ ?_
 ·refine ⟨0,ts.gen 5+1,[],rfl,Nat.zero_le _,Nat.le_refl _,rfl,?_⟩
  simp only [go_sem,↓reduceIte,reduceIte,Qa,Qh,Qb,Qc,Qd,Qe,Qf,Qg,reduceCtorEq, *,-hs,avs_nil]
 ·rintro m A hM ts' hk ⟨i,g,ys,hm,f1,f2,f3,s1,s2,s3,s4⟩
  simp only [go_sem,↓reduceIte,reduceIte,Qa,Qh,Qb,Qc,Qd,Qe,Qf,Qg,reduceCtorEq, *] at hk
  by_cases hlt:i < xs.length
  ·rw [List.drop_eq_getElem_cons hlt,referrers_cons] at f3
   have hx:=hs _ (QC hlt)
   have w1:=refs03_c xs[i].kind xs[i].name xs[i].ver xs[i].port xs[i].to' xs[i].rules' xs[i].hosts hx.2.2.1 hx.2.2.2.2 hx.2.2.2.1 hx.2.1
   have w1:CallR Tryz.prog 75 [.agg [.int .i64 xs[i].kind,.str xs[i].name,.int .i64 xs[i].ver,.int .i64 xs[i].port,.str xs[i].to',.slice false (avs xs[i].rules'),.slice false (avs xs[i].hosts)]] (.val (.slice false (avs (refsR xs[i])))):=w1
   have hrl:=refs_len xs[i]
   have w2:=has6_c (refsR xs[i]) k_kind k_name (by unfold Small; omega)
   have hr:Room (ys.length+1) 24:=room_small (by omega) (by decide)
   clear hx
   by_cases hc:(⟨k_kind,k_name⟩:Key)∈refsR xs[i]
   ·rw [if_pos hc] at f3
    rw [decide_eq_true hc] at w2
    (repeat' (first
 | (with_reducible first|refine callX.by (w1) ?_|refine callX.by (w2) ?_|refine callX.by (refs03_c _ _ _ _ _ _ _ ?_ ?_ ?_ ?_) ?_|refine callX.by (has6_c _ _ _ ?_) ?_|refine callX.by (rkey3_c _ _ _ _ _ _ _) ?_|assumption|(refine Qw hK _ ?_; clear hK K)|refine Qw ‹_› _ ?_|refine Qx ‹_› ?_|refine Qi fun K hK=>?_|refine Qj T fun K hK=>?_|refine Qk (id:=5) T mixed Wd16 (by kernel_rfl) fun K hK=>?_|refine Ql fun A B hA hB=>?_|refine Qm ?_|refine Qn ?_|refine Qp ?_|refine Qr ?_)
 | ((with_reducible first|apply Qy|apply Qz|apply QA)<;>intro hb<;>try simp only [nr] at hb)
 | simp only [go_sem,↓reduceIte,reduceIte,Qa,Qh,Qb,Qc,Qd,Qe,Qf,Qg,reduceCtorEq, *,-hs,-w1,-w2,-f3,-hc]
 | with_reducible refine fun (bn:Bool) hbn=>?_))
    all_goals ((repeat clear hK); (repeat clear hA); (repeat clear hB))
    all_goals (refine hM.onE (xs.length - (i+1)) (Ent.ren 5 27 ?_ ?_) ?_ ?_ ?_; (focus (simp only [go_sem,↓reduceIte,reduceIte,Qa,Qh,Qb,Qc,Qd,Qe,Qf,Qg,reduceCtorEq, *,w64_nat hlt hsl,List.length_append,keyOf,-hs,-w1,-w2,-f3,-hc]; first|done|rfl)); (focus (simp only [go_sem,↓reduceIte,reduceIte,Qa,Qh,Qb,Qc,Qd,Qe,Qf,Qg,reduceCtorEq, *,w64_nat hlt hsl,List.length_append,keyOf,-hs,-w1,-w2,-f3,-hc]; first|done|rfl)); omega; (focus (simp only [go_sem,↓reduceIte,reduceIte,Qa,Qh,Qb,Qc,Qd,Qe,Qf,Qg,reduceCtorEq, *,w64_nat hlt hsl,List.length_append,keyOf,-hs,-w1,-w2,-f3,-hc]; done)); refine ⟨i+1,ts'.gen 5+1,ys++[keyOf xs[i]],rfl,by omega,by simp; omega,by rw [f3,List.append_assoc],?_⟩; simp only [go_sem,↓reduceIte,reduceIte,Qa,Qh,Qb,Qc,Qd,Qe,Qf,Qg,reduceCtorEq, *,w64_nat hlt hsl,List.length_append,keyOf,-hs,-w1,-w2,-f3,-hc]; done)
   ·rw [if_neg hc,List.nil_append] at f3
    rw [decide_eq_false hc] at w2
    (repeat' (first
 | (with_reducible first|refine callX.by (w1) ?_|refine callX.by (w2) ?_|refine callX.by (refs03_c _ _ _ _ _ _ _ ?_ ?_ ?_ ?_) ?_|refine callX.by (has6_c _ _ _ ?_) ?_|refine callX.by (rkey3_c _ _ _ _ _ _ _) ?_|assumption|(refine Qw hK _ ?_; clear hK K)|refine Qw ‹_› _ ?_|refine Qx ‹_› ?_|refine Qi fun K hK=>?_|refine Qj T fun K hK=>?_|refine Qk (id:=5) T mixed Wd16 (by kernel_rfl) fun K hK=>?_|refine Ql fun A B hA hB=>?_|refine Qm ?_|refine Qn ?_|refine Qp ?_|refine Qr ?_)
 | ((with_reducible first|apply Qy|apply Qz|apply QA)<;>intro hb<;>try simp only [nr] at hb)
 | simp only [go_sem,↓reduceIte,reduceIte,Qa,Qh,Qb,Qc,Qd,Qe,Qf,Qg,reduceCtorEq, *,-hs,-w1,-w2,-f3,-hc]
 | with_reducible refine fun (bn:Bool) hbn=>?_))
    all_goals ((repeat clear hK); (repeat clear hA); (repeat clear hB))
    all_goals (refine hM.on (xs.length - (i+1)) (by omega) (by simp only [go_sem,↓reduceIte,reduceIte,Qa,Qh,Qb,Qc,Qd,Qe,Qf,Qg,reduceCtorEq, *,w64_nat hlt hsl,-hs,-w1,-w2,-f3,-hc]) ⟨i+1,g,ys,rfl,by omega,by omega,f3,?_⟩; simp only [go_sem,↓reduceIte,reduceIte,Qa,Qh,Qb,Qc,Qd,Qe,Qf,Qg,reduceCtorEq, *,w64_nat hlt hsl,-hs,-w1,-w2,-f3,-hc]; done)
  ·rw [List.drop_eq_nil_of_le (by omega),show referrers [] (⟨k_kind,k_name⟩:Key)=[] from rfl,List.append_nil] at f3
   (repeat' (first
 | (with_reducible first|refine callX.by (refs03_c _ _ _ _ _ _ _ ?_ ?_ ?_ ?_) ?_|refine callX.by (has6_c _ _ _ ?_) ?_|refine callX.by (rkey3_c _ _ _ _ _ _ _) ?_|assumption|(refine Qw hK _ ?_; clear hK K)|refine Qw ‹_› _ ?_|refine Qx ‹_› ?_|refine Qi fun K hK=>?_|refine Qj T fun K hK=>?_|refine Qk (id:=5) T mixed Wd16 (by kernel_rfl) fun K hK=>?_|refine Ql fun A B hA hB=>?_|refine Qm ?_|refine Qn ?_|refine Qp ?_|refine Qr ?_)
 | ((with_reducible first|apply Qy|apply Qz|apply QA)<;>intro hb<;>try simp only [nr] at hb)
 | simp only [go_sem,↓reduceIte,reduceIte,Qa,Qh,Qb,Qc,Qd,Qe,Qf,Qg,reduceCtorEq, *,-hs,-f3]
 | with_reducible refine fun (bn:Bool) hbn=>?_))
   all_goals rw [f3]
theorem ord_step (xs:List Res) {n:Nat} (h:n < 4):ordA xs (n+1)=ordA xs n++(tkind xs (ordB n)).map keyOf∧0≤ordB n∧IntKind.i64.wrap (ordB n - 1)=ordB (n+1) :=
 match n,h with
 | 0,_=>⟨rfl,by decide,by decide⟩
 | 1,_=>⟨rfl,by decide,by decide⟩
 | 2,_=>⟨rfl,by decide,by decide⟩
 | 3,_=>⟨rfl,by decide,by decide⟩
theorem order06_c (xs:List Res) (hl:xs.length≤65536):CallR Tryz.prog 27 [.slice false (avs xs)] (.own 2 (avs (orderK xs))):=by
 have hsl:=small_le hl
 have g0:ordB 0=3:=rfl
 have z0:ordA xs 0=[]:=rfl
 rw [← ordA4]
 refine CallR.go1 (T:=T) Tryz.call27 Tryz.func27 rfl Tryz.ntmps27 (congrArg Array.toList Tryz.results27) (by decide) fun ts hn h0=>?_
 (repeat' (first
 | (with_reducible first|refine callX.by (kind05_c _ _ ?_) ?_|refine callX.by (keys05_c _ ?_) ?_|assumption|(refine Qw hK _ ?_; clear hK K)|refine Qw ‹_› _ ?_|refine Qx ‹_› ?_|refine Qi fun K hK=>?_|refine Qj T fun K hK=>?_|refine Ql fun A B hA hB=>?_|refine Qm ?_|refine Qn ?_|refine Qp ?_|refine Qr ?_)
 | ((with_reducible first|apply Qy|apply Qz|apply QA)<;>intro hb<;>try simp only [nr] at hb)
 | simp only [go_sem,↓reduceIte,reduceIte,Qa,Qh,Qb,Qc,Qd,Qe,Qf,Qg,reduceCtorEq, *]
 | with_reducible refine fun (bn:Bool) hbn=>?_))
 refine SpecC.ent (Ent.virt 3 2 (by simp only [go_sem,↓reduceIte,reduceIte,Qa,Qh,Qb,Qc,Qd,Qe,Qf,Qg,reduceCtorEq, *]) (by decide)) ?_
 refine Qs [0] (fun m ts'=>∃ (n:Nat),∃ (g:Nat),m=4 - n∧n≤4∧(ordA xs n).length≤n * xs.length∧ts'.tmp 3=.os 3 g (ordA xs n).length∧ts'.gen 3=g∧ts'.obj 3=.arr 2 (avs (ordA xs n))∧ts'.tmp 4=.int .i64 (ordB n)) 4 ?_ ?_
 ·refine ⟨0,ts.gen 3+1,rfl,Nat.zero_le _,by rw [z0]; simp,?_⟩
  simp only [go_sem,↓reduceIte,reduceIte,Qa,Qh,Qb,Qc,Qd,Qe,Qf,Qg,reduceCtorEq, *,avs_nil]
 ·rintro m A hM ts' hk ⟨n,g,hm,f1,f2,s1,s2,s3,s4⟩
  simp only [go_sem,↓reduceIte,reduceIte,Qa,Qh,Qb,Qc,Qd,Qe,Qf,Qg,reduceCtorEq, *] at hk
  by_cases hlt:n < 4
  ·obtain ⟨q1,q2,q3⟩:=ord_step xs hlt
   have hkl:=tkind_len xs (ordB n)
   have w1:=(kind05_c xs (ordB n) hl).frz
   have w2:=(keys05_c (tkind xs (ordB n)) (by omega)).frz
   have hml:((tkind xs (ordB n)).map keyOf).length=(tkind xs (ordB n)).length:=List.length_map _
   have hn1:(ordA xs (n+1)).length=(ordA xs n).length+(tkind xs (ordB n)).length:=by rw [q1,List.length_append,hml]
   have hn2:(n+1) * xs.length=n * xs.length+xs.length:=by rw [Nat.add_mul,Nat.one_mul]
   have hn3:n * xs.length≤3 * xs.length:=Nat.mul_le_mul_right _ (by omega)
   have hr:Room ((ordA xs n).length+(tkind xs (ordB n)).length) 24:=room_big (by omega) (by decide)
   have hap:avs (ordA xs n++(tkind xs (ordB n)).map keyOf)=avs (ordA xs (n+1)):=by rw [q1]
   clear q1
   generalize tkind xs (ordB n)=Tk at *
   generalize ordB n=bn0 at *
   (repeat' (first
 | (with_reducible first|refine callX.by (w1) ?_|refine callX.by (w2) ?_|refine callX.by (kind05_c _ _ ?_) ?_|refine callX.by (keys05_c _ ?_) ?_|assumption|(refine Qw hK _ ?_; clear hK K)|refine Qw ‹_› _ ?_|refine Qx ‹_› ?_|refine Qi fun K hK=>?_|refine Qj T fun K hK=>?_|refine Ql fun A B hA hB=>?_|refine Qm ?_|refine Qn ?_|refine Qp ?_|refine Qr ?_)
 | ((with_reducible first|apply Qy|apply Qz|apply QA)<;>intro hb<;>try simp only [nr] at hb)
 | simp only [go_sem,↓reduceIte,reduceIte,Qa,Qh,Qb,Qc,Qd,Qe,Qf,Qg,reduceCtorEq, *,-w1,-w2,-hn1,-hn2]
 | with_reducible refine fun (bn:Bool) hbn=>?_))
   all_goals ((repeat clear hK); (repeat clear hA); (repeat clear hB))
   all_goals (refine hM.onE (4 - (n+1)) (Ent.ren 3 14 ?_ ?_) ?_ ?_ ?_; (focus (simp only [go_sem,↓reduceIte,reduceIte,Qa,Qh,Qb,Qc,Qd,Qe,Qf,Qg,reduceCtorEq, *,-w1,-w2,-hn2,List.length_append]; first|done|rfl)); (focus (simp only [go_sem,↓reduceIte,reduceIte,Qa,Qh,Qb,Qc,Qd,Qe,Qf,Qg,reduceCtorEq, *,-w1,-w2,-hn2,List.length_append]; first|done|rfl)); omega; (focus (simp only [go_sem,↓reduceIte,reduceIte,Qa,Qh,Qb,Qc,Qd,Qe,Qf,Qg,reduceCtorEq, *,-w1,-w2,-hn2,List.length_append]; done)); refine ⟨n+1,ts'.gen 3+1,rfl,by omega,by omega,?_⟩; simp only [go_sem,↓reduceIte,reduceIte,Qa,Qh,Qb,Qc,Qd,Qe,Qf,Qg,reduceCtorEq, *,-w1,-w2,-hn2,List.length_append]; done)
  ·have e4:n=4:=by omega
   subst e4
   have hb4:¬ (0:Int)≤ordB 4:=by decide
   (repeat' (first
 | (with_reducible first|refine callX.by (kind05_c _ _ ?_) ?_|refine callX.by (keys05_c _ ?_) ?_|assumption|(refine Qw hK _ ?_; clear hK K)|refine Qw ‹_› _ ?_|refine Qx ‹_› ?_|refine Qi fun K hK=>?_|refine Qj T fun K hK=>?_|refine Ql fun A B hA hB=>?_|refine Qm ?_|refine Qn ?_|refine Qp ?_|refine Qr ?_)
 | ((with_reducible first|apply Qy|apply Qz|apply QA)<;>intro hb<;>try simp only [nr] at hb)
 | simp only [go_sem,↓reduceIte,reduceIte,Qa,Qh,Qb,Qc,Qd,Qe,Qf,Qg,reduceCtorEq, *]
 | with_reducible refine fun (bn:Bool) hbn=>?_))
   all_goals trace_state
theorem refs_sm {r:Res} (h:SmRes r) {x:Key} (hx:x∈refsR r):Small x.name.length:=by
 by_cases hs:saneR r=0
 ·rcases List.mem_append.1 (((refs_up hs).2 x).1 hx) with h1|h1
  ·unfold baseR at h1
   split at h1
   ·simp at h1
   ·rw [List.mem_singleton] at h1; subst h1; exact h.2.1
  ·obtain ⟨z,hz,y,hy,_,rfl⟩:=mem_keysR.1 h1
   exact (h.2.2.2.1 z hz).2.2.2 y hy
 ·unfold refsR at hx
  rw [if_neg hs] at hx
  simp at hx
def miss06 (M:KS) (l:List Res) (ys:List Key):List Key:=(missR M l).foldl kput ys
theorem miss06_eq (l:List Res):miss06 (ofR l []) l []=missK l:=by
 obtain ⟨h1,h2⟩:=fold_put (missR (ofR l []) l) (ys:=[]) (by simp [Up])
 obtain ⟨k1,k2⟩:=kcompact_up (ksort_le (missR (ofR l []) l))
 refine up_ext h1 k1 fun x=>?_
 show x∈(missR (ofR l []) l).foldl kput []↔x∈kcompact (ksort (missR (ofR l []) l))
 rw [h2,k2]
 simp [ksort_mem]
theorem in_tget (l:List Res) (k:Key):(mget (ofR l []) k).getD false=(tget l k).isSome:=by
 have:=isIn_of l k
 unfold isIn at this
 rw [this,Bool.eq_iff_iff,decide_eq_true_eq,tget_key6]
set_option maxHeartbeats 8000000 in
theorem missing06_c (xs:List Res) (hl:xs.length≤65536) (hs:∀ r∈xs,SmRes r):CallR Tryz.prog 18 [.slice false (avs xs)] (.own 2 (avs (missK xs))):=by
 have hsl:=small_le hl
 rw [← miss06_eq]
 have hT:=in_tget xs
 generalize ofR xs []=M0 at *
 refine CallR.go1 (T:=T) Tryz.call18 Tryz.func18 rfl Tryz.ntmps18 (congrArg Array.toList Tryz.results18) (by decide) fun ts hn h0=>?_
 (repeat' (first
 | (with_reducible first|refine callX.by (refs03_c _ _ _ _ _ _ _ ?_ ?_ ?_ ?_) ?_|refine callX.by (there_c _ _ _ ?_) ?_|refine callX.by (kput_c _ _ _ ?_ ?_ ?_) ?_|assumption|(refine Qw hK _ ?_; clear hK K)|refine Qw ‹_› _ ?_|refine Qx ‹_› ?_|refine Qi fun K hK=>?_|refine Qj T fun K hK=>?_|refine Ql fun A B hA hB=>?_|refine Qm ?_|refine Qn ?_|refine Qp ?_|refine Qr ?_)
 | ((with_reducible first|apply Qy|apply Qz|apply QA)<;>intro hb<;>try simp only [nr] at hb)
 | simp only [go_sem,↓reduceIte,reduceIte,Qa,Qh,Qb,Qc,Qd,Qe,Qf,Qg,reduceCtorEq, *,-hs,-hT]
 | with_reducible refine fun (bn:Bool) hbn=>?_))
 refine SpecC.ent (Ent.virt 3 2 (by simp only [go_sem,↓reduceIte,reduceIte,Qa,Qh,Qb,Qc,Qd,Qe,Qf,Qg,reduceCtorEq, *,-hs,-hT]) (by decide)) ?_
 refine Qs [0] (fun m ts'=>∃ (i:Nat),∃ (g:Nat),∃ (ys:List Key),m=xs.length - i∧i≤xs.length∧ys.length≤33 * i∧miss06 M0 xs []=miss06 M0 (xs.drop i) ys∧(∀ x∈ys,Small x.name.length)∧ts'.tmp 3=.os 3 g ys.length∧ts'.gen 3=g∧ts'.obj 3=.arr 2 (avs ys)∧ts'.tmp 4=.int .i64 i) xs.length ?_ ?_
 ·refine ⟨0,ts.gen 3+1,[],rfl,Nat.zero_le _,Nat.le_refl _,rfl,by simp,?_⟩
  simp only [go_sem,↓reduceIte,reduceIte,Qa,Qh,Qb,Qc,Qd,Qe,Qf,Qg,reduceCtorEq, *,-hs,-hT,avs_nil]
 ·rintro m A hM ts' hk ⟨i,g,ys,hm,f1,f2,f3,f4,s1,s2,s3,s4⟩
  simp only [go_sem,↓reduceIte,reduceIte,Qa,Qh,Qb,Qc,Qd,Qe,Qf,Qg,reduceCtorEq, *] at hk
  have hMo:=hM
  have hmo:=hm
  by_cases hlt:i < xs.length
  ·have hx:=hs _ (QC hlt)
   have w1:=refs03_c xs[i].kind xs[i].name xs[i].ver xs[i].port xs[i].to' xs[i].rules' xs[i].hosts hx.2.2.1 hx.2.2.2.2 hx.2.2.2.1 hx.2.1
   have w1:CallR Tryz.prog 75 [.agg [.int .i64 xs[i].kind,.str xs[i].name,.int .i64 xs[i].ver,.int .i64 xs[i].port,.str xs[i].to',.slice false (avs xs[i].rules'),.slice false (avs xs[i].hosts)]] (.val (.slice false (avs (refsR xs[i])))):=w1
   have hrl:=refs_len xs[i]
   have hrn:∀ x∈refsR xs[i],Small x.name.length:=fun x h=>refs_sm hx h
   have f5:miss06 M0 xs []=miss06 M0 (xs.drop (i+1)) ((keepK M0 (refsR xs[i])).foldl kput ys):=by
    rw [f3,List.drop_eq_getElem_cons hlt]
    unfold miss06
    rw [missR_cons,List.foldl_append]
   clear hx hM hm f3
   generalize refsR xs[i]=Rf at *
   have hRs:Small Rf.length:=by unfold Small; omega
   (repeat' (first
 | (with_reducible first|refine callX.by (w1) ?_|refine callX.by (refs03_c _ _ _ _ _ _ _ ?_ ?_ ?_ ?_) ?_|refine callX.by (there_c _ _ _ ?_) ?_|refine callX.by (kput_c _ _ _ ?_ ?_ ?_) ?_|assumption|(refine Qw hK _ ?_; clear hK K)|refine Qw ‹_› _ ?_|refine Qx ‹_› ?_|refine Qi fun K hK=>?_|refine Qj T fun K hK=>?_|refine Ql fun A B hA hB=>?_|refine Qm ?_|refine Qn ?_|refine Qp ?_|refine Qr ?_)
 | ((with_reducible first|apply Qy|apply Qz|apply QA)<;>intro hb<;>try simp only [nr] at hb)
 | simp only [go_sem,↓reduceIte,reduceIte,Qa,Qh,Qb,Qc,Qd,Qe,Qf,Qg,reduceCtorEq, *,-hs,-hT,-w1,-hMo,-f5,-f4,-hrn]
 | with_reducible refine fun (bn:Bool) hbn=>?_))
   refine Qs [0,4,5] (fun m ts'=>∃ (j:Nat),∃ (g2:Nat),∃ (zs:List Key),m=Rf.length - j∧j≤Rf.length∧zs.length≤33 * i+j∧miss06 M0 xs []=miss06 M0 (xs.drop (i+1)) ((keepK M0 (Rf.drop j)).foldl kput zs)∧(∀ x∈zs,Small x.name.length)∧ts'.tmp 3=.os 3 g2 zs.length∧ts'.gen 3=g2∧ts'.obj 3=.arr 2 (avs zs)∧ts'.tmp 6=.int .i64 j) Rf.length ?_ ?_
   ·refine ⟨0,g,ys,rfl,Nat.zero_le _,by omega,f5,f4,?_⟩
    simp only [go_sem,↓reduceIte,reduceIte,Qa,Qh,Qb,Qc,Qd,Qe,Qf,Qg,reduceCtorEq, *,-hs,-hT,-w1,-hMo,-f5,-f4,-hrn]
   ·clear f2 f5 f4
    rintro m A hM ts' hk ⟨j,g2,zs,hm,f1,f2,f3,f4,s1,s2,s3,s4⟩
    simp only [go_sem,↓reduceIte,reduceIte,Qa,Qh,Qb,Qc,Qd,Qe,Qf,Qg,reduceCtorEq, *] at hk
    by_cases hjl:j < Rf.length
    ·rw [List.drop_eq_getElem_cons hjl,keepK_cons,hT] at f3
     have w3:=there_c xs Rf[j].kind Rf[j].name hsl
     have w3:CallR Tryz.prog 76 [.slice false (avs xs),.agg [.int .i64 Rf[j].kind,.str Rf[j].name]] (.val (.bool (tget xs Rf[j]).isSome)):=w3
     have hn:=hrn _ (QC hjl)
     have w4:=kput_c zs Rf[j].kind Rf[j].name (by unfold Small; omega) hn f4
     have hkl:=kput_length zs Rf[j]
     cases hb0:(tget xs Rf[j]).isSome
     ·rw [hb0] at w3 f3
      rw [if_neg (by simp)] at f3
      have f5:miss06 M0 xs []=miss06 M0 (xs.drop (i+1)) ((keepK M0 (Rf.drop (j+1))).foldl kput (kput zs Rf[j])):=f3
      clear f3
      (repeat' (first
 | (with_reducible first|refine callX.by (w3) ?_|refine callX.by (w4) ?_|refine callX.by (refs03_c _ _ _ _ _ _ _ ?_ ?_ ?_ ?_) ?_|refine callX.by (there_c _ _ _ ?_) ?_|refine callX.by (kput_c _ _ _ ?_ ?_ ?_) ?_|assumption|(refine Qw hK _ ?_; clear hK K)|refine Qw ‹_› _ ?_|refine Qx ‹_› ?_|refine Qi fun K hK=>?_|refine Qj T fun K hK=>?_|refine Ql fun A B hA hB=>?_|refine Qm ?_|refine Qn ?_|refine Qp ?_|refine Qr ?_)
 | ((with_reducible first|apply Qy|apply Qz|apply QA)<;>intro hb<;>try simp only [nr] at hb)
 | simp only [go_sem,↓reduceIte,reduceIte,Qa,Qh,Qb,Qc,Qd,Qe,Qf,Qg,reduceCtorEq, *,-hs,-hT,-w1,-w3,-w4,-hMo,-f5,-f4,-hrn,-hkl]
 | with_reducible refine fun (bn:Bool) hbn=>?_))
      all_goals ((repeat clear hK); (repeat clear hA); (repeat clear hB))
      all_goals (refine hM.onE (Rf.length - (j+1)) (Ent.ren 3 36 ?_ ?_) ?_ ?_ ?_; (focus (simp only [go_sem,↓reduceIte,reduceIte,Qa,Qh,Qb,Qc,Qd,Qe,Qf,Qg,reduceCtorEq, *,w64_nat hjl hRs,-hs,-hT,-w1,-w3,-w4,-hMo,-f5,-f4,-hrn,-hkl]; first|done|rfl)); (focus (simp only [go_sem,↓reduceIte,reduceIte,Qa,Qh,Qb,Qc,Qd,Qe,Qf,Qg,reduceCtorEq, *,w64_nat hjl hRs,-hs,-hT,-w1,-w3,-w4,-hMo,-f5,-f4,-hrn,-hkl]; first|done|rfl)); omega; (focus (simp only [go_sem,↓reduceIte,reduceIte,Qa,Qh,Qb,Qc,Qd,Qe,Qf,Qg,reduceCtorEq, *,w64_nat hjl hRs,-hs,-hT,-w1,-w3,-w4,-hMo,-f5,-f4,-hrn,-hkl]; done)); refine ⟨j+1,ts'.gen 3+1,kput zs Rf[j],rfl,by omega,by omega,f5,fun x hx=>(kput_mem hx).elim (fun e=>by rw [e]; exact hn) (f4 x),?_⟩; simp only [go_sem,↓reduceIte,reduceIte,Qa,Qh,Qb,Qc,Qd,Qe,Qf,Qg,reduceCtorEq, *,w64_nat hjl hRs,-hs,-hT,-w1,-w3,-w4,-hMo,-f5,-f4,-hrn,-hkl]; done)
     ·rw [hb0] at w3 f3
      rw [if_pos rfl,List.nil_append] at f3
      (repeat' (first
 | (with_reducible first|refine callX.by (w3) ?_|refine callX.by (refs03_c _ _ _ _ _ _ _ ?_ ?_ ?_ ?_) ?_|refine callX.by (there_c _ _ _ ?_) ?_|refine callX.by (kput_c _ _ _ ?_ ?_ ?_) ?_|assumption|(refine Qw hK _ ?_; clear hK K)|refine Qw ‹_› _ ?_|refine Qx ‹_› ?_|refine Qi fun K hK=>?_|refine Qj T fun K hK=>?_|refine Ql fun A B hA hB=>?_|refine Qm ?_|refine Qn ?_|refine Qp ?_|refine Qr ?_)
 | ((with_reducible first|apply Qy|apply Qz|apply QA)<;>intro hb<;>try simp only [nr] at hb)
 | simp only [go_sem,↓reduceIte,reduceIte,Qa,Qh,Qb,Qc,Qd,Qe,Qf,Qg,reduceCtorEq, *,-hs,-hT,-w1,-w3,-w4,-hMo,-f3,-f4,-hrn,-hkl]
 | with_reducible refine fun (bn:Bool) hbn=>?_))
      all_goals ((repeat clear hK); (repeat clear hA); (repeat clear hB))
      all_goals (refine hM.on (Rf.length - (j+1)) (by omega) (by simp only [go_sem,↓reduceIte,reduceIte,Qa,Qh,Qb,Qc,Qd,Qe,Qf,Qg,reduceCtorEq, *,w64_nat hjl hRs,-hs,-hT,-w1,-w3,-w4,-hMo,-f3,-f4,-hrn,-hkl]) ⟨j+1,g2,zs,rfl,by omega,by omega,f3,f4,?_⟩; simp only [go_sem,↓reduceIte,reduceIte,Qa,Qh,Qb,Qc,Qd,Qe,Qf,Qg,reduceCtorEq, *,w64_nat hjl hRs,-hs,-hT,-w1,-w3,-w4,-hMo,-f3,-f4,-hrn,-hkl]; done)
    ·rw [List.drop_eq_nil_of_le (show Rf.length≤j by omega)] at f3
     have f5:miss06 M0 xs []=miss06 M0 (xs.drop (i+1)) zs:=f3
     clear f3
     (repeat' (first
 | (with_reducible first|refine callX.by (refs03_c _ _ _ _ _ _ _ ?_ ?_ ?_ ?_) ?_|refine callX.by (there_c _ _ _ ?_) ?_|refine callX.by (kput_c _ _ _ ?_ ?_ ?_) ?_|assumption|(refine Qw hK _ ?_; clear hK K)|refine Qw ‹_› _ ?_|refine Qx ‹_› ?_|refine Qi fun K hK=>?_|refine Qj T fun K hK=>?_|refine Ql fun A B hA hB=>?_|refine Qm ?_|refine Qn ?_|refine Qp ?_|refine Qr ?_)
 | ((with_reducible first|apply Qy|apply Qz|apply QA)<;>intro hb<;>try simp only [nr] at hb)
 | simp only [go_sem,↓reduceIte,reduceIte,Qa,Qh,Qb,Qc,Qd,Qe,Qf,Qg,reduceCtorEq, *,-hs,-hT,-w1,-hMo,-f5,-f4,-hrn]
 | with_reducible refine fun (bn:Bool) hbn=>?_))
     all_goals ((repeat clear hK); (repeat clear hA); (repeat clear hB))
     all_goals (clear hM; have hM:=hMo; (refine hM.on (xs.length - (i+1)) (by omega) (by simp only [go_sem,↓reduceIte,reduceIte,Qa,Qh,Qb,Qc,Qd,Qe,Qf,Qg,reduceCtorEq, *,w64_nat hlt hsl,-hs,-hT,-w1,-hMo,-f5,-f4,-hrn]) ⟨i+1,g2,zs,rfl,by omega,by omega,f5,f4,?_⟩; simp only [go_sem,↓reduceIte,reduceIte,Qa,Qh,Qb,Qc,Qd,Qe,Qf,Qg,reduceCtorEq, *,w64_nat hlt hsl,-hs,-hT,-w1,-hMo,-f5,-f4,-hrn]; done))
  ·rw [List.drop_eq_nil_of_le (by omega)] at f3
   have f5:miss06 M0 xs []=ys:=f3
   clear f3
   (repeat' (first
 | (with_reducible first|refine callX.by (refs03_c _ _ _ _ _ _ _ ?_ ?_ ?_ ?_) ?_|refine callX.by (there_c _ _ _ ?_) ?_|refine callX.by (kput_c _ _ _ ?_ ?_ ?_) ?_|assumption|(refine Qw hK _ ?_; clear hK K)|refine Qw ‹_› _ ?_|refine Qx ‹_› ?_|refine Qi fun K hK=>?_|refine Qj T fun K hK=>?_|refine Ql fun A B hA hB=>?_|refine Qm ?_|refine Qn ?_|refine Qp ?_|refine Qr ?_)
 | ((with_reducible first|apply Qy|apply Qz|apply QA)<;>intro hb<;>try simp only [nr] at hb)
 | simp only [go_sem,↓reduceIte,reduceIte,Qa,Qh,Qb,Qc,Qd,Qe,Qf,Qg,reduceCtorEq, *,-hs,-hT,-f5,-f4]
 | with_reducible refine fun (bn:Bool) hbn=>?_))
   all_goals rw [f5]
end Go.Proofs.YtmjkjmoeicnbnaaGreatDoor.Lg
namespace Go.Proofs.YtmjkjmoeicnbnaaGreatDoor.Lg
set_option maxRecDepth 100000
set_option linter.unusedVariables false
set_option linter.unusedSimpArgs false
open Go
section
variable {l:List Res} (hc:Conf l) (hv:served l=0)
include hc
include hv
end
end Go.Proofs.YtmjkjmoeicnbnaaGreatDoor.Lg
namespace Go.Proofs.YtmjkjmoeicnbnaaGreatDoor.Lg
set_option maxRecDepth 100000
set_option linter.unusedVariables false
set_option linter.unusedSimpArgs false
open Go
open Nat renaming reduceEqDiff → Qa, reduceLT → Qb, reduceLeDiff → Qc, reduceAdd → Qd, reduceMul → Qe, reduceSub → Qf, reduceBEq → Qg
open String renaming reduceEq → Qh
open SpecC renaming seqW → Qi, regW → Qj, condW → Ql, block → Qm, skip → Qn, exit → Qp, ret → Qr
open NxK renaming out → Qw
open condK renaming split → Qy
open gK renaming split_t → Qz, split_f → QA
structure CInv (n:Int) (c:Cache):Prop where
 sane:saneC c=true
 cap:c.cap=bnd n
 sm:∀ r∈c.l,SmRes r
def orphL (l:List Res):List Res:=l.filter fun r=>!decide (keyOf r∈reached06 l)
def orph06 (l:List Res):List Key:=(orphL l).map keyOf
theorem orph06_c (xs:List Res) (hl:xs.length≤65536) (hs:∀ r∈xs,SmRes r):CallR Tryz.prog 29 [.slice false (avs xs)] (.val (.slice false (avs (orph06 xs)))):=by
 have hsl:=small_le hl
 have w0:=(reached06_c xs hl hs).frz
 have hrl:=reached06_len xs
 have key:CallR Tryz.prog 29 [.slice false (avs xs)] (.own 2 (avs (orph06 xs))):=by
  unfold orph06 orphL
  generalize reached06 xs=K6 at *
  have hK6:Small K6.length:=by unfold Small; omega
  refine CallR.go1 (T:=T) Tryz.call29 Tryz.func29 rfl Tryz.ntmps29 (congrArg Array.toList Tryz.results29) (by decide) fun ts hn h0=>?_
  (repeat' (first
 | (with_reducible first|refine callX.by (w0) ?_|refine callX.by (reached06_c _ ?_ ?_) ?_|refine callX.by (rkey3_c _ _ _ _ _ _ _) ?_|refine callX.by (has6_c _ _ _ ?_) ?_|assumption|(refine Qw hK _ ?_; clear hK K)|refine Qw ‹_› _ ?_|refine Nx.out ‹_› ?_|refine Qi fun K hK=>?_|refine Qj T fun K hK=>?_|refine Ql fun A B hA hB=>?_|refine Qm ?_|refine Qn ?_|refine Qp ?_|refine Qr ?_)
 | ((with_reducible first|apply Qy|apply Qz|apply QA)<;>intro hb<;>try simp only [nr] at hb)
 | simp only [go_sem,↓reduceIte,reduceIte,Qa,Qh,Qb,Qc,Qd,Qe,Qf,Qg,reduceCtorEq, *,-hs,-w0]
 | with_reducible refine fun (bn:Bool) hbn=>?_))
  refine SpecC.ent (Ent.virt 4 2 (by simp only [go_sem,↓reduceIte,reduceIte,Qa,Qh,Qb,Qc,Qd,Qe,Qf,Qg,reduceCtorEq, *,-hs,-w0]) (by decide)) ?_
  refine SpecC.loopF [0,3] (fun m ts'=>∃ (i:Nat),∃ (g:Nat),∃ (ys:List Key),m=xs.length - i∧i≤xs.length∧ys.length≤i∧(xs.filter (fun r=>!decide (keyOf r∈K6))).map keyOf=ys++((xs.drop i).filter (fun r=>!decide (keyOf r∈K6))).map keyOf∧ts'.tmp 4=.os 4 g ys.length∧ts'.gen 4=g∧ts'.obj 4=.arr 2 (avs ys)∧ts'.tmp 5=.int .i64 i) xs.length ?_ ?_
  ·refine ⟨0,ts.gen 4+1,[],rfl,Nat.zero_le _,Nat.le_refl _,rfl,?_⟩
   simp only [go_sem,↓reduceIte,reduceIte,Qa,Qh,Qb,Qc,Qd,Qe,Qf,Qg,reduceCtorEq, *,-hs,-w0,avs_nil]
  ·rintro m A hM ts' hk ⟨i,g,ys,hm,f1,f2,f3,s1,s2,s3,s4⟩
   simp only [go_sem,↓reduceIte,reduceIte,Qa,Qh,Qb,Qc,Qd,Qe,Qf,Qg,reduceCtorEq, *] at hk
   by_cases hlt:i < xs.length
   ·rw [List.drop_eq_getElem_cons hlt,List.filter_cons] at f3
    have w1:=has6_c K6 xs[i].kind xs[i].name hK6
    have w1:CallR Tryz.prog 64 [.slice false (avs K6),.agg [.int .i64 xs[i].kind,.str xs[i].name]] (.val (.bool (decide (keyOf xs[i]∈K6)))):=w1
    have hr:Room (ys.length+1) 24:=room_small (by omega) (by decide)
    by_cases hc:keyOf xs[i]∈K6
    ·rw [if_neg (by simpa using hc)] at f3
     rw [decide_eq_true hc] at w1
     (repeat' (first
 | (with_reducible first|refine callX.by (w1) ?_|refine callX.by (reached06_c _ ?_ ?_) ?_|refine callX.by (rkey3_c _ _ _ _ _ _ _) ?_|refine callX.by (has6_c _ _ _ ?_) ?_|assumption|(refine Qw hK _ ?_; clear hK K)|refine Qw ‹_› _ ?_|refine Nx.out ‹_› ?_|refine Qi fun K hK=>?_|refine Qj T fun K hK=>?_|refine Ql fun A B hA hB=>?_|refine Qm ?_|refine Qn ?_|refine Qp ?_|refine Qr ?_)
 | ((with_reducible first|apply Qy|apply Qz|apply QA)<;>intro hb<;>try simp only [nr] at hb)
 | simp only [go_sem,↓reduceIte,reduceIte,Qa,Qh,Qb,Qc,Qd,Qe,Qf,Qg,reduceCtorEq, *,-hs,-w0,-w1,-f3,-hc]
 | with_reducible refine fun (bn:Bool) hbn=>?_))
     all_goals ((repeat clear hK); (repeat clear hA); (repeat clear hB))
     all_goals (refine hM.on (xs.length - (i+1)) (by omega) (by simp only [go_sem,↓reduceIte,reduceIte,Qa,Qh,Qb,Qc,Qd,Qe,Qf,Qg,reduceCtorEq, *,w64_nat hlt hsl,-hs,-w0,-w1,-f3,-hc]) ⟨i+1,g,ys,rfl,by omega,by omega,f3,?_⟩; simp only [go_sem,↓reduceIte,reduceIte,Qa,Qh,Qb,Qc,Qd,Qe,Qf,Qg,reduceCtorEq, *,w64_nat hlt hsl,-hs,-w0,-w1,-f3,-hc]; done)
    ·rw [if_pos (by simpa using hc),List.map_cons] at f3
     rw [decide_eq_false hc] at w1
     (repeat' (first
 | (with_reducible first|refine callX.by (w1) ?_|refine callX.by (reached06_c _ ?_ ?_) ?_|refine callX.by (rkey3_c _ _ _ _ _ _ _) ?_|refine callX.by (has6_c _ _ _ ?_) ?_|assumption|(refine Qw hK _ ?_; clear hK K)|refine Qw ‹_› _ ?_|refine Nx.out ‹_› ?_|refine Qi fun K hK=>?_|refine Qj T fun K hK=>?_|refine Ql fun A B hA hB=>?_|refine Qm ?_|refine Qn ?_|refine Qp ?_|refine Qr ?_)
 | ((with_reducible first|apply Qy|apply Qz|apply QA)<;>intro hb<;>try simp only [nr] at hb)
 | simp only [go_sem,↓reduceIte,reduceIte,Qa,Qh,Qb,Qc,Qd,Qe,Qf,Qg,reduceCtorEq, *,-hs,-w0,-w1,-f3,-hc]
 | with_reducible refine fun (bn:Bool) hbn=>?_))
     all_goals ((repeat clear hK); (repeat clear hA); (repeat clear hB))
     all_goals (refine hM.onE (xs.length - (i+1)) (Ent.ren 4 29 ?_ ?_) ?_ ?_ ?_; (focus (simp only [go_sem,↓reduceIte,reduceIte,Qa,Qh,Qb,Qc,Qd,Qe,Qf,Qg,reduceCtorEq, *,w64_nat hlt hsl,List.length_append,keyOf,-hs,-w0,-w1,-f3,-hc]; first|done|rfl)); (focus (simp only [go_sem,↓reduceIte,reduceIte,Qa,Qh,Qb,Qc,Qd,Qe,Qf,Qg,reduceCtorEq, *,w64_nat hlt hsl,List.length_append,keyOf,-hs,-w0,-w1,-f3,-hc]; first|done|rfl)); omega; (focus (simp only [go_sem,↓reduceIte,reduceIte,Qa,Qh,Qb,Qc,Qd,Qe,Qf,Qg,reduceCtorEq, *,w64_nat hlt hsl,List.length_append,keyOf,-hs,-w0,-w1,-f3,-hc]; done)); refine ⟨i+1,ts'.gen 4+1,ys++[keyOf xs[i]],rfl,by omega,by simp; omega,by rw [f3,List.append_assoc]; rfl,?_⟩; simp only [go_sem,↓reduceIte,reduceIte,Qa,Qh,Qb,Qc,Qd,Qe,Qf,Qg,reduceCtorEq, *,w64_nat hlt hsl,List.length_append,keyOf,-hs,-w0,-w1,-f3,-hc]; done)
   ·rw [List.drop_eq_nil_of_le (by omega),List.filter_nil,List.map_nil,List.append_nil] at f3
    (repeat' (first
 | (with_reducible first|refine callX.by (reached06_c _ ?_ ?_) ?_|refine callX.by (rkey3_c _ _ _ _ _ _ _) ?_|refine callX.by (has6_c _ _ _ ?_) ?_|assumption|(refine Qw hK _ ?_; clear hK K)|refine Qw ‹_› _ ?_|refine Nx.out ‹_› ?_|refine Qi fun K hK=>?_|refine Qj T fun K hK=>?_|refine Ql fun A B hA hB=>?_|refine Qm ?_|refine Qn ?_|refine Qp ?_|refine Qr ?_)
 | ((with_reducible first|apply Qy|apply Qz|apply QA)<;>intro hb<;>try simp only [nr] at hb)
 | simp only [go_sem,↓reduceIte,reduceIte,Qa,Qh,Qb,Qc,Qd,Qe,Qf,Qg,reduceCtorEq, *,-hs,-w0,-f3]
 | with_reducible refine fun (bn:Bool) hbn=>?_))
    all_goals rw [f3]
 exact key.frz
def a6:Res:=⟨0,[108],0,0,[114],[],[]⟩
theorem a6s:saneR a6=0:=by decide
theorem a6r:refsR a6=[⟨1,[114]⟩]:=by
 unfold refsR
 rw [if_pos a6s]
 have e:baseR a6++keysR a6.rules'=[⟨1,[114]⟩]:=by decide
 rw [e]
 have e2:ksort [⟨1,[114]⟩]=[(⟨1,[114]⟩:Key)]:=by simp [ksort]
 rw [e2]; rfl
theorem a6sm:∀ r∈[a6],SmRes r:=by
 intro r hr
 rw [List.mem_singleton] at hr
 subst hr
 exact ⟨by simp [Small,a6],by simp [Small,a6],by simp [Small,a6],by simp [a6],by simp [Small,a6]⟩
theorem a6nd:([a6].map keyOf).Nodup:=by simp
theorem a6m:missK [a6]=[⟨1,[114]⟩]:=by
 have e:missR (ofR [a6] []) [a6]=[⟨1,[114]⟩]:=by
  rw [missR_cons,a6r]
  have:keepK (ofR [a6] []) [⟨1,[114]⟩]=[⟨1,[114]⟩]:=by decide
  rw [this]; rfl
 unfold missK
 rw [e]
 have e2:ksort [⟨1,[114]⟩]=[(⟨1,[114]⟩:Key)]:=by simp [ksort]
 rw [e2]; rfl
theorem a6re:reachR [a6]=[a6]:=by
 unfold reachR
 rw [List.filter_eq_self]
 intro r hr
 rw [reached_iff a6nd]
 rw [List.mem_singleton] at hr
 subst hr
 exact .base a6 (by simp) rfl
theorem a6se:served [a6]=6:=by
 unfold served
 rw [a6re,if_pos]
 rw [List.any_cons,lacks,a6r]
 decide
theorem a6o:orderK [a6]=[⟨0,[108]⟩]:=by decide
abbrev A6:AV:=.slice false [.agg [.int .i64 0,.str [108],.int .i64 0,.int .i64 0,.str [114],.slice false [],.slice false []]]
theorem a6mc:CallR Tryz.prog 17 [A6] (.own 2 [.agg [.int .i64 1,.str [114]]]):=by
 have h:=missing_c [a6] (by decide) a6sm
 rw [a6m] at h; exact h
theorem a6sc:CallR Tryz.prog 24 [A6] (.val (.int .i64 6)):=by
 have h:=served_c [a6] (by decide) a6sm a6nd
 rw [a6se] at h; exact h
theorem a6oc:CallR Tryz.prog 26 [A6] (.own 2 [.agg [.int .i64 0,.str [108]]]):=by
 have h:=order_refs_c [a6] (by decide)
 rw [a6o] at h; exact h
theorem a6rc:CallR Tryz.prog 22 [A6] (.own 7 [.agg [.int .i64 0,.str [108],.int .i64 0,.int .i64 0,.str [114],.slice false [],.slice false []]]):=by
 have h:=reach_c [a6] (by decide) a6sm a6nd
 rw [a6re] at h; exact h
set_option maxHeartbeats 4000000 in
theorem awake6_c:CallR Tryz.prog 14 [] (.val (.bool true)):=by
 refine CallR.go0 (T:=T) Tryz.call14 Tryz.func14 rfl Tryz.ntmps14 (congrArg Array.toList Tryz.results14) fun ts hn=>?_
 (repeat' (first
 | (with_reducible first|refine callX.by (a6mc) ?_|refine callX.by (a6sc) ?_|refine callX.by (a6oc) ?_|refine callX.fz (a6rc) ?_|refine callX.by (missing_c _ ?_ ?_) ?_|refine callX.by a6mc ?_|refine callX.by (servedU_c _ ?_ ?_) ?_|refine callX.by (served_c _ ?_ ?_ _) ?_|refine callX.by a6sc ?_|refine callX.by (order_refs_c _ ?_) ?_|refine callX.by a6oc ?_|refine callX.by (reachU_c _ ?_ ?_) ?_|refine callX.by (reach_c _ ?_ ?_ _) ?_|refine callX.by a6rc ?_|assumption|(refine Qw hK _ ?_; clear hK K)|refine Qw ‹_› _ ?_|refine Nx.out ‹_› ?_|refine Qi fun K hK=>?_|refine Qj T fun K hK=>?_|refine Ql fun A B hA hB=>?_|refine Qn ?_|refine Qr ?_)
 | ((with_reducible first|apply Qy|apply Qz|apply QA)<;>intro hb<;>try simp only [nr] at hb)
 | simp only [go_sem,↓reduceIte,reduceIte,Qa,Qh,Qb,Qc,Qd,Qe,Qf,Qg,reduceCtorEq, *,Int.toNat_zero,Int.le_refl,List.getD_cons_zero,z01,Nat.zero_lt_one]
 | with_reducible refine fun (bn:Bool) hbn=>?_))
theorem few_len {l:List Res} (h:fewAll l=true):l.length≤65536:=by
 simp only [fewAll,Bool.and_eq_true,decide_eq_true_eq] at h
 omega
end Go.Proofs.YtmjkjmoeicnbnaaGreatDoor.Lg
