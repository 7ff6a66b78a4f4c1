/- Parts of the proof, one behind the other. -/
import Derived.Test.YtmjkjmoeicnbnaaGreatDoorG24
namespace Go.Proofs.YtmjkjmoeicnbnaaGreatDoor.Lg
set_option maxRecDepth 100000
set_option linter.unusedVariables false
set_option linter.unusedSimpArgs false
open Go
open Nat renaming reduceEqDiff → Qa, reduceLT → Qb, reduceLeDiff → Qc, reduceAdd → Qd, reduceMul → Qe, reduceSub → Qf, reduceBEq → Qg
open String renaming reduceEq → Qh
open SpecC renaming seqW → Qi, regW → Qj, drawW → Qk, condW → Ql, block → Qm, skip → Qn, exit → Qp, ret → Qr
open NxK renaming out → Qw
open Nx renaming out → Qx
open condK renaming split → Qy
open gK renaming split_t → Qz, split_f → QA
open CallR renaming go1 → QD
@[go_sem] def Wd23:List (List Nat×List Nat):=[([3],[6,7,8,9,10,11,12,13,14,15,16,17,18,19,20,21,22]),([4],[7,8,9,10,11,12,13,14,15,16,17,18,19,20,21,22]),([5],[15,16,17,18,19,20,21,22]),([6],[3,16,17,18,19,20,21,22]),([7],[3,4,9,10,11,12,14,15,16,17,18,19,20,21,22]),([8],[3,4,9,10,11,12,16,17,18,19,20,21,22]),([9],[3,4,7,8,12,13,14,15,16,17,18,19,20,21,22]),([10],[3,4,7,8,13,14,15,16,17,18,19,20,21,22]),([11],[3,4,7,8,14,15,16,17,18,19,20,21,22]),([12],[3,4,7,8,9,16,17,18,19,20,21,22]),([13],[3,4,9,10,19,20,21,22]),([14],[3,4,7,9,10,11,19,20,21,22]),([15],[3,4,5,7,9,10,11]),([16],[3,4,5,6,7,8,9,10,11,12,19,20,21,22]),([17],[3,4,5,6,7,8,9,10,11,12]),([18],[3,4,5,6,7,8,9,10,11,12]),([19],[3,4,5,6,7,8,9,10,11,12,13,14,16,22]),([20],[3,4,5,6,7,8,9,10,11,12,13,14,16]),([21],[3,4,5,6,7,8,9,10,11,12,13,14,16]),([22],[3,4,5,6,7,8,9,10,11,12,13,14,16,19])]
def orphL (l:List Res):List Res:=l.filter fun r=>!decide (keyOf r∈reached06 l)
def orph06 (l:List Res):List Key:=(orphL l).map keyOf
theorem orph06_eq {l:List Res} (h:(l.map keyOf).Nodup):orph06 l=orphans l:=by
 unfold orph06 orphans orphL
 rw [List.filter_map]
 refine congrArg (List.map keyOf) (List.filter_congr fun r _=>?_)
 simp only [Function.comp]
 congr 1
 rw [Bool.eq_iff_iff,decide_eq_true_eq,reached06_iff,reached_iff h]
theorem orph06_c (xs:List Res) (hl:xs.length≤65536) (hs:∀ r∈xs,SmRes r):CallR Tryz.prog 29 [.slice false (avs xs)] (.val (.slice false (avs (orph06 xs)))):=by
 have hsl:=small_le hl
 have w0:=(reached06_c xs hl hs).frz
 have hrl:=reached06_len xs
 have key:CallR Tryz.prog 29 [.slice false (avs xs)] (.own 2 (avs (orph06 xs))):=by
  unfold orph06 orphL
  generalize reached06 xs=K6 at *
  have hK6:Small K6.length:=by unfold Small; omega
  refine QD (T:=T) Tryz.call29 Tryz.func29 rfl Tryz.ntmps29 (congrArg Array.toList Tryz.results29) (by decide) fun ts hn h0=>?_
  (repeat' (first
 | (with_reducible first|refine callX.by (w0) ?_|refine callX.by (reached06_c _ ?_ ?_) ?_|refine callX.by (rkey3_c _ _ _ _ _ _ _) ?_|refine callX.by (has6_c _ _ _ ?_) ?_|assumption|(refine Qw hK _ ?_; clear hK K)|refine Qw ‹_› _ ?_|refine Qx ‹_› ?_|refine Qi fun K hK=>?_|refine Qj T fun K hK=>?_|refine Ql fun A B hA hB=>?_|refine Qm ?_|refine Qn ?_|refine Qp ?_|refine Qr ?_)
 | ((with_reducible first|apply Qy|apply Qz|apply QA)<;>intro hb<;>try simp only [nr] at hb)
 | simp only [go_sem,↓reduceIte,reduceIte,Qa,Qh,Qb,Qc,Qd,Qe,Qf,Qg,reduceCtorEq, *,-hs,-w0]
 | with_reducible refine fun (bn:Bool) hbn=>?_))
  refine SpecC.ent (Ent.virt 4 2 (by simp only [go_sem,↓reduceIte,reduceIte,Qa,Qh,Qb,Qc,Qd,Qe,Qf,Qg,reduceCtorEq, *,-hs,-w0]) (by decide)) ?_
  refine SpecC.loopF [0,3] (fun m ts'=>∃ (i:Nat),∃ (g:Nat),∃ (ys:List Key),m=xs.length - i∧i≤xs.length∧ys.length≤i∧(xs.filter (fun r=>!decide (keyOf r∈K6))).map keyOf=ys++((xs.drop i).filter (fun r=>!decide (keyOf r∈K6))).map keyOf∧ts'.tmp 4=.os 4 g ys.length∧ts'.gen 4=g∧ts'.obj 4=.arr 2 (avs ys)∧ts'.tmp 5=.int .i64 i) xs.length ?_ ?_
  ·refine ⟨0,ts.gen 4+1,[],rfl,Nat.zero_le _,Nat.le_refl _,rfl,?_⟩
   simp only [go_sem,↓reduceIte,reduceIte,Qa,Qh,Qb,Qc,Qd,Qe,Qf,Qg,reduceCtorEq, *,-hs,-w0,avs_nil]
  ·rintro m A hM ts' hk ⟨i,g,ys,hm,f1,f2,f3,s1,s2,s3,s4⟩
   simp only [go_sem,↓reduceIte,reduceIte,Qa,Qh,Qb,Qc,Qd,Qe,Qf,Qg,reduceCtorEq, *] at hk
   by_cases hlt:i < xs.length
   ·rw [List.drop_eq_getElem_cons hlt,List.filter_cons] at f3
    have w1:=has6_c K6 xs[i].kind xs[i].name hK6
    have w1:CallR Tryz.prog 64 [.slice false (avs K6),.agg [.int .i64 xs[i].kind,.str xs[i].name]] (.val (.bool (decide (keyOf xs[i]∈K6)))):=w1
    have hr:Room (ys.length+1) 24:=room_small (by omega) (by decide)
    by_cases hc:keyOf xs[i]∈K6
    ·rw [if_neg (by simpa using hc)] at f3
     rw [decide_eq_true hc] at w1
     (repeat' (first
 | (with_reducible first|refine callX.by (w1) ?_|refine callX.by (reached06_c _ ?_ ?_) ?_|refine callX.by (rkey3_c _ _ _ _ _ _ _) ?_|refine callX.by (has6_c _ _ _ ?_) ?_|assumption|(refine Qw hK _ ?_; clear hK K)|refine Qw ‹_› _ ?_|refine Qx ‹_› ?_|refine Qi fun K hK=>?_|refine Qj T fun K hK=>?_|refine Ql fun A B hA hB=>?_|refine Qm ?_|refine Qn ?_|refine Qp ?_|refine Qr ?_)
 | ((with_reducible first|apply Qy|apply Qz|apply QA)<;>intro hb<;>try simp only [nr] at hb)
 | simp only [go_sem,↓reduceIte,reduceIte,Qa,Qh,Qb,Qc,Qd,Qe,Qf,Qg,reduceCtorEq, *,-hs,-w0,-w1,-f3,-hc]
 | with_reducible refine fun (bn:Bool) hbn=>?_))
     all_goals ((repeat clear hK); (repeat clear hA); (repeat clear hB))
     all_goals (refine hM.on (xs.length - (i+1)) (by omega) (by simp only [go_sem,↓reduceIte,reduceIte,Qa,Qh,Qb,Qc,Qd,Qe,Qf,Qg,reduceCtorEq, *,w64_nat hlt hsl,-hs,-w0,-w1,-f3,-hc]) ⟨i+1,g,ys,rfl,by omega,by omega,f3,?_⟩; simp only [go_sem,↓reduceIte,reduceIte,Qa,Qh,Qb,Qc,Qd,Qe,Qf,Qg,reduceCtorEq, *,w64_nat hlt hsl,-hs,-w0,-w1,-f3,-hc]; done)
    ·rw [if_pos (by simpa using hc),List.map_cons] at f3
     rw [decide_eq_false hc] at w1
     (repeat' (first
 | (with_reducible first|refine callX.by (w1) ?_|refine callX.by (reached06_c _ ?_ ?_) ?_|refine callX.by (rkey3_c _ _ _ _ _ _ _) ?_|refine callX.by (has6_c _ _ _ ?_) ?_|assumption|(refine Qw hK _ ?_; clear hK K)|refine Qw ‹_› _ ?_|refine Qx ‹_› ?_|refine Qi fun K hK=>?_|refine Qj T fun K hK=>?_|refine Ql fun A B hA hB=>?_|refine Qm ?_|refine Qn ?_|refine Qp ?_|refine Qr ?_)
 | ((with_reducible first|apply Qy|apply Qz|apply QA)<;>intro hb<;>try simp only [nr] at hb)
 | simp only [go_sem,↓reduceIte,reduceIte,Qa,Qh,Qb,Qc,Qd,Qe,Qf,Qg,reduceCtorEq, *,-hs,-w0,-w1,-f3,-hc]
 | with_reducible refine fun (bn:Bool) hbn=>?_))
     all_goals ((repeat clear hK); (repeat clear hA); (repeat clear hB))
     all_goals (refine hM.onE (xs.length - (i+1)) (Ent.ren 4 29 ?_ ?_) ?_ ?_ ?_; (focus (simp only [go_sem,↓reduceIte,reduceIte,Qa,Qh,Qb,Qc,Qd,Qe,Qf,Qg,reduceCtorEq, *,w64_nat hlt hsl,List.length_append,keyOf,-hs,-w0,-w1,-f3,-hc]; first|done|rfl)); (focus (simp only [go_sem,↓reduceIte,reduceIte,Qa,Qh,Qb,Qc,Qd,Qe,Qf,Qg,reduceCtorEq, *,w64_nat hlt hsl,List.length_append,keyOf,-hs,-w0,-w1,-f3,-hc]; first|done|rfl)); omega; (focus (simp only [go_sem,↓reduceIte,reduceIte,Qa,Qh,Qb,Qc,Qd,Qe,Qf,Qg,reduceCtorEq, *,w64_nat hlt hsl,List.length_append,keyOf,-hs,-w0,-w1,-f3,-hc]; done)); refine ⟨i+1,ts'.gen 4+1,ys++[keyOf xs[i]],rfl,by omega,by simp; omega,by rw [f3,List.append_assoc]; rfl,?_⟩; simp only [go_sem,↓reduceIte,reduceIte,Qa,Qh,Qb,Qc,Qd,Qe,Qf,Qg,reduceCtorEq, *,w64_nat hlt hsl,List.length_append,keyOf,-hs,-w0,-w1,-f3,-hc]; done)
   ·rw [List.drop_eq_nil_of_le (by omega),List.filter_nil,List.map_nil,List.append_nil] at f3
    (repeat' (first
 | (with_reducible first|refine callX.by (reached06_c _ ?_ ?_) ?_|refine callX.by (rkey3_c _ _ _ _ _ _ _) ?_|refine callX.by (has6_c _ _ _ ?_) ?_|assumption|(refine Qw hK _ ?_; clear hK K)|refine Qw ‹_› _ ?_|refine Qx ‹_› ?_|refine Qi fun K hK=>?_|refine Qj T fun K hK=>?_|refine Ql fun A B hA hB=>?_|refine Qm ?_|refine Qn ?_|refine Qp ?_|refine Qr ?_)
 | ((with_reducible first|apply Qy|apply Qz|apply QA)<;>intro hb<;>try simp only [nr] at hb)
 | simp only [go_sem,↓reduceIte,reduceIte,Qa,Qh,Qb,Qc,Qd,Qe,Qf,Qg,reduceCtorEq, *,-hs,-w0,-f3]
 | with_reducible refine fun (bn:Bool) hbn=>?_))
    all_goals rw [f3]
 exact key.frz
theorem new17_c (n:Int):CallR Tryz.prog 53 [.int .i64 n] (.val (.agg [.int .i64 (bnd n),.slice false [],.bool false,.slice false []])):=by
 have w0:=new16_c n
 refine QD (T:=T) Tryz.call53 Tryz.func53 rfl Tryz.ntmps53 (congrArg Array.toList Tryz.results53) (by decide) fun ts hn h0=>?_
 (repeat' (first
 | (with_reducible first|refine callX.by (w0) ?_|refine callX.by (new16_c _) ?_|assumption|(refine Qw hK _ ?_; clear hK K)|refine Qw ‹_› _ ?_|refine Qx ‹_› ?_|refine Qi fun K hK=>?_|refine Qj T fun K hK=>?_|refine Ql fun A B hA hB=>?_|refine Qn ?_|refine Qr ?_)
 | ((with_reducible first|apply Qy|apply Qz|apply QA)<;>intro hb<;>try simp only [nr] at hb)
 | simp only [go_sem,↓reduceIte,reduceIte,Qa,Qh,Qb,Qc,Qd,Qe,Qf,Qg,reduceCtorEq, *,-w0]
 | with_reducible refine fun (bn:Bool) hbn=>?_))
theorem sane17_eq (w:Warm):saneW w=(saneC w.c && decide (w.shown=reach06 w.c.l) && (w.ready || decide (w.shown=[]))):=by
 unfold saneW
 cases h:saneC w.c with
 | false=>rfl
 | true=>rw [shownC_sane h,reach06_eq (saneC_conf h).nodup]
theorem sane17_c (w_c_cap:Int) (w_c_l:List Res) (w_ready:Bool) (w_shown:List Res) (hl:w_c_l.length≤65536) (hs:∀ r∈w_c_l,SmRes r) (hl2:Small w_shown.length) (hs2:∀ r∈w_shown,SmRes r):CallR Tryz.prog 49 [.agg [.int .i64 w_c_cap,.slice false (avs w_c_l),.bool w_ready,.slice false (avs w_shown)]] (.val (.bool (saneW (⟨⟨w_c_cap,w_c_l⟩,w_ready,w_shown⟩:Warm)))):=by
 have w1:=sane16_c w_c_cap w_c_l hl hs
 have w2:=reach06_c w_c_l hl hs
 have w3:=all4_c w_shown (reach06 w_c_l) hl2 hs2
 have hlen:decide ((w_shown.length:Int)=0)=decide (w_shown=[]):=by
  rw [Bool.eq_iff_iff]; simp
 rw [sane17_eq]
 simp only
 generalize reach06 w_c_l=sh at *
 cases hb0:saneC ⟨w_c_cap,w_c_l⟩
 ·rw [hb0] at w1
  refine QD (T:=T) Tryz.call49 Tryz.func49 rfl Tryz.ntmps49 (congrArg Array.toList Tryz.results49) (by decide) fun ts hn h0=>?_
  (repeat' (first
 | (with_reducible first|refine callX.by (w1) ?_|refine callX.by (sane16_c _ _ ?_ ?_) ?_|refine callX.by (reach06_c _ ?_ ?_) ?_|refine callX.by (all4_c _ _ ?_ ?_) ?_|assumption|(refine Qw hK _ ?_; clear hK K)|refine Qw ‹_› _ ?_|refine Qx ‹_› ?_|refine Qi fun K hK=>?_|refine Qj T fun K hK=>?_|refine Qk (id:=1) T mixed Wd23 (by kernel_rfl) fun K hK=>?_|refine Ql fun A B hA hB=>?_|refine Qn ?_|refine Qr ?_)
 | ((with_reducible first|apply Qy|apply Qz|apply QA)<;>intro hb<;>try simp only [nr] at hb)
 | simp only [go_sem,↓reduceIte,reduceIte,Qa,Qh,Qb,Qc,Qd,Qe,Qf,Qg,reduceCtorEq, *,-hs,-hs2,-w1,-w2,-w3]
 | with_reducible refine fun (bn:Bool) hbn=>?_))
 ·rw [hb0] at w1
  by_cases hsh:w_shown=sh
  ·rw [decide_eq_true hsh] at w3
   cases w_ready
   ·refine QD (T:=T) Tryz.call49 Tryz.func49 rfl Tryz.ntmps49 (congrArg Array.toList Tryz.results49) (by decide) fun ts hn h0=>?_
    (repeat' (first
 | (with_reducible first|refine callX.by (w1) ?_|refine callX.by (w2) ?_|refine callX.by (w3) ?_|refine callX.by (sane16_c _ _ ?_ ?_) ?_|refine callX.by (reach06_c _ ?_ ?_) ?_|refine callX.by (all4_c _ _ ?_ ?_) ?_|assumption|(refine Qw hK _ ?_; clear hK K)|refine Qw ‹_› _ ?_|refine Qx ‹_› ?_|refine Qi fun K hK=>?_|refine Qj T fun K hK=>?_|refine Qk (id:=1) T mixed Wd23 (by kernel_rfl) fun K hK=>?_|refine Ql fun A B hA hB=>?_|refine Qn ?_|refine Qr ?_)
 | ((with_reducible first|apply Qy|apply Qz|apply QA)<;>intro hb<;>try simp only [nr] at hb)
 | simp only [go_sem,↓reduceIte,reduceIte,Qa,Qh,Qb,Qc,Qd,Qe,Qf,Qg,reduceCtorEq, *,-hs,-hs2,-w1,-w2,-w3,-hsh]
 | with_reducible refine fun (bn:Bool) hbn=>?_))
    all_goals simp_all
   ·refine QD (T:=T) Tryz.call49 Tryz.func49 rfl Tryz.ntmps49 (congrArg Array.toList Tryz.results49) (by decide) fun ts hn h0=>?_
    (repeat' (first
 | (with_reducible first|refine callX.by (w1) ?_|refine callX.by (w2) ?_|refine callX.by (w3) ?_|refine callX.by (sane16_c _ _ ?_ ?_) ?_|refine callX.by (reach06_c _ ?_ ?_) ?_|refine callX.by (all4_c _ _ ?_ ?_) ?_|assumption|(refine Qw hK _ ?_; clear hK K)|refine Qw ‹_› _ ?_|refine Qx ‹_› ?_|refine Qi fun K hK=>?_|refine Qj T fun K hK=>?_|refine Qk (id:=1) T mixed Wd23 (by kernel_rfl) fun K hK=>?_|refine Ql fun A B hA hB=>?_|refine Qn ?_|refine Qr ?_)
 | ((with_reducible first|apply Qy|apply Qz|apply QA)<;>intro hb<;>try simp only [nr] at hb)
 | simp only [go_sem,↓reduceIte,reduceIte,Qa,Qh,Qb,Qc,Qd,Qe,Qf,Qg,reduceCtorEq, *,-hs,-hs2,-w1,-w2,-w3,-hsh]
 | with_reducible refine fun (bn:Bool) hbn=>?_))
    all_goals simp_all
  ·rw [decide_eq_false hsh] at w3
   refine QD (T:=T) Tryz.call49 Tryz.func49 rfl Tryz.ntmps49 (congrArg Array.toList Tryz.results49) (by decide) fun ts hn h0=>?_
   (repeat' (first
 | (with_reducible first|refine callX.by (w1) ?_|refine callX.by (w2) ?_|refine callX.by (w3) ?_|refine callX.by (sane16_c _ _ ?_ ?_) ?_|refine callX.by (reach06_c _ ?_ ?_) ?_|refine callX.by (all4_c _ _ ?_ ?_) ?_|assumption|(refine Qw hK _ ?_; clear hK K)|refine Qw ‹_› _ ?_|refine Qx ‹_› ?_|refine Qi fun K hK=>?_|refine Qj T fun K hK=>?_|refine Qk (id:=1) T mixed Wd23 (by kernel_rfl) fun K hK=>?_|refine Ql fun A B hA hB=>?_|refine Qn ?_|refine Qr ?_)
 | ((with_reducible first|apply Qy|apply Qz|apply QA)<;>intro hb<;>try simp only [nr] at hb)
 | simp only [go_sem,↓reduceIte,reduceIte,Qa,Qh,Qb,Qc,Qd,Qe,Qf,Qg,reduceCtorEq, *,-hs,-hs2,-w1,-w2,-w3,-hsh]
 | with_reducible refine fun (bn:Bool) hbn=>?_))
   all_goals simp_all
theorem saneOf17_c (w_c_cap:Int) (w_c_l:List Res) (w_ready:Bool) (w_shown:List Res) (hl:w_c_l.length≤65536) (hs:∀ r∈w_c_l,SmRes r) (hl2:Small w_shown.length) (hs2:∀ r∈w_shown,SmRes r):CallR Tryz.prog 107 [.agg [.int .i64 w_c_cap,.slice false (avs w_c_l),.bool w_ready,.slice false (avs w_shown)]] (.val (.agg [.int .i64 (saneOfW (⟨⟨w_c_cap,w_c_l⟩,w_ready,w_shown⟩:Warm)).c.cap,.slice false (avs (saneOfW (⟨⟨w_c_cap,w_c_l⟩,w_ready,w_shown⟩:Warm)).c.l),.bool (saneOfW (⟨⟨w_c_cap,w_c_l⟩,w_ready,w_shown⟩:Warm)).ready,.slice false (avs (saneOfW (⟨⟨w_c_cap,w_c_l⟩,w_ready,w_shown⟩:Warm)).shown)])):=by
 have w1:=sane17_c w_c_cap w_c_l w_ready w_shown hl hs hl2 hs2
 have w2:=new17_c w_c_cap
 unfold saneOfW
 cases hb0:saneW (⟨⟨w_c_cap,w_c_l⟩,w_ready,w_shown⟩:Warm)
 ·rw [hb0] at w1
  refine QD (T:=T) Tryz.call107 Tryz.func107 rfl Tryz.ntmps107 (congrArg Array.toList Tryz.results107) (by decide) fun ts hn h0=>?_
  (repeat' (first
 | (with_reducible first|refine callX.by (w1) ?_|refine callX.by (w2) ?_|refine callX.by (sane17_c _ _ _ _ ?_ ?_ ?_ ?_) ?_|refine callX.by (new17_c _) ?_|assumption|(refine Qw hK _ ?_; clear hK K)|refine Qw ‹_› _ ?_|refine Qx ‹_› ?_|refine Qi fun K hK=>?_|refine Qj T fun K hK=>?_|refine Ql fun A B hA hB=>?_|refine Qn ?_|refine Qr ?_)
 | ((with_reducible first|apply Qy|apply Qz|apply QA)<;>intro hb<;>try simp only [nr] at hb)
 | simp only [go_sem,↓reduceIte,reduceIte,Qa,Qh,Qb,Qc,Qd,Qe,Qf,Qg,reduceCtorEq, *,-hs,-hs2,-w1,-w2]
 | with_reducible refine fun (bn:Bool) hbn=>?_))
  all_goals rfl
 ·rw [hb0] at w1
  refine QD (T:=T) Tryz.call107 Tryz.func107 rfl Tryz.ntmps107 (congrArg Array.toList Tryz.results107) (by decide) fun ts hn h0=>?_
  (repeat' (first
 | (with_reducible first|refine callX.by (w1) ?_|refine callX.by (sane17_c _ _ _ _ ?_ ?_ ?_ ?_) ?_|refine callX.by (new17_c _) ?_|assumption|(refine Qw hK _ ?_; clear hK K)|refine Qw ‹_› _ ?_|refine Qx ‹_› ?_|refine Qi fun K hK=>?_|refine Qj T fun K hK=>?_|refine Ql fun A B hA hB=>?_|refine Qn ?_|refine Qr ?_)
 | ((with_reducible first|apply Qy|apply Qz|apply QA)<;>intro hb<;>try simp only [nr] at hb)
 | simp only [go_sem,↓reduceIte,reduceIte,Qa,Qh,Qb,Qc,Qd,Qe,Qf,Qg,reduceCtorEq, *,-hs,-hs2,-w1,-w2]
 | with_reducible refine fun (bn:Bool) hbn=>?_))
  all_goals trace_state
def takeT (m:Warm) (adds:List Res) (gone:List Key):Warm × Bool × Int :=
 if (takeC m.c adds gone).2=0 then (if reach06 (takeC m.c adds gone).1.l=m.shown then (⟨(takeC m.c adds gone).1,m.ready,m.shown⟩,false,0) else (⟨(takeC m.c adds gone).1,true,reach06 (takeC m.c adds gone).1.l⟩,true,0)) else (m,false,(takeC m.c adds gone).2)
theorem saneOfW_sane (w:Warm):saneW (saneOfW w)=true:=by
 unfold saneOfW
 split
 ·assumption
 ·exact newW_sane _
theorem takeT_step (w:Warm) (adds:List Res) (gone:List Key):takeT (saneOfW w) adds gone=stepW w adds gone:=by
 have h:=saneOfW_sane w
 have hs:saneOf (saneOfW w).c=(saneOfW w).c:=by unfold saneOf; rw [if_pos (saneW_iff.1 h).1]
 have e:takeC (saneOfW w).c adds gone=applyC (saneOfW w).c adds gone:=by rw [← takeC_apply,hs]
 have hk:=applyC_keeps (saneW_iff.1 h).1 adds gone
 unfold takeT stepW
 simp only
 rw [e,shownC_sane hk,reach06_eq (saneC_conf hk).nodup]
theorem takeC_len (c:Cache) (adds:List Res) (gone:List Key):(takeC c adds gone).1.l.length≤c.l.length+adds.length:=by
 have h2:=patchR_len c.l adds gone
 unfold takeC
 split
 ·simp only; omega
 ·simp only; omega
theorem takeC_mem {c:Cache} {adds:List Res} {gone:List Key} {x:Res} (h:x∈(takeC c adds gone).1.l):x∈c.l∨x∈adds:=by
 unfold takeC at h
 split at h
 ·exact patchR_mem h
 ·exact .inl h
theorem takeT_c (w_c_cap:Int) (w_c_l:List Res) (w_ready:Bool) (w_shown:List Res) (adds:List Res) (gone:List Key) (hl:w_c_l.length+adds.length≤65536) (hs:∀ r∈w_c_l,SmRes r) (hl2:Small w_shown.length) (hg:Small gone.length) (ha:∀ r∈adds,SmRes r) :
  CallR Tryz.prog 106 [.agg [.int .i64 w_c_cap,.slice false (avs w_c_l),.bool w_ready,.slice false (avs w_shown)],.slice false (avs adds),.slice false (avs gone)]
   (.val (.tup [.agg [.int .i64 (takeT (⟨⟨w_c_cap,w_c_l⟩,w_ready,w_shown⟩:Warm) adds gone).1.c.cap,.slice false (avs (takeT (⟨⟨w_c_cap,w_c_l⟩,w_ready,w_shown⟩:Warm) adds gone).1.c.l),.bool (takeT (⟨⟨w_c_cap,w_c_l⟩,w_ready,w_shown⟩:Warm) adds gone).1.ready,.slice false (avs (takeT (⟨⟨w_c_cap,w_c_l⟩,w_ready,w_shown⟩:Warm) adds gone).1.shown)],.bool (takeT (⟨⟨w_c_cap,w_c_l⟩,w_ready,w_shown⟩:Warm) adds gone).2.1,.int .i64 (takeT (⟨⟨w_c_cap,w_c_l⟩,w_ready,w_shown⟩:Warm) adds gone).2.2])):=by
 have w1:=take16_c w_c_cap w_c_l adds gone hl hg hs ha
 have hal:=takeC_len ⟨w_c_cap,w_c_l⟩ adds gone
 have hac:∀ r∈(takeC ⟨w_c_cap,w_c_l⟩ adds gone).1.l,SmRes r:=fun r hr=>(takeC_mem hr).elim (hs r) (ha r)
 unfold takeT
 simp only
 generalize (takeC ⟨w_c_cap,w_c_l⟩ adds gone).2=e at *
 generalize (takeC ⟨w_c_cap,w_c_l⟩ adds gone).1=d at *
 simp only at hal
 have w2:=reach06_c d.l (by omega) hac
 have hrl:=reach06_len d.l
 have w3:=all4_c (reach06 d.l) w_shown (by unfold Small; omega) fun r hr=>hac r (reach06_mem hr)
 generalize reach06 d.l=R at *
 clear hs ha hac hal hl hl2 hg hrl
 by_cases he:e=0
 ·subst he
  simp only [if_true]
  by_cases hsh:R=w_shown
  ·rw [decide_eq_true hsh] at w3
   rw [if_pos hsh]
   simp only
   refine CallR.go3 (T:=T) Tryz.call106 Tryz.func106 rfl Tryz.ntmps106 (congrArg Array.toList Tryz.results106) (by decide) fun ts hn h0 h1 h2=>?_
   (repeat' (first
 | (with_reducible first|refine callX.by (w1) ?_|refine callX.by (w2) ?_|refine callX.by (w3) ?_|refine callX.by (reach06_c _ ?_ ?_) ?_|refine callX.by (all4_c _ _ ?_ ?_) ?_|assumption|(refine Qw hK _ ?_; clear hK K)|refine Qw ‹_› _ ?_|refine Qx ‹_› ?_|refine Qi fun K hK=>?_|refine Qj T fun K hK=>?_|refine Ql fun A B hA hB=>?_|refine Qn ?_|refine Qr ?_)
 | ((with_reducible first|apply Qy|apply Qz|apply QA)<;>intro hb<;>try simp only [nr] at hb)
 | simp only [go_sem,↓reduceIte,reduceIte,Qa,Qh,Qb,Qc,Qd,Qe,Qf,Qg,reduceCtorEq, *,-w1,-w2,-w3,-hsh]
 | with_reducible refine fun (bn:Bool) hbn=>?_))
   all_goals trace_state
  ·rw [decide_eq_false hsh] at w3
   rw [if_neg hsh]
   simp only
   refine CallR.go3 (T:=T) Tryz.call106 Tryz.func106 rfl Tryz.ntmps106 (congrArg Array.toList Tryz.results106) (by decide) fun ts hn h0 h1 h2=>?_
   (repeat' (first
 | (with_reducible first|refine callX.by (w1) ?_|refine callX.by (w2) ?_|refine callX.by (w3) ?_|refine callX.by (reach06_c _ ?_ ?_) ?_|refine callX.by (all4_c _ _ ?_ ?_) ?_|assumption|(refine Qw hK _ ?_; clear hK K)|refine Qw ‹_› _ ?_|refine Qx ‹_› ?_|refine Qi fun K hK=>?_|refine Qj T fun K hK=>?_|refine Ql fun A B hA hB=>?_|refine Qn ?_|refine Qr ?_)
 | ((with_reducible first|apply Qy|apply Qz|apply QA)<;>intro hb<;>try simp only [nr] at hb)
 | simp only [go_sem,↓reduceIte,reduceIte,Qa,Qh,Qb,Qc,Qd,Qe,Qf,Qg,reduceCtorEq, *,-w1,-w2,-w3,-hsh]
 | with_reducible refine fun (bn:Bool) hbn=>?_))
   all_goals trace_state
 ·rw [if_neg he]
  simp only
  refine CallR.go3 (T:=T) Tryz.call106 Tryz.func106 rfl Tryz.ntmps106 (congrArg Array.toList Tryz.results106) (by decide) fun ts hn h0 h1 h2=>?_
  (repeat' (first
 | (with_reducible first|refine callX.by (w1) ?_|refine callX.by (reach06_c _ ?_ ?_) ?_|refine callX.by (all4_c _ _ ?_ ?_) ?_|assumption|(refine Qw hK _ ?_; clear hK K)|refine Qw ‹_› _ ?_|refine Qx ‹_› ?_|refine Qi fun K hK=>?_|refine Qj T fun K hK=>?_|refine Ql fun A B hA hB=>?_|refine Qn ?_|refine Qr ?_)
 | ((with_reducible first|apply Qy|apply Qz|apply QA)<;>intro hb<;>try simp only [nr] at hb)
 | simp only [go_sem,↓reduceIte,reduceIte,Qa,Qh,Qb,Qc,Qd,Qe,Qf,Qg,reduceCtorEq, *,-w1,-w2,-w3]
 | with_reducible refine fun (bn:Bool) hbn=>?_))
  all_goals trace_state
theorem step17_c (w_c_cap:Int) (w_c_l:List Res) (w_ready:Bool) (w_shown:List Res) (adds:List Res) (gone:List Key) (hl:w_c_l.length+adds.length≤65536) (hs:∀ r∈w_c_l,SmRes r) (hl2:Small w_shown.length) (hs2:∀ r∈w_shown,SmRes r) (hg:Small gone.length) (ha:∀ r∈adds,SmRes r) :
  CallR Tryz.prog 45 [.agg [.int .i64 w_c_cap,.slice false (avs w_c_l),.bool w_ready,.slice false (avs w_shown)],.slice false (avs adds),.slice false (avs gone)]
   (.val (.tup [.agg [.int .i64 (stepW (⟨⟨w_c_cap,w_c_l⟩,w_ready,w_shown⟩:Warm) adds gone).1.c.cap,.slice false (avs (stepW (⟨⟨w_c_cap,w_c_l⟩,w_ready,w_shown⟩:Warm) adds gone).1.c.l),.bool (stepW (⟨⟨w_c_cap,w_c_l⟩,w_ready,w_shown⟩:Warm) adds gone).1.ready,.slice false (avs (stepW (⟨⟨w_c_cap,w_c_l⟩,w_ready,w_shown⟩:Warm) adds gone).1.shown)],.bool (stepW (⟨⟨w_c_cap,w_c_l⟩,w_ready,w_shown⟩:Warm) adds gone).2.1,.int .i64 (stepW (⟨⟨w_c_cap,w_c_l⟩,w_ready,w_shown⟩:Warm) adds gone).2.2])):=by
 have w0:=saneOf17_c w_c_cap w_c_l w_ready w_shown (by omega) hs hl2 hs2
 have hml:=saneOfW_len (⟨⟨w_c_cap,w_c_l⟩,w_ready,w_shown⟩:Warm)
 have hms:∀ r∈(saneOfW (⟨⟨w_c_cap,w_c_l⟩,w_ready,w_shown⟩:Warm)).c.l,SmRes r:=fun r hr=>hs r (saneOfW_mem hr)
 have hm2:=saneW_slen (saneOfW_sane (⟨⟨w_c_cap,w_c_l⟩,w_ready,w_shown⟩:Warm))
 rw [← takeT_step]
 generalize saneOfW (⟨⟨w_c_cap,w_c_l⟩,w_ready,w_shown⟩:Warm)=m at *
 simp only at hml
 have w1:=takeT_c m.c.cap m.c.l m.ready m.shown adds gone (by omega) hms (by unfold Small; omega) hg ha
 have w1:CallR Tryz.prog 106 [.agg [.int .i64 m.c.cap,.slice false (avs m.c.l),.bool m.ready,.slice false (avs m.shown)],.slice false (avs adds),.slice false (avs gone)] (.val (.tup [.agg [.int .i64 (takeT m adds gone).1.c.cap,.slice false (avs (takeT m adds gone).1.c.l),.bool (takeT m adds gone).1.ready,.slice false (avs (takeT m adds gone).1.shown)],.bool (takeT m adds gone).2.1,.int .i64 (takeT m adds gone).2.2])):=w1
 generalize (takeT m adds gone).1=q at *
 generalize (takeT m adds gone).2.1=c at *
 generalize (takeT m adds gone).2.2=e at *
 clear hms hs ha hml hl hl2 hs2 hg hm2
 refine CallR.go3 (T:=T) Tryz.call45 Tryz.func45 rfl Tryz.ntmps45 (congrArg Array.toList Tryz.results45) (by decide) fun ts hn h0 h1 h2=>?_
 (repeat' (first
 | (with_reducible first|refine callX.by (w0) ?_|refine callX.by (w1) ?_|refine callX.by (saneOf17_c _ _ _ _ ?_ ?_ ?_ ?_) ?_|assumption|(refine Qw hK _ ?_; clear hK K)|refine Qw ‹_› _ ?_|refine Qx ‹_› ?_|refine Qi fun K hK=>?_|refine Qj T fun K hK=>?_|refine Ql fun A B hA hB=>?_|refine Qn ?_|refine Qr ?_)
 | ((with_reducible first|apply Qy|apply Qz|apply QA)<;>intro hb<;>try simp only [nr] at hb)
 | simp only [go_sem,↓reduceIte,reduceIte,Qa,Qh,Qb,Qc,Qd,Qe,Qf,Qg,reduceCtorEq, *,-w0,-w1]
 | with_reducible refine fun (bn:Bool) hbn=>?_))
theorem warming17_c (w_c_cap:Int) (w_c_l:List Res) (w_ready:Bool) (w_shown:List Res) (hl:w_c_l.length≤65536) (hs:∀ r∈w_c_l,SmRes r) (hl2:Small w_shown.length) (hs2:∀ r∈w_shown,SmRes r):CallR Tryz.prog 51 [.agg [.int .i64 w_c_cap,.slice false (avs w_c_l),.bool w_ready,.slice false (avs w_shown)]] (.val (.slice false (avs (orphans (saneOfW (⟨⟨w_c_cap,w_c_l⟩,w_ready,w_shown⟩:Warm)).c.l)))):=by
 have w1:=saneOf17_c w_c_cap w_c_l w_ready w_shown hl hs hl2 hs2
 have hml:=saneOfW_len (⟨⟨w_c_cap,w_c_l⟩,w_ready,w_shown⟩:Warm)
 have hms:∀ r∈(saneOfW (⟨⟨w_c_cap,w_c_l⟩,w_ready,w_shown⟩:Warm)).c.l,SmRes r:=fun r hr=>hs r (saneOfW_mem hr)
 have hnd:=(saneC_conf (saneW_iff.1 (saneOfW_sane (⟨⟨w_c_cap,w_c_l⟩,w_ready,w_shown⟩:Warm))).1).nodup
 generalize saneOfW (⟨⟨w_c_cap,w_c_l⟩,w_ready,w_shown⟩:Warm)=m at *
 simp only at hml
 have w2:=orph06_c m.c.l (by omega) hms
 rw [orph06_eq hnd] at w2
 clear hs hs2 hms hnd hl hl2 hml
 refine QD (T:=T) Tryz.call51 Tryz.func51 rfl Tryz.ntmps51 (congrArg Array.toList Tryz.results51) (by decide) fun ts hn h0=>?_
 (repeat' (first
 | (with_reducible first|refine callX.by (w1) ?_|refine callX.by (w2) ?_|refine callX.by (saneOf17_c _ _ _ _ ?_ ?_ ?_ ?_) ?_|refine callX.by (orph06_c _ ?_ ?_) ?_|assumption|(refine Qw hK _ ?_; clear hK K)|refine Qw ‹_› _ ?_|refine Qx ‹_› ?_|refine Qi fun K hK=>?_|refine Qj T fun K hK=>?_|refine Ql fun A B hA hB=>?_|refine Qn ?_|refine Qr ?_)
 | ((with_reducible first|apply Qy|apply Qz|apply QA)<;>intro hb<;>try simp only [nr] at hb)
 | simp only [go_sem,↓reduceIte,reduceIte,Qa,Qh,Qb,Qc,Qd,Qe,Qf,Qg,reduceCtorEq, *,-w1,-w2]
 | with_reducible refine fun (bn:Bool) hbn=>?_))
@[go_sem] def Wd24:List (List Nat×List Nat):=[([54],[61,62,63,64,65,66,67,68,69,70,71,72,73,74,75,76,77,78,79,80,81,82,83,84,85,86,87,88,89,90,91,92,93,94,95,96,97,98]),([55],[62,63,64,65,66,67,68,69,70,71,72,73,74,75,76,77,78,79,80,81,82,83,84,85,86,87,88,89,90,91,92,93,94,95,96,97,98]),([56],[58,60,61,62,63,64,65,66,67,68,69,70,71,72,73,74,75,76,77,78,79,80,81,82,83,84,85,86,87,88,89,90,91,92,93,94,95,96,97,98]),([57],[58,62,63,64,65,66,67,68,69,70,71,72,73,74,75,76,77,78,79,80,81,82,83,84,85,86,87,88,89,90,91,92,93,94,95,96,97,98]),([58],[56,57,62,63,64,65,66,67,68,69,70,71,72,73,74,75,76,77,78,79,80,81,82,83,84,85,86,87,88,89,90,91,92,93,94,95,96,97,98]),([59],[67,68,69,70,71,72,73,74,75,76,77,78,79,80,81,82,83,84,85,86,87,88,89,90,91,92,93,94,95,96,97,98]),([60],[56,67,68,69,70,71,72,73,74,75,76,77,78,79,80,81,82,83,84,85,86,87,88,89,90,91,92,93,94,95,96,97,98]),([61],[54,56,72,73,74,75,76,77,78,79,80,81,82,83,84,85,86,87,88,89,90,91,92,93,94,95,96,97,98]),([62],[54,55,56,57,58,63,66,67,68,69,70,71,72,73,74,75,76,77,78,79,80,81,82,83,84,85,86,87,88,89,90,91,92,93,94,95,96,97,98]),([63],[54,55,56,57,58,62,66,67,68,69,70,71,72,73,74,75,76,77,78,79,80,81,82,83,84,85,86,87,88,89,90,91,92,93,94,95,96,97,98]),([64],[54,55,56,57,58,67,68,69,70,71,72,73,74,75,76,77,78,79,80,81,82,83,84,85,86,87,88,89,90,91,92,93,94,95,96,97,98]),([65],[54,55,56,57,58,72,73,74,75,76,77,78,79,80,81,82,83,84,85,86,87,88,89,90,91,92,93,94,95,96,97,98]),([66],[54,55,56,57,58,62,63,79,80,81,82,83,84,85,86,87,88,89,90,91,92,93,94,95,96,97,98]),([67],[54,55,56,57,58,59,60,62,63,64,68,71,72,73,74,75,76,77,78,79,80,81,82,83,84,85,86,87,88,89,90,91,92,93,94,95,96,97,98]),([68],[54,55,56,57,58,59,60,62,63,64,67,71,72,73,74,75,76,77,78,79,80,81,82,83,84,85,86,87,88,89,90,91,92,93,94,95,96,97,98]),([69],[54,55,56,57,58,59,60,62,63,64,72,73,74,75,76,77,78,79,80,81,82,83,84,85,86,87,88,89,90,91,92,93,94,95,96,97,98]),([70],[54,55,56,57,58,59,60,62,63,64,79,80,81,82,83,84,85,86,87,88,89,90,91,92,93,94,95,96,97,98]),([71],[54,55,56,57,58,59,60,62,63,64,67,68,80,81,82,83,84,85,86,87,88,89,90,91,92,93,94,95,96,97,98]),([72],[54,55,56,57,58,59,60,61,62,63,64,65,67,68,69,75,76,77,78,79,80,81,82,83,84,85,86,87,88,89,90,91,92,93,94,95,96,97,98]),([73],[54,55,56,57,58,59,60,61,62,63,64,65,67,68,69,75,78,79,80,81,82,83,84,85,86,87,88,89,90,91,92,93,94,95,96,97,98]),([74],[54,55,56,57,58,59,60,61,62,63,64,65,67,68,69,75,80,81,82,83,84,85,86,87,88,89,90,91,92,93,94,95,96,97,98]),([75],[54,55,56,57,58,59,60,61,62,63,64,65,67,68,69,72,73,74,78,80,81,82,83,84,85,86,87,88,89,90,91,92,93,94,95,96,97,98]),([76],[54,55,56,57,58,59,60,61,62,63,64,65,67,68,69,72,87,88,89,90,91,92,93,94,95,96,97,98]),([77],[54,55,56,57,58,59,60,61,62,63,64,65,67,68,69,72,80,81,82,83,84,85,86,87,88,89,90,91,92,93,94,95,96,97,98]),([78],[54,55,56,57,58,59,60,61,62,63,64,65,67,68,69,72,73,75,87,88,89,90,91,92,93,94,95,96,97,98]),([79],[54,55,56,57,58,59,60,61,62,63,64,65,66,67,68,69,70,72,73,88,89,90,91,92,93,94,95,96,97,98]),([80],[54,55,56,57,58,59,60,61,62,63,64,65,66,67,68,69,70,71,72,73,74,75,77,83,84,85,86,87,88,89,90,91,92,93,94,95,96,97,98]),([81],[54,55,56,57,58,59,60,61,62,63,64,65,66,67,68,69,70,71,72,73,74,75,77,83,86,87,88,89,90,91,92,93,94,95,96,97,98]),([82],[54,55,56,57,58,59,60,61,62,63,64,65,66,67,68,69,70,71,72,73,74,75,77,83,88,89,90,91,92,93,94,95,96,97,98]),([83],[54,55,56,57,58,59,60,61,62,63,64,65,66,67,68,69,70,71,72,73,74,75,77,80,81,82,86,87,88,89,90,91,92,93,94,95,96,97,98]),([84],[54,55,56,57,58,59,60,61,62,63,64,65,66,67,68,69,70,71,72,73,74,75,77,80,88,89,90,91,92,93,94,95,96,97,98]),([85],[54,55,56,57,58,59,60,61,62,63,64,65,66,67,68,69,70,71,72,73,74,75,77,80]),([86],[54,55,56,57,58,59,60,61,62,63,64,65,66,67,68,69,70,71,72,73,74,75,77,80,81,83]),([87],[54,55,56,57,58,59,60,61,62,63,64,65,66,67,68,69,70,71,72,73,74,75,76,77,78,80,81,83]),([88],[54,55,56,57,58,59,60,61,62,63,64,65,66,67,68,69,70,71,72,73,74,75,76,77,78,79,80,81,82,83,84,91,92,93,94,95,96,97,98]),([89],[54,55,56,57,58,59,60,61,62,63,64,65,66,67,68,69,70,71,72,73,74,75,76,77,78,79,80,81,82,83,84,92,93,94,95,96,97,98]),([90],[54,55,56,57,58,59,60,61,62,63,64,65,66,67,68,69,70,71,72,73,74,75,76,77,78,79,80,81,82,83,84,93,94,95,96,97,98]),([91],[54,55,56,57,58,59,60,61,62,63,64,65,66,67,68,69,70,71,72,73,74,75,76,77,78,79,80,81,82,83,84,88,93,94,95,98]),([92],[54,55,56,57,58,59,60,61,62,63,64,65,66,67,68,69,70,71,72,73,74,75,76,77,78,79,80,81,82,83,84,88,89,93,94,95]),([93],[54,55,56,57,58,59,60,61,62,63,64,65,66,67,68,69,70,71,72,73,74,75,76,77,78,79,80,81,82,83,84,88,89,90,91,92,96,97,98]),([94],[54,55,56,57,58,59,60,61,62,63,64,65,66,67,68,69,70,71,72,73,74,75,76,77,78,79,80,81,82,83,84,88,89,90,91,92,97,98]),([95],[54,55,56,57,58,59,60,61,62,63,64,65,66,67,68,69,70,71,72,73,74,75,76,77,78,79,80,81,82,83,84,88,89,90,91,92,98]),([96],[54,55,56,57,58,59,60,61,62,63,64,65,66,67,68,69,70,71,72,73,74,75,76,77,78,79,80,81,82,83,84,88,89,90,93]),([97],[54,55,56,57,58,59,60,61,62,63,64,65,66,67,68,69,70,71,72,73,74,75,76,77,78,79,80,81,82,83,84,88,89,90,93,94]),([98],[54,55,56,57,58,59,60,61,62,63,64,65,66,67,68,69,70,71,72,73,74,75,76,77,78,79,80,81,82,83,84,88,89,90,91,93,94,95])]
theorem same17_eq (a:Warm):same17 a a=true:=by simp [same17,same16]
theorem saneOfW_of {w:Warm} (h:saneW w=true):saneOfW w=w:=by unfold saneOfW; rw [if_pos h]
theorem stepW_len (w:Warm) (adds:List Res) (gone:List Key):(stepW w adds gone).1.c.l.length≤64∧(stepW w adds gone).1.shown.length≤64:=by
 have e:stepW w adds gone=stepW (saneOfW w) adds gone:=by
  have:saneOfW (saneOfW w)=saneOfW w:=saneOfW_of (saneOfW_sane w)
  unfold stepW
  rw [this]
 have h:=stepW_keeps (saneOfW_sane w) adds gone
 rw [← e] at h
 exact ⟨saneW_len h,saneW_slen h⟩
theorem stepW_mem17 {w:Warm} {adds:List Res} {gone:List Key} {x:Res} (hx:x∈(stepW w adds gone).1.c.l∨x∈(stepW w adds gone).1.shown):x∈w.c.l∨x∈adds:=by
 have e:stepW w adds gone=stepW (saneOfW w) adds gone:=by
  have:saneOfW (saneOfW w)=saneOfW w:=saneOfW_of (saneOfW_sane w)
  unfold stepW
  rw [this]
 rw [e] at hx
 have h:=stepW_keeps (saneOfW_sane w) adds gone
 have hx:x∈(stepW (saneOfW w) adds gone).1.c.l:=hx.elim id (saneW_smem h)
 exact (stepW_mem (saneOfW_sane w) hx).imp saneOfW_mem id
theorem keys17_c (xs:List Key) (hl:Small xs.length):CallR Tryz.prog 16 [.slice false (avs xs),.slice false (avs xs)] (.val (.bool true)):=by
 have h:=keys3_c xs xs hl
 rw [decide_eq_true rfl] at h
 exact h
set_option maxHeartbeats 16000000 in
theorem warmIs_c (w_c_cap:Int) (w_c_l:List Res) (w_ready:Bool) (w_shown:List Res) (adds:List Res) (gone:List Key) (hl:Small w_c_l.length) (hs:∀ r∈w_c_l,SmRes r) (hl2:Small w_shown.length) (hs2:∀ r∈w_shown,SmRes r) (hla:Small adds.length) (ha:∀ r∈adds,SmRes r) (hg:Small gone.length) :
  CallR Tryz.prog 5 [.agg [.int .i64 w_c_cap,.slice false (avs w_c_l),.bool w_ready,.slice false (avs w_shown)],.slice false (avs adds),.slice false (avs gone)] (.val (.bool true)):=by
 have f1:=few4_c w_c_l hl hs
 have f2:=few4_c w_shown hl2 hs2
 have f3:=few4_c adds hla ha
 by_cases hf1:fewAll w_c_l=true
 rotate_left
 ·have hf1:fewAll w_c_l=false:=by simpa using hf1
  rw [hf1] at f1
  refine CallR.go3 (T:=T) Tryz.call5 Tryz.func5 rfl Tryz.ntmps5 (congrArg Array.toList Tryz.results5) (by decide) fun ts hn h0 h1 h2=>?_
  (repeat' (first
 | (with_reducible first|refine callX.by (f1) ?_|refine callX.by awake17_c ?_|refine callX.by (few4_c _ ?_ ?_) ?_|refine callX.by (warm1_c _ _ _ _) ?_|refine callX.by (cold_c _ _ _ _) ?_|refine callX.by (same17_c _ _ _ _ _ _ _ _ ?_ ?_ ?_ ?_) ?_|refine callX.by (saneW_c _ _ _ _ ?_ ?_ ?_ ?_) ?_|refine callX.by (sane17_c _ _ _ _ ?_ ?_ ?_ ?_) ?_|refine callX.by (warming_c _ _ _ _ ?_ ?_ ?_ ?_) ?_|refine callX.by (warming17_c _ _ _ _ ?_ ?_ ?_ ?_) ?_|refine callX.by (keys3_c _ _ ?_) ?_|refine callX.by (keys17_c _ ?_) ?_|refine callX.by (newW_c _) ?_|refine callX.by (new17_c _) ?_|assumption|(refine Qw hK _ ?_; clear hK K)|refine Qw ‹_› _ ?_|refine Qx ‹_› ?_|refine Qi fun K hK=>?_|refine Qj T fun K hK=>?_|refine Qk (id:=6) T mixed Wd24 (by kernel_rfl) fun K hK=>?_|refine Ql fun A B hA hB=>?_|refine Qn ?_|refine Qr ?_)
 | ((with_reducible first|apply Qy|apply Qz|apply QA)<;>intro hb<;>try simp only [nr] at hb)
 | simp only [go_sem,↓reduceIte,reduceIte,Qa,Qh,Qb,Qc,Qd,Qe,Qf,Qg,reduceCtorEq, *,-hs,-hs2,-ha,-f1,-f2,-f3]
 | with_reducible refine fun (bn:Bool) hbn=>?_))
 have hl80:=few_len16 hf1
 rw [hf1] at f1
 by_cases hf2:fewAll w_shown=true
 rotate_left
 ·have hf2:fewAll w_shown=false:=by simpa using hf2
  rw [hf2] at f2
  refine CallR.go3 (T:=T) Tryz.call5 Tryz.func5 rfl Tryz.ntmps5 (congrArg Array.toList Tryz.results5) (by decide) fun ts hn h0 h1 h2=>?_
  (repeat' (first
 | (with_reducible first|refine callX.by (f1) ?_|refine callX.by (f2) ?_|refine callX.by awake17_c ?_|refine callX.by (few4_c _ ?_ ?_) ?_|refine callX.by (warm1_c _ _ _ _) ?_|refine callX.by (cold_c _ _ _ _) ?_|refine callX.by (same17_c _ _ _ _ _ _ _ _ ?_ ?_ ?_ ?_) ?_|refine callX.by (saneW_c _ _ _ _ ?_ ?_ ?_ ?_) ?_|refine callX.by (sane17_c _ _ _ _ ?_ ?_ ?_ ?_) ?_|refine callX.by (warming_c _ _ _ _ ?_ ?_ ?_ ?_) ?_|refine callX.by (warming17_c _ _ _ _ ?_ ?_ ?_ ?_) ?_|refine callX.by (keys3_c _ _ ?_) ?_|refine callX.by (keys17_c _ ?_) ?_|refine callX.by (newW_c _) ?_|refine callX.by (new17_c _) ?_|assumption|(refine Qw hK _ ?_; clear hK K)|refine Qw ‹_› _ ?_|refine Qx ‹_› ?_|refine Qi fun K hK=>?_|refine Qj T fun K hK=>?_|refine Qk (id:=6) T mixed Wd24 (by kernel_rfl) fun K hK=>?_|refine Ql fun A B hA hB=>?_|refine Qn ?_|refine Qr ?_)
 | ((with_reducible first|apply Qy|apply Qz|apply QA)<;>intro hb<;>try simp only [nr] at hb)
 | simp only [go_sem,↓reduceIte,reduceIte,Qa,Qh,Qb,Qc,Qd,Qe,Qf,Qg,reduceCtorEq, *,-hs,-hs2,-ha,-f1,-f2,-f3]
 | with_reducible refine fun (bn:Bool) hbn=>?_))
 rw [hf2] at f2
 by_cases hf3:fewAll adds=true
 rotate_left
 ·have hf3:fewAll adds=false:=by simpa using hf3
  rw [hf3] at f3
  refine CallR.go3 (T:=T) Tryz.call5 Tryz.func5 rfl Tryz.ntmps5 (congrArg Array.toList Tryz.results5) (by decide) fun ts hn h0 h1 h2=>?_
  (repeat' (first
 | (with_reducible first|refine callX.by (f1) ?_|refine callX.by (f2) ?_|refine callX.by (f3) ?_|refine callX.by awake17_c ?_|refine callX.by (few4_c _ ?_ ?_) ?_|refine callX.by (warm1_c _ _ _ _) ?_|refine callX.by (cold_c _ _ _ _) ?_|refine callX.by (same17_c _ _ _ _ _ _ _ _ ?_ ?_ ?_ ?_) ?_|refine callX.by (saneW_c _ _ _ _ ?_ ?_ ?_ ?_) ?_|refine callX.by (sane17_c _ _ _ _ ?_ ?_ ?_ ?_) ?_|refine callX.by (warming_c _ _ _ _ ?_ ?_ ?_ ?_) ?_|refine callX.by (warming17_c _ _ _ _ ?_ ?_ ?_ ?_) ?_|refine callX.by (keys3_c _ _ ?_) ?_|refine callX.by (keys17_c _ ?_) ?_|refine callX.by (newW_c _) ?_|refine callX.by (new17_c _) ?_|assumption|(refine Qw hK _ ?_; clear hK K)|refine Qw ‹_› _ ?_|refine Qx ‹_› ?_|refine Qi fun K hK=>?_|refine Qj T fun K hK=>?_|refine Qk (id:=6) T mixed Wd24 (by kernel_rfl) fun K hK=>?_|refine Ql fun A B hA hB=>?_|refine Qn ?_|refine Qr ?_)
 | ((with_reducible first|apply Qy|apply Qz|apply QA)<;>intro hb<;>try simp only [nr] at hb)
 | simp only [go_sem,↓reduceIte,reduceIte,Qa,Qh,Qb,Qc,Qd,Qe,Qf,Qg,reduceCtorEq, *,-hs,-hs2,-ha,-f1,-f2,-f3]
 | with_reducible refine fun (bn:Bool) hbn=>?_))
 have ha80:=few_len16 hf3
 rw [hf3] at f3
 by_cases hgl:80 < gone.length
 ·have hgl':(80:Int) < (gone.length:Int):=by omega
  refine CallR.go3 (T:=T) Tryz.call5 Tryz.func5 rfl Tryz.ntmps5 (congrArg Array.toList Tryz.results5) (by decide) fun ts hn h0 h1 h2=>?_
  (repeat' (first
 | (with_reducible first|refine callX.by (f1) ?_|refine callX.by (f2) ?_|refine callX.by (f3) ?_|refine callX.by awake17_c ?_|refine callX.by (few4_c _ ?_ ?_) ?_|refine callX.by (warm1_c _ _ _ _) ?_|refine callX.by (cold_c _ _ _ _) ?_|refine callX.by (same17_c _ _ _ _ _ _ _ _ ?_ ?_ ?_ ?_) ?_|refine callX.by (saneW_c _ _ _ _ ?_ ?_ ?_ ?_) ?_|refine callX.by (sane17_c _ _ _ _ ?_ ?_ ?_ ?_) ?_|refine callX.by (warming_c _ _ _ _ ?_ ?_ ?_ ?_) ?_|refine callX.by (warming17_c _ _ _ _ ?_ ?_ ?_ ?_) ?_|refine callX.by (keys3_c _ _ ?_) ?_|refine callX.by (keys17_c _ ?_) ?_|refine callX.by (newW_c _) ?_|refine callX.by (new17_c _) ?_|assumption|(refine Qw hK _ ?_; clear hK K)|refine Qw ‹_› _ ?_|refine Qx ‹_› ?_|refine Qi fun K hK=>?_|refine Qj T fun K hK=>?_|refine Qk (id:=6) T mixed Wd24 (by kernel_rfl) fun K hK=>?_|refine Ql fun A B hA hB=>?_|refine Qn ?_|refine Qr ?_)
 | ((with_reducible first|apply Qy|apply Qz|apply QA)<;>intro hb<;>try simp only [nr] at hb)
 | simp only [go_sem,↓reduceIte,reduceIte,Qa,Qh,Qb,Qc,Qd,Qe,Qf,Qg,reduceCtorEq, *,-hs,-hs2,-ha,-f1,-f2,-f3]
 | with_reducible refine fun (bn:Bool) hbn=>?_))
 have hgl':¬ (80:Int) < (gone.length:Int):=by omega
 have w0:=warm1_c w_c_cap w_c_l w_ready w_shown
 have w1:=stepW_c w_c_cap w_c_l w_ready w_shown adds gone (by omega) hs hl2 hs2 hg ha
 have w2:=step17_c w_c_cap w_c_l w_ready w_shown adds gone (by omega) hs hl2 hs2 hg ha
 obtain ⟨hml,hml2⟩:=stepW_len (⟨⟨w_c_cap,w_c_l⟩,w_ready,w_shown⟩:Warm) adds gone
 have hmm:∀ r,(r∈(stepW (⟨⟨w_c_cap,w_c_l⟩,w_ready,w_shown⟩:Warm) adds gone).1.c.l∨r∈(stepW (⟨⟨w_c_cap,w_c_l⟩,w_ready,w_shown⟩:Warm) adds gone).1.shown)→SmRes r:=fun r hr=>(stepW_mem17 hr).elim (hs r) (ha r)
 generalize (stepW (⟨⟨w_c_cap,w_c_l⟩,w_ready,w_shown⟩:Warm) adds gone).1=d at *
 generalize (stepW (⟨⟨w_c_cap,w_c_l⟩,w_ready,w_shown⟩:Warm) adds gone).2.1=c at *
 generalize (stepW (⟨⟨w_c_cap,w_c_l⟩,w_ready,w_shown⟩:Warm) adds gone).2.2=e at *
 have w3:=cold_c d.c.cap d.c.l d.ready d.shown
 have w4:=same17_c d.c.cap d.c.l d.ready d.shown d.c.cap d.c.l d.ready d.shown (by unfold Small; omega) (fun r hr=>hmm r (.inl hr)) (by unfold Small; omega) (fun r hr=>hmm r (.inr hr))
 rw [same17_eq] at w4
 have w5:=saneW_c w_c_cap w_c_l w_ready w_shown (by omega) hs hl2 hs2
 have w6:=sane17_c w_c_cap w_c_l w_ready w_shown (by omega) hs hl2 hs2
 generalize saneW (⟨⟨w_c_cap,w_c_l⟩,w_ready,w_shown⟩:Warm)=sn at *
 have w7:=(warming_c w_c_cap w_c_l w_ready w_shown (by omega) hs hl2 hs2).frz
 have w8:=warming17_c w_c_cap w_c_l w_ready w_shown (by omega) hs hl2 hs2
 have hol:(orphans (saneOfW (⟨⟨w_c_cap,w_c_l⟩,w_ready,w_shown⟩:Warm)).c.l).length≤w_c_l.length:=by
  have h1:=saneOfW_len (⟨⟨w_c_cap,w_c_l⟩,w_ready,w_shown⟩:Warm)
  have h2:(orphans (saneOfW (⟨⟨w_c_cap,w_c_l⟩,w_ready,w_shown⟩:Warm)).c.l).length≤((saneOfW (⟨⟨w_c_cap,w_c_l⟩,w_ready,w_shown⟩:Warm)).c.l.map keyOf).length:=List.length_filter_le _ _
  rw [List.length_map] at h2
  exact Nat.le_trans h2 h1
 generalize orphans (saneOfW (⟨⟨w_c_cap,w_c_l⟩,w_ready,w_shown⟩:Warm)).c.l=O at *
 have w9:=keys17_c O (by unfold Small; omega)
 have w10:=newW_c w_c_cap
 have w11:=new17_c w_c_cap
 have w12:CallR Tryz.prog 47 [.agg [.int .i64 (bnd w_c_cap),.slice false [],.bool false,.slice false []]] (.val (.agg [.int .i64 (bnd w_c_cap),.slice false [],.bool false,.slice false []])):=cold_c (bnd w_c_cap) [] false []
 have w13:CallR Tryz.prog 46 [.agg [.int .i64 (bnd w_c_cap),.slice false [],.bool false,.slice false []],.agg [.int .i64 (bnd w_c_cap),.slice false [],.bool false,.slice false []]] (.val (.bool true)):=by
  have h:=same17_c (bnd w_c_cap) [] false [] (bnd w_c_cap) [] false [] (by simp [Small]) (by simp) (by simp [Small]) (by simp)
  rw [same17_eq] at h
  exact h
 generalize bnd w_c_cap=bc at *
 clear hs hs2 ha hmm
 refine CallR.go3 (T:=T) Tryz.call5 Tryz.func5 rfl Tryz.ntmps5 (congrArg Array.toList Tryz.results5) (by decide) fun ts hn h0 h1 h2=>?_
 (repeat' (first
 | (with_reducible first|refine callX.by (f1) ?_|refine callX.by (f2) ?_|refine callX.by (f3) ?_|refine callX.by (w0) ?_|refine callX.by (w1) ?_|refine callX.by (w2) ?_|refine callX.by (w3) ?_|refine callX.by (w4) ?_|refine callX.by (w5) ?_|refine callX.by (w6) ?_|refine callX.by (w7) ?_|refine callX.by (w8) ?_|refine callX.by (w9) ?_|refine callX.by (w10) ?_|refine callX.by (w12) ?_|refine callX.by (w11) ?_|refine callX.by (w13) ?_|refine callX.by awake17_c ?_|refine callX.by (few4_c _ ?_ ?_) ?_|refine callX.by (warm1_c _ _ _ _) ?_|refine callX.by (cold_c _ _ _ _) ?_|refine callX.by (same17_c _ _ _ _ _ _ _ _ ?_ ?_ ?_ ?_) ?_|refine callX.by (saneW_c _ _ _ _ ?_ ?_ ?_ ?_) ?_|refine callX.by (sane17_c _ _ _ _ ?_ ?_ ?_ ?_) ?_|refine callX.by (warming_c _ _ _ _ ?_ ?_ ?_ ?_) ?_|refine callX.by (warming17_c _ _ _ _ ?_ ?_ ?_ ?_) ?_|refine callX.by (keys3_c _ _ ?_) ?_|refine callX.by (keys17_c _ ?_) ?_|refine callX.by (newW_c _) ?_|refine callX.by (new17_c _) ?_|assumption|(refine Qw hK _ ?_; clear hK K)|refine Qw ‹_› _ ?_|refine Qx ‹_› ?_|refine Qi fun K hK=>?_|refine Qj T fun K hK=>?_|refine Qk (id:=6) T mixed Wd24 (by kernel_rfl) fun K hK=>?_|refine Ql fun A B hA hB=>?_|refine Qn ?_|refine Qr ?_)
 | ((with_reducible first|apply Qy|apply Qz|apply QA)<;>intro hb<;>try simp only [nr] at hb)
 | simp only [go_sem,↓reduceIte,reduceIte,Qa,Qh,Qb,Qc,Qd,Qe,Qf,Qg,reduceCtorEq, *,-f1,-f2,-f3,-w0,-w1,-w2,-w3,-w4,-w5,-w6,-w7,-w8,-w9,-w10,-w11,-w12,-w13]
 | with_reducible refine fun (bn:Bool) hbn=>?_))
 all_goals trace_state
end Go.Proofs.YtmjkjmoeicnbnaaGreatDoor.Lg
