/- Parts of the proof, one behind the other. -/
import Derived.Test.YtmjkjmoeicnbnaaGreatDoorG23
namespace Go.Proofs.YtmjkjmoeicnbnaaGreatDoor.Lg
set_option maxRecDepth 100000
set_option linter.unusedVariables false
set_option linter.unusedSimpArgs false
open Go
open Nat renaming reduceEqDiff → Qa, reduceLT → Qb, reduceLeDiff → Qc, reduceAdd → Qd, reduceMul → Qe, reduceSub → Qf, reduceBEq → Qg
open String renaming reduceEq → Qh
open SpecC renaming seqW → Qi, regW → Qj, drawW → Qk, condW → Ql, block → Qm, skip → Qn, label → Qo, exit → Qp, ret → Qr, loopF → Qs, regMidW → Qu
open NxK renaming out → Qw
open Nx renaming out → Qx
open condK renaming split → Qy
open gK renaming split_t → Qz, split_f → QA
@[go_sem] def Wd16:List (List Nat×List Nat):=[([4],[7,8,9,10,11,12,13,14,15,16,17,18,19]),([5],[8,9,10,11,12,13,14,15,16,17,18,19]),([6],[8,10,11,12,13,14,15,16,17,18,19]),([7],[4,8,11,12,13,14,15,16,17,18,19]),([8],[4,5,6,7,11,12,13,14,15,16,17,18,19]),([9],[4,5]),([10],[4,5,6]),([11],[4,5,6,7,8,14,15,16,17,18,19]),([12],[4,5,6,7,8,15,16,17,18,19]),([13],[4,5,6,7,8,15,17,18,19]),([14],[4,5,6,7,8,11,15,18,19]),([15],[4,5,6,7,8,11,12,13,14,18,19]),([16],[4,5,6,7,8,11,12,19]),([17],[4,5,6,7,8,11,12,13]),([18],[4,5,6,7,8,11,12,13,14,15]),([19],[4,5,6,7,8,11,12,13,14,15,16])]
@[go_sem] abbrev jobAV (D:List Res) (G:List Key) (M:KS) (a:List Res) (H:List Key):AV:=.ro [.slice false (avs D),.slice false (avs G),.mp (mks M) (mvs M),.slice false (avs a),.slice false (avs H)]
theorem empty_c (s_kind:Int) (s_adds:List Res) (s_gone:List Key) (hA:Small s_adds.length) (hG:Small s_gone.length):CallR Tryz.prog 98 [.agg [.int .i64 s_kind,.slice false (avs s_adds),.slice false (avs s_gone)]] (.val (.bool (!fullP (⟨s_kind,s_adds,s_gone⟩:Step)))):=by
 have hw:IntKind.i64.wrap ((s_adds.length:Int)+(s_gone.length:Int))=((s_adds.length+s_gone.length:Nat):Int):=by
  rw [← Int.natCast_add]; exact IntWalk.i64_in _ (by unfold Small at hA hG; omega)
 refine CallR.go1 (T:=T) Tryz.call98 Tryz.func98 rfl Tryz.ntmps98 (congrArg Array.toList Tryz.results98) (by decide) fun ts hn h0=>?_
 (repeat' (first
 | (with_reducible first|assumption|(refine Qw hK _ ?_; clear hK K)|refine Qw ‹_› _ ?_|refine Qx ‹_› ?_|refine Qi fun K hK=>?_|refine Qj T fun K hK=>?_|refine Ql fun A B hA hB=>?_|refine Qn ?_|refine Qr ?_)
 | ((with_reducible first|apply Qy|apply Qz|apply QA)<;>intro hb<;>try simp only [nr] at hb)
 | simp only [go_sem,↓reduceIte,reduceIte,Qa,Qh,Qb,Qc,Qd,Qe,Qf,Qg,reduceCtorEq, *]
 | with_reducible refine fun (bn:Bool) hbn=>?_))
 all_goals (unfold fullP; rw [Bool.eq_iff_iff]; simp; try omega)
theorem late_c (D:List Res) (G:List Key) (M:KS) (a:List Res) (H:List Key) (k:Int) (hD:Small D.length):CallR Tryz.prog 143 [jobAV D G M a H,.int .i64 k] (.val (.agg [.int .i64 k,.slice false (avs (tkind D k)),.slice false []])):=by
 refine CallR.go2 (T:=T) Tryz.call143 Tryz.func143 rfl Tryz.ntmps143 (congrArg Array.toList Tryz.results143) (by decide) fun ts hn h0 h1=>?_
 (repeat' (first
 | (with_reducible first|refine callX.by (tkind_c _ _ ?_) ?_|assumption|(refine Qw hK _ ?_; clear hK K)|refine Qw ‹_› _ ?_|refine Qx ‹_› ?_|refine Qi fun K hK=>?_|refine Qj T fun K hK=>?_|refine Ql fun A B hA hB=>?_|refine Qn ?_|refine Qr ?_)
 | ((with_reducible first|apply Qy|apply Qz|apply QA)<;>intro hb<;>try simp only [nr] at hb)
 | simp only [go_sem,↓reduceIte,reduceIte,Qa,Qh,Qb,Qc,Qd,Qe,Qf,Qg,reduceCtorEq, *]
 | with_reducible refine fun (bn:Bool) hbn=>?_))
 all_goals trace_state
theorem early1_c (r_kind:Int) (r_name:List UInt8) (r_ver:Int) (r_port:Int) (r_to:List UInt8) (r_rules:List Rule) (r_hosts:List Int) (D:List Res) (G:List Key) (M:KS) (a:List Res) (H:List Key):CallR Tryz.prog 181 [.agg [.int .i64 r_kind,.str r_name,.int .i64 r_ver,.int .i64 r_port,.str r_to,.slice false (avs r_rules),.slice false (avs r_hosts)],.ro [jobAV D G M a H]] (.val (.bool (!isIn M (keyOf (⟨r_kind,r_name,r_ver,r_port,r_to,r_rules,r_hosts⟩:Res))))):=by
 refine CallR.go2 (T:=T) Tryz.call181 Tryz.func181 rfl Tryz.ntmps181 (congrArg Array.toList Tryz.results181) (by decide) fun ts hn h0 h1=>?_
 (repeat' (first
 | (with_reducible first|refine callX.by (rkey_c _ _ _ _ _ _ _) ?_|assumption|(refine Qw hK _ ?_; clear hK K)|refine Qw ‹_› _ ?_|refine Qx ‹_› ?_|refine Qi fun K hK=>?_|refine Qj T fun K hK=>?_|refine Qk (id:=1) T mixed [([4],[7,8,9]),([5],[8,9]),([6],[8,9]),([7],[4,8,9]),([8],[4,5,6,7]),([9],[4,5,6,7])] (by kernel_rfl) fun K hK=>?_|refine Ql fun A B hA hB=>?_|refine Qn ?_|refine Qr ?_)
 | ((with_reducible first|apply Qy|apply Qz|apply QA)<;>intro hb<;>try simp only [nr] at hb)
 | simp only [go_sem,↓reduceIte,reduceIte,Qa,Qh,Qb,Qc,Qd,Qe,Qf,Qg,reduceCtorEq, *]
 | with_reducible refine fun (bn:Bool) hbn=>?_))
 all_goals rfl
theorem caps_job (D:List Res) (G:List Key) (M:KS) (a:List Res) (H:List Key):Caps [.ro [jobAV D G M a H]]:=⟨by simp only [go_sem,Bool.and_self],by simp only [go_sem]⟩
theorem early_c (D:List Res) (G:List Key) (M:KS) (a:List Res) (H:List Key) (k:Int) (hD:Small D.length):CallR Tryz.prog 141 [jobAV D G M a H,.int .i64 k] (.val (.agg [.int .i64 k,.slice false (avs ((tkind D k).filter fun r=>isIn M (keyOf r))),.slice false []])):=by
 have hk:Small (tkind D k).length:=Nat.le_trans (List.length_filter_le _ _) hD
 have hd:=deleteFRes_c 181 [.ro [jobAV D G M a H]] (caps_job D G M a H) (fun r=>!isIn M (keyOf r)) (tkind D k) (fun x _=>early1_c x.kind x.name x.ver x.port x.to' x.rules' x.hosts D G M a H) hk
 simp only [Bool.not_not] at hd
 refine CallR.go2 (T:=T) Tryz.call141 Tryz.func141 rfl Tryz.ntmps141 (congrArg Array.toList Tryz.results141) (by decide) fun ts hn h0 h1=>?_
 (repeat' (first
 | (with_reducible refine callX.mv ?_ ?_ ?_ (hd); (focus (simp only [go_sem,↓reduceIte,reduceIte,Qa,Qh,Qb,Qc,Qd,Qe,Qf,Qg,reduceCtorEq, *,-hd]; first|done|rfl)); (focus (simp only [go_sem,↓reduceIte,reduceIte,Qa,Qh,Qb,Qc,Qd,Qe,Qf,Qg,reduceCtorEq, *,-hd]; first|done|rfl)))
 | with_reducible refine callX.by (tkind_c _ _ ?_) ?_
 | (with_reducible refine callX.mv ?_ ?_ ?_ (deleteFRes_c ?_ ?_ ?_ ?_ ?_ ?_ ?_); (focus (simp only [go_sem,↓reduceIte,reduceIte,Qa,Qh,Qb,Qc,Qd,Qe,Qf,Qg,reduceCtorEq, *,-hd]; first|done|rfl)); (focus (simp only [go_sem,↓reduceIte,reduceIte,Qa,Qh,Qb,Qc,Qd,Qe,Qf,Qg,reduceCtorEq, *,-hd]; first|done|rfl)))
 | (with_reducible first|assumption|(refine Qw hK _ ?_; clear hK K)|refine Qw ‹_› _ ?_|refine Qx ‹_› ?_|refine Qi fun K hK=>?_|refine Qj T fun K hK=>?_|refine Ql fun A B hA hB=>?_|refine Qn ?_|refine Qr ?_)
 | ((with_reducible first|apply Qy|apply Qz|apply QA)<;>intro hb<;>try simp only [nr] at hb)
 | simp only [go_sem,↓reduceIte,reduceIte,Qa,Qh,Qb,Qc,Qd,Qe,Qf,Qg,reduceCtorEq, *,-hd]
 | with_reducible refine fun (bn:Bool) hbn=>?_))
 all_goals trace_state
theorem off1_c (x_kind:Int) (x_name:List UInt8) (k:Int):CallR Tryz.prog 217 [.agg [.int .i64 x_kind,.str x_name],.ro [.int .i64 k]] (.val (.bool (!decide (x_kind=k)))):=by
 refine CallR.go2 (T:=T) Tryz.call217 Tryz.func217 rfl Tryz.ntmps217 (congrArg Array.toList Tryz.results217) (by decide) fun ts hn h0 h1=>?_
 (repeat' (first
 | (with_reducible first|assumption|(refine Qw hK _ ?_; clear hK K)|refine Qw ‹_› _ ?_|refine Qx ‹_› ?_|refine Qi fun K hK=>?_|refine Qj T fun K hK=>?_|refine Ql fun A B hA hB=>?_|refine Qn ?_|refine Qr ?_)
 | ((with_reducible first|apply Qy|apply Qz|apply QA)<;>intro hb<;>try simp only [nr] at hb)
 | simp only [go_sem,↓reduceIte,reduceIte,Qa,Qh,Qb,Qc,Qd,Qe,Qf,Qg,reduceCtorEq, *]
 | with_reducible refine fun (bn:Bool) hbn=>?_))
 all_goals trace_state
theorem off_s (D:List Res) (G:List Key) (M:KS) (a:List Res) (H:List Key) (k:Int) (hG:Small G.length):CallS Tryz.prog 182 [jobAV D G M a H,.int .i64 k] k 2 (avs (offK G k)):=by
 have hd:=deleteFKey_c 217 [.ro [.int .i64 k]] (caps_int k) (fun x=>!decide (x.kind=k)) G (fun x _=>off1_c x.kind x.name k) hG
 simp only [Bool.not_not] at hd
 have e:G.filter (fun x=>decide (x.kind=k))=offK G k:=rfl
 rw [e] at hd
 refine CallS.go (T:=T) Tryz.call182 Tryz.func182 rfl Tryz.ntmps182 (congrArg Array.toList Tryz.results182) (Nat.le_of_ble_eq_true rfl) fun ts hn ⟨h0,h1,_⟩=>?_
 (repeat' (first
 | (with_reducible refine callX.mv ?_ ?_ ?_ (hd); (focus (simp only [go_sem,↓reduceIte,reduceIte,Qa,Qh,Qb,Qc,Qd,Qe,Qf,Qg,reduceCtorEq, *,-hd,-e]; first|done|rfl)); (focus (simp only [go_sem,↓reduceIte,reduceIte,Qa,Qh,Qb,Qc,Qd,Qe,Qf,Qg,reduceCtorEq, *,-hd,-e]; first|done|rfl)))
 | with_reducible refine callX.by (cloneKey_c _ _ ?_) ?_
 | (with_reducible refine callX.mv ?_ ?_ ?_ (deleteFKey_c ?_ ?_ ?_ ?_ ?_ ?_ ?_); (focus (simp only [go_sem,↓reduceIte,reduceIte,Qa,Qh,Qb,Qc,Qd,Qe,Qf,Qg,reduceCtorEq, *,-hd,-e]; first|done|rfl)); (focus (simp only [go_sem,↓reduceIte,reduceIte,Qa,Qh,Qb,Qc,Qd,Qe,Qf,Qg,reduceCtorEq, *,-hd,-e]; first|done|rfl)))
 | (with_reducible first|assumption|(refine Qw hK _ ?_; clear hK K)|refine Qw ‹_› _ ?_|refine Qx ‹_› ?_|refine Qi fun K hK=>?_|refine Qj T fun K hK=>?_|refine Ql fun A B hA hB=>?_|refine Qn ?_|refine Qr ?_)
 | ((with_reducible first|apply Qy|apply Qz|apply QA)<;>intro hb<;>try simp only [nr] at hb)
 | simp only [go_sem,↓reduceIte,reduceIte,Qa,Qh,Qb,Qc,Qd,Qe,Qf,Qg,reduceCtorEq, *,-hd,-e]
 | with_reducible refine fun (bn:Bool) hbn=>?_))
 all_goals trace_state
theorem off_c (D:List Res) (G:List Key) (M:KS) (a:List Res) (H:List Key) (k:Int) (hG:Small G.length):CallR Tryz.prog 182 [jobAV D G M a H,.int .i64 k] (.val (.agg [.int .i64 k,.slice false [],.slice false (avs (offK G k))])):=by
 have hd:=deleteFKey_c 217 [.ro [.int .i64 k]] (caps_int k) (fun x=>!decide (x.kind=k)) G (fun x _=>off1_c x.kind x.name k) hG
 simp only [Bool.not_not] at hd
 have e:G.filter (fun x=>decide (x.kind=k))=offK G k:=rfl
 rw [e] at hd
 refine CallR.go2 (T:=T) Tryz.call182 Tryz.func182 rfl Tryz.ntmps182 (congrArg Array.toList Tryz.results182) (by decide) fun ts hn h0 h1=>?_
 (repeat' (first
 | (with_reducible refine callX.mv ?_ ?_ ?_ (hd); (focus (simp only [go_sem,↓reduceIte,reduceIte,Qa,Qh,Qb,Qc,Qd,Qe,Qf,Qg,reduceCtorEq, *,-hd,-e]; first|done|rfl)); (focus (simp only [go_sem,↓reduceIte,reduceIte,Qa,Qh,Qb,Qc,Qd,Qe,Qf,Qg,reduceCtorEq, *,-hd,-e]; first|done|rfl)))
 | with_reducible refine callX.by (cloneKey_c _ _ ?_) ?_
 | (with_reducible refine callX.mv ?_ ?_ ?_ (deleteFKey_c ?_ ?_ ?_ ?_ ?_ ?_ ?_); (focus (simp only [go_sem,↓reduceIte,reduceIte,Qa,Qh,Qb,Qc,Qd,Qe,Qf,Qg,reduceCtorEq, *,-hd,-e]; first|done|rfl)); (focus (simp only [go_sem,↓reduceIte,reduceIte,Qa,Qh,Qb,Qc,Qd,Qe,Qf,Qg,reduceCtorEq, *,-hd,-e]; first|done|rfl)))
 | (with_reducible first|assumption|(refine Qw hK _ ?_; clear hK K)|refine Qw ‹_› _ ?_|refine Qx ‹_› ?_|refine Qi fun K hK=>?_|refine Qj T fun K hK=>?_|refine Ql fun A B hA hB=>?_|refine Qn ?_|refine Qr ?_)
 | ((with_reducible first|apply Qy|apply Qz|apply QA)<;>intro hb<;>try simp only [nr] at hb)
 | simp only [go_sem,↓reduceIte,reduceIte,Qa,Qh,Qb,Qc,Qd,Qe,Qf,Qg,reduceCtorEq, *,-hd,-e]
 | with_reducible refine fun (bn:Bool) hbn=>?_))
 all_goals trace_state
theorem free1_c (x_kind:Int) (x_name:List UInt8) (D:List Res) (G:List Key) (M:KS) (a:List Res) (H:List Key) (ha:a.length≤65536) (hs:∀ r∈a,SmRes r) (hH:Small H.length):CallR Tryz.prog 183 [.agg [.int .i64 x_kind,.str x_name],.ro [jobAV D G M a H]] (.val (.bool (decide ((⟨x_kind,x_name⟩:Key)∈H) || decide (0 < (referrers a (⟨x_kind,x_name⟩:Key)).length)))):=by
 have w1:=referrers_c a x_kind x_name ha hs
 have w2:=containsKey_c H x_kind x_name hH
 have e:(H.any fun y=>decide ((⟨x_kind,x_name⟩:Key)=y))=decide ((⟨x_kind,x_name⟩:Key)∈H):=by rw [Bool.eq_iff_iff]; simp
 rw [e] at w2
 have hRl:(referrers a (⟨x_kind,x_name⟩:Key)).length≤a.length:=by unfold referrers; rw [List.length_map]; exact List.length_filter_le _ _
 clear e hs
 generalize referrers a (⟨x_kind,x_name⟩:Key)=R at *
 by_cases hm:(⟨x_kind,x_name⟩:Key)∈H
 ·rw [decide_eq_true hm] at w2 ⊢
  refine CallR.go2 (T:=T) Tryz.call183 Tryz.func183 rfl Tryz.ntmps183 (congrArg Array.toList Tryz.results183) (by decide) fun ts hn h0 h1=>?_
  (repeat' (first
 | (with_reducible first|refine callX.by (w1) ?_|refine callX.by (w2) ?_|refine callX.by (containsKey_c _ _ _ ?_) ?_|refine callX.by (referrers_c _ _ _ ?_ ?_) ?_|assumption|(refine Qw hK _ ?_; clear hK K)|refine Qw ‹_› _ ?_|refine Qx ‹_› ?_|refine Qi fun K hK=>?_|refine Qj T fun K hK=>?_|refine Qk (id:=1) T mixed Wd16 (by kernel_rfl) fun K hK=>?_|refine Ql fun A B hA hB=>?_|refine Qn ?_|refine Qr ?_)
 | ((with_reducible first|apply Qy|apply Qz|apply QA)<;>intro hb<;>try simp only [nr] at hb)
 | simp only [go_sem,↓reduceIte,reduceIte,Qa,Qh,Qb,Qc,Qd,Qe,Qf,Qg,reduceCtorEq, *,-w1,-w2,-hm]
 | with_reducible refine fun (bn:Bool) hbn=>?_))
  all_goals trace_state
 ·rw [decide_eq_false hm] at w2 ⊢
  refine CallR.go2 (T:=T) Tryz.call183 Tryz.func183 rfl Tryz.ntmps183 (congrArg Array.toList Tryz.results183) (by decide) fun ts hn h0 h1=>?_
  (repeat' (first
 | (with_reducible first|refine callX.by (w1) ?_|refine callX.by (w2) ?_|refine callX.by (containsKey_c _ _ _ ?_) ?_|refine callX.by (referrers_c _ _ _ ?_ ?_) ?_|assumption|(refine Qw hK _ ?_; clear hK K)|refine Qw ‹_› _ ?_|refine Qx ‹_› ?_|refine Qi fun K hK=>?_|refine Qj T fun K hK=>?_|refine Qk (id:=1) T mixed Wd16 (by kernel_rfl) fun K hK=>?_|refine Ql fun A B hA hB=>?_|refine Qn ?_|refine Qr ?_)
 | ((with_reducible first|apply Qy|apply Qz|apply QA)<;>intro hb<;>try simp only [nr] at hb)
 | simp only [go_sem,↓reduceIte,reduceIte,Qa,Qh,Qb,Qc,Qd,Qe,Qf,Qg,reduceCtorEq, *,-w1,-w2,-hm]
 | with_reducible refine fun (bn:Bool) hbn=>?_))
  all_goals (rw [Bool.eq_iff_iff]; simp; try omega)
theorem free_c (D:List Res) (G:List Key) (M:KS) (a:List Res) (H:List Key) (k:Int) (hG:Small G.length) (ha:a.length≤65536) (hs:∀ r∈a,SmRes r) (hH:Small H.length):CallR Tryz.prog 144 [jobAV D G M a H,.int .i64 k] (.val (.agg [.int .i64 k,.slice false [],.slice false (avs (freeK a H G k))])):=by
 have w1:=off_s D G M a H k hG
 have hk:Small (offK G k).length:=Nat.le_trans (List.length_filter_le _ _) hG
 have hd:=deleteFKey_c 183 [.ro [jobAV D G M a H]] (caps_job D G M a H) (fun x=>decide (x∈H) || decide (0 < (referrers a x).length)) (offK G k) (fun x _=>free1_c x.kind x.name D G M a H ha hs hH) hk
 have e:(offK G k).filter (fun x=>!(decide (x∈H) || decide (0 < (referrers a x).length)))=freeK a H G k:=rfl
 rw [e] at hd
 clear hs e
 refine CallR.go2 (T:=T) Tryz.call144 Tryz.func144 rfl Tryz.ntmps144 (congrArg Array.toList Tryz.results144) (by decide) fun ts hn h0 h1=>?_
 (repeat' (first
 | (with_reducible first|refine Qu T 2 (id:=1) rfl rfl fun K hK=>?_|refine fun (K2:TS→Prop) (hK2:NxK _ K2)=>?_|refine SpecO.callS rfl rfl ?_ w1 rfl ?_ ?_|refine Qw hK2 _ ?_|refine fun (K3:TS→Prop) (hK3:NxK _ K3)=>?_)
 | (with_reducible refine callX.mv ?_ ?_ ?_ (hd); (focus (simp only [go_sem,↓reduceIte,reduceIte,Qa,Qh,Qb,Qc,Qd,Qe,Qf,Qg,reduceCtorEq, *,-w1,-hd]; first|done|rfl)); (focus (simp only [go_sem,↓reduceIte,reduceIte,Qa,Qh,Qb,Qc,Qd,Qe,Qf,Qg,reduceCtorEq, *,-w1,-hd]; first|done|rfl)))
 | with_reducible refine callX.by (off_c _ _ _ _ _ _ ?_) ?_
 | (with_reducible refine callX.mv ?_ ?_ ?_ (deleteFKey_c ?_ ?_ ?_ ?_ ?_ ?_ ?_); (focus (simp only [go_sem,↓reduceIte,reduceIte,Qa,Qh,Qb,Qc,Qd,Qe,Qf,Qg,reduceCtorEq, *,-w1,-hd]; first|done|rfl)); (focus (simp only [go_sem,↓reduceIte,reduceIte,Qa,Qh,Qb,Qc,Qd,Qe,Qf,Qg,reduceCtorEq, *,-w1,-hd]; first|done|rfl)))
 | (with_reducible first|assumption|(refine Qw hK _ ?_; clear hK K)|refine Qw ‹_› _ ?_|refine Qx ‹_› ?_|refine Qi fun K hK=>?_|refine Qj T fun K hK=>?_|refine Ql fun A B hA hB=>?_|refine Qn ?_|refine Qr ?_)
 | ((with_reducible first|apply Qy|apply Qz|apply QA)<;>intro hb<;>try simp only [nr] at hb)
 | simp only [go_sem,↓reduceIte,reduceIte,Qa,Qh,Qb,Qc,Qd,Qe,Qf,Qg,reduceCtorEq, *,-w1,-hd]
 | with_reducible refine fun (bn:Bool) hbn=>?_))
 all_goals trace_state
theorem doors_c (D:List Res) (G:List Key) (M:KS) (a:List Res) (H:List Key) (k:Int) (hD:Small D.length) (hG:Small G.length):CallR Tryz.prog 142 [jobAV D G M a H,.int .i64 k] (.val (.agg [.int .i64 k,.slice false (avs (tkind D k)),.slice false (avs (offK G k))])):=by
 have w1:=late_c D G M a H k hD
 have w2:=off_c D G M a H k hG
 refine CallR.go2 (T:=T) Tryz.call142 Tryz.func142 rfl Tryz.ntmps142 (congrArg Array.toList Tryz.results142) (by decide) fun ts hn h0 h1=>?_
 (repeat' (first
 | (with_reducible first|refine callX.by (w1) ?_|refine callX.by (w2) ?_|refine callX.by (late_c _ _ _ _ _ _ ?_) ?_|refine callX.by (off_c _ _ _ _ _ _ ?_) ?_|assumption|(refine Qw hK _ ?_; clear hK K)|refine Qw ‹_› _ ?_|refine Qx ‹_› ?_|refine Qi fun K hK=>?_|refine Qj T fun K hK=>?_|refine Ql fun A B hA hB=>?_|refine Qn ?_|refine Qr ?_)
 | ((with_reducible first|apply Qy|apply Qz|apply QA)<;>intro hb<;>try simp only [nr] at hb)
 | simp only [go_sem,↓reduceIte,reduceIte,Qa,Qh,Qb,Qc,Qd,Qe,Qf,Qg,reduceCtorEq, *,-w1,-w2]
 | with_reducible refine fun (bn:Bool) hbn=>?_))
 all_goals trace_state
@[go_sem] def Wd17:List (List Nat×List Nat):=[([34],[37,38,39]),([35],[38,39]),([36],[38,39]),([37],[34,38,39]),([38],[34,35,36,37]),([39],[34,35,36,37])]
abbrev ReachOk (ys:List Res):Prop:=CallR Tryz.prog 22 [.slice false (avs ys)] (.own 7 (avs (reachR ys)))
theorem begin_c (xs ys:List Res) (H:List Key) (hl:Small xs.length) (hl2:Small ys.length) (hs:∀ r∈xs,SmRes r) (hre:ReachOk ys):CallR Tryz.prog 96 [.slice false (avs xs),.slice false (avs ys),.slice false (avs H)] (.val (jobAV (diffA xs ys) (diffG xs ys) (ofR (reachR ys) []) xs H)):=by
 have w1:=diff_c xs ys hl hl2 hs
 have w2:=CallR.frz hre
 have hRl:=reachR_len ys
 clear hre hs
 generalize diffA xs ys=D at *
 generalize diffG xs ys=G at *
 generalize reachR ys=R at *
 have hRs:Small R.length:=by unfold Small at *; omega
 refine CallR.go3 (T:=T) Tryz.call96 Tryz.func96 rfl Tryz.ntmps96 (congrArg Array.toList Tryz.results96) (by decide) fun ts hn h0 h1 h2=>?_
 (repeat' (first
 | (with_reducible first|refine callX.by (w1) ?_|refine callX.by (w2) ?_|refine callX.by (diff_c _ _ ?_ ?_ ?_) ?_|refine callX.by (reach_c _ ?_ ?_ ?_) ?_|refine callX.by a6rc ?_|refine callX.by (rkey_c _ _ _ _ _ _ _) ?_|assumption|(refine Qw hK _ ?_; clear hK K)|refine Qw ‹_› _ ?_|refine Qx ‹_› ?_|refine Qi fun K hK=>?_|refine Qj T fun K hK=>?_|refine Qk (id:=6) T mixed Wd17 (by kernel_rfl) fun K hK=>?_|refine Ql fun A B hA hB=>?_|refine Qm ?_|refine Qn ?_|refine Qp ?_|refine Qr ?_)
 | ((with_reducible first|apply Qy|apply Qz|apply QA)<;>intro hb<;>try simp only [nr] at hb)
 | simp only [go_sem,↓reduceIte,reduceIte,Qa,Qh,Qb,Qc,Qd,Qe,Qf,Qg,reduceCtorEq, *,-w1,-w2]
 | with_reducible refine fun (bn:Bool) hbn=>?_))
 refine Qs [28,29] (fun m ts'=>∃ (i:Nat),∃ (M:KS),m=R.length - i∧i≤R.length∧ofR R []=ofR (R.drop i) M∧ts'.tmp 7=.ref 14 (ts.gen 14+1) 0∧ts'.gen 14=ts.gen 14+1∧ts'.obj 14=.box [.slice false (avs D),.slice false (avs G),.mref 12 (ts.gen 12+1),.slice false (avs xs),.slice false (avs H)]∧ts'.gen 12=ts.gen 12+1∧ts'.obj 12=.mp (mks M) (mvs M)∧ts'.tmp 30=.int .i64 i) R.length ?_ ?_
 ·refine ⟨0,[],rfl,Nat.zero_le _,rfl,?_⟩
  simp only [go_sem,↓reduceIte,reduceIte,Qa,Qh,Qb,Qc,Qd,Qe,Qf,Qg,reduceCtorEq, *,-w1,-w2]
 ·rintro m A hM ts' hk ⟨i,M,hm,f1,f2,s1,s2,s3,s4,s5,s6⟩
  simp only [go_sem,↓reduceIte,reduceIte,Qa,Qh,Qb,Qc,Qd,Qe,Qf,Qg,reduceCtorEq, *] at hk
  by_cases hlt:i < R.length
  ·rw [List.drop_eq_getElem_cons hlt] at f2
   (repeat' (first
 | (with_reducible first|refine callX.by (diff_c _ _ ?_ ?_ ?_) ?_|refine callX.by (reach_c _ ?_ ?_ ?_) ?_|refine callX.by a6rc ?_|refine callX.by (rkey_c _ _ _ _ _ _ _) ?_|assumption|(refine Qw hK _ ?_; clear hK K)|refine Qw ‹_› _ ?_|refine Qx ‹_› ?_|refine Qi fun K hK=>?_|refine Qj T fun K hK=>?_|refine Qk (id:=6) T mixed Wd17 (by kernel_rfl) fun K hK=>?_|refine Ql fun A B hA hB=>?_|refine Qm ?_|refine Qn ?_|refine Qp ?_|refine Qr ?_)
 | ((with_reducible first|apply Qy|apply Qz|apply QA)<;>intro hb<;>try simp only [nr] at hb)
 | simp only [go_sem,↓reduceIte,reduceIte,Qa,Qh,Qb,Qc,Qd,Qe,Qf,Qg,reduceCtorEq, *,-w1,-w2,-f2]
 | with_reducible refine fun (bn:Bool) hbn=>?_))
   all_goals ((repeat clear hK); (repeat clear hA); (repeat clear hB))
   (refine hM.on (R.length - (i+1)) (by omega) (by simp only [go_sem,↓reduceIte,reduceIte,Qa,Qh,Qb,Qc,Qd,Qe,Qf,Qg,reduceCtorEq, *,w64_nat hlt hRs,keyOf,-w1,-w2,-f2]) ⟨i+1,mput M (keyOf R[i]) true,rfl,by omega,by rw [f2]; rfl,?_⟩; simp only [go_sem,↓reduceIte,reduceIte,Qa,Qh,Qb,Qc,Qd,Qe,Qf,Qg,reduceCtorEq, *,w64_nat hlt hRs,keyOf,-w1,-w2,-f2]; done)
  ·rw [List.drop_eq_nil_of_le (by omega)] at f2
   have e:ofR R []=M:=f2
   rw [e]
   (repeat' (first
 | (with_reducible first|refine SpecC.ent (Ent.frzBM2 14 2 12 ?_) (SpecC.ent (Ent.frzBox _ 14) (Qj T (id:=8) fun K hK=>?_))|refine callX.by (diff_c _ _ ?_ ?_ ?_) ?_|refine callX.by (reach_c _ ?_ ?_ ?_) ?_|refine callX.by a6rc ?_|refine callX.by (rkey_c _ _ _ _ _ _ _) ?_|assumption|(refine Qw hK _ ?_; clear hK K)|refine Qw ‹_› _ ?_|refine Qx ‹_› ?_|refine Qi fun K hK=>?_|refine Qj T fun K hK=>?_|refine Qk (id:=6) T mixed Wd17 (by kernel_rfl) fun K hK=>?_|refine Ql fun A B hA hB=>?_|refine Qm ?_|refine Qn ?_|refine Qp ?_|refine Qr ?_)
 | ((with_reducible first|apply Qy|apply Qz|apply QA)<;>intro hb<;>try simp only [nr] at hb)
 | simp only [go_sem,↓reduceIte,reduceIte,Qa,Qh,Qb,Qc,Qd,Qe,Qf,Qg,reduceCtorEq, *,-w1,-w2,-f2]
 | with_reducible refine fun (bn:Bool) hbn=>?_))
   all_goals ((repeat clear hK); (repeat clear hA); (repeat clear hB))
   all_goals trace_state
structure Ph where
 ks:List Int
 fn:Nat
 jd:List Res
 jg:List Key
 jm:KS
 ja:List Res
 jh:List Key
instance:Dat Ph where
 av x:=.agg [.slice false (avs x.ks),.clo (.func x.fn) [jobAV x.jd x.jg x.jm x.ja x.jh] []]
 sz:=2
 len _:=rfl
 pure x:=by simp only [go_sem,Bool.and_self]
 nrm x:=by simp only [go_sem]
 one x:=by simp only [go_sem,List.all_cons,List.all_nil,Bool.and_self]
 known _:=rfl
@[go_sem] theorem av_Ph (x:Ph):Dat.av x=.agg [.slice false (avs x.ks),.clo (.func x.fn) [jobAV x.jd x.jg x.jm x.ja x.jh] []]:=rfl
@[go_sem] theorem sz_Ph:Dat.sz Ph=2:=rfl
def phs (D:List Res) (G:List Key) (M:KS) (a:List Res) (H:List Key):List Ph :=
 [⟨[3,2,1],141,D,G,M,a,H⟩,⟨[0],142,D,G,M,a,H⟩,⟨[3,2,1],143,D,G,M,a,H⟩,⟨[1,2,3],144,D,G,M,a,H⟩]
theorem phases_c (D:List Res) (G:List Key) (M:KS) (a:List Res) (H:List Key):CallR Tryz.prog 97 [jobAV D G M a H] (.val (.slice false (avs (phs D G M a H)))):=by
 refine CallR.go1 (T:=T.withF [5,6,11,23]) Tryz.call97 Tryz.func97 rfl Tryz.ntmps97 (congrArg Array.toList Tryz.results97) (by decide) fun ts hn h0=>?_
 (repeat' (first
 | (with_reducible first|assumption|(refine Qw hK _ ?_; clear hK K)|refine Qw ‹_› _ ?_|refine Qx ‹_› ?_|refine Qi fun K hK=>?_|refine Qj (T.withF [5,6,11,23]) fun K hK=>?_|refine Ql fun A B hA hB=>?_|refine Qn ?_|refine Qr ?_)
 | ((with_reducible first|apply Qy|apply Qz|apply QA)<;>intro hb<;>try simp only [nr] at hb)
 | simp only [go_sem,↓reduceIte,reduceIte,Qa,Qh,Qb,Qc,Qd,Qe,Qf,Qg,reduceCtorEq, *]
 | with_reducible refine fun (bn:Bool) hbn=>?_))
 all_goals first|rfl|trace_state
def zStep:Step:=⟨0,[],[]⟩
theorem cand_len (a b:List Res) (H:List Key) (i:Nat):(candAt a b H i).adds.length≤b.length∧(candAt a b H i).gone.length≤a.length:=by
 have hA:∀ {l:List Res},l.Sublist (diffA a b)→l.length≤b.length:=fun h=>(h.trans (diffA_sub a b)).length_le
 have hG:∀ {l:List Key},l.Sublist (diffG a b)→l.length≤a.length:=fun h=>by simpa using (h.trans (diffG_sub a b)).length_le
 unfold candAt
 split
 ·exact ⟨hA (early_sub _ _ _),Nat.zero_le _⟩
 ·split
  ·exact ⟨hA List.filter_sublist,hG List.filter_sublist⟩
  ·split
   ·exact ⟨hA List.filter_sublist,Nat.zero_le _⟩
   ·exact ⟨Nat.zero_le _,hG (free_sub _ _ _ _)⟩
def ph0:Nat→Nat
 | 0=>0
 | 1=>3
 | 2=>4
 | 3=>7
 | _=>10
theorem phs_len (D:List Res) (G:List Key) (M:KS) (a:List Res) (H:List Key):(phs D G M a H).length=4:=rfl
theorem early_eq (b D:List Res) (k:Int):(tkind D k).filter (fun r=>isIn (ofR (reachR b) []) (keyOf r))=earlyP b D k:=by
 unfold earlyP
 refine List.filter_congr fun r _=>?_
 rw [isIn_of]
theorem phs_at (a b:List Res) (H:List Key) (hl:a.length≤65536) (hl2:Small b.length) (hs:∀ r∈a,SmRes r) (hH:Small H.length) (i:Nat) (hi:i < 4) :
  ∃ (ks:List Int) (fn:Nat),(phs (diffA a b) (diffG a b) (ofR (reachR b) []) a H)[i]?=some ⟨ks,fn,diffA a b,diffG a b,ofR (reachR b) [],a,H⟩∧ks.length≤3∧ph0 (i+1)=ph0 i+ks.length ∧
   ∀ (k:Nat) (hk:k < ks.length),CallR Tryz.prog fn [jobAV (diffA a b) (diffG a b) (ofR (reachR b) []) a H,.int .i64 ks[k]] (.val (.agg [.int .i64 (candAt a b H (ph0 i+k)).kind,.slice false (avs (candAt a b H (ph0 i+k)).adds),.slice false (avs (candAt a b H (ph0 i+k)).gone)])):=by
 have hD:Small (diffA a b).length:=Nat.le_trans (diffA_sub a b).length_le hl2
 have hG:Small (diffG a b).length:=by
  have:=(diffG_sub a b).length_le
  rw [List.length_map] at this
  unfold Small; omega
 have e1:∀ k:Int,CallR Tryz.prog 141 [jobAV (diffA a b) (diffG a b) (ofR (reachR b) []) a H,.int .i64 k] (.val (.agg [.int .i64 k,.slice false (avs (earlyP b (diffA a b) k)),.slice false []])):=fun k=>by
  have:=early_c (diffA a b) (diffG a b) (ofR (reachR b) []) a H k hD
  rw [early_eq] at this
  exact this
 have e2:=fun k=>doors_c (diffA a b) (diffG a b) (ofR (reachR b) []) a H k hD hG
 have e3:=fun k=>late_c (diffA a b) (diffG a b) (ofR (reachR b) []) a H k hD
 have e4:=fun k=>free_c (diffA a b) (diffG a b) (ofR (reachR b) []) a H k hG hl hs hH
 match i,hi with
 | 0,_=>exact ⟨[3,2,1],_,rfl,by decide,rfl,fun k hk=>match k,hk with
  | 0,_=>e1 3
  | 1,_=>e1 2
  | 2,_=>e1 1⟩
 | 1,_=>exact ⟨[0],_,rfl,by decide,rfl,fun k hk=>match k,hk with
  | 0,_=>e2 0⟩
 | 2,_=>exact ⟨[3,2,1],_,rfl,by decide,rfl,fun k hk=>match k,hk with
  | 0,_=>e3 3
  | 1,_=>e3 2
  | 2,_=>e3 1⟩
 | 3,_=>exact ⟨[1,2,3],_,rfl,by decide,rfl,fun k hk=>match k,hk with
  | 0,_=>e4 1
  | 1,_=>e4 2
  | 2,_=>e4 3⟩
theorem ph0_lt {i:Nat} (h:i < 4) {n:Nat} (e:ph0 (i+1)=ph0 i+n) {k:Nat} (hk:k < n):ph0 i+k < 10:=by
 have:ph0 (i+1)≤10:=match i,h with
  | 0,_=>by decide
  | 1,_=>by decide
  | 2,_=>by decide
  | 3,_=>by decide
 omega
theorem firstC_at {a b:List Res} {H:List Key} {n:Nat} (h:n < 10):firstC a b H (10 - n) n=if fullP (candAt a b H n)=true then some (candAt a b H n) else firstC a b H (10 - (n+1)) (n+1):=by
 rw [show 10 - n=(10 - (n+1))+1 by omega]
 rfl
set_option maxHeartbeats 4000000 in
theorem nextPl_c (a b:List Res) (H:List Key) (hl:a.length≤65536) (hl2:Small b.length) (hs:∀ r∈a,SmRes r) (hH:Small H.length) (hre:ReachOk b):CallR Tryz.prog 32 [.slice false (avs a),.slice false (avs b),.slice false (avs H)] (.val (.tup [.agg [.int .i64 ((nextP a b H).getD zStep).kind,.slice false (avs ((nextP a b H).getD zStep).adds),.slice false (avs ((nextP a b H).getD zStep).gone)],.bool (nextP a b H).isSome])):=by
 have w1:=begin_c a b H (small_le hl) hl2 hs hre
 have w2:=phases_c (diffA a b) (diffG a b) (ofR (reachR b) []) a H
 have hph:=phs_at a b H hl hl2 hs hH
 have hcl:=cand_len a b H
 have hpl:=phs_len (diffA a b) (diffG a b) (ofR (reachR b) []) a H
 generalize diffA a b=D at *
 generalize diffG a b=G at *
 generalize ofR (reachR b) []=M at *
 generalize phs D G M a H=F at *
 have hph:∀ (i:Nat) (hi:i < F.length),∃ (ks:List Int) (fn:Nat),F[i]=⟨ks,fn,D,G,M,a,H⟩∧ks.length≤3∧ph0 (i+1)=ph0 i+ks.length∧∀ (k:Nat) (hk:k < ks.length),CallR Tryz.prog fn [jobAV D G M a H,.int .i64 ks[k]] (.val (.agg [.int .i64 (candAt a b H (ph0 i+k)).kind,.slice false (avs (candAt a b H (ph0 i+k)).adds),.slice false (avs (candAt a b H (ph0 i+k)).gone)])):=fun i hi=>by
  obtain ⟨ks,fn,q1,q2⟩:=hph i (by omega)
  rw [List.getElem?_eq_getElem hi] at q1
  exact ⟨ks,fn,Option.some.inj q1,q2⟩
 clear hs hre
 have e0:nextP a b H=firstC a b H 10 0:=rfl
 refine CallR.go3 (T:=T) Tryz.call32 Tryz.func32 rfl Tryz.ntmps32 (congrArg Array.toList Tryz.results32) (by decide) fun ts hn h0 h1 h2=>?_
 (repeat' (first
 | (with_reducible first|refine callX.by (w1) ?_|refine callX.by (w2) ?_|refine SpecC.scopeF 0 [] (fun _ _=>False) 0 rfl (fun J hJ=>?_) (fun _ _ _ _ _ h=>h.elim)|refine callX.by (begin_c _ _ _ ?_ ?_ ?_ ?_) ?_|refine callX.by (phases_c _ _ _ _ _) ?_|refine callX.by (empty_c _ _ _ ?_ ?_) ?_|assumption|(refine Qw hK _ ?_; clear hK K)|refine Qw ‹_› _ ?_|refine Qx ‹_› ?_|refine Qi fun K hK=>?_|refine Qj T fun K hK=>?_|refine Ql fun A B hA hB=>?_|refine Qm ?_|refine Qn ?_|refine Qo ?_|refine Qp ?_|refine Qr ?_)
 | ((with_reducible first|apply Qy|apply Qz|apply QA)<;>intro hb<;>try simp only [nr] at hb)
 | simp only [go_sem,↓reduceIte,reduceIte,Qa,Qh,Qb,Qc,Qd,Qe,Qf,Qg,reduceCtorEq, *,-w1,-w2,-hph,-hcl,-e0]
 | with_reducible refine fun (bn:Bool) hbn=>?_))
 refine Qs [6,18,19] (fun m ts'=>∃ (i:Nat),∃ (x:AV),∃ (y:AV),∃ (z:AV),m=4 - i∧i≤4∧nextP a b H=firstC a b H (10 - ph0 i) (ph0 i)∧ts'.tmp 20=.int .i64 i∧ts'.tmp 9=.bool false∧ts'.tmp 8=.ref 8 (ts.gen 8+1) 0∧ts'.gen 8=ts.gen 8+1∧ts'.obj 8=.box [x,y,z]) 4 ?_ ?_
 ·refine ⟨0,.int .i64 0,.slice true [],.slice true [],rfl,by omega,rfl,?_⟩
  simp only [go_sem,↓reduceIte,reduceIte,Qa,Qh,Qb,Qc,Qd,Qe,Qf,Qg,reduceCtorEq, *,-w1,-w2,-hph,-hcl,-e0]
 ·rintro m A hM ts' hk ⟨i,x,y,z,hm,f1,f2,s1,s2,s3,s4,s5⟩
  simp only [go_sem,↓reduceIte,reduceIte,Qa,Qh,Qb,Qc,Qd,Qe,Qf,Qg,reduceCtorEq, *] at hk
  by_cases hlt:i < F.length
  ·obtain ⟨ks,fn,q1,q2,q3,hc⟩:=hph i hlt
   have hks:Small ks.length:=by unfold Small; omega
   have hi4:i < 4:=by omega
   have hi4':(i:Int) < 4:=by omega
   (repeat' (first
 | (with_reducible first|refine callX.by (begin_c _ _ _ ?_ ?_ ?_ ?_) ?_|refine callX.by (phases_c _ _ _ _ _) ?_|refine callX.by (empty_c _ _ _ ?_ ?_) ?_|assumption|(refine Qw hK _ ?_; clear hK K)|refine Qw ‹_› _ ?_|refine Qx ‹_› ?_|refine Qi fun K hK=>?_|refine Qj T fun K hK=>?_|refine Ql fun A B hA hB=>?_|refine Qm ?_|refine Qn ?_|refine Qo ?_|refine Qp ?_|refine Qr ?_)
 | ((with_reducible first|apply Qy|apply Qz|apply QA)<;>intro hb<;>try simp only [nr] at hb)
 | simp only [go_sem,↓reduceIte,reduceIte,Qa,Qh,Qb,Qc,Qd,Qe,Qf,Qg,reduceCtorEq, *,-w1,-w2,-hph,-hcl,-e0,-f2,-hc]
 | with_reducible refine fun (bn:Bool) hbn=>?_))
   have hMo:=hM
   have hmo:=hm
   clear hM hm
   have f20:=f2
   clear f2
   refine Qs [6,11,18,19,20,25,26] (fun m ts'=>∃ (k:Nat),∃ (x:AV),∃ (y:AV),∃ (z:AV),m=ks.length - k∧k≤ks.length∧nextP a b H=firstC a b H (10 - (ph0 i+k)) (ph0 i+k)∧ts'.tmp 27=.int .i64 k∧ts'.tmp 9=.bool false∧ts'.tmp 8=.ref 8 (ts.gen 8+1) 0∧ts'.gen 8=ts.gen 8+1∧ts'.obj 8=.box [x,y,z]) ks.length ?_ ?_
   ·refine ⟨0,x,y,z,rfl,Nat.zero_le _,f20,?_⟩
    simp only [go_sem,↓reduceIte,reduceIte,Qa,Qh,Qb,Qc,Qd,Qe,Qf,Qg,reduceCtorEq, *,-w1,-w2,-hph,-hcl,-e0,-f20,-hc]
   ·rintro m A hM ts' hk ⟨k,x,y,z,hm,f1,f2,s1,s2,s3,s4,s5⟩
    simp only [go_sem,↓reduceIte,reduceIte,Qa,Qh,Qb,Qc,Qd,Qe,Qf,Qg,reduceCtorEq, *] at hk
    by_cases hkt:k < ks.length
    ·have w3:=hc k hkt
     have hn10:=ph0_lt hi4 q3 hkt
     rw [firstC_at hn10] at f2
     obtain ⟨c1,c2⟩:=hcl (ph0 i+k)
     have w4:=empty_c (candAt a b H (ph0 i+k)).kind (candAt a b H (ph0 i+k)).adds (candAt a b H (ph0 i+k)).gone (Nat.le_trans c1 hl2) (by unfold Small; omega)
     have es:(⟨(candAt a b H (ph0 i+k)).kind,(candAt a b H (ph0 i+k)).adds,(candAt a b H (ph0 i+k)).gone⟩:Step)=candAt a b H (ph0 i+k):=rfl
     rw [es] at w4
     generalize candAt a b H (ph0 i+k)=s at *
     clear c1 c2 es
     cases hf:fullP s with
     | true =>
      rw [if_pos hf] at f2
      rw [hf] at w4
      (repeat' (first
 | (with_reducible first|refine Qu T 3 (id:=9) rfl rfl fun K hK=>?_|refine fun (K2:TS→Prop) (hK2:NxK _ K2)=>?_|refine SpecO.callB rfl (fst:=[jobAV D G M a H]) ?_ ?_ w3 rfl ?_ ?_|refine Qw hK2 _ ?_|refine fun (K3:TS→Prop) (hK3:NxK _ K3)=>?_|refine callX.by (w4) ?_|refine callX.by (begin_c _ _ _ ?_ ?_ ?_ ?_) ?_|refine callX.by (phases_c _ _ _ _ _) ?_|refine callX.by (empty_c _ _ _ ?_ ?_) ?_|assumption|(refine Qw hK _ ?_; clear hK K)|refine Qw ‹_› _ ?_|refine Qx ‹_› ?_|refine Qi fun K hK=>?_|refine Qj T fun K hK=>?_|refine Ql fun A B hA hB=>?_|refine Qm ?_|refine Qn ?_|refine Qo ?_|refine Qp ?_|refine Qr ?_)
 | ((with_reducible first|apply Qy|apply Qz|apply QA)<;>intro hb<;>try simp only [nr] at hb)
 | simp only [go_sem,↓reduceIte,reduceIte,Qa,Qh,Qb,Qc,Qd,Qe,Qf,Qg,reduceCtorEq, *,-w1,-w2,-hph,-hcl,-e0,-f2,-f20,-hc,-w3,-w4]
 | with_reducible refine fun (bn:Bool) hbn=>?_))
      all_goals (rw [f2]; exact ⟨⟨rfl,rfl,rfl⟩,rfl⟩)
     | false =>
      rw [if_neg (by rw [hf]; simp)] at f2
      rw [hf] at w4
      (repeat' (first
 | (with_reducible first|refine Qu T 3 (id:=9) rfl rfl fun K hK=>?_|refine fun (K2:TS→Prop) (hK2:NxK _ K2)=>?_|refine SpecO.callB rfl (fst:=[jobAV D G M a H]) ?_ ?_ w3 rfl ?_ ?_|refine Qw hK2 _ ?_|refine fun (K3:TS→Prop) (hK3:NxK _ K3)=>?_|refine callX.by (w4) ?_|refine callX.by (begin_c _ _ _ ?_ ?_ ?_ ?_) ?_|refine callX.by (phases_c _ _ _ _ _) ?_|refine callX.by (empty_c _ _ _ ?_ ?_) ?_|assumption|(refine Qw hK _ ?_; clear hK K)|refine Qw ‹_› _ ?_|refine Qx ‹_› ?_|refine Qi fun K hK=>?_|refine Qj T fun K hK=>?_|refine Ql fun A B hA hB=>?_|refine Qm ?_|refine Qn ?_|refine Qo ?_|refine Qp ?_|refine Qr ?_)
 | ((with_reducible first|apply Qy|apply Qz|apply QA)<;>intro hb<;>try simp only [nr] at hb)
 | simp only [go_sem,↓reduceIte,reduceIte,Qa,Qh,Qb,Qc,Qd,Qe,Qf,Qg,reduceCtorEq, *,-w1,-w2,-hph,-hcl,-e0,-f2,-f20,-hc,-w3,-w4]
 | with_reducible refine fun (bn:Bool) hbn=>?_))
      all_goals ((repeat clear hK); (repeat clear hA); (repeat clear hB))
      all_goals (refine hM.on (ks.length - (k+1)) (by omega) (by simp only [go_sem,↓reduceIte,reduceIte,Qa,Qh,Qb,Qc,Qd,Qe,Qf,Qg,reduceCtorEq, *,w64_nat hkt hks,-w1,-w2,-hph,-hcl,-e0,-f2,-f20,-hc,-w3,-w4]) ⟨k+1,.int .i64 s.kind,.slice false (avs s.adds),.slice false (avs s.gone),rfl,by omega,f2,?_⟩; simp only [go_sem,↓reduceIte,reduceIte,Qa,Qh,Qb,Qc,Qd,Qe,Qf,Qg,reduceCtorEq, *,w64_nat hkt hks,-w1,-w2,-hph,-hcl,-e0,-f2,-f20,-hc,-w3,-w4]; done)
    ·have e1:ph0 i+k=ph0 (i+1):=by omega
     rw [e1] at f2
     (repeat' (first
 | (with_reducible first|refine callX.by (begin_c _ _ _ ?_ ?_ ?_ ?_) ?_|refine callX.by (phases_c _ _ _ _ _) ?_|refine callX.by (empty_c _ _ _ ?_ ?_) ?_|assumption|(refine Qw hK _ ?_; clear hK K)|refine Qw ‹_› _ ?_|refine Qx ‹_› ?_|refine Qi fun K hK=>?_|refine Qj T fun K hK=>?_|refine Ql fun A B hA hB=>?_|refine Qm ?_|refine Qn ?_|refine Qo ?_|refine Qp ?_|refine Qr ?_)
 | ((with_reducible first|apply Qy|apply Qz|apply QA)<;>intro hb<;>try simp only [nr] at hb)
 | simp only [go_sem,↓reduceIte,reduceIte,Qa,Qh,Qb,Qc,Qd,Qe,Qf,Qg,reduceCtorEq, *,-w1,-w2,-hph,-hcl,-e0,-f2,-f20,-hc]
 | with_reducible refine fun (bn:Bool) hbn=>?_))
     all_goals ((repeat clear hK); (repeat clear hA); (repeat clear hB))
     all_goals (clear hM hm; have hM:=hMo; have hm:=hmo; (refine hM.on (4 - (i+1)) (by omega) (by simp only [go_sem,↓reduceIte,reduceIte,Qa,Qh,Qb,Qc,Qd,Qe,Qf,Qg,reduceCtorEq, *,w64_nat hi4 (show Small 4 by unfold Small; omega),-w1,-w2,-hph,-hcl,-e0,-f2,-f20,-hc]) ⟨i+1,x,y,z,rfl,by omega,f2,?_⟩; simp only [go_sem,↓reduceIte,reduceIte,Qa,Qh,Qb,Qc,Qd,Qe,Qf,Qg,reduceCtorEq, *,w64_nat hi4 (show Small 4 by unfold Small; omega),-w1,-w2,-hph,-hcl,-e0,-f2,-f20,-hc]; done))
  ·have hi4:¬ i < 4:=by omega
   have e4:i=4:=by omega
   subst e4
   have e5:nextP a b H=none:=f2
   (repeat' (first
 | (with_reducible first|refine callX.by (begin_c _ _ _ ?_ ?_ ?_ ?_) ?_|refine callX.by (phases_c _ _ _ _ _) ?_|refine callX.by (empty_c _ _ _ ?_ ?_) ?_|assumption|(refine Qw hK _ ?_; clear hK K)|refine Qw ‹_› _ ?_|refine Qx ‹_› ?_|refine Qi fun K hK=>?_|refine Qj T fun K hK=>?_|refine Ql fun A B hA hB=>?_|refine Qm ?_|refine Qn ?_|refine Qo ?_|refine Qp ?_|refine Qr ?_)
 | ((with_reducible first|apply Qy|apply Qz|apply QA)<;>intro hb<;>try simp only [nr] at hb)
 | simp only [go_sem,↓reduceIte,reduceIte,Qa,Qh,Qb,Qc,Qd,Qe,Qf,Qg,reduceCtorEq, *,-w1,-w2,-hph,-hcl,-e0,-f2,-e5]
 | with_reducible refine fun (bn:Bool) hbn=>?_))
   all_goals ((repeat clear hK); (repeat clear hA); (repeat clear hB))
   all_goals (rw [e5]; exact ⟨⟨rfl,rfl,rfl⟩,rfl⟩)
theorem applyP_c (l:List Res) (s_kind:Int) (s_adds:List Res) (s_gone:List Key) (hx:Small l.length) (ha:Small s_adds.length) (hg:Small s_gone.length) (hl:Small (l.length+s_adds.length)):CallR Tryz.prog 40 [.slice false (avs l),.agg [.int .i64 s_kind,.slice false (avs s_adds),.slice false (avs s_gone)]] (.val (.slice false (avs (applyP l (⟨s_kind,s_adds,s_gone⟩:Step))))):=by
 have w1:=tpatch_c l s_adds s_gone hx ha hg hl
 refine CallR.go2 (T:=T) Tryz.call40 Tryz.func40 rfl Tryz.ntmps40 (congrArg Array.toList Tryz.results40) (by decide) fun ts hn h0 h1=>?_
 (repeat' (first
 | (with_reducible first|refine callX.by (w1) ?_|assumption|(refine Qw hK _ ?_; clear hK K)|refine Qw ‹_› _ ?_|refine Qx ‹_› ?_|refine Qi fun K hK=>?_|refine Qj T fun K hK=>?_|refine Ql fun A B hA hB=>?_|refine Qn ?_|refine Qr ?_)
 | ((with_reducible first|apply Qy|apply Qz|apply QA)<;>intro hb<;>try simp only [nr] at hb)
 | simp only [go_sem,↓reduceIte,reduceIte,Qa,Qh,Qb,Qc,Qd,Qe,Qf,Qg,reduceCtorEq, *,-w1]
 | with_reducible refine fun (bn:Bool) hbn=>?_))
 all_goals rfl
theorem cand_sub (a b:List Res) (H:List Key) (i:Nat):(candAt a b H i).adds.Sublist b:=by
 refine List.Sublist.trans ?_ (diffA_sub a b)
 unfold candAt
 split
 ·exact early_sub _ _ _
 ·split
  ·exact List.filter_sublist
  ·split
   ·exact List.filter_sublist
   ·exact List.nil_sublist _
theorem next_sub {a b:List Res} {H:List Key} {s:Step} (h:nextP a b H=some s):s.adds.Sublist b∧s.adds.length≤b.length∧s.gone.length≤a.length:=by
 obtain ⟨j,_,e,_⟩:=next_some h
 rw [e]
 exact ⟨cand_sub a b H j,cand_len a b H j⟩
theorem runP_none {b a:List Res} {H:List Key} {n:Nat} (h:nextP a b H=none):runP b H n a=[]:=by
 cases n with
 | zero=>rfl
 | succ n=>unfold runP; rw [h]
theorem runP_some {b a:List Res} {H:List Key} {n:Nat} {s:Step} (h:nextP a b H=some s):runP b H (n+1) a=s :: runP b H n (applyP a s):=by
 conv=>lhs; unfold runP
 rw [h]
set_option maxHeartbeats 4000000 in
theorem allP_c (a b:List Res) (H:List Key) (hl:a.length≤80) (hl2:b.length≤80) (hs:∀ r∈a,SmRes r) (hs2:∀ r∈b,SmRes r) (hH:Small H.length) (hre:ReachOk b):CallR Tryz.prog 34 [.slice false (avs a),.slice false (avs b),.slice false (avs H)] (.own 3 (avs (runP b H 400 a))):=by
 have hbs:Small b.length:=by unfold Small; omega
 have w1:=nextPl_c a b H (by omega) hbs hs hH hre
 generalize hR:runP b H 400 a=R
 refine CallR.go3 (T:=T) Tryz.call34 Tryz.func34 rfl Tryz.ntmps34 (congrArg Array.toList Tryz.results34) (by decide) fun ts hn h0 h1 h2=>?_
 (repeat' (first
 | (with_reducible first|refine callX.by (w1) ?_|refine callX.by (nextPl_c _ _ _ ?_ ?_ ?_ ?_ ?_) ?_|refine callX.by (applyP_c _ _ _ _ ?_ ?_ ?_ ?_) ?_|assumption|(refine Qw hK _ ?_; clear hK K)|refine Qw ‹_› _ ?_|refine Qx ‹_› ?_|refine Qi fun K hK=>?_|refine Qj T fun K hK=>?_|refine Ql fun A B hA hB=>?_|refine Qm ?_|refine Qn ?_|refine Qp ?_|refine Qr ?_)
 | ((with_reducible first|apply Qy|apply Qz|apply QA)<;>intro hb<;>try simp only [nr] at hb)
 | simp only [go_sem,↓reduceIte,reduceIte,Qa,Qh,Qb,Qc,Qd,Qe,Qf,Qg,reduceCtorEq, *,-w1,-hs,-hs2,-hre,-hR]
 | with_reducible refine fun (bn:Bool) hbn=>?_))
 refine SpecC.virt 7 33 3 (by decide) (by simp only [go_sem,↓reduceIte,reduceIte,Qa,Qh,Qb,Qc,Qd,Qe,Qf,Qg,reduceCtorEq, *,-w1,-hs,-hs2,-hre,-hR]) ?_
 refine Qs [1,2] (fun m ts'=>∃ (x:List Res),∃ (ys:List Step),∃ (g:Nat),∃ (h:Nat),m=400 - ys.length∧ys.length≤400∧ys++runP b H (400 - ys.length) x=R∧x.length≤a.length+ys.length * 80∧(∀ r∈x,SmRes r)∧ts'.tmp 0=.slice false (avs x)∧ts'.tmp 7=.os 33 g ys.length∧ts'.gen 33=g∧ts'.obj 33=.arr 3 (avs ys)∧ts'.tmp 8=.ref 8 h 0∧ts'.gen 8=h∧ts'.obj 8=.box [.int .i64 ((nextP x b H).getD zStep).kind,.slice false (avs ((nextP x b H).getD zStep).adds),.slice false (avs ((nextP x b H).getD zStep).gone)]∧ts'.tmp 9=.bool (nextP x b H).isSome) 400 ?_ ?_
 ·refine ⟨a,[],ts.gen 33+1,ts.gen 8+1,rfl,by simp,hR,by simp,hs,?_⟩
  simp only [go_sem,↓reduceIte,reduceIte,Qa,Qh,Qb,Qc,Qd,Qe,Qf,Qg,reduceCtorEq, *,-w1,-hs,-hs2,-hre,-hR,avs_nil]
 ·rintro m A hM ts' hk ⟨x,ys,g,h,hm,f1,f2,f3,f4,s1,s2,s3,s4,s5,s6,s7,s8⟩
  simp only [go_sem,↓reduceIte,reduceIte,Qa,Qh,Qb,Qc,Qd,Qe,Qf,Qg,reduceCtorEq, *] at hk
  clear w1
  cases hn:nextP x b H with
  | none =>
   rw [runP_none hn,List.append_nil] at f2
   subst f2
   rw [hn] at s7 s8
   (repeat' (first
 | (with_reducible first|refine callX.by (nextPl_c _ _ _ ?_ ?_ ?_ ?_ ?_) ?_|refine callX.by (applyP_c _ _ _ _ ?_ ?_ ?_ ?_) ?_|assumption|(refine Qw hK _ ?_; clear hK K)|refine Qw ‹_› _ ?_|refine Qx ‹_› ?_|refine Qi fun K hK=>?_|refine Qj T fun K hK=>?_|refine Ql fun A B hA hB=>?_|refine Qm ?_|refine Qn ?_|refine Qp ?_|refine Qr ?_)
 | ((with_reducible first|apply Qy|apply Qz|apply QA)<;>intro hb<;>try simp only [nr] at hb)
 | simp only [go_sem,↓reduceIte,reduceIte,Qa,Qh,Qb,Qc,Qd,Qe,Qf,Qg,reduceCtorEq, *,-hs,-hs2,-hre,-hR,-f4,-hn,Option.isSome_none,Option.getD_none]
 | with_reducible refine fun (bn:Bool) hbn=>?_))
   all_goals ((repeat clear hK); (repeat clear hA); (repeat clear hB))
   all_goals trace_state
  | some s =>
   rw [hn] at s7 s8
   by_cases hlt:ys.length < 400
   ·obtain ⟨q1,q2,q3⟩:=next_sub hn
    have hxl:x.length≤32080:=by omega
    have w2:=applyP_c x s.kind s.adds s.gone (by unfold Small; omega) (by unfold Small; omega) (by unfold Small; omega) (by unfold Small; omega)
    rw [show (⟨s.kind,s.adds,s.gone⟩:Step)=s from rfl] at w2
    have hX:(applyP x s).length≤x.length+s.adds.length:=patchR_len _ _ _
    have hXs:∀ r∈applyP x s,SmRes r:=fun r hr=>(patchR_mem hr).elim (f4 r) fun h=>hs2 r (q1.subset h)
    have w3:=nextPl_c (applyP x s) b H (by omega) hbs hXs hH hre
    rw [show 400 - ys.length=(400 - (ys.length+1))+1 by omega,runP_some hn] at f2
    generalize applyP x s=X at *
    have hr:Room (ys.length+1) 56:=room_small (by omega) (by decide)
    have hys:(ys.length:Int) < 400:=by omega
    (repeat' (first
 | (with_reducible first|refine callX.by (w2) ?_|refine callX.by (w3) ?_|refine callX.by (nextPl_c _ _ _ ?_ ?_ ?_ ?_ ?_) ?_|refine callX.by (applyP_c _ _ _ _ ?_ ?_ ?_ ?_) ?_|assumption|(refine Qw hK _ ?_; clear hK K)|refine Qw ‹_› _ ?_|refine Qx ‹_› ?_|refine Qi fun K hK=>?_|refine Qj T fun K hK=>?_|refine Ql fun A B hA hB=>?_|refine Qm ?_|refine Qn ?_|refine Qp ?_|refine Qr ?_)
 | ((with_reducible first|apply Qy|apply Qz|apply QA)<;>intro hb<;>try simp only [nr] at hb)
 | simp only [go_sem,↓reduceIte,reduceIte,Qa,Qh,Qb,Qc,Qd,Qe,Qf,Qg,reduceCtorEq, *,-hs,-hs2,-hre,-hR,-f4,-hXs,-hn,-f2,-w2,-w3,Option.isSome_some,Option.getD_some]
 | with_reducible refine fun (bn:Bool) hbn=>?_))
    all_goals ((repeat clear hK); (repeat clear hA); (repeat clear hB))
    have hl1:(ys++[s]).length=ys.length+1:=by simp
    all_goals (refine hM.on (400 - (ys++[s]).length) (by omega) (by simp only [go_sem,↓reduceIte,reduceIte,Qa,Qh,Qb,Qc,Qd,Qe,Qf,Qg,reduceCtorEq, *,List.length_append,List.length_singleton,-hs,-hs2,-hre,-hR,-f4,-hXs,-hn,-f2,-w2,-w3,-hl1]) ⟨X,ys++[s],g+1,h+1,rfl,by omega,by rw [← f2,hl1]; simp,by omega,hXs,?_⟩; simp only [go_sem,↓reduceIte,reduceIte,Qa,Qh,Qb,Qc,Qd,Qe,Qf,Qg,reduceCtorEq, *,List.length_append,List.length_singleton,-hs,-hs2,-hre,-hR,-f4,-hXs,-hn,-f2,-w2,-w3,-hl1]; done)
   ·have e4:ys.length=400:=by omega
    rw [e4] at f2
    have e5:ys=R:=by rw [← f2]; simp [runP]
    subst e5
    have hys:¬ (ys.length:Int) < 400:=by omega
    (repeat' (first
 | (with_reducible first|refine callX.by (nextPl_c _ _ _ ?_ ?_ ?_ ?_ ?_) ?_|refine callX.by (applyP_c _ _ _ _ ?_ ?_ ?_ ?_) ?_|assumption|(refine Qw hK _ ?_; clear hK K)|refine Qw ‹_› _ ?_|refine Qx ‹_› ?_|refine Qi fun K hK=>?_|refine Qj T fun K hK=>?_|refine Ql fun A B hA hB=>?_|refine Qm ?_|refine Qn ?_|refine Qp ?_|refine Qr ?_)
 | ((with_reducible first|apply Qy|apply Qz|apply QA)<;>intro hb<;>try simp only [nr] at hb)
 | simp only [go_sem,↓reduceIte,reduceIte,Qa,Qh,Qb,Qc,Qd,Qe,Qf,Qg,reduceCtorEq, *,-hs,-hs2,-hre,-hR,-f4,-hn,-f2,Option.isSome_some,Option.getD_some]
 | with_reducible refine fun (bn:Bool) hbn=>?_))
    all_goals ((repeat clear hK); (repeat clear hA); (repeat clear hB))
    all_goals rw [List.take_of_length_le (by omega)]
end Go.Proofs.YtmjkjmoeicnbnaaGreatDoor.Lg
