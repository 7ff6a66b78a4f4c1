/- Parts of the proof, one behind the other. -/
import Derived.Test.YtmjkjmoeicnbnaaGreatDoorG26
namespace Go.Proofs.YtmjkjmoeicnbnaaGreatDoor.Lg
set_option maxRecDepth 100000
set_option linter.unusedVariables false
set_option linter.unusedSimpArgs false
open Go
open Nat renaming reduceEqDiff → Qa, reduceLT → Qb, reduceLeDiff → Qc, reduceAdd → Qd, reduceMul → Qe, reduceSub → Qf, reduceBEq → Qg
open String renaming reduceEq → Qh
open SpecC renaming seqW → Qi, regW → Qj, drawW → Qk, condW → Ql, block → Qm, skip → Qn, label → Qo, exit → Qp, ret → Qr, loopF → Qs, regMidW → Qu
open NxK renaming out → Qw
open Nx renaming out → Qx
open condK renaming split → Qy
open gK renaming split_t → Qz, split_f → QA
@[go_sem] def JfF:List (List Nat×List Nat):=[([4],[7,8,9,10,11,12,13,14,15,16,17,18,19]),([5],[8,9,10,11,12,13,14,15,16,17,18,19]),([6],[8,10,11,12,13,14,15,16,17,18,19]),([7],[4,8,11,12,13,14,15,16,17,18,19]),([8],[4,5,6,7,11,12,13,14,15,16,17,18,19]),([9],[4,5]),([10],[4,5,6]),([11],[4,5,6,7,8,14,15,16,17,18,19]),([12],[4,5,6,7,8,15,16,17,18,19]),([13],[4,5,6,7,8,15,17,18,19]),([14],[4,5,6,7,8,11,15,18,19]),([15],[4,5,6,7,8,11,12,13,14,18,19]),([16],[4,5,6,7,8,11,12,19]),([17],[4,5,6,7,8,11,12,13]),([18],[4,5,6,7,8,11,12,13,14,15]),([19],[4,5,6,7,8,11,12,13,14,15,16])]
@[go_sem] abbrev Vx(D:List Res)(G:List Key)(M:KS)(a:List Res)(H:List Key):AV:=.ro [.slice false (Ja D),.slice false (Ja G),.mp (Jo M) (Js M),.slice false (Ja a),.slice false (Ja H)]
theorem JaU(s_kind:Int)(s_adds:List Res)(s_gone:List Key)(hA:Jc s_adds.length)(hG:Jc s_gone.length):CallR Tryz.prog 98 [.agg [.int .i64 s_kind,.slice false (Ja s_adds),.slice false (Ja s_gone)]] (.val (.bool (!VM (⟨s_kind,s_adds,s_gone⟩:Step)))):=by
 have hw:IntKind.i64.wrap ((s_adds.length:Int)+(s_gone.length:Int))=((s_adds.length+s_gone.length:Nat):Int):=by
  rw[←Int.natCast_add];exact IntWalk.i64_in _ (by unfold Jc at hA hG;omega)
 refine CallR.go1 (T:=T) Tryz.call98 Tryz.func98 rfl Tryz.ntmps98 (congrArg Array.toList Tryz.results98) (by decide) fun ts hn h0=>?_
 (repeat' (first
 | (with_reducible first|assumption|(refine Qw hK _ ?_;clear hK K)|refine Qw ‹_› _ ?_|refine Qx ‹_› ?_|refine Qi fun K hK=>?_|refine Qj T fun K hK=>?_|refine Ql fun A B hA hB=>?_|refine Qn ?_|refine Qr ?_)
 | ((with_reducible first|apply Qy|apply Qz|apply QA)<;>intro hb<;>try simp only[nr] at hb)
 |simp only[go_sem,↓reduceIte,reduceIte,Qa,Qh,Qb,Qc,Qd,Qe,Qf,Qg,reduceCtorEq, *]
 |with_reducible refine fun(bn:Bool) hbn=>?_))
 all_goals (unfold VM;rw[Bool.eq_iff_iff];simp;try omega)
theorem JeE(D:List Res)(G:List Key)(M:KS)(a:List Res)(H:List Key)(k:Int)(hD:Jc D.length):CallR Tryz.prog 143 [Vx D G M a H,.int .i64 k] (.val (.agg [.int .i64 k,.slice false (Ja (Vv D k)),.slice false []])):=by
 refine CallR.go2 (T:=T) Tryz.call143 Tryz.func143 rfl Tryz.ntmps143 (congrArg Array.toList Tryz.results143) (by decide) fun ts hn h0 h1=>?_
 (repeat' (first
 | (with_reducible first|refine callX.by (Jir _ _ ?_) ?_|assumption|(refine Qw hK _ ?_;clear hK K)|refine Qw ‹_› _ ?_|refine Qx ‹_› ?_|refine Qi fun K hK=>?_|refine Qj T fun K hK=>?_|refine Ql fun A B hA hB=>?_|refine Qn ?_|refine Qr ?_)
 | ((with_reducible first|apply Qy|apply Qz|apply QA)<;>intro hb<;>try simp only[nr] at hb)
 |simp only[go_sem,↓reduceIte,reduceIte,Qa,Qh,Qb,Qc,Qd,Qe,Qf,Qg,reduceCtorEq, *]
 |with_reducible refine fun(bn:Bool) hbn=>?_))
 all_goals trace_state
theorem JjI(r_kind:Int)(r_name:List UInt8)(r_ver:Int)(r_port:Int)(r_to:List UInt8)(r_rules:List Rule)(r_hosts:List Int)(D:List Res)(G:List Key)(M:KS)(a:List Res)(H:List Key):CallR Tryz.prog 181 [.agg [.int .i64 r_kind,.str r_name,.int .i64 r_ver,.int .i64 r_port,.str r_to,.slice false (Ja r_rules),.slice false (Ja r_hosts)],.ro [Vx D G M a H]] (.val (.bool (!Jm M (Je (⟨r_kind,r_name,r_ver,r_port,r_to,r_rules,r_hosts⟩:Res))))):=by
 refine CallR.go2 (T:=T) Tryz.call181 Tryz.func181 rfl Tryz.ntmps181 (congrArg Array.toList Tryz.results181) (by decide) fun ts hn h0 h1=>?_
 (repeat' (first
 | (with_reducible first|refine callX.by (J8 _ _ _ _ _ _ _) ?_|assumption|(refine Qw hK _ ?_;clear hK K)|refine Qw ‹_› _ ?_|refine Qx ‹_› ?_|refine Qi fun K hK=>?_|refine Qj T fun K hK=>?_|refine Qk (id:=1) T mixed [([4],[7,8,9]),([5],[8,9]),([6],[8,9]),([7],[4,8,9]),([8],[4,5,6,7]),([9],[4,5,6,7])] (by kernel_rfl) fun K hK=>?_|refine Ql fun A B hA hB=>?_|refine Qn ?_|refine Qr ?_)
 | ((with_reducible first|apply Qy|apply Qz|apply QA)<;>intro hb<;>try simp only[nr] at hb)
 |simp only[go_sem,↓reduceIte,reduceIte,Qa,Qh,Qb,Qc,Qd,Qe,Qf,Qg,reduceCtorEq, *]
 |with_reducible refine fun(bn:Bool) hbn=>?_))
 all_goals rfl
theorem JfY(D:List Res)(G:List Key)(M:KS)(a:List Res)(H:List Key):Caps [.ro [Vx D G M a H]]:=⟨by simp only[go_sem,Bool.and_self],by simp only[go_sem]⟩
theorem JjJ(D:List Res)(G:List Key)(M:KS)(a:List Res)(H:List Key)(k:Int)(hD:Jc D.length):CallR Tryz.prog 141 [Vx D G M a H,.int .i64 k] (.val (.agg [.int .i64 k,.slice false (Ja ((Vv D k).filter fun r=>Jm M (Je r))),.slice false []])):=by
 have hk:Jc (Vv D k).length:=Nat.le_trans (List.length_filter_le _ _) hD
 have hd:=Jbo 181 [.ro [Vx D G M a H]] (JfY D G M a H) (fun r=>!Jm M (Je r)) (Vv D k) (fun x _=>JjI x.kind x.name x.ver x.port x.to' x.rules' x.hosts D G M a H) hk
 simp only[Bool.not_not] at hd
 refine CallR.go2 (T:=T) Tryz.call141 Tryz.func141 rfl Tryz.ntmps141 (congrArg Array.toList Tryz.results141) (by decide) fun ts hn h0 h1=>?_
 (repeat' (first
 | (with_reducible refine callX.mv ?_ ?_ ?_ (hd);(focus(simp only[go_sem,↓reduceIte,reduceIte,Qa,Qh,Qb,Qc,Qd,Qe,Qf,Qg,reduceCtorEq, *,-hd];first|done|rfl));(focus(simp only[go_sem,↓reduceIte,reduceIte,Qa,Qh,Qb,Qc,Qd,Qe,Qf,Qg,reduceCtorEq, *,-hd];first|done|rfl)))
 |with_reducible refine callX.by (Jir _ _ ?_) ?_
 | (with_reducible refine callX.mv ?_ ?_ ?_ (Jbo ?_ ?_ ?_ ?_ ?_ ?_ ?_);(focus(simp only[go_sem,↓reduceIte,reduceIte,Qa,Qh,Qb,Qc,Qd,Qe,Qf,Qg,reduceCtorEq, *,-hd];first|done|rfl));(focus(simp only[go_sem,↓reduceIte,reduceIte,Qa,Qh,Qb,Qc,Qd,Qe,Qf,Qg,reduceCtorEq, *,-hd];first|done|rfl)))
 | (with_reducible first|assumption|(refine Qw hK _ ?_;clear hK K)|refine Qw ‹_› _ ?_|refine Qx ‹_› ?_|refine Qi fun K hK=>?_|refine Qj T fun K hK=>?_|refine Ql fun A B hA hB=>?_|refine Qn ?_|refine Qr ?_)
 | ((with_reducible first|apply Qy|apply Qz|apply QA)<;>intro hb<;>try simp only[nr] at hb)
 |simp only[go_sem,↓reduceIte,reduceIte,Qa,Qh,Qb,Qc,Qd,Qe,Qf,Qg,reduceCtorEq, *,-hd]
 |with_reducible refine fun(bn:Bool) hbn=>?_))
 all_goals trace_state
theorem Jhe(x_kind:Int)(x_name:List UInt8)(k:Int):CallR Tryz.prog 217 [.agg [.int .i64 x_kind,.str x_name],.ro [.int .i64 k]] (.val (.bool (!decide (x_kind=k)))):=by
 refine CallR.go2 (T:=T) Tryz.call217 Tryz.func217 rfl Tryz.ntmps217 (congrArg Array.toList Tryz.results217) (by decide) fun ts hn h0 h1=>?_
 (repeat' (first
 | (with_reducible first|assumption|(refine Qw hK _ ?_;clear hK K)|refine Qw ‹_› _ ?_|refine Qx ‹_› ?_|refine Qi fun K hK=>?_|refine Qj T fun K hK=>?_|refine Ql fun A B hA hB=>?_|refine Qn ?_|refine Qr ?_)
 | ((with_reducible first|apply Qy|apply Qz|apply QA)<;>intro hb<;>try simp only[nr] at hb)
 |simp only[go_sem,↓reduceIte,reduceIte,Qa,Qh,Qb,Qc,Qd,Qe,Qf,Qg,reduceCtorEq, *]
 |with_reducible refine fun(bn:Bool) hbn=>?_))
 all_goals trace_state
theorem Jlj(D:List Res)(G:List Key)(M:KS)(a:List Res)(H:List Key)(k:Int)(hG:Jc G.length):CallS Tryz.prog 182 [Vx D G M a H,.int .i64 k] k 2 (Ja (VS G k)):=by
 have hd:=Jan 217 [.ro [.int .i64 k]] (Jeh k) (fun x=>!decide (x.kind=k)) G (fun x _=>Jhe x.kind x.name k) hG
 simp only[Bool.not_not] at hd
 have e:G.filter (fun x=>decide (x.kind=k))=VS G k:=rfl
 rw[e] at hd
 refine CallS.go (T:=T) Tryz.call182 Tryz.func182 rfl Tryz.ntmps182 (congrArg Array.toList Tryz.results182) (Nat.le_of_ble_eq_true rfl) fun ts hn ⟨h0,h1,_⟩=>?_
 (repeat' (first
 | (with_reducible refine callX.mv ?_ ?_ ?_ (hd);(focus(simp only[go_sem,↓reduceIte,reduceIte,Qa,Qh,Qb,Qc,Qd,Qe,Qf,Qg,reduceCtorEq, *,-hd,-e];first|done|rfl));(focus(simp only[go_sem,↓reduceIte,reduceIte,Qa,Qh,Qb,Qc,Qd,Qe,Qf,Qg,reduceCtorEq, *,-hd,-e];first|done|rfl)))
 |with_reducible refine callX.by (Jga _ _ ?_) ?_
 | (with_reducible refine callX.mv ?_ ?_ ?_ (Jan ?_ ?_ ?_ ?_ ?_ ?_ ?_);(focus(simp only[go_sem,↓reduceIte,reduceIte,Qa,Qh,Qb,Qc,Qd,Qe,Qf,Qg,reduceCtorEq, *,-hd,-e];first|done|rfl));(focus(simp only[go_sem,↓reduceIte,reduceIte,Qa,Qh,Qb,Qc,Qd,Qe,Qf,Qg,reduceCtorEq, *,-hd,-e];first|done|rfl)))
 | (with_reducible first|assumption|(refine Qw hK _ ?_;clear hK K)|refine Qw ‹_› _ ?_|refine Qx ‹_› ?_|refine Qi fun K hK=>?_|refine Qj T fun K hK=>?_|refine Ql fun A B hA hB=>?_|refine Qn ?_|refine Qr ?_)
 | ((with_reducible first|apply Qy|apply Qz|apply QA)<;>intro hb<;>try simp only[nr] at hb)
 |simp only[go_sem,↓reduceIte,reduceIte,Qa,Qh,Qb,Qc,Qd,Qe,Qf,Qg,reduceCtorEq, *,-hd,-e]
 |with_reducible refine fun(bn:Bool) hbn=>?_))
 all_goals trace_state
theorem JeM(D:List Res)(G:List Key)(M:KS)(a:List Res)(H:List Key)(k:Int)(hG:Jc G.length):CallR Tryz.prog 182 [Vx D G M a H,.int .i64 k] (.val (.agg [.int .i64 k,.slice false [],.slice false (Ja (VS G k))])):=by
 have hd:=Jan 217 [.ro [.int .i64 k]] (Jeh k) (fun x=>!decide (x.kind=k)) G (fun x _=>Jhe x.kind x.name k) hG
 simp only[Bool.not_not] at hd
 have e:G.filter (fun x=>decide (x.kind=k))=VS G k:=rfl
 rw[e] at hd
 refine CallR.go2 (T:=T) Tryz.call182 Tryz.func182 rfl Tryz.ntmps182 (congrArg Array.toList Tryz.results182) (by decide) fun ts hn h0 h1=>?_
 (repeat' (first
 | (with_reducible refine callX.mv ?_ ?_ ?_ (hd);(focus(simp only[go_sem,↓reduceIte,reduceIte,Qa,Qh,Qb,Qc,Qd,Qe,Qf,Qg,reduceCtorEq, *,-hd,-e];first|done|rfl));(focus(simp only[go_sem,↓reduceIte,reduceIte,Qa,Qh,Qb,Qc,Qd,Qe,Qf,Qg,reduceCtorEq, *,-hd,-e];first|done|rfl)))
 |with_reducible refine callX.by (Jga _ _ ?_) ?_
 | (with_reducible refine callX.mv ?_ ?_ ?_ (Jan ?_ ?_ ?_ ?_ ?_ ?_ ?_);(focus(simp only[go_sem,↓reduceIte,reduceIte,Qa,Qh,Qb,Qc,Qd,Qe,Qf,Qg,reduceCtorEq, *,-hd,-e];first|done|rfl));(focus(simp only[go_sem,↓reduceIte,reduceIte,Qa,Qh,Qb,Qc,Qd,Qe,Qf,Qg,reduceCtorEq, *,-hd,-e];first|done|rfl)))
 | (with_reducible first|assumption|(refine Qw hK _ ?_;clear hK K)|refine Qw ‹_› _ ?_|refine Qx ‹_› ?_|refine Qi fun K hK=>?_|refine Qj T fun K hK=>?_|refine Ql fun A B hA hB=>?_|refine Qn ?_|refine Qr ?_)
 | ((with_reducible first|apply Qy|apply Qz|apply QA)<;>intro hb<;>try simp only[nr] at hb)
 |simp only[go_sem,↓reduceIte,reduceIte,Qa,Qh,Qb,Qc,Qd,Qe,Qf,Qg,reduceCtorEq, *,-hd,-e]
 |with_reducible refine fun(bn:Bool) hbn=>?_))
 all_goals trace_state
theorem JjY(x_kind:Int)(x_name:List UInt8)(D:List Res)(G:List Key)(M:KS)(a:List Res)(H:List Key)(ha:a.length≤65536)(hs:∀r∈a,Jw r)(hH:Jc H.length):CallR Tryz.prog 183 [.agg [.int .i64 x_kind,.str x_name],.ro [Vx D G M a H]] (.val (.bool (decide ((⟨x_kind,x_name⟩:Key)∈H) || decide (0<(J4 a (⟨x_kind,x_name⟩:Key)).length)))):=by
 have w1:=Je0 a x_kind x_name ha hs
 have w2:=Jbn H x_kind x_name hH
 have e:(H.any fun y=>decide ((⟨x_kind,x_name⟩:Key)=y))=decide ((⟨x_kind,x_name⟩:Key)∈H):=by rw[Bool.eq_iff_iff];simp
 rw[e] at w2
 have hRl:(J4 a (⟨x_kind,x_name⟩:Key)).length≤a.length:=by unfold J4;rw[List.length_map];exact List.length_filter_le _ _
 clear e hs
 generalize J4 a (⟨x_kind,x_name⟩:Key)=R at *
 by_cases hm:(⟨x_kind,x_name⟩:Key)∈H
 ·rw[decide_eq_true hm] at w2 ⊢
  refine CallR.go2 (T:=T) Tryz.call183 Tryz.func183 rfl Tryz.ntmps183 (congrArg Array.toList Tryz.results183) (by decide) fun ts hn h0 h1=>?_
  (repeat' (first
 | (with_reducible first|refine callX.by (w1) ?_|refine callX.by (w2) ?_|refine callX.by (Jbn _ _ _ ?_) ?_|refine callX.by (Je0 _ _ _ ?_ ?_) ?_|assumption|(refine Qw hK _ ?_;clear hK K)|refine Qw ‹_› _ ?_|refine Qx ‹_› ?_|refine Qi fun K hK=>?_|refine Qj T fun K hK=>?_|refine Qk (id:=1) T mixed JfF (by kernel_rfl) fun K hK=>?_|refine Ql fun A B hA hB=>?_|refine Qn ?_|refine Qr ?_)
 | ((with_reducible first|apply Qy|apply Qz|apply QA)<;>intro hb<;>try simp only[nr] at hb)
 |simp only[go_sem,↓reduceIte,reduceIte,Qa,Qh,Qb,Qc,Qd,Qe,Qf,Qg,reduceCtorEq, *,-w1,-w2,-hm]
 |with_reducible refine fun(bn:Bool) hbn=>?_))
  all_goals trace_state
 ·rw[decide_eq_false hm] at w2 ⊢
  refine CallR.go2 (T:=T) Tryz.call183 Tryz.func183 rfl Tryz.ntmps183 (congrArg Array.toList Tryz.results183) (by decide) fun ts hn h0 h1=>?_
  (repeat' (first
 | (with_reducible first|refine callX.by (w1) ?_|refine callX.by (w2) ?_|refine callX.by (Jbn _ _ _ ?_) ?_|refine callX.by (Je0 _ _ _ ?_ ?_) ?_|assumption|(refine Qw hK _ ?_;clear hK K)|refine Qw ‹_› _ ?_|refine Qx ‹_› ?_|refine Qi fun K hK=>?_|refine Qj T fun K hK=>?_|refine Qk (id:=1) T mixed JfF (by kernel_rfl) fun K hK=>?_|refine Ql fun A B hA hB=>?_|refine Qn ?_|refine Qr ?_)
 | ((with_reducible first|apply Qy|apply Qz|apply QA)<;>intro hb<;>try simp only[nr] at hb)
 |simp only[go_sem,↓reduceIte,reduceIte,Qa,Qh,Qb,Qc,Qd,Qe,Qf,Qg,reduceCtorEq, *,-w1,-w2,-hm]
 |with_reducible refine fun(bn:Bool) hbn=>?_))
  all_goals (rw[Bool.eq_iff_iff];simp;try omega)
theorem JjZ(D:List Res)(G:List Key)(M:KS)(a:List Res)(H:List Key)(k:Int)(hG:Jc G.length)(ha:a.length≤65536)(hs:∀r∈a,Jw r)(hH:Jc H.length):CallR Tryz.prog 144 [Vx D G M a H,.int .i64 k] (.val (.agg [.int .i64 k,.slice false [],.slice false (Ja (Zw a H G k))])):=by
 have w1:=Jlj D G M a H k hG
 have hk:Jc (VS G k).length:=Nat.le_trans (List.length_filter_le _ _) hG
 have hd:=Jan 183 [.ro [Vx D G M a H]] (JfY D G M a H) (fun x=>decide (x∈H) || decide (0<(J4 a x).length)) (VS G k) (fun x _=>JjY x.kind x.name D G M a H ha hs hH) hk
 have e:(VS G k).filter (fun x=>!(decide (x∈H) || decide (0<(J4 a x).length)))=Zw a H G k:=rfl
 rw[e] at hd
 clear hs e
 refine CallR.go2 (T:=T) Tryz.call144 Tryz.func144 rfl Tryz.ntmps144 (congrArg Array.toList Tryz.results144) (by decide) fun ts hn h0 h1=>?_
 (repeat' (first
 | (with_reducible first|refine Qu T 2 (id:=1) rfl rfl fun K hK=>?_|refine fun(K2:TS→Prop) (hK2:NxK _ K2)=>?_|refine SpecO.callS rfl rfl ?_ w1 rfl ?_ ?_|refine Qw hK2 _ ?_|refine fun(K3:TS→Prop) (hK3:NxK _ K3)=>?_)
 | (with_reducible refine callX.mv ?_ ?_ ?_ (hd);(focus(simp only[go_sem,↓reduceIte,reduceIte,Qa,Qh,Qb,Qc,Qd,Qe,Qf,Qg,reduceCtorEq, *,-w1,-hd];first|done|rfl));(focus(simp only[go_sem,↓reduceIte,reduceIte,Qa,Qh,Qb,Qc,Qd,Qe,Qf,Qg,reduceCtorEq, *,-w1,-hd];first|done|rfl)))
 |with_reducible refine callX.by (JeM _ _ _ _ _ _ ?_) ?_
 | (with_reducible refine callX.mv ?_ ?_ ?_ (Jan ?_ ?_ ?_ ?_ ?_ ?_ ?_);(focus(simp only[go_sem,↓reduceIte,reduceIte,Qa,Qh,Qb,Qc,Qd,Qe,Qf,Qg,reduceCtorEq, *,-w1,-hd];first|done|rfl));(focus(simp only[go_sem,↓reduceIte,reduceIte,Qa,Qh,Qb,Qc,Qd,Qe,Qf,Qg,reduceCtorEq, *,-w1,-hd];first|done|rfl)))
 | (with_reducible first|assumption|(refine Qw hK _ ?_;clear hK K)|refine Qw ‹_› _ ?_|refine Qx ‹_› ?_|refine Qi fun K hK=>?_|refine Qj T fun K hK=>?_|refine Ql fun A B hA hB=>?_|refine Qn ?_|refine Qr ?_)
 | ((with_reducible first|apply Qy|apply Qz|apply QA)<;>intro hb<;>try simp only[nr] at hb)
 |simp only[go_sem,↓reduceIte,reduceIte,Qa,Qh,Qb,Qc,Qd,Qe,Qf,Qg,reduceCtorEq, *,-w1,-hd]
 |with_reducible refine fun(bn:Bool) hbn=>?_))
 all_goals trace_state
theorem JjF(D:List Res)(G:List Key)(M:KS)(a:List Res)(H:List Key)(k:Int)(hD:Jc D.length)(hG:Jc G.length):CallR Tryz.prog 142 [Vx D G M a H,.int .i64 k] (.val (.agg [.int .i64 k,.slice false (Ja (Vv D k)),.slice false (Ja (VS G k))])):=by
 have w1:=JeE D G M a H k hD
 have w2:=JeM D G M a H k hG
 refine CallR.go2 (T:=T) Tryz.call142 Tryz.func142 rfl Tryz.ntmps142 (congrArg Array.toList Tryz.results142) (by decide) fun ts hn h0 h1=>?_
 (repeat' (first
 | (with_reducible first|refine callX.by (w1) ?_|refine callX.by (w2) ?_|refine callX.by (JeE _ _ _ _ _ _ ?_) ?_|refine callX.by (JeM _ _ _ _ _ _ ?_) ?_|assumption|(refine Qw hK _ ?_;clear hK K)|refine Qw ‹_› _ ?_|refine Qx ‹_› ?_|refine Qi fun K hK=>?_|refine Qj T fun K hK=>?_|refine Ql fun A B hA hB=>?_|refine Qn ?_|refine Qr ?_)
 | ((with_reducible first|apply Qy|apply Qz|apply QA)<;>intro hb<;>try simp only[nr] at hb)
 |simp only[go_sem,↓reduceIte,reduceIte,Qa,Qh,Qb,Qc,Qd,Qe,Qf,Qg,reduceCtorEq, *,-w1,-w2]
 |with_reducible refine fun(bn:Bool) hbn=>?_))
 all_goals trace_state
@[go_sem] def Jd4:List (List Nat×List Nat):=[([34],[37,38,39]),([35],[38,39]),([36],[38,39]),([37],[34,38,39]),([38],[34,35,36,37]),([39],[34,35,36,37])]
abbrev Jbc(ys:List Res):Prop:=CallR Tryz.prog 22 [.slice false (Ja ys)] (.own 7 (Ja (JX ys)))
theorem JaR(xs ys:List Res)(H:List Key)(hl:Jc xs.length)(hl2:Jc ys.length)(hs:∀r∈xs,Jw r)(hre:Jbc ys):CallR Tryz.prog 96 [.slice false (Ja xs),.slice false (Ja ys),.slice false (Ja H)] (.val (Vx (JA xs ys) (JD xs ys) (JY (JX ys) []) xs H)):=by
 have w1:=JaT xs ys hl hl2 hs
 have w2:=CallR.frz hre
 have hRl:=JhJ ys
 clear hre hs
 generalize JA xs ys=D at *
 generalize JD xs ys=G at *
 generalize JX ys=R at *
 have hRs:Jc R.length:=by unfold Jc at *;omega
 refine CallR.go3 (T:=T) Tryz.call96 Tryz.func96 rfl Tryz.ntmps96 (congrArg Array.toList Tryz.results96) (by decide) fun ts hn h0 h1 h2=>?_
 (repeat' (first
 | (with_reducible first|refine callX.by (w1) ?_|refine callX.by (w2) ?_|refine callX.by (JaT _ _ ?_ ?_ ?_) ?_|refine callX.by (Jcq _ ?_ ?_) ?_|refine callX.by (Jdv _ ?_ ?_ _) ?_|refine callX.by a6rc ?_|refine callX.by (J8 _ _ _ _ _ _ _) ?_|assumption|(refine Qw hK _ ?_;clear hK K)|refine Qw ‹_› _ ?_|refine Qx ‹_› ?_|refine Qi fun K hK=>?_|refine Qj T fun K hK=>?_|refine Qk (id:=6) T mixed Jd4 (by kernel_rfl) fun K hK=>?_|refine Ql fun A B hA hB=>?_|refine Qm ?_|refine Qn ?_|refine Qp ?_|refine Qr ?_)
 | ((with_reducible first|apply Qy|apply Qz|apply QA)<;>intro hb<;>try simp only[nr] at hb)
 |simp only[go_sem,↓reduceIte,reduceIte,Qa,Qh,Qb,Qc,Qd,Qe,Qf,Qg,reduceCtorEq, *,-w1,-w2]
 |with_reducible refine fun(bn:Bool) hbn=>?_))
 refine Qs [28,29] (fun m ts'=>∃(i:Nat),∃(M:KS),m=R.length-i∧i≤R.length∧JY R []=JY (R.drop i) M∧ts'.tmp 7=.ref 14 (ts.gen 14+1) 0∧ts'.gen 14=ts.gen 14+1∧ts'.obj 14=.box [.slice false (Ja D),.slice false (Ja G),.mref 12 (ts.gen 12+1),.slice false (Ja xs),.slice false (Ja H)]∧ts'.gen 12=ts.gen 12+1∧ts'.obj 12=.mp (Jo M) (Js M)∧ts'.tmp 30=.int .i64 i) R.length ?_ ?_
 ·refine⟨0,[],rfl,Nat.zero_le _,rfl,?_⟩
  simp only[go_sem,↓reduceIte,reduceIte,Qa,Qh,Qb,Qc,Qd,Qe,Qf,Qg,reduceCtorEq, *,-w1,-w2]
 ·rintro m A hM ts' hk ⟨i,M,hm,f1,f2,s1,s2,s3,s4,s5,s6⟩
  simp only[go_sem,↓reduceIte,reduceIte,Qa,Qh,Qb,Qc,Qd,Qe,Qf,Qg,reduceCtorEq, *] at hk
  by_cases hlt:i<R.length
  ·rw[List.drop_eq_getElem_cons hlt] at f2
   (repeat' (first
 | (with_reducible first|refine callX.by (JaT _ _ ?_ ?_ ?_) ?_|refine callX.by (Jcq _ ?_ ?_) ?_|refine callX.by (Jdv _ ?_ ?_ _) ?_|refine callX.by a6rc ?_|refine callX.by (J8 _ _ _ _ _ _ _) ?_|assumption|(refine Qw hK _ ?_;clear hK K)|refine Qw ‹_› _ ?_|refine Qx ‹_› ?_|refine Qi fun K hK=>?_|refine Qj T fun K hK=>?_|refine Qk (id:=6) T mixed Jd4 (by kernel_rfl) fun K hK=>?_|refine Ql fun A B hA hB=>?_|refine Qm ?_|refine Qn ?_|refine Qp ?_|refine Qr ?_)
 | ((with_reducible first|apply Qy|apply Qz|apply QA)<;>intro hb<;>try simp only[nr] at hb)
 |simp only[go_sem,↓reduceIte,reduceIte,Qa,Qh,Qb,Qc,Qd,Qe,Qf,Qg,reduceCtorEq, *,-w1,-w2,-f2]
 |with_reducible refine fun(bn:Bool) hbn=>?_))
   all_goals ((repeat clear hK);(repeat clear hA);(repeat clear hB))
   (refine hM.on (R.length-(i+1)) (by omega) (by simp only[go_sem,↓reduceIte,reduceIte,Qa,Qh,Qb,Qc,Qd,Qe,Qf,Qg,reduceCtorEq, *,Jd hlt hRs,Je,-w1,-w2,-f2]) ⟨i+1,JQ M (Je R[i]) true,rfl,by omega,by rw[f2];rfl,?_⟩;simp only[go_sem,↓reduceIte,reduceIte,Qa,Qh,Qb,Qc,Qd,Qe,Qf,Qg,reduceCtorEq, *,Jd hlt hRs,Je,-w1,-w2,-f2];done)
  ·rw[List.drop_eq_nil_of_le (by omega)] at f2
   have e:JY R []=M:=f2
   rw[e]
   (repeat' (first
 | (with_reducible first|refine SpecC.ent (Ent.frzBM2 14 2 12 ?_) (SpecC.ent (Ent.frzBox _ 14) (Qj T (id:=8) fun K hK=>?_))|refine callX.by (JaT _ _ ?_ ?_ ?_) ?_|refine callX.by (Jcq _ ?_ ?_) ?_|refine callX.by (Jdv _ ?_ ?_ _) ?_|refine callX.by a6rc ?_|refine callX.by (J8 _ _ _ _ _ _ _) ?_|assumption|(refine Qw hK _ ?_;clear hK K)|refine Qw ‹_› _ ?_|refine Qx ‹_› ?_|refine Qi fun K hK=>?_|refine Qj T fun K hK=>?_|refine Qk (id:=6) T mixed Jd4 (by kernel_rfl) fun K hK=>?_|refine Ql fun A B hA hB=>?_|refine Qm ?_|refine Qn ?_|refine Qp ?_|refine Qr ?_)
 | ((with_reducible first|apply Qy|apply Qz|apply QA)<;>intro hb<;>try simp only[nr] at hb)
 |simp only[go_sem,↓reduceIte,reduceIte,Qa,Qh,Qb,Qc,Qd,Qe,Qf,Qg,reduceCtorEq, *,-w1,-w2,-f2]
 |with_reducible refine fun(bn:Bool) hbn=>?_))
   all_goals ((repeat clear hK);(repeat clear hA);(repeat clear hB))
   all_goals trace_state
structure Ph where
 ks:List Int
 fn:Nat
 jd:List Res
 jg:List Key
 jm:KS
 ja:List Res
 jh:List Key
instance:Dat Ph where
 av x:=.agg [.slice false (Ja x.ks),.clo (.func x.fn) [Vx x.jd x.jg x.jm x.ja x.jh] []]
 sz:=2
 len _:=rfl
 pure x:=by simp only[go_sem,Bool.and_self]
 nrm x:=by simp only[go_sem]
 one x:=by simp only[go_sem,List.all_cons,List.all_nil,Bool.and_self]
 known _:=rfl
@[go_sem] theorem Jrk(x:Ph):Dat.av x=.agg [.slice false (Ja x.ks),.clo (.func x.fn) [Vx x.jd x.jg x.jm x.ja x.jh] []]:=rfl
@[go_sem] theorem JFv:Dat.sz Ph=2:=rfl
def phs(D:List Res)(G:List Key)(M:KS)(a:List Res)(H:List Key):List Ph :=
 [⟨[3,2,1],141,D,G,M,a,H⟩,⟨[0],142,D,G,M,a,H⟩,⟨[3,2,1],143,D,G,M,a,H⟩,⟨[1,2,3],144,D,G,M,a,H⟩]
theorem Ja5(D:List Res)(G:List Key)(M:KS)(a:List Res)(H:List Key):CallR Tryz.prog 97 [Vx D G M a H] (.val (.slice false (Ja (phs D G M a H)))):=by
 refine CallR.go1 (T:=T.withF [5,6,11,23]) Tryz.call97 Tryz.func97 rfl Tryz.ntmps97 (congrArg Array.toList Tryz.results97) (by decide) fun ts hn h0=>?_
 (repeat' (first
 | (with_reducible first|assumption|(refine Qw hK _ ?_;clear hK K)|refine Qw ‹_› _ ?_|refine Qx ‹_› ?_|refine Qi fun K hK=>?_|refine Qj (T.withF [5,6,11,23]) fun K hK=>?_|refine Ql fun A B hA hB=>?_|refine Qn ?_|refine Qr ?_)
 | ((with_reducible first|apply Qy|apply Qz|apply QA)<;>intro hb<;>try simp only[nr] at hb)
 |simp only[go_sem,↓reduceIte,reduceIte,Qa,Qh,Qb,Qc,Qd,Qe,Qf,Qg,reduceCtorEq, *]
 |with_reducible refine fun(bn:Bool) hbn=>?_))
 all_goals first|rfl|trace_state
def YB:Step:=⟨0,[],[]⟩
theorem JfX(a b:List Res)(H:List Key)(i:Nat):(JN a b H i).adds.length≤b.length∧(JN a b H i).gone.length≤a.length:=by
 have hA:∀ {l:List Res},l.Sublist (JA a b)→l.length≤b.length:=fun h=>(h.trans (Jb4 a b)).length_le
 have hG:∀ {l:List Key},l.Sublist (JD a b)→l.length≤a.length:=fun h=>by simpa using(h.trans (JcX a b)).length_le
 unfold JN
 split
 ·exact⟨hA (Jel _ _ _),Nat.zero_le _⟩
 ·split
  ·exact⟨hA List.filter_sublist,hG List.filter_sublist⟩
  ·split
   ·exact⟨hA List.filter_sublist,Nat.zero_le _⟩
   ·exact⟨Nat.zero_le _,hG (Jj0 _ _ _ _)⟩
def J7:Nat→Nat
 |0=>0
 |1=>3
 |2=>4
 |3=>7
 |_=>10
theorem Jlv(D:List Res)(G:List Key)(M:KS)(a:List Res)(H:List Key):(phs D G M a H).length=4:=rfl
theorem JjK(b D:List Res)(k:Int):(Vv D k).filter (fun r=>Jm (JY (JX b) []) (Je r))=Yp b D k:=by
 unfold Yp
 refine List.filter_congr fun r _=>?_
 rw[JgI]
theorem Jlu(a b:List Res)(H:List Key)(hl:a.length≤65536)(hl2:Jc b.length)(hs:∀r∈a,Jw r)(hH:Jc H.length)(i:Nat)(hi:i<4) :
  ∃(ks:List Int) (fn:Nat),(phs (JA a b) (JD a b) (JY (JX b) []) a H)[i]?=some ⟨ks,fn,JA a b,JD a b,JY (JX b) [],a,H⟩∧ks.length≤3∧J7 (i+1)=J7 i+ks.length ∧
   ∀(k:Nat) (hk:k<ks.length),CallR Tryz.prog fn [Vx (JA a b) (JD a b) (JY (JX b) []) a H,.int .i64 ks[k]] (.val (.agg [.int .i64 (JN a b H (J7 i+k)).kind,.slice false (Ja (JN a b H (J7 i+k)).adds),.slice false (Ja (JN a b H (J7 i+k)).gone)])):=by
 have hD:Jc (JA a b).length:=Nat.le_trans (Jb4 a b).length_le hl2
 have hG:Jc (JD a b).length:=by
  have:=(JcX a b).length_le
  rw[List.length_map] at this
  unfold Jc;omega
 have e1:∀k:Int,CallR Tryz.prog 141 [Vx (JA a b) (JD a b) (JY (JX b) []) a H,.int .i64 k] (.val (.agg [.int .i64 k,.slice false (Ja (Yp b (JA a b) k)),.slice false []])):=fun k=>by
  have:=JjJ (JA a b) (JD a b) (JY (JX b) []) a H k hD
  rw[JjK] at this
  exact this
 have e2:=fun k=>JjF (JA a b) (JD a b) (JY (JX b) []) a H k hD hG
 have e3:=fun k=>JeE (JA a b) (JD a b) (JY (JX b) []) a H k hD
 have e4:=fun k=>JjZ (JA a b) (JD a b) (JY (JX b) []) a H k hG hl hs hH
 match i,hi with
 |0,_=>exact⟨[3,2,1],_,rfl,by decide,rfl,fun k hk=>match k,hk with
  |0,_=>e1 3
  |1,_=>e1 2
  |2,_=>e1 1⟩
 |1,_=>exact⟨[0],_,rfl,by decide,rfl,fun k hk=>match k,hk with
  |0,_=>e2 0⟩
 |2,_=>exact⟨[3,2,1],_,rfl,by decide,rfl,fun k hk=>match k,hk with
  |0,_=>e3 3
  |1,_=>e3 2
  |2,_=>e3 1⟩
 |3,_=>exact⟨[1,2,3],_,rfl,by decide,rfl,fun k hk=>match k,hk with
  |0,_=>e4 1
  |1,_=>e4 2
  |2,_=>e4 3⟩
theorem Jlt{i:Nat}(h:i<4){n:Nat}(e:J7 (i+1)=J7 i+n){k:Nat}(hk:k<n):J7 i+k<10:=by
 have:J7 (i+1)≤10:=match i,h with
  |0,_=>by decide
  |1,_=>by decide
  |2,_=>by decide
  |3,_=>by decide
 omega
theorem Jb8{a b:List Res}{H:List Key}{n:Nat}(h:n<10):VD a b H (10-n) n=if VM (JN a b H n)=true then some (JN a b H n) else VD a b H (10-(n+1)) (n+1):=by
 rw[show 10-n=(10-(n+1))+1 by omega]
 rfl
set_option maxHeartbeats 4000000 in
theorem VQ(a b:List Res)(H:List Key)(hl:a.length≤65536)(hl2:Jc b.length)(hs:∀r∈a,Jw r)(hH:Jc H.length)(hre:Jbc b):CallR Tryz.prog 32 [.slice false (Ja a),.slice false (Ja b),.slice false (Ja H)] (.val (.tup [.agg [.int .i64 ((Jz a b H).getD YB).kind,.slice false (Ja ((Jz a b H).getD YB).adds),.slice false (Ja ((Jz a b H).getD YB).gone)],.bool (Jz a b H).isSome])):=by
 have w1:=JaR a b H (Yz hl) hl2 hs hre
 have w2:=Ja5 (JA a b) (JD a b) (JY (JX b) []) a H
 have hph:=Jlu a b H hl hl2 hs hH
 have hcl:=JfX a b H
 have hpl:=Jlv (JA a b) (JD a b) (JY (JX b) []) a H
 generalize JA a b=D at *
 generalize JD a b=G at *
 generalize JY (JX b) []=M at *
 generalize phs D G M a H=F at *
 have hph:∀(i:Nat) (hi:i<F.length),∃(ks:List Int) (fn:Nat),F[i]=⟨ks,fn,D,G,M,a,H⟩∧ks.length≤3∧J7 (i+1)=J7 i+ks.length∧∀(k:Nat) (hk:k<ks.length),CallR Tryz.prog fn [Vx D G M a H,.int .i64 ks[k]] (.val (.agg [.int .i64 (JN a b H (J7 i+k)).kind,.slice false (Ja (JN a b H (J7 i+k)).adds),.slice false (Ja (JN a b H (J7 i+k)).gone)])):=fun i hi=>by
  obtain⟨ks,fn,q1,q2⟩:=hph i (by omega)
  rw[List.getElem?_eq_getElem hi] at q1
  exact⟨ks,fn,Option.some.inj q1,q2⟩
 clear hs hre
 have e0:Jz a b H=VD a b H 10 0:=rfl
 refine CallR.go3 (T:=T) Tryz.call32 Tryz.func32 rfl Tryz.ntmps32 (congrArg Array.toList Tryz.results32) (by decide) fun ts hn h0 h1 h2=>?_
 (repeat' (first
 | (with_reducible first|refine callX.by (w1) ?_|refine callX.by (w2) ?_|refine SpecC.scopeF 0 [] (fun _ _=>False) 0 rfl (fun J hJ=>?_) (fun _ _ _ _ _ h=>h.elim)|refine callX.by (JaR _ _ _ ?_ ?_ ?_ ?_) ?_|refine callX.by (Ja5 _ _ _ _ _) ?_|refine callX.by (JaU _ _ _ ?_ ?_) ?_|assumption|(refine Qw hK _ ?_;clear hK K)|refine Qw ‹_› _ ?_|refine Qx ‹_› ?_|refine Qi fun K hK=>?_|refine Qj T fun K hK=>?_|refine Ql fun A B hA hB=>?_|refine Qm ?_|refine Qn ?_|refine Qo ?_|refine Qp ?_|refine Qr ?_)
 | ((with_reducible first|apply Qy|apply Qz|apply QA)<;>intro hb<;>try simp only[nr] at hb)
 |simp only[go_sem,↓reduceIte,reduceIte,Qa,Qh,Qb,Qc,Qd,Qe,Qf,Qg,reduceCtorEq, *,-w1,-w2,-hph,-hcl,-e0]
 |with_reducible refine fun(bn:Bool) hbn=>?_))
 refine Qs [6,18,19] (fun m ts'=>∃(i:Nat),∃(x:AV),∃(y:AV),∃(z:AV),m=4-i∧i≤4∧Jz a b H=VD a b H (10-J7 i) (J7 i)∧ts'.tmp 20=.int .i64 i∧ts'.tmp 9=.bool false∧ts'.tmp 8=.ref 8 (ts.gen 8+1) 0∧ts'.gen 8=ts.gen 8+1∧ts'.obj 8=.box [x,y,z]) 4 ?_ ?_
 ·refine⟨0,.int .i64 0,.slice true [],.slice true [],rfl,by omega,rfl,?_⟩
  simp only[go_sem,↓reduceIte,reduceIte,Qa,Qh,Qb,Qc,Qd,Qe,Qf,Qg,reduceCtorEq, *,-w1,-w2,-hph,-hcl,-e0]
 ·rintro m A hM ts' hk ⟨i,x,y,z,hm,f1,f2,s1,s2,s3,s4,s5⟩
  simp only[go_sem,↓reduceIte,reduceIte,Qa,Qh,Qb,Qc,Qd,Qe,Qf,Qg,reduceCtorEq, *] at hk
  by_cases hlt:i<F.length
  ·obtain⟨ks,fn,q1,q2,q3,hc⟩:=hph i hlt
   have hks:Jc ks.length:=by unfold Jc;omega
   have hi4:i<4:=by omega
   have hi4':(i:Int)<4:=by omega
   (repeat' (first
 | (with_reducible first|refine callX.by (JaR _ _ _ ?_ ?_ ?_ ?_) ?_|refine callX.by (Ja5 _ _ _ _ _) ?_|refine callX.by (JaU _ _ _ ?_ ?_) ?_|assumption|(refine Qw hK _ ?_;clear hK K)|refine Qw ‹_› _ ?_|refine Qx ‹_› ?_|refine Qi fun K hK=>?_|refine Qj T fun K hK=>?_|refine Ql fun A B hA hB=>?_|refine Qm ?_|refine Qn ?_|refine Qo ?_|refine Qp ?_|refine Qr ?_)
 | ((with_reducible first|apply Qy|apply Qz|apply QA)<;>intro hb<;>try simp only[nr] at hb)
 |simp only[go_sem,↓reduceIte,reduceIte,Qa,Qh,Qb,Qc,Qd,Qe,Qf,Qg,reduceCtorEq, *,-w1,-w2,-hph,-hcl,-e0,-f2,-hc]
 |with_reducible refine fun(bn:Bool) hbn=>?_))
   have hMo:=hM
   have hmo:=hm
   clear hM hm
   have f20:=f2
   clear f2
   refine Qs [6,11,18,19,20,25,26] (fun m ts'=>∃(k:Nat),∃(x:AV),∃(y:AV),∃(z:AV),m=ks.length-k∧k≤ks.length∧Jz a b H=VD a b H (10-(J7 i+k)) (J7 i+k)∧ts'.tmp 27=.int .i64 k∧ts'.tmp 9=.bool false∧ts'.tmp 8=.ref 8 (ts.gen 8+1) 0∧ts'.gen 8=ts.gen 8+1∧ts'.obj 8=.box [x,y,z]) ks.length ?_ ?_
   ·refine⟨0,x,y,z,rfl,Nat.zero_le _,f20,?_⟩
    simp only[go_sem,↓reduceIte,reduceIte,Qa,Qh,Qb,Qc,Qd,Qe,Qf,Qg,reduceCtorEq, *,-w1,-w2,-hph,-hcl,-e0,-f20,-hc]
   ·rintro m A hM ts' hk ⟨k,x,y,z,hm,f1,f2,s1,s2,s3,s4,s5⟩
    simp only[go_sem,↓reduceIte,reduceIte,Qa,Qh,Qb,Qc,Qd,Qe,Qf,Qg,reduceCtorEq, *] at hk
    by_cases hkt:k<ks.length
    ·have w3:=hc k hkt
     have hn10:=Jlt hi4 q3 hkt
     rw[Jb8 hn10] at f2
     obtain⟨c1,c2⟩:=hcl (J7 i+k)
     have w4:=JaU (JN a b H (J7 i+k)).kind (JN a b H (J7 i+k)).adds (JN a b H (J7 i+k)).gone (Nat.le_trans c1 hl2) (by unfold Jc;omega)
     have es:(⟨(JN a b H (J7 i+k)).kind,(JN a b H (J7 i+k)).adds,(JN a b H (J7 i+k)).gone⟩:Step)=JN a b H (J7 i+k):=rfl
     rw[es] at w4
     generalize JN a b H (J7 i+k)=s at *
     clear c1 c2 es
     cases hf:VM s with
     |true =>
      rw[if_pos hf] at f2
      rw[hf] at w4
      (repeat' (first
 | (with_reducible first|refine Qu T 3 (id:=9) rfl rfl fun K hK=>?_|refine fun(K2:TS→Prop) (hK2:NxK _ K2)=>?_|refine SpecO.callB rfl (fst:=[Vx D G M a H]) ?_ ?_ w3 rfl ?_ ?_|refine Qw hK2 _ ?_|refine fun(K3:TS→Prop) (hK3:NxK _ K3)=>?_|refine callX.by (w4) ?_|refine callX.by (JaR _ _ _ ?_ ?_ ?_ ?_) ?_|refine callX.by (Ja5 _ _ _ _ _) ?_|refine callX.by (JaU _ _ _ ?_ ?_) ?_|assumption|(refine Qw hK _ ?_;clear hK K)|refine Qw ‹_› _ ?_|refine Qx ‹_› ?_|refine Qi fun K hK=>?_|refine Qj T fun K hK=>?_|refine Ql fun A B hA hB=>?_|refine Qm ?_|refine Qn ?_|refine Qo ?_|refine Qp ?_|refine Qr ?_)
 | ((with_reducible first|apply Qy|apply Qz|apply QA)<;>intro hb<;>try simp only[nr] at hb)
 |simp only[go_sem,↓reduceIte,reduceIte,Qa,Qh,Qb,Qc,Qd,Qe,Qf,Qg,reduceCtorEq, *,-w1,-w2,-hph,-hcl,-e0,-f2,-f20,-hc,-w3,-w4]
 |with_reducible refine fun(bn:Bool) hbn=>?_))
      all_goals (rw[f2];exact⟨⟨rfl,rfl,rfl⟩,rfl⟩)
     |false =>
      rw[if_neg (by rw[hf];simp)] at f2
      rw[hf] at w4
      (repeat' (first
 | (with_reducible first|refine Qu T 3 (id:=9) rfl rfl fun K hK=>?_|refine fun(K2:TS→Prop) (hK2:NxK _ K2)=>?_|refine SpecO.callB rfl (fst:=[Vx D G M a H]) ?_ ?_ w3 rfl ?_ ?_|refine Qw hK2 _ ?_|refine fun(K3:TS→Prop) (hK3:NxK _ K3)=>?_|refine callX.by (w4) ?_|refine callX.by (JaR _ _ _ ?_ ?_ ?_ ?_) ?_|refine callX.by (Ja5 _ _ _ _ _) ?_|refine callX.by (JaU _ _ _ ?_ ?_) ?_|assumption|(refine Qw hK _ ?_;clear hK K)|refine Qw ‹_› _ ?_|refine Qx ‹_› ?_|refine Qi fun K hK=>?_|refine Qj T fun K hK=>?_|refine Ql fun A B hA hB=>?_|refine Qm ?_|refine Qn ?_|refine Qo ?_|refine Qp ?_|refine Qr ?_)
 | ((with_reducible first|apply Qy|apply Qz|apply QA)<;>intro hb<;>try simp only[nr] at hb)
 |simp only[go_sem,↓reduceIte,reduceIte,Qa,Qh,Qb,Qc,Qd,Qe,Qf,Qg,reduceCtorEq, *,-w1,-w2,-hph,-hcl,-e0,-f2,-f20,-hc,-w3,-w4]
 |with_reducible refine fun(bn:Bool) hbn=>?_))
      all_goals ((repeat clear hK);(repeat clear hA);(repeat clear hB))
      all_goals (refine hM.on (ks.length-(k+1)) (by omega) (by simp only[go_sem,↓reduceIte,reduceIte,Qa,Qh,Qb,Qc,Qd,Qe,Qf,Qg,reduceCtorEq, *,Jd hkt hks,-w1,-w2,-hph,-hcl,-e0,-f2,-f20,-hc,-w3,-w4]) ⟨k+1,.int .i64 s.kind,.slice false (Ja s.adds),.slice false (Ja s.gone),rfl,by omega,f2,?_⟩;simp only[go_sem,↓reduceIte,reduceIte,Qa,Qh,Qb,Qc,Qd,Qe,Qf,Qg,reduceCtorEq, *,Jd hkt hks,-w1,-w2,-hph,-hcl,-e0,-f2,-f20,-hc,-w3,-w4];done)
    ·have e1:J7 i+k=J7 (i+1):=by omega
     rw[e1] at f2
     (repeat' (first
 | (with_reducible first|refine callX.by (JaR _ _ _ ?_ ?_ ?_ ?_) ?_|refine callX.by (Ja5 _ _ _ _ _) ?_|refine callX.by (JaU _ _ _ ?_ ?_) ?_|assumption|(refine Qw hK _ ?_;clear hK K)|refine Qw ‹_› _ ?_|refine Qx ‹_› ?_|refine Qi fun K hK=>?_|refine Qj T fun K hK=>?_|refine Ql fun A B hA hB=>?_|refine Qm ?_|refine Qn ?_|refine Qo ?_|refine Qp ?_|refine Qr ?_)
 | ((with_reducible first|apply Qy|apply Qz|apply QA)<;>intro hb<;>try simp only[nr] at hb)
 |simp only[go_sem,↓reduceIte,reduceIte,Qa,Qh,Qb,Qc,Qd,Qe,Qf,Qg,reduceCtorEq, *,-w1,-w2,-hph,-hcl,-e0,-f2,-f20,-hc]
 |with_reducible refine fun(bn:Bool) hbn=>?_))
     all_goals ((repeat clear hK);(repeat clear hA);(repeat clear hB))
     all_goals (clear hM hm;have hM:=hMo;have hm:=hmo;(refine hM.on (4-(i+1)) (by omega) (by simp only[go_sem,↓reduceIte,reduceIte,Qa,Qh,Qb,Qc,Qd,Qe,Qf,Qg,reduceCtorEq, *,Jd hi4 (show Jc 4 by unfold Jc;omega),-w1,-w2,-hph,-hcl,-e0,-f2,-f20,-hc]) ⟨i+1,x,y,z,rfl,by omega,f2,?_⟩;simp only[go_sem,↓reduceIte,reduceIte,Qa,Qh,Qb,Qc,Qd,Qe,Qf,Qg,reduceCtorEq, *,Jd hi4 (show Jc 4 by unfold Jc;omega),-w1,-w2,-hph,-hcl,-e0,-f2,-f20,-hc];done))
  ·have hi4:¬i<4:=by omega
   have e4:i=4:=by omega
   subst e4
   have e5:Jz a b H=none:=f2
   (repeat' (first
 | (with_reducible first|refine callX.by (JaR _ _ _ ?_ ?_ ?_ ?_) ?_|refine callX.by (Ja5 _ _ _ _ _) ?_|refine callX.by (JaU _ _ _ ?_ ?_) ?_|assumption|(refine Qw hK _ ?_;clear hK K)|refine Qw ‹_› _ ?_|refine Qx ‹_› ?_|refine Qi fun K hK=>?_|refine Qj T fun K hK=>?_|refine Ql fun A B hA hB=>?_|refine Qm ?_|refine Qn ?_|refine Qo ?_|refine Qp ?_|refine Qr ?_)
 | ((with_reducible first|apply Qy|apply Qz|apply QA)<;>intro hb<;>try simp only[nr] at hb)
 |simp only[go_sem,↓reduceIte,reduceIte,Qa,Qh,Qb,Qc,Qd,Qe,Qf,Qg,reduceCtorEq, *,-w1,-w2,-hph,-hcl,-e0,-f2,-e5]
 |with_reducible refine fun(bn:Bool) hbn=>?_))
   all_goals ((repeat clear hK);(repeat clear hA);(repeat clear hB))
   all_goals (rw[e5];exact⟨⟨rfl,rfl,rfl⟩,rfl⟩)
def Zf(a:List Res)(G:List Key)(k:Int)(H:List Key):List Key:=G.filter fun x=>decide (x.kind=k) && (decide (k=0) || (!decide (x∈H) && decide ((J4 a x).length=0)))
theorem Jj5(a:List Res)(x:Key)(G:List Key)(k:Int)(H:List Key):Zf a (x :: G) k H=(if x.kind=k∧(k=0∨(¬x∈H∧(J4 a x).length=0)) then [x] else [])++Zf a G k H:=by
 unfold Zf
 rw[List.filter_cons]
 by_cases h:x.kind=k∧(k=0∨(¬x∈H∧(J4 a x).length=0))
 ·rw[if_pos (by simpa using h),if_pos h];rfl
 ·rw[if_neg (by simpa using h),if_neg h];rfl
theorem Jj7(a:List Res)(G H:List Key):Zf a G 0 H=VS G 0:=by
 unfold Zf VS
 exact List.filter_congr fun x _=>by simp
theorem Jj6(a:List Res)(G H:List Key){k:Int}(h:k≠0):Zf a G k H=Zw a H G k:=by
 unfold Zf Zw VS
 rw[List.filter_filter]
 refine List.filter_congr fun x _=>?_
 rw[decide_eq_false h,Bool.false_or]
 rw[Bool.eq_iff_iff]
 simp only[Bool.and_eq_true,decide_eq_true_eq,Bool.not_eq_true',decide_eq_false_iff_not,Bool.or_eq_false_iff]
 constructor
 ·rintro⟨h1,h2,h3⟩;exact⟨⟨h2,by omega⟩,h1⟩
 ·rintro⟨⟨h2,h3⟩,h1⟩;exact⟨h1,h2,by omega⟩
theorem JiV(D:List Res)(k:Int):Za D k [] true=Vv D k:=by
 unfold Za Vv
 exact List.filter_congr fun x _=>by simp
theorem JiU(b D:List Res)(k:Int):Za D k ((JX b).map Je) false=Yp b D k:=by
 unfold Za Yp Vv
 rw[List.filter_filter]
 refine List.filter_congr fun x _=>?_
 rw[Bool.false_or,Bool.and_comm]
set_option maxHeartbeats 4000000 in
theorem YH(a:List Res)(G:List Key)(k:Int)(H:List Key)(hl:a.length≤65536)(hs:∀r∈a,Jw r)(hG:G.length≤65536)(hH:Jc H.length):CallR Tryz.prog 101 [.slice false (Ja a),.slice false (Ja G),.int .i64 k,.slice false (Ja H)] (.own 2 (Ja (Zf a G k H))):=by
 have hsl:=Yz hG
 have hHs:=hH
 clear hH
 refine CallR.go4 (T:=T) Tryz.call101 Tryz.func101 rfl Tryz.ntmps101 (congrArg Array.toList Tryz.results101) (by decide) fun ts hn h0 h1 h2 h3=>?_
 (repeat' (first
 | (with_reducible first|refine callX.by (JJ _ _ _ ?_) ?_|refine callX.by (Z9 _ _ _ ?_ ?_) ?_|assumption|(refine Qw hK _ ?_;clear hK K)|refine Qw ‹_› _ ?_|refine Qx ‹_› ?_|refine Qi fun K hK=>?_|refine Qj T fun K hK=>?_|refine Ql fun A B hA hB=>?_|refine Qm ?_|refine Qn ?_|refine Qp ?_|refine Qr ?_)
 | ((with_reducible first|apply Qy|apply Qz|apply QA)<;>intro hb<;>try simp only[nr] at hb)
 |simp only[go_sem,↓reduceIte,reduceIte,Qa,Qh,Qb,Qc,Qd,Qe,Qf,Qg,reduceCtorEq, *,-hs]
 |with_reducible refine fun(bn:Bool) hbn=>?_))
 refine SpecC.ent (Ent.virt 9 2 (by simp only[go_sem,↓reduceIte,reduceIte,Qa,Qh,Qb,Qc,Qd,Qe,Qf,Qg,reduceCtorEq, *,-hs]) (by decide)) ?_
 refine Qs [0,1,2,3] (fun m ts'=>∃(i:Nat),∃(g:Nat),∃(ys:List Key),m=G.length-i∧i≤G.length∧ys.length≤i∧Zf a G k H=ys++Zf a (G.drop i) k H∧ts'.tmp 9=.os 9 g ys.length∧ts'.gen 9=g∧ts'.obj 9=.arr 2 (Ja ys)∧ts'.tmp 10=.int .i64 i) G.length ?_ ?_
 ·refine⟨0,ts.gen 9+1,[],rfl,Nat.zero_le _,Nat.le_refl _,rfl,?_⟩
  simp only[go_sem,↓reduceIte,reduceIte,Qa,Qh,Qb,Qc,Qd,Qe,Qf,Qg,reduceCtorEq, *,-hs,Vo]
 ·rintro m A hM ts' hk ⟨i,g,ys,hm,f1,f2,f3,s1,s2,s3,s4⟩
  simp only[go_sem,↓reduceIte,reduceIte,Qa,Qh,Qb,Qc,Qd,Qe,Qf,Qg,reduceCtorEq, *] at hk
  by_cases hlt:i<G.length
  ·rw[List.drop_eq_getElem_cons hlt,Jj5] at f3
   have w2:=JJ H G[i].kind G[i].name hHs
   have w2:CallR Tryz.prog 64 [.slice false (Ja H),.agg [.int .i64 G[i].kind,.str G[i].name]] (.val (.bool (decide (G[i]∈H)))):=w2
   have w3:=(Z9 a G[i].kind G[i].name hl hs).frz
   have w3:CallR Tryz.prog 20 [.slice false (Ja a),.agg [.int .i64 G[i].kind,.str G[i].name]] (.val (.slice false (Ja (J4 a G[i])))):=w3
   have hr:JT (ys.length+1) 24:=Vt (by omega) (by decide)
   generalize J4 a G[i]=Rf at *
   generalize hmm:decide (G[i]∈H)=mm at *
   by_cases hc:G[i].kind=k∧(k=0∨(¬G[i]∈H∧Rf.length=0))
   ·rw[if_pos hc] at f3
    obtain⟨c1,c2⟩:=hc
    by_cases hk0:k=0
    ·clear c2 hmm
     subst hk0
     have hdk:decide (G[i].kind=0)=true:=decide_eq_true c1
     (repeat' (first
 | (with_reducible first|refine callX.by (w2) ?_|refine callX.by (w3) ?_|refine callX.by (JJ _ _ _ ?_) ?_|refine callX.by (Z9 _ _ _ ?_ ?_) ?_|assumption|(refine Qw hK _ ?_;clear hK K)|refine Qw ‹_› _ ?_|refine Qx ‹_› ?_|refine Qi fun K hK=>?_|refine Qj T fun K hK=>?_|refine Ql fun A B hA hB=>?_|refine Qm ?_|refine Qn ?_|refine Qp ?_|refine Qr ?_)
 | ((with_reducible first|apply Qy|apply Qz|apply QA)<;>intro hb<;>try simp only[nr] at hb)
 |simp only[go_sem,↓reduceIte,reduceIte,Qa,Qh,Qb,Qc,Qd,Qe,Qf,Qg,reduceCtorEq, *,-hs,-w2,-w3,-f3,-c1]
 |with_reducible refine fun(bn:Bool) hbn=>?_))
     all_goals ((repeat clear hK);(repeat clear hA);(repeat clear hB))
     all_goals (refine hM.onE (G.length-(i+1)) (Ent.ren 9 55 ?_ ?_) ?_ ?_ ?_;(focus(simp only[go_sem,↓reduceIte,reduceIte,Qa,Qh,Qb,Qc,Qd,Qe,Qf,Qg,reduceCtorEq, *,Jd hlt hsl,List.length_append,-hs,-w2,-w3,-f3,-c1];first|done|rfl));(focus(simp only[go_sem,↓reduceIte,reduceIte,Qa,Qh,Qb,Qc,Qd,Qe,Qf,Qg,reduceCtorEq, *,Jd hlt hsl,List.length_append,-hs,-w2,-w3,-f3,-c1];first|done|rfl));omega;(focus(simp only[go_sem,↓reduceIte,reduceIte,Qa,Qh,Qb,Qc,Qd,Qe,Qf,Qg,reduceCtorEq, *,Jd hlt hsl,List.length_append,-hs,-w2,-w3,-f3,-c1];done));refine⟨i+1,ts'.gen 9+1,ys++[G[i]],rfl,by omega,by simp;omega,by rw[f3,List.append_assoc],?_⟩;simp only[go_sem,↓reduceIte,reduceIte,Qa,Qh,Qb,Qc,Qd,Qe,Qf,Qg,reduceCtorEq, *,Jd hlt hsl,List.length_append,-hs,-w2,-w3,-f3,-c1];done)
    ·obtain⟨c3,c4⟩:=c2.resolve_left hk0
     have hm2:mm=false:=by rw[←hmm];exact decide_eq_false c3
     subst hm2
     have c5:(Rf.length:Int)=0:=by omega
     clear c2 c3 hmm
     (repeat' (first
 | (with_reducible first|refine callX.by (w2) ?_|refine callX.by (w3) ?_|refine callX.by (JJ _ _ _ ?_) ?_|refine callX.by (Z9 _ _ _ ?_ ?_) ?_|assumption|(refine Qw hK _ ?_;clear hK K)|refine Qw ‹_› _ ?_|refine Qx ‹_› ?_|refine Qi fun K hK=>?_|refine Qj T fun K hK=>?_|refine Ql fun A B hA hB=>?_|refine Qm ?_|refine Qn ?_|refine Qp ?_|refine Qr ?_)
 | ((with_reducible first|apply Qy|apply Qz|apply QA)<;>intro hb<;>try simp only[nr] at hb)
 |simp only[go_sem,↓reduceIte,reduceIte,Qa,Qh,Qb,Qc,Qd,Qe,Qf,Qg,reduceCtorEq, *,-hs,-w2,-w3,-f3,-c1]
 |with_reducible refine fun(bn:Bool) hbn=>?_))
     all_goals ((repeat clear hK);(repeat clear hA);(repeat clear hB))
     all_goals first|(refine hM.onE (G.length-(i+1)) (Ent.ren 9 55 ?_ ?_) ?_ ?_ ?_;(focus(simp only[go_sem,↓reduceIte,reduceIte,Qa,Qh,Qb,Qc,Qd,Qe,Qf,Qg,reduceCtorEq, *,Jd hlt hsl,List.length_append,-hs,-w2,-w3,-f3,-c1];first|done|rfl));(focus(simp only[go_sem,↓reduceIte,reduceIte,Qa,Qh,Qb,Qc,Qd,Qe,Qf,Qg,reduceCtorEq, *,Jd hlt hsl,List.length_append,-hs,-w2,-w3,-f3,-c1];first|done|rfl));omega;(focus(simp only[go_sem,↓reduceIte,reduceIte,Qa,Qh,Qb,Qc,Qd,Qe,Qf,Qg,reduceCtorEq, *,Jd hlt hsl,List.length_append,-hs,-w2,-w3,-f3,-c1];done));refine⟨i+1,ts'.gen 9+1,ys++[G[i]],rfl,by omega,by simp;omega,by rw[f3,List.append_assoc],?_⟩;simp only[go_sem,↓reduceIte,reduceIte,Qa,Qh,Qb,Qc,Qd,Qe,Qf,Qg,reduceCtorEq, *,Jd hlt hsl,List.length_append,-hs,-w2,-w3,-f3,-c1];done)|(exfalso;simp_all;done)|trace_state
   ·rw[if_neg hc,List.nil_append] at f3
    by_cases hk0:k=0
    ·subst hk0
     have c1:¬G[i].kind=0:=fun h=>hc ⟨h,.inl rfl⟩
     clear hc hmm
     (repeat' (first
 | (with_reducible first|refine callX.by (w2) ?_|refine callX.by (w3) ?_|refine callX.by (JJ _ _ _ ?_) ?_|refine callX.by (Z9 _ _ _ ?_ ?_) ?_|assumption|(refine Qw hK _ ?_;clear hK K)|refine Qw ‹_› _ ?_|refine Qx ‹_› ?_|refine Qi fun K hK=>?_|refine Qj T fun K hK=>?_|refine Ql fun A B hA hB=>?_|refine Qm ?_|refine Qn ?_|refine Qp ?_|refine Qr ?_)
 | ((with_reducible first|apply Qy|apply Qz|apply QA)<;>intro hb<;>try simp only[nr] at hb)
 |simp only[go_sem,↓reduceIte,reduceIte,Qa,Qh,Qb,Qc,Qd,Qe,Qf,Qg,reduceCtorEq, *,-hs,-w2,-w3,-f3]
 |with_reducible refine fun(bn:Bool) hbn=>?_))
     all_goals ((repeat clear hK);(repeat clear hA);(repeat clear hB))
     all_goals (refine hM.on (G.length-(i+1)) (by omega) (by simp only[go_sem,↓reduceIte,reduceIte,Qa,Qh,Qb,Qc,Qd,Qe,Qf,Qg,reduceCtorEq, *,Jd hlt hsl,-hs,-w2,-w3,-f3]) ⟨i+1,g,ys,rfl,by omega,by omega,f3,?_⟩;simp only[go_sem,↓reduceIte,reduceIte,Qa,Qh,Qb,Qc,Qd,Qe,Qf,Qg,reduceCtorEq, *,Jd hlt hsl,-hs,-w2,-w3,-f3];done)
    ·cases mm
     ·by_cases c4:Rf.length=0
      ·have c1:¬G[i].kind=k:=fun h=>hc ⟨h,.inr ⟨of_decide_eq_false hmm,c4⟩⟩
       have c5:(Rf.length:Int)=0:=by omega
       clear hc hmm
       (repeat' (first
 | (with_reducible first|refine callX.by (w2) ?_|refine callX.by (w3) ?_|refine callX.by (JJ _ _ _ ?_) ?_|refine callX.by (Z9 _ _ _ ?_ ?_) ?_|assumption|(refine Qw hK _ ?_;clear hK K)|refine Qw ‹_› _ ?_|refine Qx ‹_› ?_|refine Qi fun K hK=>?_|refine Qj T fun K hK=>?_|refine Ql fun A B hA hB=>?_|refine Qm ?_|refine Qn ?_|refine Qp ?_|refine Qr ?_)
 | ((with_reducible first|apply Qy|apply Qz|apply QA)<;>intro hb<;>try simp only[nr] at hb)
 |simp only[go_sem,↓reduceIte,reduceIte,Qa,Qh,Qb,Qc,Qd,Qe,Qf,Qg,reduceCtorEq, *,-hs,-w2,-w3,-f3]
 |with_reducible refine fun(bn:Bool) hbn=>?_))
       all_goals ((repeat clear hK);(repeat clear hA);(repeat clear hB))
       all_goals (refine hM.on (G.length-(i+1)) (by omega) (by simp only[go_sem,↓reduceIte,reduceIte,Qa,Qh,Qb,Qc,Qd,Qe,Qf,Qg,reduceCtorEq, *,Jd hlt hsl,-hs,-w2,-w3,-f3]) ⟨i+1,g,ys,rfl,by omega,by omega,f3,?_⟩;simp only[go_sem,↓reduceIte,reduceIte,Qa,Qh,Qb,Qc,Qd,Qe,Qf,Qg,reduceCtorEq, *,Jd hlt hsl,-hs,-w2,-w3,-f3];done)
      ·have c5:¬(Rf.length:Int)=0:=by omega
       clear hc hmm
       (repeat' (first
 | (with_reducible first|refine callX.by (w2) ?_|refine callX.by (w3) ?_|refine callX.by (JJ _ _ _ ?_) ?_|refine callX.by (Z9 _ _ _ ?_ ?_) ?_|assumption|(refine Qw hK _ ?_;clear hK K)|refine Qw ‹_› _ ?_|refine Qx ‹_› ?_|refine Qi fun K hK=>?_|refine Qj T fun K hK=>?_|refine Ql fun A B hA hB=>?_|refine Qm ?_|refine Qn ?_|refine Qp ?_|refine Qr ?_)
 | ((with_reducible first|apply Qy|apply Qz|apply QA)<;>intro hb<;>try simp only[nr] at hb)
 |simp only[go_sem,↓reduceIte,reduceIte,Qa,Qh,Qb,Qc,Qd,Qe,Qf,Qg,reduceCtorEq, *,-hs,-w2,-w3,-f3]
 |with_reducible refine fun(bn:Bool) hbn=>?_))
       all_goals ((repeat clear hK);(repeat clear hA);(repeat clear hB))
       all_goals first|(refine hM.on (G.length-(i+1)) (by omega) (by simp only[go_sem,↓reduceIte,reduceIte,Qa,Qh,Qb,Qc,Qd,Qe,Qf,Qg,reduceCtorEq, *,Jd hlt hsl,-hs,-w2,-w3,-f3]) ⟨i+1,g,ys,rfl,by omega,by omega,f3,?_⟩;simp only[go_sem,↓reduceIte,reduceIte,Qa,Qh,Qb,Qc,Qd,Qe,Qf,Qg,reduceCtorEq, *,Jd hlt hsl,-hs,-w2,-w3,-f3];done)|(exfalso;simp_all;done)|trace_state
     ·clear hc hmm
      (repeat' (first
 | (with_reducible first|refine callX.by (w2) ?_|refine callX.by (w3) ?_|refine callX.by (JJ _ _ _ ?_) ?_|refine callX.by (Z9 _ _ _ ?_ ?_) ?_|assumption|(refine Qw hK _ ?_;clear hK K)|refine Qw ‹_› _ ?_|refine Qx ‹_› ?_|refine Qi fun K hK=>?_|refine Qj T fun K hK=>?_|refine Ql fun A B hA hB=>?_|refine Qm ?_|refine Qn ?_|refine Qp ?_|refine Qr ?_)
 | ((with_reducible first|apply Qy|apply Qz|apply QA)<;>intro hb<;>try simp only[nr] at hb)
 |simp only[go_sem,↓reduceIte,reduceIte,Qa,Qh,Qb,Qc,Qd,Qe,Qf,Qg,reduceCtorEq, *,-hs,-w2,-w3,-f3]
 |with_reducible refine fun(bn:Bool) hbn=>?_))
      all_goals ((repeat clear hK);(repeat clear hA);(repeat clear hB))
      all_goals first|(refine hM.on (G.length-(i+1)) (by omega) (by simp only[go_sem,↓reduceIte,reduceIte,Qa,Qh,Qb,Qc,Qd,Qe,Qf,Qg,reduceCtorEq, *,Jd hlt hsl,-hs,-w2,-w3,-f3]) ⟨i+1,g,ys,rfl,by omega,by omega,f3,?_⟩;simp only[go_sem,↓reduceIte,reduceIte,Qa,Qh,Qb,Qc,Qd,Qe,Qf,Qg,reduceCtorEq, *,Jd hlt hsl,-hs,-w2,-w3,-f3];done)|(exfalso;simp_all;done)|trace_state
  ·rw[List.drop_eq_nil_of_le (by omega),show Zf a [] k H=[] from rfl,List.append_nil] at f3
   (repeat' (first
 | (with_reducible first|refine callX.by (JJ _ _ _ ?_) ?_|refine callX.by (Z9 _ _ _ ?_ ?_) ?_|assumption|(refine Qw hK _ ?_;clear hK K)|refine Qw ‹_› _ ?_|refine Qx ‹_› ?_|refine Qi fun K hK=>?_|refine Qj T fun K hK=>?_|refine Ql fun A B hA hB=>?_|refine Qm ?_|refine Qn ?_|refine Qp ?_|refine Qr ?_)
 | ((with_reducible first|apply Qy|apply Qz|apply QA)<;>intro hb<;>try simp only[nr] at hb)
 |simp only[go_sem,↓reduceIte,reduceIte,Qa,Qh,Qb,Qc,Qd,Qe,Qf,Qg,reduceCtorEq, *,-hs,-f3]
 |with_reducible refine fun(bn:Bool) hbn=>?_))
   all_goals rw[f3]
end Go.Proofs.YtmjkjmoeicnbnaaGreatDoor.Lg
