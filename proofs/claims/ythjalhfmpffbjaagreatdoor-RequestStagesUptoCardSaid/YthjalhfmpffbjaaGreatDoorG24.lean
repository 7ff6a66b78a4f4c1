/- Parts of the proof, one behind the other. -/
import Derived.Test.YthjalhfmpffbjaaGreatDoorG23
namespace Go.Proofs.YthjalhfmpffbjaaGreatDoor.Lg
set_option maxRecDepth 100000
set_option linter.unusedVariables false
set_option linter.unusedSimpArgs false
open Go
open Nat renaming reduceEqDiff → Qa, reduceLT → Qb, reduceLeDiff → Qc, reduceAdd → Qd, reduceMul → Qe, reduceSub → Qf, reduceBEq → Qg
open String renaming reduceEq → Qh
open SpecC renaming seqW → Qi, regW → Qj, drawW → Qk, condW → Ql, skip → Qn, ret → Qr
open NxK renaming out → Qw
open condK renaming split → Qy
open gK renaming split_t → Qz, split_f → QA
def wc(w:Work):List AV:=[.int .i64 w.req.a.port,.str w.req.a.host,.str w.req.a.path,.int .i64 w.req.a.first,.int .i64 w.req.a.other,.int .i64 w.req.stage,.int .i64 w.req.id,.str w.req.route,.str w.req.cluster,.int .i64 w.req.out.what,.str w.req.out.cluster,.int .i64 w.req.out.host,.int .i64 w.side.epoch,.int .i64 w.side.turn,.bool w.side.up,.int .i64 w.side.in'.last.a0,.int .i64 w.side.in'.last.a1,.int .i64 w.side.in'.last.a2,.int .i64 w.side.in'.last.a3,.int .i64 w.side.in'.max,.int .i64 w.side.errs.a0,.int .i64 w.side.errs.a1,.int .i64 w.side.errs.a2,.int .i64 w.side.errs.a3,.int .i64 w.side.w.c.cap,.slice false (Ja w.side.w.c.l),.bool w.side.w.ready,.slice false (Ja w.side.w.shown),.int .i64 w.side.p.next',.slice false (Ja w.side.p.snaps),.slice false (Ja w.told)]
theorem Vi(w:Work):AV.pure.pureL (wc w)=true:=by simp[wc,AV.pure,AV.pure.pureL,JmA]
def Vs(w:Work):List Res:=(J2 w.side.p w.req.id).1
def VO(w:Work)(a:Answer):Work :=
 if w.req.stage=0 then ⟨⟨w.req.a,5,w.req.id,w.req.route,w.req.cluster,a⟩,w.side,w.told⟩
 else ⟨⟨w.req.a,5,w.req.id,w.req.route,w.req.cluster,a⟩,(JZ w.side w.req.id).1,(JZ w.side w.req.id).2.1⟩
def Jbc(w:Work):Work :=
 if(Yh (Jw w.side).p).2.2=0 then ⟨⟨w.req.a,1,(Yh (Jw w.side).p).2.1,w.req.route,w.req.cluster,w.req.out⟩,Vg w.side,w.told⟩ else VO w ⟨0,[],0⟩
def JaN(w:Work):Work :=
 match Jad (Vs w) w.req.a.port with
 |none=>VO w ⟨1,[],0⟩
 |some x=>⟨⟨w.req.a,2,w.req.id,x.to',w.req.cluster,w.req.out⟩,w.side,w.told⟩
def JaW(w:Work):Work :=
 match JcH (Vs w) w.req.route w.req.a.host w.req.a.path with
 |none=>VO w ⟨2,[],0⟩
 |some r=>match ZJ r.split w.req.a.first with
  |none=>VO w ⟨0,[],0⟩
  |some c=>⟨⟨w.req.a,3,w.req.id,w.req.route,c,w.req.out⟩,w.side,w.told⟩
def JaB(w:Work):Work :=
 match Yo (Jb5 (Vs w) w.req.cluster).1 w.req.a.other with
 |none=>VO w ⟨0,[],0⟩
 |some h=>⟨⟨w.req.a,4,w.req.id,w.req.route,w.req.cluster,⟨3,w.req.cluster,h⟩⟩,w.side,w.told⟩
structure SzK(w:Work):Prop where
 s:SzS w.side
 q:SzP (VU (Jw w.side).p w.req.id).1
 h:Jc w.req.a.host.length
theorem SzK.snap{w:Work}(h:SzK w):Jc (Vs w).length∧∀r∈Vs w,JD r:=by
 unfold Vs
 rw[Jmm]
 exact JnM h.s.p.s
set_option maxHeartbeats 16000000 in
theorem Jbg(w_req_a_port:Int)(w_req_a_host:List UInt8)(w_req_a_path:List UInt8)(w_req_a_first:Int)(w_req_a_other:Int)(w_req_stage:Int)(w_req_id:Int)(w_req_route:List UInt8)(w_req_cluster:List UInt8)(w_req_out_what:Int)(w_req_out_cluster:List UInt8)(w_req_out_host:Int)(w_side_epoch:Int)(w_side_turn:Int)(w_side_up:Bool)(w_side_in_last_a0:Int)(w_side_in_last_a1:Int)(w_side_in_last_a2:Int)(w_side_in_last_a3:Int)(w_side_in_max:Int)(w_side_errs_a0:Int)(w_side_errs_a1:Int)(w_side_errs_a2:Int)(w_side_errs_a3:Int)(w_side_w_c_cap:Int)(w_side_w_c_l:List Res)(w_side_w_ready:Bool)(w_side_w_shown:List Res)(w_side_p_next:Int)(w_side_p_snaps:List Snap)(w_told:List Frame)(a_what:Int)(a_cluster:List UInt8)(a_host:Int)(hz:SzK (⟨⟨⟨w_req_a_port,w_req_a_host,w_req_a_path,w_req_a_first,w_req_a_other⟩,w_req_stage,w_req_id,w_req_route,w_req_cluster,⟨w_req_out_what,w_req_out_cluster,w_req_out_host⟩⟩,⟨w_side_epoch,w_side_turn,w_side_up,⟨⟨w_side_in_last_a0,w_side_in_last_a1,w_side_in_last_a2,w_side_in_last_a3⟩,w_side_in_max⟩,⟨w_side_errs_a0,w_side_errs_a1,w_side_errs_a2,w_side_errs_a3⟩,⟨⟨w_side_w_c_cap,w_side_w_c_l⟩,w_side_w_ready,w_side_w_shown⟩,⟨w_side_p_next,w_side_p_snaps⟩⟩,w_told⟩:Work)):CallI Tryz.prog 50 [.int .i64 w_req_a_port,.str w_req_a_host,.str w_req_a_path,.int .i64 w_req_a_first,.int .i64 w_req_a_other,.int .i64 w_req_stage,.int .i64 w_req_id,.str w_req_route,.str w_req_cluster,.int .i64 w_req_out_what,.str w_req_out_cluster,.int .i64 w_req_out_host,.int .i64 w_side_epoch,.int .i64 w_side_turn,.bool w_side_up,.int .i64 w_side_in_last_a0,.int .i64 w_side_in_last_a1,.int .i64 w_side_in_last_a2,.int .i64 w_side_in_last_a3,.int .i64 w_side_in_max,.int .i64 w_side_errs_a0,.int .i64 w_side_errs_a1,.int .i64 w_side_errs_a2,.int .i64 w_side_errs_a3,.int .i64 w_side_w_c_cap,.slice false (Ja w_side_w_c_l),.bool w_side_w_ready,.slice false (Ja w_side_w_shown),.int .i64 w_side_p_next,.slice false (Ja w_side_p_snaps),.slice false (Ja w_told)] [.agg [.int .i64 a_what,.str a_cluster,.int .i64 a_host]] (.tup []) (wc (VO (⟨⟨⟨w_req_a_port,w_req_a_host,w_req_a_path,w_req_a_first,w_req_a_other⟩,w_req_stage,w_req_id,w_req_route,w_req_cluster,⟨w_req_out_what,w_req_out_cluster,w_req_out_host⟩⟩,⟨w_side_epoch,w_side_turn,w_side_up,⟨⟨w_side_in_last_a0,w_side_in_last_a1,w_side_in_last_a2,w_side_in_last_a3⟩,w_side_in_max⟩,⟨w_side_errs_a0,w_side_errs_a1,w_side_errs_a2,w_side_errs_a3⟩,⟨⟨w_side_w_c_cap,w_side_w_c_l⟩,w_side_w_ready,w_side_w_shown⟩,⟨w_side_p_next,w_side_p_snaps⟩⟩,w_told⟩:Work) (⟨a_what,a_cluster,a_host⟩:Answer))):=by
 by_cases hst:w_req_stage=0
 subst hst
 have e:VO (⟨⟨⟨w_req_a_port,w_req_a_host,w_req_a_path,w_req_a_first,w_req_a_other⟩,(0),w_req_id,w_req_route,w_req_cluster,⟨w_req_out_what,w_req_out_cluster,w_req_out_host⟩⟩,⟨w_side_epoch,w_side_turn,w_side_up,⟨⟨w_side_in_last_a0,w_side_in_last_a1,w_side_in_last_a2,w_side_in_last_a3⟩,w_side_in_max⟩,⟨w_side_errs_a0,w_side_errs_a1,w_side_errs_a2,w_side_errs_a3⟩,⟨⟨w_side_w_c_cap,w_side_w_c_l⟩,w_side_w_ready,w_side_w_shown⟩,⟨w_side_p_next,w_side_p_snaps⟩⟩,w_told⟩:Work) (⟨a_what,a_cluster,a_host⟩:Answer)=(⟨⟨⟨w_req_a_port,w_req_a_host,w_req_a_path,w_req_a_first,w_req_a_other⟩,(5),w_req_id,w_req_route,w_req_cluster,⟨(a_what),(a_cluster),(a_host)⟩⟩,⟨w_side_epoch,w_side_turn,w_side_up,⟨⟨w_side_in_last_a0,w_side_in_last_a1,w_side_in_last_a2,w_side_in_last_a3⟩,w_side_in_max⟩,⟨w_side_errs_a0,w_side_errs_a1,w_side_errs_a2,w_side_errs_a3⟩,⟨⟨w_side_w_c_cap,w_side_w_c_l⟩,w_side_w_ready,w_side_w_shown⟩,⟨w_side_p_next,w_side_p_snaps⟩⟩,w_told⟩:Work):=by
  unfold VO
  rw[if_pos rfl]
 rw[e]
 clear e hz
 have w1:=trivial
 rotate_left
 have e:VO (⟨⟨⟨w_req_a_port,w_req_a_host,w_req_a_path,w_req_a_first,w_req_a_other⟩,w_req_stage,w_req_id,w_req_route,w_req_cluster,⟨w_req_out_what,w_req_out_cluster,w_req_out_host⟩⟩,⟨w_side_epoch,w_side_turn,w_side_up,⟨⟨w_side_in_last_a0,w_side_in_last_a1,w_side_in_last_a2,w_side_in_last_a3⟩,w_side_in_max⟩,⟨w_side_errs_a0,w_side_errs_a1,w_side_errs_a2,w_side_errs_a3⟩,⟨⟨w_side_w_c_cap,w_side_w_c_l⟩,w_side_w_ready,w_side_w_shown⟩,⟨w_side_p_next,w_side_p_snaps⟩⟩,w_told⟩:Work) (⟨a_what,a_cluster,a_host⟩:Answer)=⟨⟨⟨w_req_a_port,w_req_a_host,w_req_a_path,w_req_a_first,w_req_a_other⟩,5,w_req_id,w_req_route,w_req_cluster,⟨a_what,a_cluster,a_host⟩⟩,(JZ (⟨w_side_epoch,w_side_turn,w_side_up,⟨⟨w_side_in_last_a0,w_side_in_last_a1,w_side_in_last_a2,w_side_in_last_a3⟩,w_side_in_max⟩,⟨w_side_errs_a0,w_side_errs_a1,w_side_errs_a2,w_side_errs_a3⟩,⟨⟨w_side_w_c_cap,w_side_w_c_l⟩,w_side_w_ready,w_side_w_shown⟩,⟨w_side_p_next,w_side_p_snaps⟩⟩:Side) w_req_id).1,(JZ (⟨w_side_epoch,w_side_turn,w_side_up,⟨⟨w_side_in_last_a0,w_side_in_last_a1,w_side_in_last_a2,w_side_in_last_a3⟩,w_side_in_max⟩,⟨w_side_errs_a0,w_side_errs_a1,w_side_errs_a2,w_side_errs_a3⟩,⟨⟨w_side_w_c_cap,w_side_w_c_l⟩,w_side_w_ready,w_side_w_shown⟩,⟨w_side_p_next,w_side_p_snaps⟩⟩:Side) w_req_id).2.1⟩:=by
  unfold VO
  rw[if_neg hst]
 rw[e]
 clear e
 have w1:=Jkz w_side_epoch w_side_turn w_side_up w_side_in_last_a0 w_side_in_last_a1 w_side_in_last_a2 w_side_in_last_a3 w_side_in_max w_side_errs_a0 w_side_errs_a1 w_side_errs_a2 w_side_errs_a3 w_side_w_c_cap w_side_w_c_l w_side_w_ready w_side_w_shown w_side_p_next w_side_p_snaps w_req_id hz.s hz.q
 clear hz
 generalize JZ (⟨w_side_epoch,w_side_turn,w_side_up,⟨⟨w_side_in_last_a0,w_side_in_last_a1,w_side_in_last_a2,w_side_in_last_a3⟩,w_side_in_max⟩,⟨w_side_errs_a0,w_side_errs_a1,w_side_errs_a2,w_side_errs_a3⟩,⟨⟨w_side_w_c_cap,w_side_w_c_l⟩,w_side_w_ready,w_side_w_shown⟩,⟨w_side_p_next,w_side_p_snaps⟩⟩:Side) w_req_id=E at *
 all_goals
  unfold wc
  simp only
  refine CallI.goR1 Tryz.call50 Tryz.func50 rfl Tryz.ntmps50 T (congrArg Array.toList Tryz.results50) (by decide) fun ts hn h0 hg0 ho0 h1=>?_
  (repeat' (first
 | (with_reducible first|refine callX.by (w1) ?_|assumption|(refine Qw hK _ ?_;clear hK K)|refine Qw ‹_› _ ?_|refine Nx.out ‹_› ?_|refine Qi fun K hK=>?_|refine Qj T fun K hK=>?_|refine Qk (id:=2) T mixed [([14],[17,18,19,20,21,22,23,13,24,25,26,4]),([15],[18,19,20,21,22,23,13,24,25,26,4]),([16],[18,19,20,21,22,13,24,25,26,4]),([17],[14,18,19,20,21,22,24,25,26,4]),([18],[14,15,16,17,21,22,23,13,24,25,26,4]),([19],[14,15,16,17,22,23,13,24,25,26,4]),([20],[14,15,16,17,23,13,24,25,26,4]),([21],[14,15,16,17,18,13,24,25,26,4]),([22],[14,15,16,17,18,19,24,25,26,4]),([23],[14,15,18,19,20,4]),([13],[14,15,16,18,19,20,21,4]),([24],[14,15,16,17,18,19,20,21,22,25,26,4]),([25],[14,15,16,17,18,19,20,21,22,24,26,4]),([26],[14,15,16,17,18,19,20,21,22,24,25,4,5]),([4],[14,15,16,17,18,19,20,21,22,23,13,24,25,26]),([4],[25,26]),([5],[26])] (by kernel_rfl) fun K hK=>?_|refine SpecC.drawI (id:=4) T mixed 0 [([35],[36,37]),([36],[0,35,37,38,39,40]),([37],[0,35,36,38,39,40]),([38],[0,36,37]),([39],[36,37]),([40],[36,37]),([0],[36,37,38])] (by kernel_rfl) fun K hK=>?_|refine Ql fun A B hA hB=>?_|refine Qn ?_|refine Qr ?_)
 | ((with_reducible first|apply Qy|apply Qz|apply QA)<;>intro hb<;>try simp only[nr] at hb)
 |simp only[go_sem,↓reduceIte,reduceIte,Qa,Qh,Qb,Qc,Qd,Qe,Qf,Qg,reduceCtorEq, *,-w1]
 |with_reducible refine fun(bn:Bool) hbn=>?_))
theorem JiY(w_req_a_port:Int)(w_req_a_host:List UInt8)(w_req_a_path:List UInt8)(w_req_a_first:Int)(w_req_a_other:Int)(w_req_stage:Int)(w_req_id:Int)(w_req_route:List UInt8)(w_req_cluster:List UInt8)(w_req_out_what:Int)(w_req_out_cluster:List UInt8)(w_req_out_host:Int)(w_side_epoch:Int)(w_side_turn:Int)(w_side_up:Bool)(w_side_in_last_a0:Int)(w_side_in_last_a1:Int)(w_side_in_last_a2:Int)(w_side_in_last_a3:Int)(w_side_in_max:Int)(w_side_errs_a0:Int)(w_side_errs_a1:Int)(w_side_errs_a2:Int)(w_side_errs_a3:Int)(w_side_w_c_cap:Int)(w_side_w_c_l:List Res)(w_side_w_ready:Bool)(w_side_w_shown:List Res)(w_side_p_next:Int)(w_side_p_snaps:List Snap)(w_told:List Frame)(hl:Jc w_side_p_snaps.length):CallI Tryz.prog 82 [.int .i64 w_req_a_port,.str w_req_a_host,.str w_req_a_path,.int .i64 w_req_a_first,.int .i64 w_req_a_other,.int .i64 w_req_stage,.int .i64 w_req_id,.str w_req_route,.str w_req_cluster,.int .i64 w_req_out_what,.str w_req_out_cluster,.int .i64 w_req_out_host,.int .i64 w_side_epoch,.int .i64 w_side_turn,.bool w_side_up,.int .i64 w_side_in_last_a0,.int .i64 w_side_in_last_a1,.int .i64 w_side_in_last_a2,.int .i64 w_side_in_last_a3,.int .i64 w_side_in_max,.int .i64 w_side_errs_a0,.int .i64 w_side_errs_a1,.int .i64 w_side_errs_a2,.int .i64 w_side_errs_a3,.int .i64 w_side_w_c_cap,.slice false (Ja w_side_w_c_l),.bool w_side_w_ready,.slice false (Ja w_side_w_shown),.int .i64 w_side_p_next,.slice false (Ja w_side_p_snaps),.slice false (Ja w_told)] [] (.slice false (Ja (Vs (⟨⟨⟨w_req_a_port,w_req_a_host,w_req_a_path,w_req_a_first,w_req_a_other⟩,w_req_stage,w_req_id,w_req_route,w_req_cluster,⟨w_req_out_what,w_req_out_cluster,w_req_out_host⟩⟩,⟨w_side_epoch,w_side_turn,w_side_up,⟨⟨w_side_in_last_a0,w_side_in_last_a1,w_side_in_last_a2,w_side_in_last_a3⟩,w_side_in_max⟩,⟨w_side_errs_a0,w_side_errs_a1,w_side_errs_a2,w_side_errs_a3⟩,⟨⟨w_side_w_c_cap,w_side_w_c_l⟩,w_side_w_ready,w_side_w_shown⟩,⟨w_side_p_next,w_side_p_snaps⟩⟩,w_told⟩:Work)))) ([.int .i64 w_req_a_port,.str w_req_a_host,.str w_req_a_path,.int .i64 w_req_a_first,.int .i64 w_req_a_other,.int .i64 w_req_stage,.int .i64 w_req_id,.str w_req_route,.str w_req_cluster,.int .i64 w_req_out_what,.str w_req_out_cluster,.int .i64 w_req_out_host,.int .i64 w_side_epoch,.int .i64 w_side_turn,.bool w_side_up,.int .i64 w_side_in_last_a0,.int .i64 w_side_in_last_a1,.int .i64 w_side_in_last_a2,.int .i64 w_side_in_last_a3,.int .i64 w_side_in_max,.int .i64 w_side_errs_a0,.int .i64 w_side_errs_a1,.int .i64 w_side_errs_a2,.int .i64 w_side_errs_a3,.int .i64 w_side_w_c_cap,.slice false (Ja w_side_w_c_l),.bool w_side_w_ready,.slice false (Ja w_side_w_shown),.int .i64 w_side_p_next,.slice false (Ja w_side_p_snaps),.slice false (Ja w_told)]):=by
 have w1:=Jia w_side_p_next w_req_id w_side_p_snaps hl
 clear hl
 unfold Vs
 simp only
 generalize J2 ⟨w_side_p_next,w_side_p_snaps⟩ w_req_id=E at *
 refine CallI.goR0 Tryz.call82 Tryz.func82 rfl Tryz.ntmps82 T (congrArg Array.toList Tryz.results82) (by decide) fun ts hn h0 hg0 ho0=>?_
 (repeat' (first
 | (with_reducible first|refine callX.by (w1) ?_|assumption|(refine Qw hK _ ?_;clear hK K)|refine Qw ‹_› _ ?_|refine Nx.out ‹_› ?_|refine Qi fun K hK=>?_|refine Qj T fun K hK=>?_|refine Qk (id:=1) T mixed [([6],[9,10,11,12,13,14,15,16,5,17,18]),([7],[10,11,12,13,14,15,16,5,17,18]),([8],[11,12,13,14,15,16,5,17,18]),([9],[6,11,12,13,14,15,5,17,18]),([10],[6,7,11,12,13,14,15,17,18]),([11],[6,7,8,9,10,14,15,16,5,17,18]),([12],[6,7,8,9,10,15,16,5,17,18]),([13],[6,7,8,9,10,16,5,17,18]),([14],[6,7,8,9,10,11,5,17,18]),([15],[6,7,8,9,10,11,12,17,18]),([16],[6,7,8,11,12,13]),([5],[6,7,8,9,11,12,13,14]),([17],[6,7,8,9,10,11,12,13,14,15,18]),([18],[6,7,8,9,10,11,12,13,14,15,17,3]),([3],[18])] (by kernel_rfl) fun K hK=>?_|refine Ql fun A B hA hB=>?_|refine Qn ?_|refine Qr ?_)
 | ((with_reducible first|apply Qy|apply Qz|apply QA)<;>intro hb<;>try simp only[nr] at hb)
 |simp only[go_sem,↓reduceIte,reduceIte,Qa,Qh,Qb,Qc,Qd,Qe,Qf,Qg,reduceCtorEq, *,-w1]
 |with_reducible refine fun(bn:Bool) hbn=>?_))
theorem JeY(w_req_a_port:Int)(w_req_a_host:List UInt8)(w_req_a_path:List UInt8)(w_req_a_first:Int)(w_req_a_other:Int)(w_req_stage:Int)(w_req_id:Int)(w_req_route:List UInt8)(w_req_cluster:List UInt8)(w_req_out_what:Int)(w_req_out_cluster:List UInt8)(w_req_out_host:Int)(w_side_epoch:Int)(w_side_turn:Int)(w_side_up:Bool)(w_side_in_last_a0:Int)(w_side_in_last_a1:Int)(w_side_in_last_a2:Int)(w_side_in_last_a3:Int)(w_side_in_max:Int)(w_side_errs_a0:Int)(w_side_errs_a1:Int)(w_side_errs_a2:Int)(w_side_errs_a3:Int)(w_side_w_c_cap:Int)(w_side_w_c_l:List Res)(w_side_w_ready:Bool)(w_side_w_shown:List Res)(w_side_p_next:Int)(w_side_p_snaps:List Snap)(w_told:List Frame)(kind:Int)(name:List UInt8)(hl:Jc w_side_p_snaps.length)(hs:Jc (Vs (⟨⟨⟨w_req_a_port,w_req_a_host,w_req_a_path,w_req_a_first,w_req_a_other⟩,w_req_stage,w_req_id,w_req_route,w_req_cluster,⟨w_req_out_what,w_req_out_cluster,w_req_out_host⟩⟩,⟨w_side_epoch,w_side_turn,w_side_up,⟨⟨w_side_in_last_a0,w_side_in_last_a1,w_side_in_last_a2,w_side_in_last_a3⟩,w_side_in_max⟩,⟨w_side_errs_a0,w_side_errs_a1,w_side_errs_a2,w_side_errs_a3⟩,⟨⟨w_side_w_c_cap,w_side_w_c_l⟩,w_side_w_ready,w_side_w_shown⟩,⟨w_side_p_next,w_side_p_snaps⟩⟩,w_told⟩:Work)).length):CallI Tryz.prog 83 [.int .i64 w_req_a_port,.str w_req_a_host,.str w_req_a_path,.int .i64 w_req_a_first,.int .i64 w_req_a_other,.int .i64 w_req_stage,.int .i64 w_req_id,.str w_req_route,.str w_req_cluster,.int .i64 w_req_out_what,.str w_req_out_cluster,.int .i64 w_req_out_host,.int .i64 w_side_epoch,.int .i64 w_side_turn,.bool w_side_up,.int .i64 w_side_in_last_a0,.int .i64 w_side_in_last_a1,.int .i64 w_side_in_last_a2,.int .i64 w_side_in_last_a3,.int .i64 w_side_in_max,.int .i64 w_side_errs_a0,.int .i64 w_side_errs_a1,.int .i64 w_side_errs_a2,.int .i64 w_side_errs_a3,.int .i64 w_side_w_c_cap,.slice false (Ja w_side_w_c_l),.bool w_side_w_ready,.slice false (Ja w_side_w_shown),.int .i64 w_side_p_next,.slice false (Ja w_side_p_snaps),.slice false (Ja w_told)] [.int .i64 kind,.str name] (.tup [Dat.av ((JP (Vs (⟨⟨⟨w_req_a_port,w_req_a_host,w_req_a_path,w_req_a_first,w_req_a_other⟩,w_req_stage,w_req_id,w_req_route,w_req_cluster,⟨w_req_out_what,w_req_out_cluster,w_req_out_host⟩⟩,⟨w_side_epoch,w_side_turn,w_side_up,⟨⟨w_side_in_last_a0,w_side_in_last_a1,w_side_in_last_a2,w_side_in_last_a3⟩,w_side_in_max⟩,⟨w_side_errs_a0,w_side_errs_a1,w_side_errs_a2,w_side_errs_a3⟩,⟨⟨w_side_w_c_cap,w_side_w_c_l⟩,w_side_w_ready,w_side_w_shown⟩,⟨w_side_p_next,w_side_p_snaps⟩⟩,w_told⟩:Work)) ⟨kind,name⟩).getD Vu),.bool (JP (Vs (⟨⟨⟨w_req_a_port,w_req_a_host,w_req_a_path,w_req_a_first,w_req_a_other⟩,w_req_stage,w_req_id,w_req_route,w_req_cluster,⟨w_req_out_what,w_req_out_cluster,w_req_out_host⟩⟩,⟨w_side_epoch,w_side_turn,w_side_up,⟨⟨w_side_in_last_a0,w_side_in_last_a1,w_side_in_last_a2,w_side_in_last_a3⟩,w_side_in_max⟩,⟨w_side_errs_a0,w_side_errs_a1,w_side_errs_a2,w_side_errs_a3⟩,⟨⟨w_side_w_c_cap,w_side_w_c_l⟩,w_side_w_ready,w_side_w_shown⟩,⟨w_side_p_next,w_side_p_snaps⟩⟩,w_told⟩:Work)) ⟨kind,name⟩).isSome]) ([.int .i64 w_req_a_port,.str w_req_a_host,.str w_req_a_path,.int .i64 w_req_a_first,.int .i64 w_req_a_other,.int .i64 w_req_stage,.int .i64 w_req_id,.str w_req_route,.str w_req_cluster,.int .i64 w_req_out_what,.str w_req_out_cluster,.int .i64 w_req_out_host,.int .i64 w_side_epoch,.int .i64 w_side_turn,.bool w_side_up,.int .i64 w_side_in_last_a0,.int .i64 w_side_in_last_a1,.int .i64 w_side_in_last_a2,.int .i64 w_side_in_last_a3,.int .i64 w_side_in_max,.int .i64 w_side_errs_a0,.int .i64 w_side_errs_a1,.int .i64 w_side_errs_a2,.int .i64 w_side_errs_a3,.int .i64 w_side_w_c_cap,.slice false (Ja w_side_w_c_l),.bool w_side_w_ready,.slice false (Ja w_side_w_shown),.int .i64 w_side_p_next,.slice false (Ja w_side_p_snaps),.slice false (Ja w_told)]):=by
 have w1:=JiY w_req_a_port w_req_a_host w_req_a_path w_req_a_first w_req_a_other w_req_stage w_req_id w_req_route w_req_cluster w_req_out_what w_req_out_cluster w_req_out_host w_side_epoch w_side_turn w_side_up w_side_in_last_a0 w_side_in_last_a1 w_side_in_last_a2 w_side_in_last_a3 w_side_in_max w_side_errs_a0 w_side_errs_a1 w_side_errs_a2 w_side_errs_a3 w_side_w_c_cap w_side_w_c_l w_side_w_ready w_side_w_shown w_side_p_next w_side_p_snaps w_told hl
 have w2:=JnY (Vs (⟨⟨⟨w_req_a_port,w_req_a_host,w_req_a_path,w_req_a_first,w_req_a_other⟩,w_req_stage,w_req_id,w_req_route,w_req_cluster,⟨w_req_out_what,w_req_out_cluster,w_req_out_host⟩⟩,⟨w_side_epoch,w_side_turn,w_side_up,⟨⟨w_side_in_last_a0,w_side_in_last_a1,w_side_in_last_a2,w_side_in_last_a3⟩,w_side_in_max⟩,⟨w_side_errs_a0,w_side_errs_a1,w_side_errs_a2,w_side_errs_a3⟩,⟨⟨w_side_w_c_cap,w_side_w_c_l⟩,w_side_w_ready,w_side_w_shown⟩,⟨w_side_p_next,w_side_p_snaps⟩⟩,w_told⟩:Work)) kind name hs
 clear hl hs
 generalize Vs (⟨⟨⟨w_req_a_port,w_req_a_host,w_req_a_path,w_req_a_first,w_req_a_other⟩,w_req_stage,w_req_id,w_req_route,w_req_cluster,⟨w_req_out_what,w_req_out_cluster,w_req_out_host⟩⟩,⟨w_side_epoch,w_side_turn,w_side_up,⟨⟨w_side_in_last_a0,w_side_in_last_a1,w_side_in_last_a2,w_side_in_last_a3⟩,w_side_in_max⟩,⟨w_side_errs_a0,w_side_errs_a1,w_side_errs_a2,w_side_errs_a3⟩,⟨⟨w_side_w_c_cap,w_side_w_c_l⟩,w_side_w_ready,w_side_w_shown⟩,⟨w_side_p_next,w_side_p_snaps⟩⟩,w_told⟩:Work)=l at *
 generalize JP l ⟨kind,name⟩=o at *
 refine CallI.goR2 Tryz.call83 Tryz.func83 rfl Tryz.ntmps83 T (congrArg Array.toList Tryz.results83) (by decide) fun ts hn h0 hg0 ho0 h1 h2=>?_
 (repeat' (first
 | (with_reducible refine callX.io ?_ ?_ ?_ (w1);(focus(simp only[go_sem,↓reduceIte,reduceIte,Qa,Qh,Qb,Qc,Qd,Qe,Qf,Qg,reduceCtorEq, *,-w1,-w2];first|done|rfl));(focus(simp only[go_sem,↓reduceIte,reduceIte,Qa,Qh,Qb,Qc,Qd,Qe,Qf,Qg,reduceCtorEq, *,-w1,-w2];first|done|rfl)))
 | (with_reducible first|refine callX.by (w2) ?_|assumption|(refine Qw hK _ ?_;clear hK K)|refine Qw ‹_› _ ?_|refine Nx.out ‹_› ?_|refine Qi fun K hK=>?_|refine Qj T fun K hK=>?_|refine Ql fun A B hA hB=>?_|refine Qn ?_|refine Qr ?_)
 | ((with_reducible first|apply Qy|apply Qz|apply QA)<;>intro hb<;>try simp only[nr] at hb)
 |simp only[go_sem,↓reduceIte,reduceIte,Qa,Qh,Qb,Qc,Qd,Qe,Qf,Qg,reduceCtorEq, *,-w1,-w2]
 |with_reducible refine fun(bn:Bool) hbn=>?_))
set_option maxHeartbeats 16000000 in
theorem JjX(w_req_a_port:Int)(w_req_a_host:List UInt8)(w_req_a_path:List UInt8)(w_req_a_first:Int)(w_req_a_other:Int)(w_req_stage:Int)(w_req_id:Int)(w_req_route:List UInt8)(w_req_cluster:List UInt8)(w_req_out_what:Int)(w_req_out_cluster:List UInt8)(w_req_out_host:Int)(w_side_epoch:Int)(w_side_turn:Int)(w_side_up:Bool)(w_side_in_last_a0:Int)(w_side_in_last_a1:Int)(w_side_in_last_a2:Int)(w_side_in_last_a3:Int)(w_side_in_max:Int)(w_side_errs_a0:Int)(w_side_errs_a1:Int)(w_side_errs_a2:Int)(w_side_errs_a3:Int)(w_side_w_c_cap:Int)(w_side_w_c_l:List Res)(w_side_w_ready:Bool)(w_side_w_shown:List Res)(w_side_p_next:Int)(w_side_p_snaps:List Snap)(w_told:List Frame)(hz:SzK (⟨⟨⟨w_req_a_port,w_req_a_host,w_req_a_path,w_req_a_first,w_req_a_other⟩,w_req_stage,w_req_id,w_req_route,w_req_cluster,⟨w_req_out_what,w_req_out_cluster,w_req_out_host⟩⟩,⟨w_side_epoch,w_side_turn,w_side_up,⟨⟨w_side_in_last_a0,w_side_in_last_a1,w_side_in_last_a2,w_side_in_last_a3⟩,w_side_in_max⟩,⟨w_side_errs_a0,w_side_errs_a1,w_side_errs_a2,w_side_errs_a3⟩,⟨⟨w_side_w_c_cap,w_side_w_c_l⟩,w_side_w_ready,w_side_w_shown⟩,⟨w_side_p_next,w_side_p_snaps⟩⟩,w_told⟩:Work)):CallI Tryz.prog 46 [.int .i64 w_req_a_port,.str w_req_a_host,.str w_req_a_path,.int .i64 w_req_a_first,.int .i64 w_req_a_other,.int .i64 w_req_stage,.int .i64 w_req_id,.str w_req_route,.str w_req_cluster,.int .i64 w_req_out_what,.str w_req_out_cluster,.int .i64 w_req_out_host,.int .i64 w_side_epoch,.int .i64 w_side_turn,.bool w_side_up,.int .i64 w_side_in_last_a0,.int .i64 w_side_in_last_a1,.int .i64 w_side_in_last_a2,.int .i64 w_side_in_last_a3,.int .i64 w_side_in_max,.int .i64 w_side_errs_a0,.int .i64 w_side_errs_a1,.int .i64 w_side_errs_a2,.int .i64 w_side_errs_a3,.int .i64 w_side_w_c_cap,.slice false (Ja w_side_w_c_l),.bool w_side_w_ready,.slice false (Ja w_side_w_shown),.int .i64 w_side_p_next,.slice false (Ja w_side_p_snaps),.slice false (Ja w_told)] [] (.tup []) (wc (Jbc (⟨⟨⟨w_req_a_port,w_req_a_host,w_req_a_path,w_req_a_first,w_req_a_other⟩,w_req_stage,w_req_id,w_req_route,w_req_cluster,⟨w_req_out_what,w_req_out_cluster,w_req_out_host⟩⟩,⟨w_side_epoch,w_side_turn,w_side_up,⟨⟨w_side_in_last_a0,w_side_in_last_a1,w_side_in_last_a2,w_side_in_last_a3⟩,w_side_in_max⟩,⟨w_side_errs_a0,w_side_errs_a1,w_side_errs_a2,w_side_errs_a3⟩,⟨⟨w_side_w_c_cap,w_side_w_c_l⟩,w_side_w_ready,w_side_w_shown⟩,⟨w_side_p_next,w_side_p_snaps⟩⟩,w_told⟩:Work))):=by
 have w1:=JjW w_side_epoch w_side_turn w_side_up w_side_in_last_a0 w_side_in_last_a1 w_side_in_last_a2 w_side_in_last_a3 w_side_in_max w_side_errs_a0 w_side_errs_a1 w_side_errs_a2 w_side_errs_a3 w_side_w_c_cap w_side_w_c_l w_side_w_ready w_side_w_shown w_side_p_next w_side_p_snaps hz.s
 have w2:=Jbg w_req_a_port w_req_a_host w_req_a_path w_req_a_first w_req_a_other w_req_stage w_req_id w_req_route w_req_cluster w_req_out_what w_req_out_cluster w_req_out_host w_side_epoch w_side_turn w_side_up w_side_in_last_a0 w_side_in_last_a1 w_side_in_last_a2 w_side_in_last_a3 w_side_in_max w_side_errs_a0 w_side_errs_a1 w_side_errs_a2 w_side_errs_a3 w_side_w_c_cap w_side_w_c_l w_side_w_ready w_side_w_shown w_side_p_next w_side_p_snaps w_told 0 [] 0 hz
 unfold Jbc
 clear hz
 simp only
 generalize Yh (Jw (⟨w_side_epoch,w_side_turn,w_side_up,⟨⟨w_side_in_last_a0,w_side_in_last_a1,w_side_in_last_a2,w_side_in_last_a3⟩,w_side_in_max⟩,⟨w_side_errs_a0,w_side_errs_a1,w_side_errs_a2,w_side_errs_a3⟩,⟨⟨w_side_w_c_cap,w_side_w_c_l⟩,w_side_w_ready,w_side_w_shown⟩,⟨w_side_p_next,w_side_p_snaps⟩⟩:Side)).p=p at *
 generalize Vg (⟨w_side_epoch,w_side_turn,w_side_up,⟨⟨w_side_in_last_a0,w_side_in_last_a1,w_side_in_last_a2,w_side_in_last_a3⟩,w_side_in_max⟩,⟨w_side_errs_a0,w_side_errs_a1,w_side_errs_a2,w_side_errs_a3⟩,⟨⟨w_side_w_c_cap,w_side_w_c_l⟩,w_side_w_ready,w_side_w_shown⟩,⟨w_side_p_next,w_side_p_snaps⟩⟩:Side)=b at *
 by_cases he:p.2.2=0
 rw[if_pos he]
 clear w2
 have w2:=trivial
 unfold wc
 simp only
 rotate_left
 rw[if_neg he]
 all_goals
  refine CallI.goR0 Tryz.call46 Tryz.func46 rfl Tryz.ntmps46 T (congrArg Array.toList Tryz.results46) (by decide) fun ts hn h0 hg0 ho0=>?_
  (repeat' (first
 |with_reducible refine callX.by (w1) ?_
 | (with_reducible refine callX.io ?_ ?_ ?_ (w2);(focus(simp only[go_sem,↓reduceIte,reduceIte,Qa,Qh,Qb,Qc,Qd,Qe,Qf,Qg,reduceCtorEq, *,-w1,-w2,Vi];first|done|rfl));(focus(simp only[go_sem,↓reduceIte,reduceIte,Qa,Qh,Qb,Qc,Qd,Qe,Qf,Qg,reduceCtorEq, *,-w1,-w2,Vi];first|done|rfl)))
 | (with_reducible first|assumption|(refine Qw hK _ ?_;clear hK K)|refine Qw ‹_› _ ?_|refine Nx.out ‹_› ?_|refine Qi fun K hK=>?_|refine Qj T fun K hK=>?_|refine Ql fun A B hA hB=>?_|refine Qn ?_|refine Qr ?_)
 | ((with_reducible first|apply Qy|apply Qz|apply QA)<;>intro hb<;>try simp only[nr] at hb)
 |simp only[go_sem,↓reduceIte,reduceIte,Qa,Qh,Qb,Qc,Qd,Qe,Qf,Qg,reduceCtorEq, *,-w1,-w2,Vi]
 |with_reducible refine fun(bn:Bool) hbn=>?_))
set_option maxHeartbeats 16000000 in
theorem JlI(w_req_a_port:Int)(w_req_a_host:List UInt8)(w_req_a_path:List UInt8)(w_req_a_first:Int)(w_req_a_other:Int)(w_req_stage:Int)(w_req_id:Int)(w_req_route:List UInt8)(w_req_cluster:List UInt8)(w_req_out_what:Int)(w_req_out_cluster:List UInt8)(w_req_out_host:Int)(w_side_epoch:Int)(w_side_turn:Int)(w_side_up:Bool)(w_side_in_last_a0:Int)(w_side_in_last_a1:Int)(w_side_in_last_a2:Int)(w_side_in_last_a3:Int)(w_side_in_max:Int)(w_side_errs_a0:Int)(w_side_errs_a1:Int)(w_side_errs_a2:Int)(w_side_errs_a3:Int)(w_side_w_c_cap:Int)(w_side_w_c_l:List Res)(w_side_w_ready:Bool)(w_side_w_shown:List Res)(w_side_p_next:Int)(w_side_p_snaps:List Snap)(w_told:List Frame)(hz:SzK (⟨⟨⟨w_req_a_port,w_req_a_host,w_req_a_path,w_req_a_first,w_req_a_other⟩,w_req_stage,w_req_id,w_req_route,w_req_cluster,⟨w_req_out_what,w_req_out_cluster,w_req_out_host⟩⟩,⟨w_side_epoch,w_side_turn,w_side_up,⟨⟨w_side_in_last_a0,w_side_in_last_a1,w_side_in_last_a2,w_side_in_last_a3⟩,w_side_in_max⟩,⟨w_side_errs_a0,w_side_errs_a1,w_side_errs_a2,w_side_errs_a3⟩,⟨⟨w_side_w_c_cap,w_side_w_c_l⟩,w_side_w_ready,w_side_w_shown⟩,⟨w_side_p_next,w_side_p_snaps⟩⟩,w_told⟩:Work)):CallI Tryz.prog 47 [.int .i64 w_req_a_port,.str w_req_a_host,.str w_req_a_path,.int .i64 w_req_a_first,.int .i64 w_req_a_other,.int .i64 w_req_stage,.int .i64 w_req_id,.str w_req_route,.str w_req_cluster,.int .i64 w_req_out_what,.str w_req_out_cluster,.int .i64 w_req_out_host,.int .i64 w_side_epoch,.int .i64 w_side_turn,.bool w_side_up,.int .i64 w_side_in_last_a0,.int .i64 w_side_in_last_a1,.int .i64 w_side_in_last_a2,.int .i64 w_side_in_last_a3,.int .i64 w_side_in_max,.int .i64 w_side_errs_a0,.int .i64 w_side_errs_a1,.int .i64 w_side_errs_a2,.int .i64 w_side_errs_a3,.int .i64 w_side_w_c_cap,.slice false (Ja w_side_w_c_l),.bool w_side_w_ready,.slice false (Ja w_side_w_shown),.int .i64 w_side_p_next,.slice false (Ja w_side_p_snaps),.slice false (Ja w_told)] [] (.tup []) (wc (JaN (⟨⟨⟨w_req_a_port,w_req_a_host,w_req_a_path,w_req_a_first,w_req_a_other⟩,w_req_stage,w_req_id,w_req_route,w_req_cluster,⟨w_req_out_what,w_req_out_cluster,w_req_out_host⟩⟩,⟨w_side_epoch,w_side_turn,w_side_up,⟨⟨w_side_in_last_a0,w_side_in_last_a1,w_side_in_last_a2,w_side_in_last_a3⟩,w_side_in_max⟩,⟨w_side_errs_a0,w_side_errs_a1,w_side_errs_a2,w_side_errs_a3⟩,⟨⟨w_side_w_c_cap,w_side_w_c_l⟩,w_side_w_ready,w_side_w_shown⟩,⟨w_side_p_next,w_side_p_snaps⟩⟩,w_told⟩:Work))):=by
 have w1:=JiY w_req_a_port w_req_a_host w_req_a_path w_req_a_first w_req_a_other w_req_stage w_req_id w_req_route w_req_cluster w_req_out_what w_req_out_cluster w_req_out_host w_side_epoch w_side_turn w_side_up w_side_in_last_a0 w_side_in_last_a1 w_side_in_last_a2 w_side_in_last_a3 w_side_in_max w_side_errs_a0 w_side_errs_a1 w_side_errs_a2 w_side_errs_a3 w_side_w_c_cap w_side_w_c_l w_side_w_ready w_side_w_shown w_side_p_next w_side_p_snaps w_told hz.s.p.n
 have w2:=JlJ (Vs (⟨⟨⟨w_req_a_port,w_req_a_host,w_req_a_path,w_req_a_first,w_req_a_other⟩,w_req_stage,w_req_id,w_req_route,w_req_cluster,⟨w_req_out_what,w_req_out_cluster,w_req_out_host⟩⟩,⟨w_side_epoch,w_side_turn,w_side_up,⟨⟨w_side_in_last_a0,w_side_in_last_a1,w_side_in_last_a2,w_side_in_last_a3⟩,w_side_in_max⟩,⟨w_side_errs_a0,w_side_errs_a1,w_side_errs_a2,w_side_errs_a3⟩,⟨⟨w_side_w_c_cap,w_side_w_c_l⟩,w_side_w_ready,w_side_w_shown⟩,⟨w_side_p_next,w_side_p_snaps⟩⟩,w_told⟩:Work)) w_req_a_port hz.snap.1
 have w3:=Jbg w_req_a_port w_req_a_host w_req_a_path w_req_a_first w_req_a_other w_req_stage w_req_id w_req_route w_req_cluster w_req_out_what w_req_out_cluster w_req_out_host w_side_epoch w_side_turn w_side_up w_side_in_last_a0 w_side_in_last_a1 w_side_in_last_a2 w_side_in_last_a3 w_side_in_max w_side_errs_a0 w_side_errs_a1 w_side_errs_a2 w_side_errs_a3 w_side_w_c_cap w_side_w_c_l w_side_w_ready w_side_w_shown w_side_p_next w_side_p_snaps w_told 1 [] 0 hz
 unfold JaN
 clear hz
 simp only
 generalize Vs (⟨⟨⟨w_req_a_port,w_req_a_host,w_req_a_path,w_req_a_first,w_req_a_other⟩,w_req_stage,w_req_id,w_req_route,w_req_cluster,⟨w_req_out_what,w_req_out_cluster,w_req_out_host⟩⟩,⟨w_side_epoch,w_side_turn,w_side_up,⟨⟨w_side_in_last_a0,w_side_in_last_a1,w_side_in_last_a2,w_side_in_last_a3⟩,w_side_in_max⟩,⟨w_side_errs_a0,w_side_errs_a1,w_side_errs_a2,w_side_errs_a3⟩,⟨⟨w_side_w_c_cap,w_side_w_c_l⟩,w_side_w_ready,w_side_w_shown⟩,⟨w_side_p_next,w_side_p_snaps⟩⟩,w_told⟩:Work)=l at *
 cases ho:Jad l w_req_a_port
 rw[ho] at w2
 rotate_left
 rename_i x
 rw[ho] at w2
 clear w3
 have w3:=trivial
 simp only
 unfold wc
 simp only
 all_goals
  simp only[Option.getD_none,Option.isSome_none,Option.getD_some,Option.isSome_some] at w2
  refine CallI.goR0 Tryz.call47 Tryz.func47 rfl Tryz.ntmps47 T (congrArg Array.toList Tryz.results47) (by decide) fun ts hn h0 hg0 ho0=>?_
  (repeat' (first
 | (with_reducible refine callX.ior ?_ ?_ ?_ (w1);(focus(simp only[go_sem,↓reduceIte,reduceIte,Qa,Qh,Qb,Qc,Qd,Qe,Qf,Qg,reduceCtorEq, *,-w1,-w2,-w3,Vi,Option.getD_none,Option.isSome_none];first|done|rfl));(focus(simp only[go_sem,↓reduceIte,reduceIte,Qa,Qh,Qb,Qc,Qd,Qe,Qf,Qg,reduceCtorEq, *,-w1,-w2,-w3,Vi,Option.getD_none,Option.isSome_none];first|done|rfl)))
 |with_reducible refine callX.by (w2) ?_
 | (with_reducible refine callX.io ?_ ?_ ?_ (w3);(focus(simp only[go_sem,↓reduceIte,reduceIte,Qa,Qh,Qb,Qc,Qd,Qe,Qf,Qg,reduceCtorEq, *,-w1,-w2,-w3,Vi,Option.getD_none,Option.isSome_none];first|done|rfl));(focus(simp only[go_sem,↓reduceIte,reduceIte,Qa,Qh,Qb,Qc,Qd,Qe,Qf,Qg,reduceCtorEq, *,-w1,-w2,-w3,Vi,Option.getD_none,Option.isSome_none];first|done|rfl)))
 | (with_reducible first|assumption|(refine Qw hK _ ?_;clear hK K)|refine Qw ‹_› _ ?_|refine Nx.out ‹_› ?_|refine Qi fun K hK=>?_|refine Qj T fun K hK=>?_|refine Qk (id:=0) T mixed [([5],[7,8,9,10,11,12,4,14,15,2]),([6],[7,8,9,10,11,12,14,15,2]),([7],[5,6,10,11,12,13,4,14,15,2]),([8],[5,6,11,12,13,4,14,15,2]),([9],[5,6,12,13,4,14,15,2]),([10],[5,6,7,13,4,14,15,2]),([11],[5,6,7,8,4,14,15,2]),([12],[5,6,7,8,9,14,15,2]),([13],[7,8,9,10,2]),([4],[5,7,8,9,10,11,2]),([14],[5,6,7,8,9,10,11,12,15,2]),([15],[5,6,7,8,9,10,11,12,14,2]),([2],[5,6,7,8,9,10,11,12,13,4,14,15]),([2],[15])] (by kernel_rfl) fun K hK=>?_|refine Ql fun A B hA hB=>?_|refine Qn ?_|refine Qr ?_)
 | ((with_reducible first|apply Qy|apply Qz|apply QA)<;>intro hb<;>try simp only[nr] at hb)
 |simp only[go_sem,↓reduceIte,reduceIte,Qa,Qh,Qb,Qc,Qd,Qe,Qf,Qg,reduceCtorEq, *,-w1,-w2,-w3,Vi,Option.getD_none,Option.isSome_none]
 |with_reducible refine fun(bn:Bool) hbn=>?_))
theorem Jja{l:List Res}(hs:∀r∈l,JD r)(k:Key):Jc ((JP l k).getD Vu).rules'.length∧(∀y∈((JP l k).getD Vu).rules',VC y)∧Jc ((JP l k).getD Vu).hosts.length:=by
 obtain⟨_,_,h1,h2,h3⟩:=Jn0 hs k
 exact⟨h1,h2,h3⟩
theorem Jng(l:List Res)(to' h p:List UInt8):JcH l to' h p=if(JP l ⟨1,to'⟩).isSome=true then ZK ((JP l ⟨1,to'⟩).getD Vu).rules' h p else none:=by
 unfold JcH
 cases JP l ⟨1,to'⟩<;>rfl
theorem JnT{l:List Rule}{h p:List UInt8}(hs:∀y∈l,VC y):Jc ((ZK l h p).getD JcY).split.length:=by
 cases e:ZK l h p with
 |none=>simp[JcY,Jc]
 |some r=>exact(hs r (Jms e)).2.2.1
set_option maxHeartbeats 16000000 in
theorem Jnb(w_req_a_port:Int)(w_req_a_host:List UInt8)(w_req_a_path:List UInt8)(w_req_a_first:Int)(w_req_a_other:Int)(w_req_stage:Int)(w_req_id:Int)(w_req_route:List UInt8)(w_req_cluster:List UInt8)(w_req_out_what:Int)(w_req_out_cluster:List UInt8)(w_req_out_host:Int)(w_side_epoch:Int)(w_side_turn:Int)(w_side_up:Bool)(w_side_in_last_a0:Int)(w_side_in_last_a1:Int)(w_side_in_last_a2:Int)(w_side_in_last_a3:Int)(w_side_in_max:Int)(w_side_errs_a0:Int)(w_side_errs_a1:Int)(w_side_errs_a2:Int)(w_side_errs_a3:Int)(w_side_w_c_cap:Int)(w_side_w_c_l:List Res)(w_side_w_ready:Bool)(w_side_w_shown:List Res)(w_side_p_next:Int)(w_side_p_snaps:List Snap)(w_told:List Frame)(hz:SzK (⟨⟨⟨w_req_a_port,w_req_a_host,w_req_a_path,w_req_a_first,w_req_a_other⟩,w_req_stage,w_req_id,w_req_route,w_req_cluster,⟨w_req_out_what,w_req_out_cluster,w_req_out_host⟩⟩,⟨w_side_epoch,w_side_turn,w_side_up,⟨⟨w_side_in_last_a0,w_side_in_last_a1,w_side_in_last_a2,w_side_in_last_a3⟩,w_side_in_max⟩,⟨w_side_errs_a0,w_side_errs_a1,w_side_errs_a2,w_side_errs_a3⟩,⟨⟨w_side_w_c_cap,w_side_w_c_l⟩,w_side_w_ready,w_side_w_shown⟩,⟨w_side_p_next,w_side_p_snaps⟩⟩,w_told⟩:Work)):CallI Tryz.prog 48 [.int .i64 w_req_a_port,.str w_req_a_host,.str w_req_a_path,.int .i64 w_req_a_first,.int .i64 w_req_a_other,.int .i64 w_req_stage,.int .i64 w_req_id,.str w_req_route,.str w_req_cluster,.int .i64 w_req_out_what,.str w_req_out_cluster,.int .i64 w_req_out_host,.int .i64 w_side_epoch,.int .i64 w_side_turn,.bool w_side_up,.int .i64 w_side_in_last_a0,.int .i64 w_side_in_last_a1,.int .i64 w_side_in_last_a2,.int .i64 w_side_in_last_a3,.int .i64 w_side_in_max,.int .i64 w_side_errs_a0,.int .i64 w_side_errs_a1,.int .i64 w_side_errs_a2,.int .i64 w_side_errs_a3,.int .i64 w_side_w_c_cap,.slice false (Ja w_side_w_c_l),.bool w_side_w_ready,.slice false (Ja w_side_w_shown),.int .i64 w_side_p_next,.slice false (Ja w_side_p_snaps),.slice false (Ja w_told)] [] (.tup []) (wc (JaW (⟨⟨⟨w_req_a_port,w_req_a_host,w_req_a_path,w_req_a_first,w_req_a_other⟩,w_req_stage,w_req_id,w_req_route,w_req_cluster,⟨w_req_out_what,w_req_out_cluster,w_req_out_host⟩⟩,⟨w_side_epoch,w_side_turn,w_side_up,⟨⟨w_side_in_last_a0,w_side_in_last_a1,w_side_in_last_a2,w_side_in_last_a3⟩,w_side_in_max⟩,⟨w_side_errs_a0,w_side_errs_a1,w_side_errs_a2,w_side_errs_a3⟩,⟨⟨w_side_w_c_cap,w_side_w_c_l⟩,w_side_w_ready,w_side_w_shown⟩,⟨w_side_p_next,w_side_p_snaps⟩⟩,w_told⟩:Work))):=by
 have w1:=JeY w_req_a_port w_req_a_host w_req_a_path w_req_a_first w_req_a_other w_req_stage w_req_id w_req_route w_req_cluster w_req_out_what w_req_out_cluster w_req_out_host w_side_epoch w_side_turn w_side_up w_side_in_last_a0 w_side_in_last_a1 w_side_in_last_a2 w_side_in_last_a3 w_side_in_max w_side_errs_a0 w_side_errs_a1 w_side_errs_a2 w_side_errs_a3 w_side_w_c_cap w_side_w_c_l w_side_w_ready w_side_w_shown w_side_p_next w_side_p_snaps w_told 1 w_req_route hz.s.p.n hz.snap.1
 obtain⟨s1,s2,_⟩:=Jja hz.snap.2 ⟨1,w_req_route⟩
 have w2:=Jmr _ w_req_a_host w_req_a_path s1 s2 hz.h
 have w3:=Jmp _ w_req_a_first (JnT (h:=w_req_a_host) (p:=w_req_a_path) s2)
 have w4:=Jbg w_req_a_port w_req_a_host w_req_a_path w_req_a_first w_req_a_other w_req_stage w_req_id w_req_route w_req_cluster w_req_out_what w_req_out_cluster w_req_out_host w_side_epoch w_side_turn w_side_up w_side_in_last_a0 w_side_in_last_a1 w_side_in_last_a2 w_side_in_last_a3 w_side_in_max w_side_errs_a0 w_side_errs_a1 w_side_errs_a2 w_side_errs_a3 w_side_w_c_cap w_side_w_c_l w_side_w_ready w_side_w_shown w_side_p_next w_side_p_snaps w_told 2 [] 0 hz
 have w5:=Jbg w_req_a_port w_req_a_host w_req_a_path w_req_a_first w_req_a_other w_req_stage w_req_id w_req_route w_req_cluster w_req_out_what w_req_out_cluster w_req_out_host w_side_epoch w_side_turn w_side_up w_side_in_last_a0 w_side_in_last_a1 w_side_in_last_a2 w_side_in_last_a3 w_side_in_max w_side_errs_a0 w_side_errs_a1 w_side_errs_a2 w_side_errs_a3 w_side_w_c_cap w_side_w_c_l w_side_w_ready w_side_w_shown w_side_p_next w_side_p_snaps w_told 0 [] 0 hz
 unfold JaW
 rw[Jng]
 clear hz s1 s2
 simp only
 generalize Vs (⟨⟨⟨w_req_a_port,w_req_a_host,w_req_a_path,w_req_a_first,w_req_a_other⟩,w_req_stage,w_req_id,w_req_route,w_req_cluster,⟨w_req_out_what,w_req_out_cluster,w_req_out_host⟩⟩,⟨w_side_epoch,w_side_turn,w_side_up,⟨⟨w_side_in_last_a0,w_side_in_last_a1,w_side_in_last_a2,w_side_in_last_a3⟩,w_side_in_max⟩,⟨w_side_errs_a0,w_side_errs_a1,w_side_errs_a2,w_side_errs_a3⟩,⟨⟨w_side_w_c_cap,w_side_w_c_l⟩,w_side_w_ready,w_side_w_shown⟩,⟨w_side_p_next,w_side_p_snaps⟩⟩,w_told⟩:Work)=l at *
 generalize JP l ⟨1,w_req_route⟩=o at *
 generalize ZK (o.getD Vu).rules' w_req_a_host w_req_a_path=q at *
 cases o
 simp only[Option.isSome_none,Bool.false_eq_true,↓reduceIte]
 simp only[Option.getD_none,Option.isSome_none,Option.getD_some,Option.isSome_some] at w1 w2
 clear w3 w5
 have w3:=trivial
 have w5:=trivial
 rotate_left
 simp only[Option.isSome_some,↓reduceIte]
 simp only[Option.getD_none,Option.isSome_none,Option.getD_some,Option.isSome_some] at w1 w2
 cases q
 simp only[Option.getD_none,Option.isSome_none,Option.getD_some,Option.isSome_some] at w2
 clear w3 w5
 have w3:=trivial
 have w5:=trivial
 rotate_left
 rename_i r
 simp only[Option.getD_none,Option.isSome_none,Option.getD_some,Option.isSome_some] at w2 w3
 simp only
 generalize ZJ r.split w_req_a_first=c at *
 cases c
 simp only[Option.getD_none,Option.isSome_none,Option.getD_some,Option.isSome_some] at w3
 clear w4
 have w4:=trivial
 rotate_left
 simp only[Option.getD_none,Option.isSome_none,Option.getD_some,Option.isSome_some] at w3
 clear w4 w5
 have w4:=trivial
 have w5:=trivial
 simp only
 unfold wc
 simp only
 all_goals
  refine CallI.goR0 Tryz.call48 Tryz.func48 rfl Tryz.ntmps48 T (congrArg Array.toList Tryz.results48) (by decide) fun ts hn h0 hg0 ho0=>?_
  (repeat' (first
 | (with_reducible refine callX.io ?_ ?_ ?_ (w1);(focus(simp only[go_sem,↓reduceIte,reduceIte,Qa,Qh,Qb,Qc,Qd,Qe,Qf,Qg,reduceCtorEq, *,-w1,-w2,-w3,-w4,-w5,Vi,Option.getD_none,Option.isSome_none,Option.getD_some,Option.isSome_some];first|done|rfl));(focus(simp only[go_sem,↓reduceIte,reduceIte,Qa,Qh,Qb,Qc,Qd,Qe,Qf,Qg,reduceCtorEq, *,-w1,-w2,-w3,-w4,-w5,Vi,Option.getD_none,Option.isSome_none,Option.getD_some,Option.isSome_some];first|done|rfl)))
 | (with_reducible first|refine callX.by (w2) ?_|refine callX.by (w3) ?_)
 | (with_reducible refine callX.io ?_ ?_ ?_ (w4);(focus(simp only[go_sem,↓reduceIte,reduceIte,Qa,Qh,Qb,Qc,Qd,Qe,Qf,Qg,reduceCtorEq, *,-w1,-w2,-w3,-w4,-w5,Vi,Option.getD_none,Option.isSome_none,Option.getD_some,Option.isSome_some];first|done|rfl));(focus(simp only[go_sem,↓reduceIte,reduceIte,Qa,Qh,Qb,Qc,Qd,Qe,Qf,Qg,reduceCtorEq, *,-w1,-w2,-w3,-w4,-w5,Vi,Option.getD_none,Option.isSome_none,Option.getD_some,Option.isSome_some];first|done|rfl)))
 | (with_reducible refine callX.io ?_ ?_ ?_ (w5);(focus(simp only[go_sem,↓reduceIte,reduceIte,Qa,Qh,Qb,Qc,Qd,Qe,Qf,Qg,reduceCtorEq, *,-w1,-w2,-w3,-w4,-w5,Vi,Option.getD_none,Option.isSome_none,Option.getD_some,Option.isSome_some];first|done|rfl));(focus(simp only[go_sem,↓reduceIte,reduceIte,Qa,Qh,Qb,Qc,Qd,Qe,Qf,Qg,reduceCtorEq, *,-w1,-w2,-w3,-w4,-w5,Vi,Option.getD_none,Option.isSome_none,Option.getD_some,Option.isSome_some];first|done|rfl)))
 | (with_reducible first|assumption|(refine Qw hK _ ?_;clear hK K)|refine Qw ‹_› _ ?_|refine Nx.out ‹_› ?_|refine Qi fun K hK=>?_|refine Qj T fun K hK=>?_|refine Qk (id:=1) T mixed [([18],[20,21,22,23,24,25,26,27,28,29,30,31,17,33,34,4]),([19],[20,21,22,23,24,25,26,27,28,29,30,31,33,34,4]),([20],[18,19,23,24,25,26,27,28,29,30,31,32,17,33,34,4]),([21],[18,19,24,25,26,27,28,29,30,31,32,17,33,34,4]),([22],[18,19,25,26,27,28,29,30,31,32,17,33,34,4]),([23],[18,19,20,26,27,28,29,30,31,32,17,33,34,4]),([24],[18,19,20,21,26,27,28,29,30,31,17,33,34,4]),([25],[18,19,20,21,22,26,27,28,29,30,31,33,34,4]),([26],[18,19,20,21,22,23,24,25,29,30,31,32,17,33,34,4]),([27],[18,19,20,21,22,23,24,25,30,31,32,17,33,34,4]),([28],[18,19,20,21,22,23,24,25,31,32,17,33,34,4]),([29],[18,19,20,21,22,23,24,25,26,32,17,33,34,4]),([30],[18,19,20,21,22,23,24,25,26,27,17,33,34,4]),([31],[18,19,20,21,22,23,24,25,26,27,28,33,34,4]),([32],[20,21,22,23,26,27,28,29,4]),([17],[18,20,21,22,23,24,26,27,28,29,30,4]),([33],[18,19,20,21,22,23,24,25,26,27,28,29,30,31,34,4]),([34],[18,19,20,21,22,23,24,25,26,27,28,29,30,31,33,4]),([4],[18,19,20,21,22,23,24,25,26,27,28,29,30,31,32,17,33,34]),([4],[34])] (by kernel_rfl) fun K hK=>?_|refine Qk (id:=4) T mixed [([45],[47,48,49,50,51,52,44,54,55]),([46],[47,48,49,50,51,52,54,55]),([47],[45,46,50,51,52,53,44,54,55]),([48],[45,46,51,52,53,44,54,55]),([49],[45,46,52,53,44,54,55]),([50],[45,46,47,53,44,54,55]),([51],[45,46,47,48,44,54,55]),([52],[45,46,47,48,49,54,55]),([53],[47,48,49,50]),([44],[45,47,48,49,50,51]),([54],[45,46,47,48,49,50,51,52,55]),([55],[45,46,47,48,49,50,51,52,54,6]),([6],[55])] (by kernel_rfl) fun K hK=>?_|refine Ql fun A B hA hB=>?_|refine Qn ?_|refine Qr ?_)
 | ((with_reducible first|apply Qy|apply Qz|apply QA)<;>intro hb<;>try simp only[nr] at hb)
 |simp only[go_sem,↓reduceIte,reduceIte,Qa,Qh,Qb,Qc,Qd,Qe,Qf,Qg,reduceCtorEq, *,-w1,-w2,-w3,-w4,-w5,Vi,Option.getD_none,Option.isSome_none,Option.getD_some,Option.isSome_some]
 |with_reducible refine fun(bn:Bool) hbn=>?_))
theorem Jkk(l:List Res)(c:List UInt8)(n:Int):Yo (Jb5 l c).1 n=if(JP l ⟨2,c⟩).isSome=true∧(JP l ⟨3,((JP l ⟨2,c⟩).getD Vu).to'⟩).isSome=true then Yo ((JP l ⟨3,((JP l ⟨2,c⟩).getD Vu).to'⟩).getD Vu).hosts n else none:=by
 unfold Jb5
 cases JP l ⟨2,c⟩ with
 |none=>simp[Yo]
 |some x =>
  simp only[Option.isSome_some,Option.getD_some,true_and]
  cases JP l ⟨3,x.to'⟩ with
  |none=>simp[Yo]
  |some e=>simp
set_option maxHeartbeats 16000000 in
theorem Jkj(w_req_a_port:Int)(w_req_a_host:List UInt8)(w_req_a_path:List UInt8)(w_req_a_first:Int)(w_req_a_other:Int)(w_req_stage:Int)(w_req_id:Int)(w_req_route:List UInt8)(w_req_cluster:List UInt8)(w_req_out_what:Int)(w_req_out_cluster:List UInt8)(w_req_out_host:Int)(w_side_epoch:Int)(w_side_turn:Int)(w_side_up:Bool)(w_side_in_last_a0:Int)(w_side_in_last_a1:Int)(w_side_in_last_a2:Int)(w_side_in_last_a3:Int)(w_side_in_max:Int)(w_side_errs_a0:Int)(w_side_errs_a1:Int)(w_side_errs_a2:Int)(w_side_errs_a3:Int)(w_side_w_c_cap:Int)(w_side_w_c_l:List Res)(w_side_w_ready:Bool)(w_side_w_shown:List Res)(w_side_p_next:Int)(w_side_p_snaps:List Snap)(w_told:List Frame)(hz:SzK (⟨⟨⟨w_req_a_port,w_req_a_host,w_req_a_path,w_req_a_first,w_req_a_other⟩,w_req_stage,w_req_id,w_req_route,w_req_cluster,⟨w_req_out_what,w_req_out_cluster,w_req_out_host⟩⟩,⟨w_side_epoch,w_side_turn,w_side_up,⟨⟨w_side_in_last_a0,w_side_in_last_a1,w_side_in_last_a2,w_side_in_last_a3⟩,w_side_in_max⟩,⟨w_side_errs_a0,w_side_errs_a1,w_side_errs_a2,w_side_errs_a3⟩,⟨⟨w_side_w_c_cap,w_side_w_c_l⟩,w_side_w_ready,w_side_w_shown⟩,⟨w_side_p_next,w_side_p_snaps⟩⟩,w_told⟩:Work)):CallI Tryz.prog 49 [.int .i64 w_req_a_port,.str w_req_a_host,.str w_req_a_path,.int .i64 w_req_a_first,.int .i64 w_req_a_other,.int .i64 w_req_stage,.int .i64 w_req_id,.str w_req_route,.str w_req_cluster,.int .i64 w_req_out_what,.str w_req_out_cluster,.int .i64 w_req_out_host,.int .i64 w_side_epoch,.int .i64 w_side_turn,.bool w_side_up,.int .i64 w_side_in_last_a0,.int .i64 w_side_in_last_a1,.int .i64 w_side_in_last_a2,.int .i64 w_side_in_last_a3,.int .i64 w_side_in_max,.int .i64 w_side_errs_a0,.int .i64 w_side_errs_a1,.int .i64 w_side_errs_a2,.int .i64 w_side_errs_a3,.int .i64 w_side_w_c_cap,.slice false (Ja w_side_w_c_l),.bool w_side_w_ready,.slice false (Ja w_side_w_shown),.int .i64 w_side_p_next,.slice false (Ja w_side_p_snaps),.slice false (Ja w_told)] [] (.tup []) (wc (JaB (⟨⟨⟨w_req_a_port,w_req_a_host,w_req_a_path,w_req_a_first,w_req_a_other⟩,w_req_stage,w_req_id,w_req_route,w_req_cluster,⟨w_req_out_what,w_req_out_cluster,w_req_out_host⟩⟩,⟨w_side_epoch,w_side_turn,w_side_up,⟨⟨w_side_in_last_a0,w_side_in_last_a1,w_side_in_last_a2,w_side_in_last_a3⟩,w_side_in_max⟩,⟨w_side_errs_a0,w_side_errs_a1,w_side_errs_a2,w_side_errs_a3⟩,⟨⟨w_side_w_c_cap,w_side_w_c_l⟩,w_side_w_ready,w_side_w_shown⟩,⟨w_side_p_next,w_side_p_snaps⟩⟩,w_told⟩:Work))):=by
 have w1:=JeY w_req_a_port w_req_a_host w_req_a_path w_req_a_first w_req_a_other w_req_stage w_req_id w_req_route w_req_cluster w_req_out_what w_req_out_cluster w_req_out_host w_side_epoch w_side_turn w_side_up w_side_in_last_a0 w_side_in_last_a1 w_side_in_last_a2 w_side_in_last_a3 w_side_in_max w_side_errs_a0 w_side_errs_a1 w_side_errs_a2 w_side_errs_a3 w_side_w_c_cap w_side_w_c_l w_side_w_ready w_side_w_shown w_side_p_next w_side_p_snaps w_told 2 w_req_cluster hz.s.p.n hz.snap.1
 have w2:=JeY w_req_a_port w_req_a_host w_req_a_path w_req_a_first w_req_a_other w_req_stage w_req_id w_req_route w_req_cluster w_req_out_what w_req_out_cluster w_req_out_host w_side_epoch w_side_turn w_side_up w_side_in_last_a0 w_side_in_last_a1 w_side_in_last_a2 w_side_in_last_a3 w_side_in_max w_side_errs_a0 w_side_errs_a1 w_side_errs_a2 w_side_errs_a3 w_side_w_c_cap w_side_w_c_l w_side_w_ready w_side_w_shown w_side_p_next w_side_p_snaps w_told 3 ((JP (Vs (⟨⟨⟨w_req_a_port,w_req_a_host,w_req_a_path,w_req_a_first,w_req_a_other⟩,w_req_stage,w_req_id,w_req_route,w_req_cluster,⟨w_req_out_what,w_req_out_cluster,w_req_out_host⟩⟩,⟨w_side_epoch,w_side_turn,w_side_up,⟨⟨w_side_in_last_a0,w_side_in_last_a1,w_side_in_last_a2,w_side_in_last_a3⟩,w_side_in_max⟩,⟨w_side_errs_a0,w_side_errs_a1,w_side_errs_a2,w_side_errs_a3⟩,⟨⟨w_side_w_c_cap,w_side_w_c_l⟩,w_side_w_ready,w_side_w_shown⟩,⟨w_side_p_next,w_side_p_snaps⟩⟩,w_told⟩:Work)) ⟨2,w_req_cluster⟩).getD Vu).to' hz.s.p.n hz.snap.1
 obtain⟨_,_,s1⟩:=Jja hz.snap.2 ⟨3,((JP (Vs (⟨⟨⟨w_req_a_port,w_req_a_host,w_req_a_path,w_req_a_first,w_req_a_other⟩,w_req_stage,w_req_id,w_req_route,w_req_cluster,⟨w_req_out_what,w_req_out_cluster,w_req_out_host⟩⟩,⟨w_side_epoch,w_side_turn,w_side_up,⟨⟨w_side_in_last_a0,w_side_in_last_a1,w_side_in_last_a2,w_side_in_last_a3⟩,w_side_in_max⟩,⟨w_side_errs_a0,w_side_errs_a1,w_side_errs_a2,w_side_errs_a3⟩,⟨⟨w_side_w_c_cap,w_side_w_c_l⟩,w_side_w_ready,w_side_w_shown⟩,⟨w_side_p_next,w_side_p_snaps⟩⟩,w_told⟩:Work)) ⟨2,w_req_cluster⟩).getD Vu).to'⟩
 have w3:=Jmq _ w_req_a_other s1
 have w4:=Jbg w_req_a_port w_req_a_host w_req_a_path w_req_a_first w_req_a_other w_req_stage w_req_id w_req_route w_req_cluster w_req_out_what w_req_out_cluster w_req_out_host w_side_epoch w_side_turn w_side_up w_side_in_last_a0 w_side_in_last_a1 w_side_in_last_a2 w_side_in_last_a3 w_side_in_max w_side_errs_a0 w_side_errs_a1 w_side_errs_a2 w_side_errs_a3 w_side_w_c_cap w_side_w_c_l w_side_w_ready w_side_w_shown w_side_p_next w_side_p_snaps w_told 0 [] 0 hz
 unfold JaB
 rw[Jkk]
 clear hz s1
 simp only
 generalize Vs (⟨⟨⟨w_req_a_port,w_req_a_host,w_req_a_path,w_req_a_first,w_req_a_other⟩,w_req_stage,w_req_id,w_req_route,w_req_cluster,⟨w_req_out_what,w_req_out_cluster,w_req_out_host⟩⟩,⟨w_side_epoch,w_side_turn,w_side_up,⟨⟨w_side_in_last_a0,w_side_in_last_a1,w_side_in_last_a2,w_side_in_last_a3⟩,w_side_in_max⟩,⟨w_side_errs_a0,w_side_errs_a1,w_side_errs_a2,w_side_errs_a3⟩,⟨⟨w_side_w_c_cap,w_side_w_c_l⟩,w_side_w_ready,w_side_w_shown⟩,⟨w_side_p_next,w_side_p_snaps⟩⟩,w_told⟩:Work)=l at *
 generalize JP l ⟨2,w_req_cluster⟩=o at *
 generalize JP l ⟨3,(o.getD Vu).to'⟩=u at *
 generalize Yo (u.getD Vu).hosts w_req_a_other=q at *
 by_cases hc:(o.isSome=true∧u.isSome=true)∧q.isSome=true
 obtain⟨⟨c1,c2⟩,c3⟩:=hc
 rw[if_pos ⟨c1,c2⟩]
 clear w4
 have w4:=trivial
 obtain⟨n,rfl⟩:=Option.isSome_iff_exists.1 c3
 simp only
 simp only[Option.getD_none,Option.isSome_none,Option.getD_some,Option.isSome_some] at w3
 rw[c1] at w1
 rw[c2] at w2
 clear c1 c2 c3
 unfold wc
 simp only
 rotate_left
 cases o<;>cases u<;>cases q<;>simp only[Option.getD_none,Option.isSome_none,Option.getD_some,Option.isSome_some,and_self,and_false,false_and,and_true,true_and,Bool.false_eq_true,↓reduceIte,not_true_eq_false,not_false_eq_true] at hc w1 w2 w3 ⊢
 all_goals
  refine CallI.goR0 Tryz.call49 Tryz.func49 rfl Tryz.ntmps49 T (congrArg Array.toList Tryz.results49) (by decide) fun ts hn h0 hg0 ho0=>?_
  (repeat' (first
 | (with_reducible refine callX.io ?_ ?_ ?_ (w1);(focus(simp only[go_sem,↓reduceIte,reduceIte,Qa,Qh,Qb,Qc,Qd,Qe,Qf,Qg,reduceCtorEq, *,-w1,-w2,-w3,-w4,Vi,Option.getD_none,Option.isSome_none,Option.getD_some,Option.isSome_some];first|done|rfl));(focus(simp only[go_sem,↓reduceIte,reduceIte,Qa,Qh,Qb,Qc,Qd,Qe,Qf,Qg,reduceCtorEq, *,-w1,-w2,-w3,-w4,Vi,Option.getD_none,Option.isSome_none,Option.getD_some,Option.isSome_some];first|done|rfl)))
 | (with_reducible refine callX.io ?_ ?_ ?_ (w2);(focus(simp only[go_sem,↓reduceIte,reduceIte,Qa,Qh,Qb,Qc,Qd,Qe,Qf,Qg,reduceCtorEq, *,-w1,-w2,-w3,-w4,Vi,Option.getD_none,Option.isSome_none,Option.getD_some,Option.isSome_some];first|done|rfl));(focus(simp only[go_sem,↓reduceIte,reduceIte,Qa,Qh,Qb,Qc,Qd,Qe,Qf,Qg,reduceCtorEq, *,-w1,-w2,-w3,-w4,Vi,Option.getD_none,Option.isSome_none,Option.getD_some,Option.isSome_some];first|done|rfl)))
 |with_reducible refine callX.by (w3) ?_
 | (with_reducible refine callX.io ?_ ?_ ?_ (w4);(focus(simp only[go_sem,↓reduceIte,reduceIte,Qa,Qh,Qb,Qc,Qd,Qe,Qf,Qg,reduceCtorEq, *,-w1,-w2,-w3,-w4,Vi,Option.getD_none,Option.isSome_none,Option.getD_some,Option.isSome_some];first|done|rfl));(focus(simp only[go_sem,↓reduceIte,reduceIte,Qa,Qh,Qb,Qc,Qd,Qe,Qf,Qg,reduceCtorEq, *,-w1,-w2,-w3,-w4,Vi,Option.getD_none,Option.isSome_none,Option.getD_some,Option.isSome_some];first|done|rfl)))
 | (with_reducible first|assumption|(refine Qw hK _ ?_;clear hK K)|refine Qw ‹_› _ ?_|refine Nx.out ‹_› ?_|refine Qi fun K hK=>?_|refine Qj T fun K hK=>?_|refine Qk (id:=2) T mixed [([26],[28,29,30,31,32,33,25,35,36]),([27],[28,29,30,31,32,33,35,36]),([28],[26,27,31,32,33,34,25,35,36]),([29],[26,27,32,33,34,25,35,36]),([30],[26,27,33,34,25,35,36]),([31],[26,27,28,34,25,35,36]),([32],[26,27,28,29,25,35,36]),([33],[26,27,28,29,30,35,36]),([34],[28,29,30,31]),([25],[26,28,29,30,31,32]),([35],[26,27,28,29,30,31,32,33,36]),([36],[26,27,28,29,30,31,32,33,35,6]),([6],[36])] (by kernel_rfl) fun K hK=>?_|refine Ql fun A B hA hB=>?_|refine Qn ?_|refine Qr ?_)
 | ((with_reducible first|apply Qy|apply Qz|apply QA)<;>intro hb<;>try simp only[nr] at hb)
 |simp only[go_sem,↓reduceIte,reduceIte,Qa,Qh,Qb,Qc,Qd,Qe,Qf,Qg,reduceCtorEq, *,-w1,-w2,-w3,-w4,Vi,Option.getD_none,Option.isSome_none,Option.getD_some,Option.isSome_some]
 |with_reducible refine fun(bn:Bool) hbn=>?_))
end Go.Proofs.YthjalhfmpffbjaaGreatDoor.Lg
