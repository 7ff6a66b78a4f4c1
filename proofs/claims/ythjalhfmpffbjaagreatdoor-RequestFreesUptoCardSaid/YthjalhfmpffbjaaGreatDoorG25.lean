/- Parts of the proof, one behind the other. -/
import Derived.Test.YthjalhfmpffbjaaGreatDoorG24
namespace Go.Proofs.YthjalhfmpffbjaaGreatDoor.Lg
set_option maxRecDepth 100000
set_option linter.unusedVariables false
set_option linter.unusedSimpArgs false
open Go
open Nat renaming reduceEqDiff → Qa, reduceLT → Qb, reduceLeDiff → Qc, reduceAdd → Qd, reduceMul → Qe, reduceSub → Qf, reduceBEq → Qg
open String renaming reduceEq → Qh
open SpecC renaming seqW → Qi, regW → Qj, drawW → Qk, condW → Ql, skip → Qn, ret → Qr
open NxK renaming out → Qw
open Nx renaming out → Qx
open condK renaming split → Qy
open gK renaming split_t → Qz, split_f → QA
open CallR renaming go1 → QD
def JaT(r:Req):Bool:=decide (0≤r.stage∧r.stage≤5∧0≤r.id) && (decide (0<r.id) || (decide (r.stage=0) || decide (r.stage=5)))
def Jl(a:Ask):Req:=⟨a,0,0,[],[],⟨0,[],0⟩⟩
def JF(r:Req):Req:=if JaT r=true then r else Jl r.a
def ZO(w:Work):Work :=
 if w.req.stage=0 then ZX w else if w.req.stage=1 then JaL w else if w.req.stage=2 then JaY w else if w.req.stage=3 then Jaz w else if w.req.stage=4 then V3 w w.req.out else w
def Jk(r:Req)(s:Side):Work:=ZO ⟨JF r,Jw s,[]⟩
theorem Je9:((1:Int)=0)=False∧((2:Int)=0)=False∧((2:Int)=1)=False∧((3:Int)=0)=False∧((3:Int)=1)=False∧((3:Int)=2)=False∧((4:Int)=0)=False∧((4:Int)=1)=False∧((4:Int)=2)=False∧((4:Int)=3)=False:=by simp
theorem JiR(r_a_port:Int)(r_a_host:List UInt8)(r_a_path:List UInt8)(r_a_first:Int)(r_a_other:Int)(r_stage:Int)(r_id:Int)(r_route:List UInt8)(r_cluster:List UInt8)(r_out_what:Int)(r_out_cluster:List UInt8)(r_out_host:Int):CallR Tryz.prog 10 [.agg [.int .i64 r_a_port,.str r_a_host,.str r_a_path,.int .i64 r_a_first,.int .i64 r_a_other,.int .i64 r_stage,.int .i64 r_id,.str r_route,.str r_cluster,.int .i64 r_out_what,.str r_out_cluster,.int .i64 r_out_host]] (.val (.bool (JaT (⟨⟨r_a_port,r_a_host,r_a_path,r_a_first,r_a_other⟩,r_stage,r_id,r_route,r_cluster,⟨r_out_what,r_out_cluster,r_out_host⟩⟩:Req)))):=by
 refine QD (T:=T) Tryz.call10 Tryz.func10 rfl Tryz.ntmps10 (congrArg Array.toList Tryz.results10) (by decide) fun ts hn h0=>?_
 (repeat' (first
 | (with_reducible first|assumption|(refine Qw hK _ ?_;clear hK K)|refine Qw ‹_› _ ?_|refine Qx ‹_› ?_|refine Qi fun K hK=>?_|refine Qj T fun K hK=>?_|refine Ql fun A B hA hB=>?_|refine Qn ?_|refine Qr ?_)
 | ((with_reducible first|apply Qy|apply Qz|apply QA)<;>intro hb<;>try simp only[nr] at hb)
 |simp only[go_sem,↓reduceIte,reduceIte,Qa,Qh,Qb,Qc,Qd,Qe,Qf,Qg,reduceCtorEq, *]
 |with_reducible refine fun(bn:Bool) hbn=>?_))
 all_goals (rw[Bool.eq_iff_iff];simp_all[JaT])
 all_goals omega
theorem Jfk(a_port:Int)(a_host:List UInt8)(a_path:List UInt8)(a_first:Int)(a_other:Int):CallR Tryz.prog 20 [.agg [.int .i64 a_port,.str a_host,.str a_path,.int .i64 a_first,.int .i64 a_other]] (.val (.agg [.int .i64 (Jl (⟨a_port,a_host,a_path,a_first,a_other⟩:Ask)).a.port,.str (Jl (⟨a_port,a_host,a_path,a_first,a_other⟩:Ask)).a.host,.str (Jl (⟨a_port,a_host,a_path,a_first,a_other⟩:Ask)).a.path,.int .i64 (Jl (⟨a_port,a_host,a_path,a_first,a_other⟩:Ask)).a.first,.int .i64 (Jl (⟨a_port,a_host,a_path,a_first,a_other⟩:Ask)).a.other,.int .i64 (Jl (⟨a_port,a_host,a_path,a_first,a_other⟩:Ask)).stage,.int .i64 (Jl (⟨a_port,a_host,a_path,a_first,a_other⟩:Ask)).id,.str (Jl (⟨a_port,a_host,a_path,a_first,a_other⟩:Ask)).route,.str (Jl (⟨a_port,a_host,a_path,a_first,a_other⟩:Ask)).cluster,.int .i64 (Jl (⟨a_port,a_host,a_path,a_first,a_other⟩:Ask)).out.what,.str (Jl (⟨a_port,a_host,a_path,a_first,a_other⟩:Ask)).out.cluster,.int .i64 (Jl (⟨a_port,a_host,a_path,a_first,a_other⟩:Ask)).out.host])):=by
 unfold Jl
 refine QD (T:=T) Tryz.call20 Tryz.func20 rfl Tryz.ntmps20 (congrArg Array.toList Tryz.results20) (by decide) fun ts hn h0=>?_
 (repeat' (first
 | (with_reducible first|assumption|(refine Qw hK _ ?_;clear hK K)|refine Qw ‹_› _ ?_|refine Qx ‹_› ?_|refine Qi fun K hK=>?_|refine Qj T fun K hK=>?_|refine Ql fun A B hA hB=>?_|refine Qn ?_|refine Qr ?_)
 | ((with_reducible first|apply Qy|apply Qz|apply QA)<;>intro hb<;>try simp only[nr] at hb)
 |simp only[go_sem,↓reduceIte,reduceIte,Qa,Qh,Qb,Qc,Qd,Qe,Qf,Qg,reduceCtorEq, *]
 |with_reducible refine fun(bn:Bool) hbn=>?_))
theorem JiS(r_a_port:Int)(r_a_host:List UInt8)(r_a_path:List UInt8)(r_a_first:Int)(r_a_other:Int)(r_stage:Int)(r_id:Int)(r_route:List UInt8)(r_cluster:List UInt8)(r_out_what:Int)(r_out_cluster:List UInt8)(r_out_host:Int):CallR Tryz.prog 44 [.agg [.int .i64 r_a_port,.str r_a_host,.str r_a_path,.int .i64 r_a_first,.int .i64 r_a_other,.int .i64 r_stage,.int .i64 r_id,.str r_route,.str r_cluster,.int .i64 r_out_what,.str r_out_cluster,.int .i64 r_out_host]] (.val (.agg [.int .i64 (JF (⟨⟨r_a_port,r_a_host,r_a_path,r_a_first,r_a_other⟩,r_stage,r_id,r_route,r_cluster,⟨r_out_what,r_out_cluster,r_out_host⟩⟩:Req)).a.port,.str (JF (⟨⟨r_a_port,r_a_host,r_a_path,r_a_first,r_a_other⟩,r_stage,r_id,r_route,r_cluster,⟨r_out_what,r_out_cluster,r_out_host⟩⟩:Req)).a.host,.str (JF (⟨⟨r_a_port,r_a_host,r_a_path,r_a_first,r_a_other⟩,r_stage,r_id,r_route,r_cluster,⟨r_out_what,r_out_cluster,r_out_host⟩⟩:Req)).a.path,.int .i64 (JF (⟨⟨r_a_port,r_a_host,r_a_path,r_a_first,r_a_other⟩,r_stage,r_id,r_route,r_cluster,⟨r_out_what,r_out_cluster,r_out_host⟩⟩:Req)).a.first,.int .i64 (JF (⟨⟨r_a_port,r_a_host,r_a_path,r_a_first,r_a_other⟩,r_stage,r_id,r_route,r_cluster,⟨r_out_what,r_out_cluster,r_out_host⟩⟩:Req)).a.other,.int .i64 (JF (⟨⟨r_a_port,r_a_host,r_a_path,r_a_first,r_a_other⟩,r_stage,r_id,r_route,r_cluster,⟨r_out_what,r_out_cluster,r_out_host⟩⟩:Req)).stage,.int .i64 (JF (⟨⟨r_a_port,r_a_host,r_a_path,r_a_first,r_a_other⟩,r_stage,r_id,r_route,r_cluster,⟨r_out_what,r_out_cluster,r_out_host⟩⟩:Req)).id,.str (JF (⟨⟨r_a_port,r_a_host,r_a_path,r_a_first,r_a_other⟩,r_stage,r_id,r_route,r_cluster,⟨r_out_what,r_out_cluster,r_out_host⟩⟩:Req)).route,.str (JF (⟨⟨r_a_port,r_a_host,r_a_path,r_a_first,r_a_other⟩,r_stage,r_id,r_route,r_cluster,⟨r_out_what,r_out_cluster,r_out_host⟩⟩:Req)).cluster,.int .i64 (JF (⟨⟨r_a_port,r_a_host,r_a_path,r_a_first,r_a_other⟩,r_stage,r_id,r_route,r_cluster,⟨r_out_what,r_out_cluster,r_out_host⟩⟩:Req)).out.what,.str (JF (⟨⟨r_a_port,r_a_host,r_a_path,r_a_first,r_a_other⟩,r_stage,r_id,r_route,r_cluster,⟨r_out_what,r_out_cluster,r_out_host⟩⟩:Req)).out.cluster,.int .i64 (JF (⟨⟨r_a_port,r_a_host,r_a_path,r_a_first,r_a_other⟩,r_stage,r_id,r_route,r_cluster,⟨r_out_what,r_out_cluster,r_out_host⟩⟩:Req)).out.host])):=by
 have w1:=JiR r_a_port r_a_host r_a_path r_a_first r_a_other r_stage r_id r_route r_cluster r_out_what r_out_cluster r_out_host
 have w2:=Jfk r_a_port r_a_host r_a_path r_a_first r_a_other
 unfold JF
 cases hb0:JaT (⟨⟨r_a_port,r_a_host,r_a_path,r_a_first,r_a_other⟩,r_stage,r_id,r_route,r_cluster,⟨r_out_what,r_out_cluster,r_out_host⟩⟩:Req)
 ·rw[hb0] at w1
  simp only[Bool.false_eq_true,↓reduceIte]
  refine QD (T:=T) Tryz.call44 Tryz.func44 rfl Tryz.ntmps44 (congrArg Array.toList Tryz.results44) (by decide) fun ts hn h0=>?_
  (repeat' (first
 | (with_reducible first|refine callX.by (w1) ?_|refine callX.by (w2) ?_|assumption|(refine Qw hK _ ?_;clear hK K)|refine Qw ‹_› _ ?_|refine Qx ‹_› ?_|refine Qi fun K hK=>?_|refine Qj T fun K hK=>?_|refine Ql fun A B hA hB=>?_|refine Qn ?_|refine Qr ?_)
 | ((with_reducible first|apply Qy|apply Qz|apply QA)<;>intro hb<;>try simp only[nr] at hb)
 |simp only[go_sem,↓reduceIte,reduceIte,Qa,Qh,Qb,Qc,Qd,Qe,Qf,Qg,reduceCtorEq, *,-w1,-w2,-hb0]
 |with_reducible refine fun(bn:Bool) hbn=>?_))
 ·rw[hb0] at w1
  simp only[↓reduceIte]
  refine QD (T:=T) Tryz.call44 Tryz.func44 rfl Tryz.ntmps44 (congrArg Array.toList Tryz.results44) (by decide) fun ts hn h0=>?_
  (repeat' (first
 | (with_reducible first|refine callX.by (w1) ?_|assumption|(refine Qw hK _ ?_;clear hK K)|refine Qw ‹_› _ ?_|refine Qx ‹_› ?_|refine Qi fun K hK=>?_|refine Qj T fun K hK=>?_|refine Ql fun A B hA hB=>?_|refine Qn ?_|refine Qr ?_)
 | ((with_reducible first|apply Qy|apply Qz|apply QA)<;>intro hb<;>try simp only[nr] at hb)
 |simp only[go_sem,↓reduceIte,reduceIte,Qa,Qh,Qb,Qc,Qd,Qe,Qf,Qg,reduceCtorEq, *,-w1,-w2,-hb0]
 |with_reducible refine fun(bn:Bool) hbn=>?_))
theorem Jee(r_a_port:Int)(r_a_host:List UInt8)(r_a_path:List UInt8)(r_a_first:Int)(r_a_other:Int)(r_stage:Int)(r_id:Int)(r_route:List UInt8)(r_cluster:List UInt8)(r_out_what:Int)(r_out_cluster:List UInt8)(r_out_host:Int):CallR Tryz.prog 22 [.agg [.int .i64 r_a_port,.str r_a_host,.str r_a_path,.int .i64 r_a_first,.int .i64 r_a_other,.int .i64 r_stage,.int .i64 r_id,.str r_route,.str r_cluster,.int .i64 r_out_what,.str r_out_cluster,.int .i64 r_out_host]] (.val (.bool (!decide ((JF (⟨⟨r_a_port,r_a_host,r_a_path,r_a_first,r_a_other⟩,r_stage,r_id,r_route,r_cluster,⟨r_out_what,r_out_cluster,r_out_host⟩⟩:Req)).stage=5)))):=by
 have w1:=JiS r_a_port r_a_host r_a_path r_a_first r_a_other r_stage r_id r_route r_cluster r_out_what r_out_cluster r_out_host
 generalize JF (⟨⟨r_a_port,r_a_host,r_a_path,r_a_first,r_a_other⟩,r_stage,r_id,r_route,r_cluster,⟨r_out_what,r_out_cluster,r_out_host⟩⟩:Req)=q at *
 refine QD (T:=T) Tryz.call22 Tryz.func22 rfl Tryz.ntmps22 (congrArg Array.toList Tryz.results22) (by decide) fun ts hn h0=>?_
 (repeat' (first
 | (with_reducible first|refine callX.by (w1) ?_|assumption|(refine Qw hK _ ?_;clear hK K)|refine Qw ‹_› _ ?_|refine Qx ‹_› ?_|refine Qi fun K hK=>?_|refine Qj T fun K hK=>?_|refine Ql fun A B hA hB=>?_|refine Qn ?_|refine Qr ?_)
 | ((with_reducible first|apply Qy|apply Qz|apply QA)<;>intro hb<;>try simp only[nr] at hb)
 |simp only[go_sem,↓reduceIte,reduceIte,Qa,Qh,Qb,Qc,Qd,Qe,Qf,Qg,reduceCtorEq, *,-w1]
 |with_reducible refine fun(bn:Bool) hbn=>?_))
set_option maxHeartbeats 4000000 in
theorem JrL(s_epoch:Int)(s_turn:Int)(s_up:Bool)(s_in_last_a0:Int)(s_in_last_a1:Int)(s_in_last_a2:Int)(s_in_last_a3:Int)(s_in_max:Int)(s_errs_a0:Int)(s_errs_a1:Int)(s_errs_a2:Int)(s_errs_a3:Int)(s_w_c_cap:Int)(s_w_c_l:List Res)(s_w_ready:Bool)(s_w_shown:List Res)(s_p_next:Int)(s_p_snaps:List Snap)(h:SzS (⟨s_epoch,s_turn,s_up,⟨⟨s_in_last_a0,s_in_last_a1,s_in_last_a2,s_in_last_a3⟩,s_in_max⟩,⟨s_errs_a0,s_errs_a1,s_errs_a2,s_errs_a3⟩,⟨⟨s_w_c_cap,s_w_c_l⟩,s_w_ready,s_w_shown⟩,⟨s_p_next,s_p_snaps⟩⟩:Side)):CallR Tryz.prog 45 [.agg [.int .i64 s_epoch,.int .i64 s_turn,.bool s_up,.int .i64 s_in_last_a0,.int .i64 s_in_last_a1,.int .i64 s_in_last_a2,.int .i64 s_in_last_a3,.int .i64 s_in_max,.int .i64 s_errs_a0,.int .i64 s_errs_a1,.int .i64 s_errs_a2,.int .i64 s_errs_a3,.int .i64 s_w_c_cap,.slice false (Ja s_w_c_l),.bool s_w_ready,.slice false (Ja s_w_shown),.int .i64 s_p_next,.slice false (Ja s_p_snaps)]] (.val (.agg [.int .i64 (Jw (⟨s_epoch,s_turn,s_up,⟨⟨s_in_last_a0,s_in_last_a1,s_in_last_a2,s_in_last_a3⟩,s_in_max⟩,⟨s_errs_a0,s_errs_a1,s_errs_a2,s_errs_a3⟩,⟨⟨s_w_c_cap,s_w_c_l⟩,s_w_ready,s_w_shown⟩,⟨s_p_next,s_p_snaps⟩⟩:Side)).epoch,.int .i64 (Jw (⟨s_epoch,s_turn,s_up,⟨⟨s_in_last_a0,s_in_last_a1,s_in_last_a2,s_in_last_a3⟩,s_in_max⟩,⟨s_errs_a0,s_errs_a1,s_errs_a2,s_errs_a3⟩,⟨⟨s_w_c_cap,s_w_c_l⟩,s_w_ready,s_w_shown⟩,⟨s_p_next,s_p_snaps⟩⟩:Side)).turn,.bool (Jw (⟨s_epoch,s_turn,s_up,⟨⟨s_in_last_a0,s_in_last_a1,s_in_last_a2,s_in_last_a3⟩,s_in_max⟩,⟨s_errs_a0,s_errs_a1,s_errs_a2,s_errs_a3⟩,⟨⟨s_w_c_cap,s_w_c_l⟩,s_w_ready,s_w_shown⟩,⟨s_p_next,s_p_snaps⟩⟩:Side)).up,.int .i64 (Jw (⟨s_epoch,s_turn,s_up,⟨⟨s_in_last_a0,s_in_last_a1,s_in_last_a2,s_in_last_a3⟩,s_in_max⟩,⟨s_errs_a0,s_errs_a1,s_errs_a2,s_errs_a3⟩,⟨⟨s_w_c_cap,s_w_c_l⟩,s_w_ready,s_w_shown⟩,⟨s_p_next,s_p_snaps⟩⟩:Side)).in'.last.a0,.int .i64 (Jw (⟨s_epoch,s_turn,s_up,⟨⟨s_in_last_a0,s_in_last_a1,s_in_last_a2,s_in_last_a3⟩,s_in_max⟩,⟨s_errs_a0,s_errs_a1,s_errs_a2,s_errs_a3⟩,⟨⟨s_w_c_cap,s_w_c_l⟩,s_w_ready,s_w_shown⟩,⟨s_p_next,s_p_snaps⟩⟩:Side)).in'.last.a1,.int .i64 (Jw (⟨s_epoch,s_turn,s_up,⟨⟨s_in_last_a0,s_in_last_a1,s_in_last_a2,s_in_last_a3⟩,s_in_max⟩,⟨s_errs_a0,s_errs_a1,s_errs_a2,s_errs_a3⟩,⟨⟨s_w_c_cap,s_w_c_l⟩,s_w_ready,s_w_shown⟩,⟨s_p_next,s_p_snaps⟩⟩:Side)).in'.last.a2,.int .i64 (Jw (⟨s_epoch,s_turn,s_up,⟨⟨s_in_last_a0,s_in_last_a1,s_in_last_a2,s_in_last_a3⟩,s_in_max⟩,⟨s_errs_a0,s_errs_a1,s_errs_a2,s_errs_a3⟩,⟨⟨s_w_c_cap,s_w_c_l⟩,s_w_ready,s_w_shown⟩,⟨s_p_next,s_p_snaps⟩⟩:Side)).in'.last.a3,.int .i64 (Jw (⟨s_epoch,s_turn,s_up,⟨⟨s_in_last_a0,s_in_last_a1,s_in_last_a2,s_in_last_a3⟩,s_in_max⟩,⟨s_errs_a0,s_errs_a1,s_errs_a2,s_errs_a3⟩,⟨⟨s_w_c_cap,s_w_c_l⟩,s_w_ready,s_w_shown⟩,⟨s_p_next,s_p_snaps⟩⟩:Side)).in'.max,.int .i64 (Jw (⟨s_epoch,s_turn,s_up,⟨⟨s_in_last_a0,s_in_last_a1,s_in_last_a2,s_in_last_a3⟩,s_in_max⟩,⟨s_errs_a0,s_errs_a1,s_errs_a2,s_errs_a3⟩,⟨⟨s_w_c_cap,s_w_c_l⟩,s_w_ready,s_w_shown⟩,⟨s_p_next,s_p_snaps⟩⟩:Side)).errs.a0,.int .i64 (Jw (⟨s_epoch,s_turn,s_up,⟨⟨s_in_last_a0,s_in_last_a1,s_in_last_a2,s_in_last_a3⟩,s_in_max⟩,⟨s_errs_a0,s_errs_a1,s_errs_a2,s_errs_a3⟩,⟨⟨s_w_c_cap,s_w_c_l⟩,s_w_ready,s_w_shown⟩,⟨s_p_next,s_p_snaps⟩⟩:Side)).errs.a1,.int .i64 (Jw (⟨s_epoch,s_turn,s_up,⟨⟨s_in_last_a0,s_in_last_a1,s_in_last_a2,s_in_last_a3⟩,s_in_max⟩,⟨s_errs_a0,s_errs_a1,s_errs_a2,s_errs_a3⟩,⟨⟨s_w_c_cap,s_w_c_l⟩,s_w_ready,s_w_shown⟩,⟨s_p_next,s_p_snaps⟩⟩:Side)).errs.a2,.int .i64 (Jw (⟨s_epoch,s_turn,s_up,⟨⟨s_in_last_a0,s_in_last_a1,s_in_last_a2,s_in_last_a3⟩,s_in_max⟩,⟨s_errs_a0,s_errs_a1,s_errs_a2,s_errs_a3⟩,⟨⟨s_w_c_cap,s_w_c_l⟩,s_w_ready,s_w_shown⟩,⟨s_p_next,s_p_snaps⟩⟩:Side)).errs.a3,.int .i64 (Jw (⟨s_epoch,s_turn,s_up,⟨⟨s_in_last_a0,s_in_last_a1,s_in_last_a2,s_in_last_a3⟩,s_in_max⟩,⟨s_errs_a0,s_errs_a1,s_errs_a2,s_errs_a3⟩,⟨⟨s_w_c_cap,s_w_c_l⟩,s_w_ready,s_w_shown⟩,⟨s_p_next,s_p_snaps⟩⟩:Side)).w.c.cap,.slice false (Ja (Jw (⟨s_epoch,s_turn,s_up,⟨⟨s_in_last_a0,s_in_last_a1,s_in_last_a2,s_in_last_a3⟩,s_in_max⟩,⟨s_errs_a0,s_errs_a1,s_errs_a2,s_errs_a3⟩,⟨⟨s_w_c_cap,s_w_c_l⟩,s_w_ready,s_w_shown⟩,⟨s_p_next,s_p_snaps⟩⟩:Side)).w.c.l),.bool (Jw (⟨s_epoch,s_turn,s_up,⟨⟨s_in_last_a0,s_in_last_a1,s_in_last_a2,s_in_last_a3⟩,s_in_max⟩,⟨s_errs_a0,s_errs_a1,s_errs_a2,s_errs_a3⟩,⟨⟨s_w_c_cap,s_w_c_l⟩,s_w_ready,s_w_shown⟩,⟨s_p_next,s_p_snaps⟩⟩:Side)).w.ready,.slice false (Ja (Jw (⟨s_epoch,s_turn,s_up,⟨⟨s_in_last_a0,s_in_last_a1,s_in_last_a2,s_in_last_a3⟩,s_in_max⟩,⟨s_errs_a0,s_errs_a1,s_errs_a2,s_errs_a3⟩,⟨⟨s_w_c_cap,s_w_c_l⟩,s_w_ready,s_w_shown⟩,⟨s_p_next,s_p_snaps⟩⟩:Side)).w.shown),.int .i64 (Jw (⟨s_epoch,s_turn,s_up,⟨⟨s_in_last_a0,s_in_last_a1,s_in_last_a2,s_in_last_a3⟩,s_in_max⟩,⟨s_errs_a0,s_errs_a1,s_errs_a2,s_errs_a3⟩,⟨⟨s_w_c_cap,s_w_c_l⟩,s_w_ready,s_w_shown⟩,⟨s_p_next,s_p_snaps⟩⟩:Side)).p.next',.slice false (Ja (Jw (⟨s_epoch,s_turn,s_up,⟨⟨s_in_last_a0,s_in_last_a1,s_in_last_a2,s_in_last_a3⟩,s_in_max⟩,⟨s_errs_a0,s_errs_a1,s_errs_a2,s_errs_a3⟩,⟨⟨s_w_c_cap,s_w_c_l⟩,s_w_ready,s_w_shown⟩,⟨s_p_next,s_p_snaps⟩⟩:Side)).p.snaps)])):=by
 have w1:=Jej s_epoch s_turn s_up s_in_last_a0 s_in_last_a1 s_in_last_a2 s_in_last_a3 s_in_max s_errs_a0 s_errs_a1 s_errs_a2 s_errs_a3 s_w_c_cap s_w_c_l s_w_ready s_w_shown s_p_next s_p_snaps h
 have w2:=Jfl s_w_c_cap s_in_max
 unfold Jw
 cases hb0:VD (⟨s_epoch,s_turn,s_up,⟨⟨s_in_last_a0,s_in_last_a1,s_in_last_a2,s_in_last_a3⟩,s_in_max⟩,⟨s_errs_a0,s_errs_a1,s_errs_a2,s_errs_a3⟩,⟨⟨s_w_c_cap,s_w_c_l⟩,s_w_ready,s_w_shown⟩,⟨s_p_next,s_p_snaps⟩⟩:Side)
 ·rw[hb0] at w1
  simp only[Bool.false_eq_true,↓reduceIte]
  clear h
  refine QD (T:=T) Tryz.call45 Tryz.func45 rfl Tryz.ntmps45 (congrArg Array.toList Tryz.results45) (by decide) fun ts hn h0=>?_
  (repeat' (first
 | (with_reducible first|refine callX.by (w1) ?_|refine callX.by (w2) ?_|assumption|(refine Qw hK _ ?_;clear hK K)|refine Qw ‹_› _ ?_|refine Qx ‹_› ?_|refine Qi fun K hK=>?_|refine Qj T fun K hK=>?_|refine Ql fun A B hA hB=>?_|refine Qn ?_|refine Qr ?_)
 | ((with_reducible first|apply Qy|apply Qz|apply QA)<;>intro hb<;>try simp only[nr] at hb)
 |simp only[go_sem,↓reduceIte,reduceIte,Qa,Qh,Qb,Qc,Qd,Qe,Qf,Qg,reduceCtorEq, *,-w1,-w2,-hb0]
 |with_reducible refine fun(bn:Bool) hbn=>?_))
 ·rw[hb0] at w1
  simp only[↓reduceIte]
  clear h
  refine QD (T:=T) Tryz.call45 Tryz.func45 rfl Tryz.ntmps45 (congrArg Array.toList Tryz.results45) (by decide) fun ts hn h0=>?_
  (repeat' (first
 | (with_reducible first|refine callX.by (w1) ?_|assumption|(refine Qw hK _ ?_;clear hK K)|refine Qw ‹_› _ ?_|refine Qx ‹_› ?_|refine Qi fun K hK=>?_|refine Qj T fun K hK=>?_|refine Ql fun A B hA hB=>?_|refine Qn ?_|refine Qr ?_)
 | ((with_reducible first|apply Qy|apply Qz|apply QA)<;>intro hb<;>try simp only[nr] at hb)
 |simp only[go_sem,↓reduceIte,reduceIte,Qa,Qh,Qb,Qc,Qd,Qe,Qf,Qg,reduceCtorEq, *,-w1,-w2,-hb0]
 |with_reducible refine fun(bn:Bool) hbn=>?_))
set_option maxHeartbeats 32000000 in
theorem Jf6(r_a_port:Int)(r_a_host:List UInt8)(r_a_path:List UInt8)(r_a_first:Int)(r_a_other:Int)(r_stage:Int)(r_id:Int)(r_route:List UInt8)(r_cluster:List UInt8)(r_out_what:Int)(r_out_cluster:List UInt8)(r_out_host:Int)(s_epoch:Int)(s_turn:Int)(s_up:Bool)(s_in_last_a0:Int)(s_in_last_a1:Int)(s_in_last_a2:Int)(s_in_last_a3:Int)(s_in_max:Int)(s_errs_a0:Int)(s_errs_a1:Int)(s_errs_a2:Int)(s_errs_a3:Int)(s_w_c_cap:Int)(s_w_c_l:List Res)(s_w_ready:Bool)(s_w_shown:List Res)(s_p_next:Int)(s_p_snaps:List Snap)(h:SzS (⟨s_epoch,s_turn,s_up,⟨⟨s_in_last_a0,s_in_last_a1,s_in_last_a2,s_in_last_a3⟩,s_in_max⟩,⟨s_errs_a0,s_errs_a1,s_errs_a2,s_errs_a3⟩,⟨⟨s_w_c_cap,s_w_c_l⟩,s_w_ready,s_w_shown⟩,⟨s_p_next,s_p_snaps⟩⟩:Side))(hk:SzK ⟨JF (⟨⟨r_a_port,r_a_host,r_a_path,r_a_first,r_a_other⟩,r_stage,r_id,r_route,r_cluster,⟨r_out_what,r_out_cluster,r_out_host⟩⟩:Req),Jw (⟨s_epoch,s_turn,s_up,⟨⟨s_in_last_a0,s_in_last_a1,s_in_last_a2,s_in_last_a3⟩,s_in_max⟩,⟨s_errs_a0,s_errs_a1,s_errs_a2,s_errs_a3⟩,⟨⟨s_w_c_cap,s_w_c_l⟩,s_w_ready,s_w_shown⟩,⟨s_p_next,s_p_snaps⟩⟩:Side),[]⟩):CallR Tryz.prog 15 [.agg [.int .i64 r_a_port,.str r_a_host,.str r_a_path,.int .i64 r_a_first,.int .i64 r_a_other,.int .i64 r_stage,.int .i64 r_id,.str r_route,.str r_cluster,.int .i64 r_out_what,.str r_out_cluster,.int .i64 r_out_host],.agg [.int .i64 s_epoch,.int .i64 s_turn,.bool s_up,.int .i64 s_in_last_a0,.int .i64 s_in_last_a1,.int .i64 s_in_last_a2,.int .i64 s_in_last_a3,.int .i64 s_in_max,.int .i64 s_errs_a0,.int .i64 s_errs_a1,.int .i64 s_errs_a2,.int .i64 s_errs_a3,.int .i64 s_w_c_cap,.slice false (Ja s_w_c_l),.bool s_w_ready,.slice false (Ja s_w_shown),.int .i64 s_p_next,.slice false (Ja s_p_snaps)]]
  (.val (.tup [.agg [.int .i64 (Jk (⟨⟨r_a_port,r_a_host,r_a_path,r_a_first,r_a_other⟩,r_stage,r_id,r_route,r_cluster,⟨r_out_what,r_out_cluster,r_out_host⟩⟩:Req) (⟨s_epoch,s_turn,s_up,⟨⟨s_in_last_a0,s_in_last_a1,s_in_last_a2,s_in_last_a3⟩,s_in_max⟩,⟨s_errs_a0,s_errs_a1,s_errs_a2,s_errs_a3⟩,⟨⟨s_w_c_cap,s_w_c_l⟩,s_w_ready,s_w_shown⟩,⟨s_p_next,s_p_snaps⟩⟩:Side)).req.a.port,.str (Jk (⟨⟨r_a_port,r_a_host,r_a_path,r_a_first,r_a_other⟩,r_stage,r_id,r_route,r_cluster,⟨r_out_what,r_out_cluster,r_out_host⟩⟩:Req) (⟨s_epoch,s_turn,s_up,⟨⟨s_in_last_a0,s_in_last_a1,s_in_last_a2,s_in_last_a3⟩,s_in_max⟩,⟨s_errs_a0,s_errs_a1,s_errs_a2,s_errs_a3⟩,⟨⟨s_w_c_cap,s_w_c_l⟩,s_w_ready,s_w_shown⟩,⟨s_p_next,s_p_snaps⟩⟩:Side)).req.a.host,.str (Jk (⟨⟨r_a_port,r_a_host,r_a_path,r_a_first,r_a_other⟩,r_stage,r_id,r_route,r_cluster,⟨r_out_what,r_out_cluster,r_out_host⟩⟩:Req) (⟨s_epoch,s_turn,s_up,⟨⟨s_in_last_a0,s_in_last_a1,s_in_last_a2,s_in_last_a3⟩,s_in_max⟩,⟨s_errs_a0,s_errs_a1,s_errs_a2,s_errs_a3⟩,⟨⟨s_w_c_cap,s_w_c_l⟩,s_w_ready,s_w_shown⟩,⟨s_p_next,s_p_snaps⟩⟩:Side)).req.a.path,.int .i64 (Jk (⟨⟨r_a_port,r_a_host,r_a_path,r_a_first,r_a_other⟩,r_stage,r_id,r_route,r_cluster,⟨r_out_what,r_out_cluster,r_out_host⟩⟩:Req) (⟨s_epoch,s_turn,s_up,⟨⟨s_in_last_a0,s_in_last_a1,s_in_last_a2,s_in_last_a3⟩,s_in_max⟩,⟨s_errs_a0,s_errs_a1,s_errs_a2,s_errs_a3⟩,⟨⟨s_w_c_cap,s_w_c_l⟩,s_w_ready,s_w_shown⟩,⟨s_p_next,s_p_snaps⟩⟩:Side)).req.a.first,.int .i64 (Jk (⟨⟨r_a_port,r_a_host,r_a_path,r_a_first,r_a_other⟩,r_stage,r_id,r_route,r_cluster,⟨r_out_what,r_out_cluster,r_out_host⟩⟩:Req) (⟨s_epoch,s_turn,s_up,⟨⟨s_in_last_a0,s_in_last_a1,s_in_last_a2,s_in_last_a3⟩,s_in_max⟩,⟨s_errs_a0,s_errs_a1,s_errs_a2,s_errs_a3⟩,⟨⟨s_w_c_cap,s_w_c_l⟩,s_w_ready,s_w_shown⟩,⟨s_p_next,s_p_snaps⟩⟩:Side)).req.a.other,.int .i64 (Jk (⟨⟨r_a_port,r_a_host,r_a_path,r_a_first,r_a_other⟩,r_stage,r_id,r_route,r_cluster,⟨r_out_what,r_out_cluster,r_out_host⟩⟩:Req) (⟨s_epoch,s_turn,s_up,⟨⟨s_in_last_a0,s_in_last_a1,s_in_last_a2,s_in_last_a3⟩,s_in_max⟩,⟨s_errs_a0,s_errs_a1,s_errs_a2,s_errs_a3⟩,⟨⟨s_w_c_cap,s_w_c_l⟩,s_w_ready,s_w_shown⟩,⟨s_p_next,s_p_snaps⟩⟩:Side)).req.stage,.int .i64 (Jk (⟨⟨r_a_port,r_a_host,r_a_path,r_a_first,r_a_other⟩,r_stage,r_id,r_route,r_cluster,⟨r_out_what,r_out_cluster,r_out_host⟩⟩:Req) (⟨s_epoch,s_turn,s_up,⟨⟨s_in_last_a0,s_in_last_a1,s_in_last_a2,s_in_last_a3⟩,s_in_max⟩,⟨s_errs_a0,s_errs_a1,s_errs_a2,s_errs_a3⟩,⟨⟨s_w_c_cap,s_w_c_l⟩,s_w_ready,s_w_shown⟩,⟨s_p_next,s_p_snaps⟩⟩:Side)).req.id,.str (Jk (⟨⟨r_a_port,r_a_host,r_a_path,r_a_first,r_a_other⟩,r_stage,r_id,r_route,r_cluster,⟨r_out_what,r_out_cluster,r_out_host⟩⟩:Req) (⟨s_epoch,s_turn,s_up,⟨⟨s_in_last_a0,s_in_last_a1,s_in_last_a2,s_in_last_a3⟩,s_in_max⟩,⟨s_errs_a0,s_errs_a1,s_errs_a2,s_errs_a3⟩,⟨⟨s_w_c_cap,s_w_c_l⟩,s_w_ready,s_w_shown⟩,⟨s_p_next,s_p_snaps⟩⟩:Side)).req.route,.str (Jk (⟨⟨r_a_port,r_a_host,r_a_path,r_a_first,r_a_other⟩,r_stage,r_id,r_route,r_cluster,⟨r_out_what,r_out_cluster,r_out_host⟩⟩:Req) (⟨s_epoch,s_turn,s_up,⟨⟨s_in_last_a0,s_in_last_a1,s_in_last_a2,s_in_last_a3⟩,s_in_max⟩,⟨s_errs_a0,s_errs_a1,s_errs_a2,s_errs_a3⟩,⟨⟨s_w_c_cap,s_w_c_l⟩,s_w_ready,s_w_shown⟩,⟨s_p_next,s_p_snaps⟩⟩:Side)).req.cluster,.int .i64 (Jk (⟨⟨r_a_port,r_a_host,r_a_path,r_a_first,r_a_other⟩,r_stage,r_id,r_route,r_cluster,⟨r_out_what,r_out_cluster,r_out_host⟩⟩:Req) (⟨s_epoch,s_turn,s_up,⟨⟨s_in_last_a0,s_in_last_a1,s_in_last_a2,s_in_last_a3⟩,s_in_max⟩,⟨s_errs_a0,s_errs_a1,s_errs_a2,s_errs_a3⟩,⟨⟨s_w_c_cap,s_w_c_l⟩,s_w_ready,s_w_shown⟩,⟨s_p_next,s_p_snaps⟩⟩:Side)).req.out.what,.str (Jk (⟨⟨r_a_port,r_a_host,r_a_path,r_a_first,r_a_other⟩,r_stage,r_id,r_route,r_cluster,⟨r_out_what,r_out_cluster,r_out_host⟩⟩:Req) (⟨s_epoch,s_turn,s_up,⟨⟨s_in_last_a0,s_in_last_a1,s_in_last_a2,s_in_last_a3⟩,s_in_max⟩,⟨s_errs_a0,s_errs_a1,s_errs_a2,s_errs_a3⟩,⟨⟨s_w_c_cap,s_w_c_l⟩,s_w_ready,s_w_shown⟩,⟨s_p_next,s_p_snaps⟩⟩:Side)).req.out.cluster,.int .i64 (Jk (⟨⟨r_a_port,r_a_host,r_a_path,r_a_first,r_a_other⟩,r_stage,r_id,r_route,r_cluster,⟨r_out_what,r_out_cluster,r_out_host⟩⟩:Req) (⟨s_epoch,s_turn,s_up,⟨⟨s_in_last_a0,s_in_last_a1,s_in_last_a2,s_in_last_a3⟩,s_in_max⟩,⟨s_errs_a0,s_errs_a1,s_errs_a2,s_errs_a3⟩,⟨⟨s_w_c_cap,s_w_c_l⟩,s_w_ready,s_w_shown⟩,⟨s_p_next,s_p_snaps⟩⟩:Side)).req.out.host],.agg [.int .i64 (Jk (⟨⟨r_a_port,r_a_host,r_a_path,r_a_first,r_a_other⟩,r_stage,r_id,r_route,r_cluster,⟨r_out_what,r_out_cluster,r_out_host⟩⟩:Req) (⟨s_epoch,s_turn,s_up,⟨⟨s_in_last_a0,s_in_last_a1,s_in_last_a2,s_in_last_a3⟩,s_in_max⟩,⟨s_errs_a0,s_errs_a1,s_errs_a2,s_errs_a3⟩,⟨⟨s_w_c_cap,s_w_c_l⟩,s_w_ready,s_w_shown⟩,⟨s_p_next,s_p_snaps⟩⟩:Side)).side.epoch,.int .i64 (Jk (⟨⟨r_a_port,r_a_host,r_a_path,r_a_first,r_a_other⟩,r_stage,r_id,r_route,r_cluster,⟨r_out_what,r_out_cluster,r_out_host⟩⟩:Req) (⟨s_epoch,s_turn,s_up,⟨⟨s_in_last_a0,s_in_last_a1,s_in_last_a2,s_in_last_a3⟩,s_in_max⟩,⟨s_errs_a0,s_errs_a1,s_errs_a2,s_errs_a3⟩,⟨⟨s_w_c_cap,s_w_c_l⟩,s_w_ready,s_w_shown⟩,⟨s_p_next,s_p_snaps⟩⟩:Side)).side.turn,.bool (Jk (⟨⟨r_a_port,r_a_host,r_a_path,r_a_first,r_a_other⟩,r_stage,r_id,r_route,r_cluster,⟨r_out_what,r_out_cluster,r_out_host⟩⟩:Req) (⟨s_epoch,s_turn,s_up,⟨⟨s_in_last_a0,s_in_last_a1,s_in_last_a2,s_in_last_a3⟩,s_in_max⟩,⟨s_errs_a0,s_errs_a1,s_errs_a2,s_errs_a3⟩,⟨⟨s_w_c_cap,s_w_c_l⟩,s_w_ready,s_w_shown⟩,⟨s_p_next,s_p_snaps⟩⟩:Side)).side.up,.int .i64 (Jk (⟨⟨r_a_port,r_a_host,r_a_path,r_a_first,r_a_other⟩,r_stage,r_id,r_route,r_cluster,⟨r_out_what,r_out_cluster,r_out_host⟩⟩:Req) (⟨s_epoch,s_turn,s_up,⟨⟨s_in_last_a0,s_in_last_a1,s_in_last_a2,s_in_last_a3⟩,s_in_max⟩,⟨s_errs_a0,s_errs_a1,s_errs_a2,s_errs_a3⟩,⟨⟨s_w_c_cap,s_w_c_l⟩,s_w_ready,s_w_shown⟩,⟨s_p_next,s_p_snaps⟩⟩:Side)).side.in'.last.a0,.int .i64 (Jk (⟨⟨r_a_port,r_a_host,r_a_path,r_a_first,r_a_other⟩,r_stage,r_id,r_route,r_cluster,⟨r_out_what,r_out_cluster,r_out_host⟩⟩:Req) (⟨s_epoch,s_turn,s_up,⟨⟨s_in_last_a0,s_in_last_a1,s_in_last_a2,s_in_last_a3⟩,s_in_max⟩,⟨s_errs_a0,s_errs_a1,s_errs_a2,s_errs_a3⟩,⟨⟨s_w_c_cap,s_w_c_l⟩,s_w_ready,s_w_shown⟩,⟨s_p_next,s_p_snaps⟩⟩:Side)).side.in'.last.a1,.int .i64 (Jk (⟨⟨r_a_port,r_a_host,r_a_path,r_a_first,r_a_other⟩,r_stage,r_id,r_route,r_cluster,⟨r_out_what,r_out_cluster,r_out_host⟩⟩:Req) (⟨s_epoch,s_turn,s_up,⟨⟨s_in_last_a0,s_in_last_a1,s_in_last_a2,s_in_last_a3⟩,s_in_max⟩,⟨s_errs_a0,s_errs_a1,s_errs_a2,s_errs_a3⟩,⟨⟨s_w_c_cap,s_w_c_l⟩,s_w_ready,s_w_shown⟩,⟨s_p_next,s_p_snaps⟩⟩:Side)).side.in'.last.a2,.int .i64 (Jk (⟨⟨r_a_port,r_a_host,r_a_path,r_a_first,r_a_other⟩,r_stage,r_id,r_route,r_cluster,⟨r_out_what,r_out_cluster,r_out_host⟩⟩:Req) (⟨s_epoch,s_turn,s_up,⟨⟨s_in_last_a0,s_in_last_a1,s_in_last_a2,s_in_last_a3⟩,s_in_max⟩,⟨s_errs_a0,s_errs_a1,s_errs_a2,s_errs_a3⟩,⟨⟨s_w_c_cap,s_w_c_l⟩,s_w_ready,s_w_shown⟩,⟨s_p_next,s_p_snaps⟩⟩:Side)).side.in'.last.a3,.int .i64 (Jk (⟨⟨r_a_port,r_a_host,r_a_path,r_a_first,r_a_other⟩,r_stage,r_id,r_route,r_cluster,⟨r_out_what,r_out_cluster,r_out_host⟩⟩:Req) (⟨s_epoch,s_turn,s_up,⟨⟨s_in_last_a0,s_in_last_a1,s_in_last_a2,s_in_last_a3⟩,s_in_max⟩,⟨s_errs_a0,s_errs_a1,s_errs_a2,s_errs_a3⟩,⟨⟨s_w_c_cap,s_w_c_l⟩,s_w_ready,s_w_shown⟩,⟨s_p_next,s_p_snaps⟩⟩:Side)).side.in'.max,.int .i64 (Jk (⟨⟨r_a_port,r_a_host,r_a_path,r_a_first,r_a_other⟩,r_stage,r_id,r_route,r_cluster,⟨r_out_what,r_out_cluster,r_out_host⟩⟩:Req) (⟨s_epoch,s_turn,s_up,⟨⟨s_in_last_a0,s_in_last_a1,s_in_last_a2,s_in_last_a3⟩,s_in_max⟩,⟨s_errs_a0,s_errs_a1,s_errs_a2,s_errs_a3⟩,⟨⟨s_w_c_cap,s_w_c_l⟩,s_w_ready,s_w_shown⟩,⟨s_p_next,s_p_snaps⟩⟩:Side)).side.errs.a0,.int .i64 (Jk (⟨⟨r_a_port,r_a_host,r_a_path,r_a_first,r_a_other⟩,r_stage,r_id,r_route,r_cluster,⟨r_out_what,r_out_cluster,r_out_host⟩⟩:Req) (⟨s_epoch,s_turn,s_up,⟨⟨s_in_last_a0,s_in_last_a1,s_in_last_a2,s_in_last_a3⟩,s_in_max⟩,⟨s_errs_a0,s_errs_a1,s_errs_a2,s_errs_a3⟩,⟨⟨s_w_c_cap,s_w_c_l⟩,s_w_ready,s_w_shown⟩,⟨s_p_next,s_p_snaps⟩⟩:Side)).side.errs.a1,.int .i64 (Jk (⟨⟨r_a_port,r_a_host,r_a_path,r_a_first,r_a_other⟩,r_stage,r_id,r_route,r_cluster,⟨r_out_what,r_out_cluster,r_out_host⟩⟩:Req) (⟨s_epoch,s_turn,s_up,⟨⟨s_in_last_a0,s_in_last_a1,s_in_last_a2,s_in_last_a3⟩,s_in_max⟩,⟨s_errs_a0,s_errs_a1,s_errs_a2,s_errs_a3⟩,⟨⟨s_w_c_cap,s_w_c_l⟩,s_w_ready,s_w_shown⟩,⟨s_p_next,s_p_snaps⟩⟩:Side)).side.errs.a2,.int .i64 (Jk (⟨⟨r_a_port,r_a_host,r_a_path,r_a_first,r_a_other⟩,r_stage,r_id,r_route,r_cluster,⟨r_out_what,r_out_cluster,r_out_host⟩⟩:Req) (⟨s_epoch,s_turn,s_up,⟨⟨s_in_last_a0,s_in_last_a1,s_in_last_a2,s_in_last_a3⟩,s_in_max⟩,⟨s_errs_a0,s_errs_a1,s_errs_a2,s_errs_a3⟩,⟨⟨s_w_c_cap,s_w_c_l⟩,s_w_ready,s_w_shown⟩,⟨s_p_next,s_p_snaps⟩⟩:Side)).side.errs.a3,.int .i64 (Jk (⟨⟨r_a_port,r_a_host,r_a_path,r_a_first,r_a_other⟩,r_stage,r_id,r_route,r_cluster,⟨r_out_what,r_out_cluster,r_out_host⟩⟩:Req) (⟨s_epoch,s_turn,s_up,⟨⟨s_in_last_a0,s_in_last_a1,s_in_last_a2,s_in_last_a3⟩,s_in_max⟩,⟨s_errs_a0,s_errs_a1,s_errs_a2,s_errs_a3⟩,⟨⟨s_w_c_cap,s_w_c_l⟩,s_w_ready,s_w_shown⟩,⟨s_p_next,s_p_snaps⟩⟩:Side)).side.w.c.cap,.slice false (Ja (Jk (⟨⟨r_a_port,r_a_host,r_a_path,r_a_first,r_a_other⟩,r_stage,r_id,r_route,r_cluster,⟨r_out_what,r_out_cluster,r_out_host⟩⟩:Req) (⟨s_epoch,s_turn,s_up,⟨⟨s_in_last_a0,s_in_last_a1,s_in_last_a2,s_in_last_a3⟩,s_in_max⟩,⟨s_errs_a0,s_errs_a1,s_errs_a2,s_errs_a3⟩,⟨⟨s_w_c_cap,s_w_c_l⟩,s_w_ready,s_w_shown⟩,⟨s_p_next,s_p_snaps⟩⟩:Side)).side.w.c.l),.bool (Jk (⟨⟨r_a_port,r_a_host,r_a_path,r_a_first,r_a_other⟩,r_stage,r_id,r_route,r_cluster,⟨r_out_what,r_out_cluster,r_out_host⟩⟩:Req) (⟨s_epoch,s_turn,s_up,⟨⟨s_in_last_a0,s_in_last_a1,s_in_last_a2,s_in_last_a3⟩,s_in_max⟩,⟨s_errs_a0,s_errs_a1,s_errs_a2,s_errs_a3⟩,⟨⟨s_w_c_cap,s_w_c_l⟩,s_w_ready,s_w_shown⟩,⟨s_p_next,s_p_snaps⟩⟩:Side)).side.w.ready,.slice false (Ja (Jk (⟨⟨r_a_port,r_a_host,r_a_path,r_a_first,r_a_other⟩,r_stage,r_id,r_route,r_cluster,⟨r_out_what,r_out_cluster,r_out_host⟩⟩:Req) (⟨s_epoch,s_turn,s_up,⟨⟨s_in_last_a0,s_in_last_a1,s_in_last_a2,s_in_last_a3⟩,s_in_max⟩,⟨s_errs_a0,s_errs_a1,s_errs_a2,s_errs_a3⟩,⟨⟨s_w_c_cap,s_w_c_l⟩,s_w_ready,s_w_shown⟩,⟨s_p_next,s_p_snaps⟩⟩:Side)).side.w.shown),.int .i64 (Jk (⟨⟨r_a_port,r_a_host,r_a_path,r_a_first,r_a_other⟩,r_stage,r_id,r_route,r_cluster,⟨r_out_what,r_out_cluster,r_out_host⟩⟩:Req) (⟨s_epoch,s_turn,s_up,⟨⟨s_in_last_a0,s_in_last_a1,s_in_last_a2,s_in_last_a3⟩,s_in_max⟩,⟨s_errs_a0,s_errs_a1,s_errs_a2,s_errs_a3⟩,⟨⟨s_w_c_cap,s_w_c_l⟩,s_w_ready,s_w_shown⟩,⟨s_p_next,s_p_snaps⟩⟩:Side)).side.p.next',.slice false (Ja (Jk (⟨⟨r_a_port,r_a_host,r_a_path,r_a_first,r_a_other⟩,r_stage,r_id,r_route,r_cluster,⟨r_out_what,r_out_cluster,r_out_host⟩⟩:Req) (⟨s_epoch,s_turn,s_up,⟨⟨s_in_last_a0,s_in_last_a1,s_in_last_a2,s_in_last_a3⟩,s_in_max⟩,⟨s_errs_a0,s_errs_a1,s_errs_a2,s_errs_a3⟩,⟨⟨s_w_c_cap,s_w_c_l⟩,s_w_ready,s_w_shown⟩,⟨s_p_next,s_p_snaps⟩⟩:Side)).side.p.snaps)],.slice false (Ja (Jk (⟨⟨r_a_port,r_a_host,r_a_path,r_a_first,r_a_other⟩,r_stage,r_id,r_route,r_cluster,⟨r_out_what,r_out_cluster,r_out_host⟩⟩:Req) (⟨s_epoch,s_turn,s_up,⟨⟨s_in_last_a0,s_in_last_a1,s_in_last_a2,s_in_last_a3⟩,s_in_max⟩,⟨s_errs_a0,s_errs_a1,s_errs_a2,s_errs_a3⟩,⟨⟨s_w_c_cap,s_w_c_l⟩,s_w_ready,s_w_shown⟩,⟨s_p_next,s_p_snaps⟩⟩:Side)).told)])):=by
 have w1:=JiS r_a_port r_a_host r_a_path r_a_first r_a_other r_stage r_id r_route r_cluster r_out_what r_out_cluster r_out_host
 have w2:=JrL s_epoch s_turn s_up s_in_last_a0 s_in_last_a1 s_in_last_a2 s_in_last_a3 s_in_max s_errs_a0 s_errs_a1 s_errs_a2 s_errs_a3 s_w_c_cap s_w_c_l s_w_ready s_w_shown s_p_next s_p_snaps h
 unfold Jk
 clear h
 generalize JF (⟨⟨r_a_port,r_a_host,r_a_path,r_a_first,r_a_other⟩,r_stage,r_id,r_route,r_cluster,⟨r_out_what,r_out_cluster,r_out_host⟩⟩:Req)=q at *
 generalize Jw (⟨s_epoch,s_turn,s_up,⟨⟨s_in_last_a0,s_in_last_a1,s_in_last_a2,s_in_last_a3⟩,s_in_max⟩,⟨s_errs_a0,s_errs_a1,s_errs_a2,s_errs_a3⟩,⟨⟨s_w_c_cap,s_w_c_l⟩,s_w_ready,s_w_shown⟩,⟨s_p_next,s_p_snaps⟩⟩:Side)=b at *
 unfold ZO
 simp only
 rcases(show q.stage=0∨q.stage=1∨q.stage=2∨q.stage=3∨q.stage=4∨(¬q.stage=0∧¬q.stage=1∧¬q.stage=2∧¬q.stage=3∧¬q.stage=4) by omega) with hs|hs|hs|hs|hs|⟨hs,hs1,hs2,hs3,hs4⟩
 rw[if_pos hs]
 have w3:=Jkk q.a.port q.a.host q.a.path q.a.first q.a.other q.stage q.id q.route q.cluster q.out.what q.out.cluster q.out.host b.epoch b.turn b.up b.in'.last.a0 b.in'.last.a1 b.in'.last.a2 b.in'.last.a3 b.in'.max b.errs.a0 b.errs.a1 b.errs.a2 b.errs.a3 b.w.c.cap b.w.c.l b.w.ready b.w.shown b.p.next' b.p.snaps [] hk
 have w3:CallI Tryz.prog 46 [.int .i64 q.a.port,.str q.a.host,.str q.a.path,.int .i64 q.a.first,.int .i64 q.a.other,.int .i64 q.stage,.int .i64 q.id,.str q.route,.str q.cluster,.int .i64 q.out.what,.str q.out.cluster,.int .i64 q.out.host,.int .i64 b.epoch,.int .i64 b.turn,.bool b.up,.int .i64 b.in'.last.a0,.int .i64 b.in'.last.a1,.int .i64 b.in'.last.a2,.int .i64 b.in'.last.a3,.int .i64 b.in'.max,.int .i64 b.errs.a0,.int .i64 b.errs.a1,.int .i64 b.errs.a2,.int .i64 b.errs.a3,.int .i64 b.w.c.cap,.slice false (Ja b.w.c.l),.bool b.w.ready,.slice false (Ja b.w.shown),.int .i64 b.p.next',.slice false (Ja b.p.snaps),.slice false []] [] (.tup []) (wc (ZX ⟨q,b,[]⟩)):=w3
 generalize ZX ⟨q,b,[]⟩=X at *
 rotate_left
 rw[if_neg (by omega),if_pos hs]
 have w3:=Jl4 q.a.port q.a.host q.a.path q.a.first q.a.other q.stage q.id q.route q.cluster q.out.what q.out.cluster q.out.host b.epoch b.turn b.up b.in'.last.a0 b.in'.last.a1 b.in'.last.a2 b.in'.last.a3 b.in'.max b.errs.a0 b.errs.a1 b.errs.a2 b.errs.a3 b.w.c.cap b.w.c.l b.w.ready b.w.shown b.p.next' b.p.snaps [] hk
 have w3:CallI Tryz.prog 47 [.int .i64 q.a.port,.str q.a.host,.str q.a.path,.int .i64 q.a.first,.int .i64 q.a.other,.int .i64 q.stage,.int .i64 q.id,.str q.route,.str q.cluster,.int .i64 q.out.what,.str q.out.cluster,.int .i64 q.out.host,.int .i64 b.epoch,.int .i64 b.turn,.bool b.up,.int .i64 b.in'.last.a0,.int .i64 b.in'.last.a1,.int .i64 b.in'.last.a2,.int .i64 b.in'.last.a3,.int .i64 b.in'.max,.int .i64 b.errs.a0,.int .i64 b.errs.a1,.int .i64 b.errs.a2,.int .i64 b.errs.a3,.int .i64 b.w.c.cap,.slice false (Ja b.w.c.l),.bool b.w.ready,.slice false (Ja b.w.shown),.int .i64 b.p.next',.slice false (Ja b.p.snaps),.slice false []] [] (.tup []) (wc (JaL ⟨q,b,[]⟩)):=w3
 generalize JaL ⟨q,b,[]⟩=X at *
 rotate_left
 rw[if_neg (by omega),if_neg (by omega),if_pos hs]
 have w3:=Jny q.a.port q.a.host q.a.path q.a.first q.a.other q.stage q.id q.route q.cluster q.out.what q.out.cluster q.out.host b.epoch b.turn b.up b.in'.last.a0 b.in'.last.a1 b.in'.last.a2 b.in'.last.a3 b.in'.max b.errs.a0 b.errs.a1 b.errs.a2 b.errs.a3 b.w.c.cap b.w.c.l b.w.ready b.w.shown b.p.next' b.p.snaps [] hk
 have w3:CallI Tryz.prog 48 [.int .i64 q.a.port,.str q.a.host,.str q.a.path,.int .i64 q.a.first,.int .i64 q.a.other,.int .i64 q.stage,.int .i64 q.id,.str q.route,.str q.cluster,.int .i64 q.out.what,.str q.out.cluster,.int .i64 q.out.host,.int .i64 b.epoch,.int .i64 b.turn,.bool b.up,.int .i64 b.in'.last.a0,.int .i64 b.in'.last.a1,.int .i64 b.in'.last.a2,.int .i64 b.in'.last.a3,.int .i64 b.in'.max,.int .i64 b.errs.a0,.int .i64 b.errs.a1,.int .i64 b.errs.a2,.int .i64 b.errs.a3,.int .i64 b.w.c.cap,.slice false (Ja b.w.c.l),.bool b.w.ready,.slice false (Ja b.w.shown),.int .i64 b.p.next',.slice false (Ja b.p.snaps),.slice false []] [] (.tup []) (wc (JaY ⟨q,b,[]⟩)):=w3
 generalize JaY ⟨q,b,[]⟩=X at *
 rotate_left
 rw[if_neg (by omega),if_neg (by omega),if_neg (by omega),if_pos hs]
 have w3:=JkG q.a.port q.a.host q.a.path q.a.first q.a.other q.stage q.id q.route q.cluster q.out.what q.out.cluster q.out.host b.epoch b.turn b.up b.in'.last.a0 b.in'.last.a1 b.in'.last.a2 b.in'.last.a3 b.in'.max b.errs.a0 b.errs.a1 b.errs.a2 b.errs.a3 b.w.c.cap b.w.c.l b.w.ready b.w.shown b.p.next' b.p.snaps [] hk
 have w3:CallI Tryz.prog 49 [.int .i64 q.a.port,.str q.a.host,.str q.a.path,.int .i64 q.a.first,.int .i64 q.a.other,.int .i64 q.stage,.int .i64 q.id,.str q.route,.str q.cluster,.int .i64 q.out.what,.str q.out.cluster,.int .i64 q.out.host,.int .i64 b.epoch,.int .i64 b.turn,.bool b.up,.int .i64 b.in'.last.a0,.int .i64 b.in'.last.a1,.int .i64 b.in'.last.a2,.int .i64 b.in'.last.a3,.int .i64 b.in'.max,.int .i64 b.errs.a0,.int .i64 b.errs.a1,.int .i64 b.errs.a2,.int .i64 b.errs.a3,.int .i64 b.w.c.cap,.slice false (Ja b.w.c.l),.bool b.w.ready,.slice false (Ja b.w.shown),.int .i64 b.p.next',.slice false (Ja b.p.snaps),.slice false []] [] (.tup []) (wc (Jaz ⟨q,b,[]⟩)):=w3
 generalize Jaz ⟨q,b,[]⟩=X at *
 rotate_left
 rw[if_neg (by omega),if_neg (by omega),if_neg (by omega),if_neg (by omega),if_pos hs]
 have w3:=Jbj q.a.port q.a.host q.a.path q.a.first q.a.other q.stage q.id q.route q.cluster q.out.what q.out.cluster q.out.host b.epoch b.turn b.up b.in'.last.a0 b.in'.last.a1 b.in'.last.a2 b.in'.last.a3 b.in'.max b.errs.a0 b.errs.a1 b.errs.a2 b.errs.a3 b.w.c.cap b.w.c.l b.w.ready b.w.shown b.p.next' b.p.snaps [] q.out.what q.out.cluster q.out.host hk
 have w3:CallI Tryz.prog 50 [.int .i64 q.a.port,.str q.a.host,.str q.a.path,.int .i64 q.a.first,.int .i64 q.a.other,.int .i64 q.stage,.int .i64 q.id,.str q.route,.str q.cluster,.int .i64 q.out.what,.str q.out.cluster,.int .i64 q.out.host,.int .i64 b.epoch,.int .i64 b.turn,.bool b.up,.int .i64 b.in'.last.a0,.int .i64 b.in'.last.a1,.int .i64 b.in'.last.a2,.int .i64 b.in'.last.a3,.int .i64 b.in'.max,.int .i64 b.errs.a0,.int .i64 b.errs.a1,.int .i64 b.errs.a2,.int .i64 b.errs.a3,.int .i64 b.w.c.cap,.slice false (Ja b.w.c.l),.bool b.w.ready,.slice false (Ja b.w.shown),.int .i64 b.p.next',.slice false (Ja b.p.snaps),.slice false []] [.agg [.int .i64 q.out.what,.str q.out.cluster,.int .i64 q.out.host]] (.tup []) (wc (V3 ⟨q,b,[]⟩ q.out)):=w3
 generalize V3 ⟨q,b,[]⟩ q.out=X at *
 rotate_left
 rw[if_neg hs,if_neg hs1,if_neg hs2,if_neg hs3,if_neg hs4]
 have w3:=trivial
 rotate_left
 all_goals try rw[hs] at w3
 all_goals try simp only[wc] at w3
 all_goals clear hk
 all_goals
  refine CallR.go2 (T:=T) Tryz.call15 Tryz.func15 rfl Tryz.ntmps15 (congrArg Array.toList Tryz.results15) (by decide) fun ts hn h0 h1=>?_
  (repeat' (first
 | (with_reducible first|refine callX.by (w1) ?_|refine callX.by (w2) ?_|refine SpecC.ent (Ent.nrmB _ 13) (Qj T (id:=2) fun K hK=>?_))
 | (with_reducible refine callX.io ?_ ?_ ?_ (w3);(focus(simp only[go_sem,↓reduceIte,reduceIte,Qa,Qh,Qb,Qc,Qd,Qe,Qf,Qg,reduceCtorEq, *,-w1,-w2,-w3,J6,Je9,AV.nrm,AV.nrm.nrmL];first|done|rfl));(focus(simp only[go_sem,↓reduceIte,reduceIte,Qa,Qh,Qb,Qc,Qd,Qe,Qf,Qg,reduceCtorEq, *,-w1,-w2,-w3,J6,Je9,AV.nrm,AV.nrm.nrmL];first|done|rfl)))
 | (with_reducible first|assumption|(refine Qw hK _ ?_;clear hK K)|refine Qw ‹_› _ ?_|refine Qx ‹_› ?_|refine Qi fun K hK=>?_|refine Qj T fun K hK=>?_|refine Qk (id:=1) T mixed [([8],[10]),([9],[10]),([10],[8,9])] (by kernel_rfl) fun K hK=>?_|refine Qk (id:=13) T mixed [([44],[47,48,49,50,51,52,53,54,55]),([45],[48,49,50,51,52,53,54,55]),([46],[48,49,50,51,52,53,54,55]),([47],[44,48,49,50,51,52,53,54,55]),([48],[44,45,46,47,51,52,53,54,55,4]),([49],[44,45,46,47,52,53,54,55,4]),([50],[44,45,46,47,52,53,54,55,4]),([51],[44,45,46,47,48,52,53,54,55,4]),([52],[44,45,46,47,48,49,50,51,55,4,5]),([53],[44,45,46,47,48,49,50,51,4,5]),([54],[44,45,46,47,48,49,50,51,4,5]),([55],[44,45,46,47,48,49,50,51,52,4,5]),([4],[48,49,50,51,52,53,54,55]),([5],[52,53,54,55])] (by kernel_rfl) fun K hK=>?_|refine Ql fun A B hA hB=>?_|refine SpecC.block ?_|refine Qn ?_|refine Qr ?_)
 | ((with_reducible first|apply Qy|apply Qz|apply QA)<;>intro hb<;>try simp only[nr] at hb)
 |simp only[go_sem,↓reduceIte,reduceIte,Qa,Qh,Qb,Qc,Qd,Qe,Qf,Qg,reduceCtorEq, *,-w1,-w2,-w3,J6,Je9,AV.nrm,AV.nrm.nrmL]
 |with_reducible refine fun(bn:Bool) hbn=>?_))
theorem JhB(l:List Snap):JY l=(l.map (·.l)).flatMap fun r=>r.map Jq:=by
 rw[JY,List.flatMap_map]
theorem JmR{p:Pins}(h:OkP p):(∃q,Vi p=(p,0,q)∧q≠0∧((∀x∈p.snaps,x.pins<10000)→(JN p).2=([],false)))∨∃q id l,Vi p=(q,id,0)∧OkP q∧(JN p).2=(l,true)∧(JN q).2=(l,true)∧q.snaps.length=p.snaps.length∧JY q.snaps=JY p.snaps ∧
   (∀x∈q.snaps,∃y∈p.snaps,x.l=y.l)∧0<id∧Zn q id=(l,true)∧Vt q id=(p,0):=by
 have hq:OkP (Vi p).1:=by rw[JmV];exact JmA p
 unfold JN
 unfold Vi at hq ⊢
 simp only[JdZ h] at hq ⊢
 cases hg:p.snaps.getLast? with
 |none=>exact .inl ⟨10,rfl,by simp,fun _=>rfl⟩
 |some s =>
  rw[hg] at hq
  obtain⟨hk,hs⟩:=Jhx hg
  have hm:s∈p.snaps:=List.mem_of_getLast? hg
  have h2:=h.mem s hm
  have hw:IntKind.i64.wrap (s.pins+1)=s.pins+1:=IntWalk.i64_in _ (by omega)
  simp only at hq ⊢
  by_cases ht:s.pins=10000
  ·rw[if_pos ht]
   exact .inl ⟨14,rfl,by simp,fun hp=>absurd (hp s hm) (by omega)⟩
  rw[if_neg ht,hw] at hq ⊢
  have hk2:p.snaps.length-1<(p.snaps.set (p.snaps.length-1) ⟨s.id,s.pins+1,s.l⟩).length:=by simpa using hk
  have e:(p.snaps.set (p.snaps.length-1) ⟨s.id,s.pins+1,s.l⟩)[p.snaps.length-1]'hk2=⟨s.id,s.pins+1,s.l⟩:=by simp
  refine .inr ⟨_,_,s.l,rfl,hq,rfl,?_,by simp,?_,fun x hx=>?_,h2.1,?_,?_⟩
  ·rw[JdZ hq]
   simp only[List.getLast?_eq_getElem?,List.length_set,List.getElem?_set_self hk]
  ·rw[JhB,JhB]
   congr 1
   simp only[List.map_set]
   have e:s.l=(p.snaps.map (·.l))[p.snaps.length-1]'(by simpa using hk):=by simp[hs]
   rw[e,List.set_getElem_self]
  ·rcases List.mem_or_eq_of_mem_set hx with hx|rfl
   ·exact⟨x,hx,rfl⟩
   ·exact⟨s,hm,rfl⟩
  ·have:=Jnv hq hk2
   rw[e] at this
   rw[Jiy]
   exact this
  ·have hr:=JnA hq hk2
   rw[e] at hr
   simp only at hr
   rw[JmW,hr,if_neg (by omega),Ji8 hk2 (.inr (by simp;omega))]
   have e3:(⟨s.id,s.pins+1-1,s.l⟩:Snap)=p.snaps[p.snaps.length-1]:=by
    rw[hs,Int.add_sub_cancel]
   simp only[List.set_set,e3,List.set_getElem_self]
structure PinS(s t:Side)(id:Int)(l:List Res):Prop where
 pin:Vi s.p=(t.p,id,0)
 bg:Vd s=t
 sane:VD t=true
 fin:J0 t id=(s,[],0)
 get:Zn t.p id=(l,true)
 pos:0<id
 cur:(JN s.p).2=(l,true)
theorem JmQ{s:Side}(h:VD s=true):(∃q,Vi s.p=(s.p,0,q)∧q≠0∧((∀x∈s.p.snaps,x.pins<10000)→(JN s.p).2=([],false)))∨∃t id l,PinS s t id l∧∀n,BdS s n→BdS t n:=by
 obtain⟨h1,h2,h3,h4,h5,h6,h7,h8⟩:=saneS_iff.1 h
 have ok:=(Jiw _).1 h6
 rcases JmR ok with hh|⟨q,id,l,e1,e2,e3,e4,e5,e6,e7,e8,e9,e10⟩
 ·exact .inl hh
 ·have e11:J1 q=J1 s.p:=by
   unfold J1
   rw[JdZ e2,JdZ ok,e6]
  have hs:VD { s with p:=q }=true:=by
   refine saneS_iff.2 ⟨h1,h2,h3,h4,h5,(Jiw _).2 e2,?_,?_⟩
   ·unfold JaW at h7 ⊢
    rw[e11]
    exact h7
   ·unfold Jbd at h8 ⊢
    simp only[e4]
    rw[e3] at h8
    exact h8
  refine .inr ⟨{ s with p:=q },id,l,⟨e1,?_,hs,?_,e9,e8,e3⟩,fun n hb=>⟨hb.c,hb.w,hb.sc,hb.sw,?_⟩⟩
  ·unfold Vd
   rw[Yy h,e1]
  ·unfold J0
   rw[Yy hs]
   simp only
   rw[e10]
   simp only[e11,true_or,↓reduceIte]
  ·refine⟨by have:=hb.p.len;simp only;omega,fun x hx=>?_⟩
   obtain⟨y,hy,e⟩:=e7 x hx
   have h1:=hb.p.all y hy
   refine⟨by rw[e];exact h1.1,?_⟩
   have h3:=h1.2
   unfold VR at h3 ⊢
   rw[e]
   exact h3
theorem BdS.szk{s:Side}{n:Nat}(h:BdS s n)(hn:n≤1000000)(hs:VD s=true)(r:Req)(hh:Jc r.a.host.length):SzK ⟨r,s,[]⟩:=by
 refine⟨h.sz hn,?_,hh⟩
 simp only
 rw[Yy hs]
 exact(h.p.release r.id).sz hn
inductive FinR:Nat→Req→Side→Req→Side→Prop
 |done {r:Req} {s:Side} (h:(JF r).stage=5):FinR 0 r s r s
 |step {k:Nat} {r r' r2:Req} {s s' s2:Side} (h:¬(JF r).stage=5) (hz:SzS s) (hk:SzK ⟨JF r,Jw s,[]⟩) (e:Jk r s=⟨r',s',[]⟩) (hf:FinR k r' s' r2 s2):FinR (k+1) r s r2 s2
theorem Jd7{r:Req}(h:0≤r.stage∧r.stage≤5∧0<r.id):JF r=r:=by
 unfold JF
 rw[if_pos]
 simp only[JaT,Bool.and_eq_true,Bool.or_eq_true,decide_eq_true_eq]
 omega
theorem JcE{r:Req}(h:r.stage=5)(h1:0≤r.id):JF r=r:=by
 unfold JF
 rw[if_pos]
 simp only[JaT,Bool.and_eq_true,Bool.or_eq_true,decide_eq_true_eq]
 omega
theorem JaU(a:Ask):JF (Jl a)=Jl a:=by
 unfold JF
 split<;>rfl
theorem Jk6{s:Side}{n:Nat}(h:VD s=true)(hb:BdS s n)(hn:n≤1000000)(a:Ask)(hh:Jc a.host.length) :
  ∃k r2,FinR k (Jl a) s r2 s∧JF r2=r2∧r2.stage=5∧r2.a=a∧((∃c,r2.out=ZV (JN s.p).2.1 a∧c=true∧(JN s.p).2.2=c)∨(r2.out=⟨0,[],0⟩∧((∀x∈s.p.snaps,x.pins<10000)→(JN s.p).2=([],false)))):=by
 have hz:=hb.sz hn
 have hk0:SzK ⟨JF (Jl a),Jw s,[]⟩:=by
  rw[JaU,Yy h]
  exact hb.szk hn h _ hh
 rcases JmQ h with ⟨q,e1,e2,e3⟩|⟨t,id,l,hp,hbt⟩
 ·refine⟨1,⟨a,5,0,[],[],⟨0,[],0⟩⟩,.step ?_ hz hk0 ?_ (.done ?_),JcE rfl (Int.le_refl 0),rfl,rfl,.inr ⟨rfl,e3⟩⟩
  ·rw[JaU];simp[Jl]
  ·unfold Jk ZO
   rw[JaU,Yy h,if_pos (show(Jl a).stage=0 from rfl)]
   unfold ZX
   simp only
   rw[Yy h,e1,if_neg e2]
   rfl
  ·rw[JcE rfl (Int.le_refl 0)]
 ·have hbt:=hbt n hb
  have hzt:=hbt.sz hn
  have hpos:=hp.pos
  have ht:=Yy hp.sane
  have hcur:(JN s.p).2.1=l:=by rw[hp.cur]
  have hok:(JN s.p).2.2=true:=by rw[hp.cur]
  have hkt:∀r:Req,r.a=a→JF r=r→SzK ⟨JF r,Jw t,[]⟩:=fun r ha hr=>by
   rw[hr,ht]
   exact hbt.szk hn hp.sane _ (by rw[ha];exact hh)
  have hsn:∀r:Req,r.id=id→Vp ⟨r,t,[]⟩=l:=fun r hr=>by unfold Vp;simp only;rw[hr,hp.get]
  have hdone:∀(r:Req) (x:Answer),r.id=id→¬r.stage=0→V3 ⟨r,t,[]⟩ x=⟨⟨r.a,5,id,r.route,r.cluster,x⟩,s,[]⟩:=fun r x hr hs=>by
   unfold V3
   rw[if_neg hs]
   simp only
   rw[hr,hp.fin]
  have s0:Jk (Jl a) s=⟨⟨a,1,id,[],[],⟨0,[],0⟩⟩,t,[]⟩:=by
   unfold Jk ZO
   rw[JaU,Yy h,if_pos (show(Jl a).stage=0 from rfl)]
   unfold ZX
   simp only
   rw[Yy h,hp.pin,if_pos rfl,hp.bg]
   rfl
  have n0:¬(JF (Jl a)).stage=5:=by rw[JaU];simp[Jl]
  have q1:JF ⟨a,1,id,[],[],⟨0,[],0⟩⟩=⟨a,1,id,[],[],⟨0,[],0⟩⟩:=Jd7 ⟨by simp,by simp,hpos⟩
  have out:∀ {k:Nat} {r2:Req},FinR k ⟨a,1,id,[],[],⟨0,[],0⟩⟩ t r2 s→r2.id=id→r2.stage=5→r2.a=a→r2.out=ZV l a→∃k r2,FinR k (Jl a) s r2 s∧JF r2=r2∧r2.stage=5∧r2.a=a∧((∃c,r2.out=ZV (JN s.p).2.1 a∧c=true∧(JN s.p).2.2=c)∨(r2.out=⟨0,[],0⟩∧((∀x∈s.p.snaps,x.pins<10000)→(JN s.p).2=([],false)))):=fun hf h1 h2 h3 h4 =>
   ⟨_,_,.step n0 hz hk0 s0 hf,JcE h2 (by omega),h2,h3,.inl ⟨true,by rw[hcur];exact h4,rfl,hok⟩⟩
  have fin5:∀r:Req,r.stage=5→r.id=id→(JF r).stage=5:=fun r h1 h2=>by rw[JcE h1 (by omega)];exact h1
  have s1:Jk ⟨a,1,id,[],[],⟨0,[],0⟩⟩ t=JaL ⟨⟨a,1,id,[],[],⟨0,[],0⟩⟩,t,[]⟩:=by
   unfold Jk ZO
   rw[q1,ht]
   simp
  unfold JaL at s1
  rw[hsn _ rfl] at s1
  simp only at s1
  have hk1:=hkt ⟨a,1,id,[],[],⟨0,[],0⟩⟩ rfl q1
  have n1:¬(JF ⟨a,1,id,[],[],⟨0,[],0⟩⟩).stage=5:=by rw[q1];simp
  cases c1:Jac l a.port with
  |none =>
   rw[c1] at s1
   simp only at s1
   rw[hdone _ _ rfl (by simp)] at s1
   exact out (.step n1 hzt hk1 s1 (.done (fin5 _ rfl rfl))) rfl rfl rfl (by simp only[ZV,c1])
  |some x =>
   rw[c1] at s1
   simp only at s1
   have q2:JF ⟨a,2,id,x.to',[],⟨0,[],0⟩⟩=⟨a,2,id,x.to',[],⟨0,[],0⟩⟩:=Jd7 ⟨by simp,by simp,hpos⟩
   have s2:Jk ⟨a,2,id,x.to',[],⟨0,[],0⟩⟩ t=JaY ⟨⟨a,2,id,x.to',[],⟨0,[],0⟩⟩,t,[]⟩:=by
    unfold Jk ZO
    rw[q2,ht]
    simp
   unfold JaY at s2
   rw[hsn _ rfl] at s2
   simp only at s2
   have hk2:=hkt ⟨a,2,id,x.to',[],⟨0,[],0⟩⟩ rfl q2
   have n2:¬(JF ⟨a,2,id,x.to',[],⟨0,[],0⟩⟩).stage=5:=by rw[q2];simp
   cases c2:JcH l x.to' a.host a.path with
   |none =>
    rw[c2] at s2
    simp only at s2
    rw[hdone _ _ rfl (by simp)] at s2
    exact out (.step n1 hzt hk1 s1 (.step n2 hzt hk2 s2 (.done (fin5 _ rfl rfl)))) rfl rfl rfl (by simp only[ZV,c1,c2])
   |some r =>
    rw[c2] at s2
    simp only at s2
    cases c3:Zo r.split a.first with
    |none =>
     rw[c3] at s2
     simp only at s2
     rw[hdone _ _ rfl (by simp)] at s2
     exact out (.step n1 hzt hk1 s1 (.step n2 hzt hk2 s2 (.done (fin5 _ rfl rfl)))) rfl rfl rfl (by simp only[ZV,c1,c2,c3])
    |some c =>
     rw[c3] at s2
     simp only at s2
     have q3:JF ⟨a,3,id,x.to',c,⟨0,[],0⟩⟩=⟨a,3,id,x.to',c,⟨0,[],0⟩⟩:=Jd7 ⟨by simp,by simp,hpos⟩
     have s3:Jk ⟨a,3,id,x.to',c,⟨0,[],0⟩⟩ t=Jaz ⟨⟨a,3,id,x.to',c,⟨0,[],0⟩⟩,t,[]⟩:=by
      unfold Jk ZO
      rw[q3,ht]
      simp
     unfold Jaz at s3
     rw[hsn _ rfl] at s3
     simp only at s3
     have hk3:=hkt ⟨a,3,id,x.to',c,⟨0,[],0⟩⟩ rfl q3
     have n3:¬(JF ⟨a,3,id,x.to',c,⟨0,[],0⟩⟩).stage=5:=by rw[q3];simp
     cases c4:Yn (Jb5 l c).1 a.other with
     |none =>
      rw[c4] at s3
      simp only at s3
      rw[hdone _ _ rfl (by simp)] at s3
      exact out (.step n1 hzt hk1 s1 (.step n2 hzt hk2 s2 (.step n3 hzt hk3 s3 (.done (fin5 _ rfl rfl))))) rfl rfl rfl (by simp only[ZV,c1,c2,c3,c4])
     |some hst =>
      rw[c4] at s3
      simp only at s3
      have q4:JF ⟨a,4,id,x.to',c,⟨3,c,hst⟩⟩=⟨a,4,id,x.to',c,⟨3,c,hst⟩⟩:=Jd7 ⟨by simp,by simp,hpos⟩
      have s4:Jk ⟨a,4,id,x.to',c,⟨3,c,hst⟩⟩ t=V3 ⟨⟨a,4,id,x.to',c,⟨3,c,hst⟩⟩,t,[]⟩ ⟨3,c,hst⟩:=by
       unfold Jk ZO
       rw[q4,ht]
       simp
      rw[hdone _ _ rfl (by simp)] at s4
      have hk4:=hkt ⟨a,4,id,x.to',c,⟨3,c,hst⟩⟩ rfl q4
      have n4:¬(JF ⟨a,4,id,x.to',c,⟨3,c,hst⟩⟩).stage=5:=by rw[q4];simp
      exact out (.step n1 hzt hk1 s1 (.step n2 hzt hk2 s2 (.step n3 hzt hk3 s3 (.step n4 hzt hk4 s4 (.done (fin5 _ rfl rfl)))))) rfl rfl rfl (by simp only[ZV,c1,c2,c3,c4])
end Go.Proofs.YthjalhfmpffbjaaGreatDoor.Lg
