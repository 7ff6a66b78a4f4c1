/- Parts of the proof, one behind the other. -/
import Derived.Test.YthjalhfmpffbjaaGreatDoorG24
namespace Go.Proofs.YthjalhfmpffbjaaGreatDoor.Lg
set_option maxRecDepth 100000
set_option linter.unusedVariables false
set_option linter.unusedSimpArgs false
open Go
open Nat renaming reduceEqDiff → Qa, reduceLT → Qb, reduceLeDiff → Qc, reduceAdd → Qd, reduceMul → Qe, reduceSub → Qf, reduceBEq → Qg
open String renaming reduceEq → Qh
open SpecC renaming seqW → Qi, regW → Qj, drawW → Qk, condW → Ql, skip → Qn, ret → Qr
open NxK renaming out → Qw
open condK renaming split → Qy
open gK renaming split_t → Qz, split_f → QA
@[go_sem] def Jdf:List (List Nat×List Nat):=[([18],[20,21,22,23,24,25,26,27,28,29,30,31,17,33,34,4]),([19],[20,21,22,23,24,25,26,27,28,29,30,31,33,34,4]),([20],[18,19,23,24,25,26,27,28,29,30,31,32,17,33,34,4]),([21],[18,19,24,25,26,27,28,29,30,31,32,17,33,34,4]),([22],[18,19,25,26,27,28,29,30,31,32,17,33,34,4]),([23],[18,19,20,26,27,28,29,30,31,32,17,33,34,4]),([24],[18,19,20,21,26,27,28,29,30,31,17,33,34,4]),([25],[18,19,20,21,22,26,27,28,29,30,31,33,34,4]),([26],[18,19,20,21,22,23,24,25,29,30,31,32,17,33,34,4]),([27],[18,19,20,21,22,23,24,25,30,31,32,17,33,34,4]),([28],[18,19,20,21,22,23,24,25,31,32,17,33,34,4]),([29],[18,19,20,21,22,23,24,25,26,32,17,33,34,4]),([30],[18,19,20,21,22,23,24,25,26,27,17,33,34,4]),([31],[18,19,20,21,22,23,24,25,26,27,28,33,34,4]),([32],[20,21,22,23,26,27,28,29,4]),([17],[18,20,21,22,23,24,26,27,28,29,30,4]),([33],[18,19,20,21,22,23,24,25,26,27,28,29,30,31,34,4]),([34],[18,19,20,21,22,23,24,25,26,27,28,29,30,31,33,4]),([4],[18,19,20,21,22,23,24,25,26,27,28,29,30,31,32,17,33,34]),([4],[34])]
@[go_sem] def Jdg:List (List Nat×List Nat):=[([45],[47,48,49,50,51,52,44,54,55]),([46],[47,48,49,50,51,52,54,55]),([47],[45,46,50,51,52,53,44,54,55]),([48],[45,46,51,52,53,44,54,55]),([49],[45,46,52,53,44,54,55]),([50],[45,46,47,53,44,54,55]),([51],[45,46,47,48,44,54,55]),([52],[45,46,47,48,49,54,55]),([53],[47,48,49,50]),([44],[45,47,48,49,50,51]),([54],[45,46,47,48,49,50,51,52,55]),([55],[45,46,47,48,49,50,51,52,54,6]),([6],[55])]
@[go_sem] def Jgx:List (List Nat×List Nat):=[([26],[28,29,30,31,32,33,25,35,36]),([27],[28,29,30,31,32,33,35,36]),([28],[26,27,31,32,33,34,25,35,36]),([29],[26,27,32,33,34,25,35,36]),([30],[26,27,33,34,25,35,36]),([31],[26,27,28,34,25,35,36]),([32],[26,27,28,29,25,35,36]),([33],[26,27,28,29,30,35,36]),([34],[28,29,30,31]),([25],[26,28,29,30,31,32]),([35],[26,27,28,29,30,31,32,33,36]),([36],[26,27,28,29,30,31,32,33,35,6]),([6],[36])]
theorem JjJ{l:List Res}(hs:∀r∈l,JC r)(k:Key):Jc ((JL l k).getD Ve).rules'.length∧(∀y∈((JL l k).getD Ve).rules',V1 y)∧Jc ((JL l k).getD Ve).hosts.length:=by
 obtain⟨_,_,h1,h2,h3⟩:=Joh hs k
 exact⟨h1,h2,h3⟩
theorem JnA(l:List Res)(to' h p:List UInt8):Yl l to' h p=if(JL l ⟨1,to'⟩).isSome=true then Zs ((JL l ⟨1,to'⟩).getD Ve).rules' h p else none:=by
 unfold Yl
 cases JL l ⟨1,to'⟩<;>rfl
theorem Joc{l:List Rule}{h p:List UInt8}(hs:∀y∈l,V1 y):Jc ((Zs l h p).getD Jau).split.length:=by
 cases e:Zs l h p with
 |none=>simp[Jau,Jc]
 |some r=>exact(hs r (JiI e)).2.2.1
set_option maxHeartbeats 16000000 in
theorem Jnx(w_req_a_port:Int)(w_req_a_host:List UInt8)(w_req_a_path:List UInt8)(w_req_a_first:Int)(w_req_a_other:Int)(w_req_stage:Int)(w_req_id:Int)(w_req_route:List UInt8)(w_req_cluster:List UInt8)(w_req_out_what:Int)(w_req_out_cluster:List UInt8)(w_req_out_host:Int)(w_side_epoch:Int)(w_side_turn:Int)(w_side_up:Bool)(w_side_in_last_a0:Int)(w_side_in_last_a1:Int)(w_side_in_last_a2:Int)(w_side_in_last_a3:Int)(w_side_in_max:Int)(w_side_errs_a0:Int)(w_side_errs_a1:Int)(w_side_errs_a2:Int)(w_side_errs_a3:Int)(w_side_w_c_cap:Int)(w_side_w_c_l:List Res)(w_side_w_ready:Bool)(w_side_w_shown:List Res)(w_side_p_next:Int)(w_side_p_snaps:List Snap)(w_told:List Frame)(hz:SzK (⟨⟨⟨w_req_a_port,w_req_a_host,w_req_a_path,w_req_a_first,w_req_a_other⟩,w_req_stage,w_req_id,w_req_route,w_req_cluster,⟨w_req_out_what,w_req_out_cluster,w_req_out_host⟩⟩,⟨w_side_epoch,w_side_turn,w_side_up,⟨⟨w_side_in_last_a0,w_side_in_last_a1,w_side_in_last_a2,w_side_in_last_a3⟩,w_side_in_max⟩,⟨w_side_errs_a0,w_side_errs_a1,w_side_errs_a2,w_side_errs_a3⟩,⟨⟨w_side_w_c_cap,w_side_w_c_l⟩,w_side_w_ready,w_side_w_shown⟩,⟨w_side_p_next,w_side_p_snaps⟩⟩,w_told⟩:Work)):CallI Tryz.prog 48 [.int .i64 w_req_a_port,.str w_req_a_host,.str w_req_a_path,.int .i64 w_req_a_first,.int .i64 w_req_a_other,.int .i64 w_req_stage,.int .i64 w_req_id,.str w_req_route,.str w_req_cluster,.int .i64 w_req_out_what,.str w_req_out_cluster,.int .i64 w_req_out_host,.int .i64 w_side_epoch,.int .i64 w_side_turn,.bool w_side_up,.int .i64 w_side_in_last_a0,.int .i64 w_side_in_last_a1,.int .i64 w_side_in_last_a2,.int .i64 w_side_in_last_a3,.int .i64 w_side_in_max,.int .i64 w_side_errs_a0,.int .i64 w_side_errs_a1,.int .i64 w_side_errs_a2,.int .i64 w_side_errs_a3,.int .i64 w_side_w_c_cap,.slice false (Ja w_side_w_c_l),.bool w_side_w_ready,.slice false (Ja w_side_w_shown),.int .i64 w_side_p_next,.slice false (Ja w_side_p_snaps),.slice false (Ja w_told)] [] (.tup []) (wc (Ja2 (⟨⟨⟨w_req_a_port,w_req_a_host,w_req_a_path,w_req_a_first,w_req_a_other⟩,w_req_stage,w_req_id,w_req_route,w_req_cluster,⟨w_req_out_what,w_req_out_cluster,w_req_out_host⟩⟩,⟨w_side_epoch,w_side_turn,w_side_up,⟨⟨w_side_in_last_a0,w_side_in_last_a1,w_side_in_last_a2,w_side_in_last_a3⟩,w_side_in_max⟩,⟨w_side_errs_a0,w_side_errs_a1,w_side_errs_a2,w_side_errs_a3⟩,⟨⟨w_side_w_c_cap,w_side_w_c_l⟩,w_side_w_ready,w_side_w_shown⟩,⟨w_side_p_next,w_side_p_snaps⟩⟩,w_told⟩:Work))):=by
 have w1:=Jfb w_req_a_port w_req_a_host w_req_a_path w_req_a_first w_req_a_other w_req_stage w_req_id w_req_route w_req_cluster w_req_out_what w_req_out_cluster w_req_out_host w_side_epoch w_side_turn w_side_up w_side_in_last_a0 w_side_in_last_a1 w_side_in_last_a2 w_side_in_last_a3 w_side_in_max w_side_errs_a0 w_side_errs_a1 w_side_errs_a2 w_side_errs_a3 w_side_w_c_cap w_side_w_c_l w_side_w_ready w_side_w_shown w_side_p_next w_side_p_snaps w_told 1 w_req_route hz.s.p.n hz.snap.1
 obtain⟨s1,s2,_⟩:=JjJ hz.snap.2 ⟨1,w_req_route⟩
 have w2:=Jd0 _ w_req_a_host w_req_a_path s1 s2 hz.h
 have w3:=JaT _ w_req_a_first (Joc (h:=w_req_a_host) (p:=w_req_a_path) s2)
 have w4:=Jbm w_req_a_port w_req_a_host w_req_a_path w_req_a_first w_req_a_other w_req_stage w_req_id w_req_route w_req_cluster w_req_out_what w_req_out_cluster w_req_out_host w_side_epoch w_side_turn w_side_up w_side_in_last_a0 w_side_in_last_a1 w_side_in_last_a2 w_side_in_last_a3 w_side_in_max w_side_errs_a0 w_side_errs_a1 w_side_errs_a2 w_side_errs_a3 w_side_w_c_cap w_side_w_c_l w_side_w_ready w_side_w_shown w_side_p_next w_side_p_snaps w_told 2 [] 0 hz
 have w5:=Jbm w_req_a_port w_req_a_host w_req_a_path w_req_a_first w_req_a_other w_req_stage w_req_id w_req_route w_req_cluster w_req_out_what w_req_out_cluster w_req_out_host w_side_epoch w_side_turn w_side_up w_side_in_last_a0 w_side_in_last_a1 w_side_in_last_a2 w_side_in_last_a3 w_side_in_max w_side_errs_a0 w_side_errs_a1 w_side_errs_a2 w_side_errs_a3 w_side_w_c_cap w_side_w_c_l w_side_w_ready w_side_w_shown w_side_p_next w_side_p_snaps w_told 0 [] 0 hz
 unfold Ja2
 rw[JnA]
 clear hz s1 s2
 simp only
 generalize Vs (⟨⟨⟨w_req_a_port,w_req_a_host,w_req_a_path,w_req_a_first,w_req_a_other⟩,w_req_stage,w_req_id,w_req_route,w_req_cluster,⟨w_req_out_what,w_req_out_cluster,w_req_out_host⟩⟩,⟨w_side_epoch,w_side_turn,w_side_up,⟨⟨w_side_in_last_a0,w_side_in_last_a1,w_side_in_last_a2,w_side_in_last_a3⟩,w_side_in_max⟩,⟨w_side_errs_a0,w_side_errs_a1,w_side_errs_a2,w_side_errs_a3⟩,⟨⟨w_side_w_c_cap,w_side_w_c_l⟩,w_side_w_ready,w_side_w_shown⟩,⟨w_side_p_next,w_side_p_snaps⟩⟩,w_told⟩:Work)=l at *
 generalize JL l ⟨1,w_req_route⟩=o at *
 generalize Zs (o.getD Ve).rules' w_req_a_host w_req_a_path=q at *
 cases o with
 |none =>
  simp only[Option.isSome_none,Bool.false_eq_true,↓reduceIte]
  clear w3 w5
  simp only[Option.getD_none,Option.isSome_none,Option.getD_some,Option.isSome_some] at w1 w2
  refine CallI.goR0 Tryz.call48 Tryz.func48 rfl Tryz.ntmps48 T (congrArg Array.toList Tryz.results48) (by decide) fun ts hn h0 hg0 ho0=>?_
  (repeat' (first
 | (with_reducible refine callX.io ?_ ?_ ?_ (w1);(focus(simp only[go_sem,↓reduceIte,reduceIte,Qa,Qh,Qb,Qc,Qd,Qe,Qf,Qg,reduceCtorEq, *,-w1,-w2,-w4,JW,Option.getD_none,Option.isSome_none,Option.getD_some,Option.isSome_some];first|done|rfl));(focus(simp only[go_sem,↓reduceIte,reduceIte,Qa,Qh,Qb,Qc,Qd,Qe,Qf,Qg,reduceCtorEq, *,-w1,-w2,-w4,JW,Option.getD_none,Option.isSome_none,Option.getD_some,Option.isSome_some];first|done|rfl)))
 |with_reducible refine callX.by (w2) ?_
 | (with_reducible refine callX.io ?_ ?_ ?_ (w4);(focus(simp only[go_sem,↓reduceIte,reduceIte,Qa,Qh,Qb,Qc,Qd,Qe,Qf,Qg,reduceCtorEq, *,-w1,-w2,-w4,JW,Option.getD_none,Option.isSome_none,Option.getD_some,Option.isSome_some];first|done|rfl));(focus(simp only[go_sem,↓reduceIte,reduceIte,Qa,Qh,Qb,Qc,Qd,Qe,Qf,Qg,reduceCtorEq, *,-w1,-w2,-w4,JW,Option.getD_none,Option.isSome_none,Option.getD_some,Option.isSome_some];first|done|rfl)))
 | (with_reducible first|assumption|(refine Qw hK _ ?_;clear hK K)|refine Qw ‹_› _ ?_|refine Nx.out ‹_› ?_|refine Qi fun K hK=>?_|refine Qj T fun K hK=>?_|refine Qk (id:=1) T mixed Jdf (by kernel_rfl) fun K hK=>?_|refine Qk (id:=4) T mixed Jdg (by kernel_rfl) fun K hK=>?_|refine Ql fun A B hA hB=>?_|refine Qn ?_|refine Qr ?_)
 | ((with_reducible first|apply Qy|apply Qz|apply QA)<;>intro hb<;>try simp only[nr] at hb)
 |simp only[go_sem,↓reduceIte,reduceIte,Qa,Qh,Qb,Qc,Qd,Qe,Qf,Qg,reduceCtorEq, *,-w1,-w2,-w4,JW,Option.getD_none,Option.isSome_none,Option.getD_some,Option.isSome_some]
 |with_reducible refine fun(bn:Bool) hbn=>?_))
 |some x =>
  simp only[Option.isSome_some,↓reduceIte]
  simp only[Option.getD_none,Option.isSome_none,Option.getD_some,Option.isSome_some] at w1 w2
  cases q with
  |none =>
   clear w3 w5
   simp only[Option.getD_none,Option.isSome_none,Option.getD_some,Option.isSome_some] at w2
   refine CallI.goR0 Tryz.call48 Tryz.func48 rfl Tryz.ntmps48 T (congrArg Array.toList Tryz.results48) (by decide) fun ts hn h0 hg0 ho0=>?_
   (repeat' (first
 | (with_reducible refine callX.io ?_ ?_ ?_ (w1);(focus(simp only[go_sem,↓reduceIte,reduceIte,Qa,Qh,Qb,Qc,Qd,Qe,Qf,Qg,reduceCtorEq, *,-w1,-w2,-w4,JW,Option.getD_none,Option.isSome_none,Option.getD_some,Option.isSome_some];first|done|rfl));(focus(simp only[go_sem,↓reduceIte,reduceIte,Qa,Qh,Qb,Qc,Qd,Qe,Qf,Qg,reduceCtorEq, *,-w1,-w2,-w4,JW,Option.getD_none,Option.isSome_none,Option.getD_some,Option.isSome_some];first|done|rfl)))
 |with_reducible refine callX.by (w2) ?_
 | (with_reducible refine callX.io ?_ ?_ ?_ (w4);(focus(simp only[go_sem,↓reduceIte,reduceIte,Qa,Qh,Qb,Qc,Qd,Qe,Qf,Qg,reduceCtorEq, *,-w1,-w2,-w4,JW,Option.getD_none,Option.isSome_none,Option.getD_some,Option.isSome_some];first|done|rfl));(focus(simp only[go_sem,↓reduceIte,reduceIte,Qa,Qh,Qb,Qc,Qd,Qe,Qf,Qg,reduceCtorEq, *,-w1,-w2,-w4,JW,Option.getD_none,Option.isSome_none,Option.getD_some,Option.isSome_some];first|done|rfl)))
 | (with_reducible first|assumption|(refine Qw hK _ ?_;clear hK K)|refine Qw ‹_› _ ?_|refine Nx.out ‹_› ?_|refine Qi fun K hK=>?_|refine Qj T fun K hK=>?_|refine Qk (id:=1) T mixed Jdf (by kernel_rfl) fun K hK=>?_|refine Qk (id:=4) T mixed Jdg (by kernel_rfl) fun K hK=>?_|refine Ql fun A B hA hB=>?_|refine Qn ?_|refine Qr ?_)
 | ((with_reducible first|apply Qy|apply Qz|apply QA)<;>intro hb<;>try simp only[nr] at hb)
 |simp only[go_sem,↓reduceIte,reduceIte,Qa,Qh,Qb,Qc,Qd,Qe,Qf,Qg,reduceCtorEq, *,-w1,-w2,-w4,JW,Option.getD_none,Option.isSome_none,Option.getD_some,Option.isSome_some]
 |with_reducible refine fun(bn:Bool) hbn=>?_))
  |some r =>
   simp only[Option.getD_none,Option.isSome_none,Option.getD_some,Option.isSome_some] at w2 w3
   simp only
   generalize YL r.split w_req_a_first=c at *
   cases c with
   |none =>
    clear w4
    simp only[Option.getD_none,Option.isSome_none,Option.getD_some,Option.isSome_some] at w3
    refine CallI.goR0 Tryz.call48 Tryz.func48 rfl Tryz.ntmps48 T (congrArg Array.toList Tryz.results48) (by decide) fun ts hn h0 hg0 ho0=>?_
    (repeat' (first
 | (with_reducible refine callX.io ?_ ?_ ?_ (w1);(focus(simp only[go_sem,↓reduceIte,reduceIte,Qa,Qh,Qb,Qc,Qd,Qe,Qf,Qg,reduceCtorEq, *,-w1,-w2,-w3,-w5,JW,Option.getD_none,Option.isSome_none,Option.getD_some,Option.isSome_some];first|done|rfl));(focus(simp only[go_sem,↓reduceIte,reduceIte,Qa,Qh,Qb,Qc,Qd,Qe,Qf,Qg,reduceCtorEq, *,-w1,-w2,-w3,-w5,JW,Option.getD_none,Option.isSome_none,Option.getD_some,Option.isSome_some];first|done|rfl)))
 | (with_reducible first|refine callX.by (w2) ?_|refine callX.by (w3) ?_)
 | (with_reducible refine callX.io ?_ ?_ ?_ (w5);(focus(simp only[go_sem,↓reduceIte,reduceIte,Qa,Qh,Qb,Qc,Qd,Qe,Qf,Qg,reduceCtorEq, *,-w1,-w2,-w3,-w5,JW,Option.getD_none,Option.isSome_none,Option.getD_some,Option.isSome_some];first|done|rfl));(focus(simp only[go_sem,↓reduceIte,reduceIte,Qa,Qh,Qb,Qc,Qd,Qe,Qf,Qg,reduceCtorEq, *,-w1,-w2,-w3,-w5,JW,Option.getD_none,Option.isSome_none,Option.getD_some,Option.isSome_some];first|done|rfl)))
 | (with_reducible first|assumption|(refine Qw hK _ ?_;clear hK K)|refine Qw ‹_› _ ?_|refine Nx.out ‹_› ?_|refine Qi fun K hK=>?_|refine Qj T fun K hK=>?_|refine Qk (id:=1) T mixed Jdf (by kernel_rfl) fun K hK=>?_|refine Qk (id:=4) T mixed Jdg (by kernel_rfl) fun K hK=>?_|refine Ql fun A B hA hB=>?_|refine Qn ?_|refine Qr ?_)
 | ((with_reducible first|apply Qy|apply Qz|apply QA)<;>intro hb<;>try simp only[nr] at hb)
 |simp only[go_sem,↓reduceIte,reduceIte,Qa,Qh,Qb,Qc,Qd,Qe,Qf,Qg,reduceCtorEq, *,-w1,-w2,-w3,-w5,JW,Option.getD_none,Option.isSome_none,Option.getD_some,Option.isSome_some]
 |with_reducible refine fun(bn:Bool) hbn=>?_))
   |some c =>
    clear w4 w5
    simp only[Option.getD_none,Option.isSome_none,Option.getD_some,Option.isSome_some] at w3
    simp only
    unfold wc
    simp only
    refine CallI.goR0 Tryz.call48 Tryz.func48 rfl Tryz.ntmps48 T (congrArg Array.toList Tryz.results48) (by decide) fun ts hn h0 hg0 ho0=>?_
    (repeat' (first
 | (with_reducible refine callX.io ?_ ?_ ?_ (w1);(focus(simp only[go_sem,↓reduceIte,reduceIte,Qa,Qh,Qb,Qc,Qd,Qe,Qf,Qg,reduceCtorEq, *,-w1,-w2,-w3,Option.getD_none,Option.isSome_none,Option.getD_some,Option.isSome_some];first|done|rfl));(focus(simp only[go_sem,↓reduceIte,reduceIte,Qa,Qh,Qb,Qc,Qd,Qe,Qf,Qg,reduceCtorEq, *,-w1,-w2,-w3,Option.getD_none,Option.isSome_none,Option.getD_some,Option.isSome_some];first|done|rfl)))
 | (with_reducible first|refine callX.by (w2) ?_|refine callX.by (w3) ?_|assumption|(refine Qw hK _ ?_;clear hK K)|refine Qw ‹_› _ ?_|refine Nx.out ‹_› ?_|refine Qi fun K hK=>?_|refine Qj T fun K hK=>?_|refine Qk (id:=1) T mixed Jdf (by kernel_rfl) fun K hK=>?_|refine Qk (id:=4) T mixed Jdg (by kernel_rfl) fun K hK=>?_|refine Ql fun A B hA hB=>?_|refine Qn ?_|refine Qr ?_)
 | ((with_reducible first|apply Qy|apply Qz|apply QA)<;>intro hb<;>try simp only[nr] at hb)
 |simp only[go_sem,↓reduceIte,reduceIte,Qa,Qh,Qb,Qc,Qd,Qe,Qf,Qg,reduceCtorEq, *,-w1,-w2,-w3,Option.getD_none,Option.isSome_none,Option.getD_some,Option.isSome_some]
 |with_reducible refine fun(bn:Bool) hbn=>?_))
theorem JkQ(l:List Res)(c:List UInt8)(n:Int):V8 (Vj l c).1 n=if(JL l ⟨2,c⟩).isSome=true∧(JL l ⟨3,((JL l ⟨2,c⟩).getD Ve).to'⟩).isSome=true then V8 ((JL l ⟨3,((JL l ⟨2,c⟩).getD Ve).to'⟩).getD Ve).hosts n else none:=by
 unfold Vj
 cases JL l ⟨2,c⟩ with
 |none=>simp[V8]
 |some x =>
  simp only[Option.isSome_some,Option.getD_some,true_and]
  cases JL l ⟨3,x.to'⟩ with
  |none=>simp[V8]
  |some e=>simp
set_option maxHeartbeats 16000000 in
theorem JkP(w_req_a_port:Int)(w_req_a_host:List UInt8)(w_req_a_path:List UInt8)(w_req_a_first:Int)(w_req_a_other:Int)(w_req_stage:Int)(w_req_id:Int)(w_req_route:List UInt8)(w_req_cluster:List UInt8)(w_req_out_what:Int)(w_req_out_cluster:List UInt8)(w_req_out_host:Int)(w_side_epoch:Int)(w_side_turn:Int)(w_side_up:Bool)(w_side_in_last_a0:Int)(w_side_in_last_a1:Int)(w_side_in_last_a2:Int)(w_side_in_last_a3:Int)(w_side_in_max:Int)(w_side_errs_a0:Int)(w_side_errs_a1:Int)(w_side_errs_a2:Int)(w_side_errs_a3:Int)(w_side_w_c_cap:Int)(w_side_w_c_l:List Res)(w_side_w_ready:Bool)(w_side_w_shown:List Res)(w_side_p_next:Int)(w_side_p_snaps:List Snap)(w_told:List Frame)(hz:SzK (⟨⟨⟨w_req_a_port,w_req_a_host,w_req_a_path,w_req_a_first,w_req_a_other⟩,w_req_stage,w_req_id,w_req_route,w_req_cluster,⟨w_req_out_what,w_req_out_cluster,w_req_out_host⟩⟩,⟨w_side_epoch,w_side_turn,w_side_up,⟨⟨w_side_in_last_a0,w_side_in_last_a1,w_side_in_last_a2,w_side_in_last_a3⟩,w_side_in_max⟩,⟨w_side_errs_a0,w_side_errs_a1,w_side_errs_a2,w_side_errs_a3⟩,⟨⟨w_side_w_c_cap,w_side_w_c_l⟩,w_side_w_ready,w_side_w_shown⟩,⟨w_side_p_next,w_side_p_snaps⟩⟩,w_told⟩:Work)):CallI Tryz.prog 49 [.int .i64 w_req_a_port,.str w_req_a_host,.str w_req_a_path,.int .i64 w_req_a_first,.int .i64 w_req_a_other,.int .i64 w_req_stage,.int .i64 w_req_id,.str w_req_route,.str w_req_cluster,.int .i64 w_req_out_what,.str w_req_out_cluster,.int .i64 w_req_out_host,.int .i64 w_side_epoch,.int .i64 w_side_turn,.bool w_side_up,.int .i64 w_side_in_last_a0,.int .i64 w_side_in_last_a1,.int .i64 w_side_in_last_a2,.int .i64 w_side_in_last_a3,.int .i64 w_side_in_max,.int .i64 w_side_errs_a0,.int .i64 w_side_errs_a1,.int .i64 w_side_errs_a2,.int .i64 w_side_errs_a3,.int .i64 w_side_w_c_cap,.slice false (Ja w_side_w_c_l),.bool w_side_w_ready,.slice false (Ja w_side_w_shown),.int .i64 w_side_p_next,.slice false (Ja w_side_p_snaps),.slice false (Ja w_told)] [] (.tup []) (wc (JaB (⟨⟨⟨w_req_a_port,w_req_a_host,w_req_a_path,w_req_a_first,w_req_a_other⟩,w_req_stage,w_req_id,w_req_route,w_req_cluster,⟨w_req_out_what,w_req_out_cluster,w_req_out_host⟩⟩,⟨w_side_epoch,w_side_turn,w_side_up,⟨⟨w_side_in_last_a0,w_side_in_last_a1,w_side_in_last_a2,w_side_in_last_a3⟩,w_side_in_max⟩,⟨w_side_errs_a0,w_side_errs_a1,w_side_errs_a2,w_side_errs_a3⟩,⟨⟨w_side_w_c_cap,w_side_w_c_l⟩,w_side_w_ready,w_side_w_shown⟩,⟨w_side_p_next,w_side_p_snaps⟩⟩,w_told⟩:Work))):=by
 have w1:=Jfb w_req_a_port w_req_a_host w_req_a_path w_req_a_first w_req_a_other w_req_stage w_req_id w_req_route w_req_cluster w_req_out_what w_req_out_cluster w_req_out_host w_side_epoch w_side_turn w_side_up w_side_in_last_a0 w_side_in_last_a1 w_side_in_last_a2 w_side_in_last_a3 w_side_in_max w_side_errs_a0 w_side_errs_a1 w_side_errs_a2 w_side_errs_a3 w_side_w_c_cap w_side_w_c_l w_side_w_ready w_side_w_shown w_side_p_next w_side_p_snaps w_told 2 w_req_cluster hz.s.p.n hz.snap.1
 have w2:=Jfb w_req_a_port w_req_a_host w_req_a_path w_req_a_first w_req_a_other w_req_stage w_req_id w_req_route w_req_cluster w_req_out_what w_req_out_cluster w_req_out_host w_side_epoch w_side_turn w_side_up w_side_in_last_a0 w_side_in_last_a1 w_side_in_last_a2 w_side_in_last_a3 w_side_in_max w_side_errs_a0 w_side_errs_a1 w_side_errs_a2 w_side_errs_a3 w_side_w_c_cap w_side_w_c_l w_side_w_ready w_side_w_shown w_side_p_next w_side_p_snaps w_told 3 ((JL (Vs (⟨⟨⟨w_req_a_port,w_req_a_host,w_req_a_path,w_req_a_first,w_req_a_other⟩,w_req_stage,w_req_id,w_req_route,w_req_cluster,⟨w_req_out_what,w_req_out_cluster,w_req_out_host⟩⟩,⟨w_side_epoch,w_side_turn,w_side_up,⟨⟨w_side_in_last_a0,w_side_in_last_a1,w_side_in_last_a2,w_side_in_last_a3⟩,w_side_in_max⟩,⟨w_side_errs_a0,w_side_errs_a1,w_side_errs_a2,w_side_errs_a3⟩,⟨⟨w_side_w_c_cap,w_side_w_c_l⟩,w_side_w_ready,w_side_w_shown⟩,⟨w_side_p_next,w_side_p_snaps⟩⟩,w_told⟩:Work)) ⟨2,w_req_cluster⟩).getD Ve).to' hz.s.p.n hz.snap.1
 obtain⟨_,_,s1⟩:=JjJ hz.snap.2 ⟨3,((JL (Vs (⟨⟨⟨w_req_a_port,w_req_a_host,w_req_a_path,w_req_a_first,w_req_a_other⟩,w_req_stage,w_req_id,w_req_route,w_req_cluster,⟨w_req_out_what,w_req_out_cluster,w_req_out_host⟩⟩,⟨w_side_epoch,w_side_turn,w_side_up,⟨⟨w_side_in_last_a0,w_side_in_last_a1,w_side_in_last_a2,w_side_in_last_a3⟩,w_side_in_max⟩,⟨w_side_errs_a0,w_side_errs_a1,w_side_errs_a2,w_side_errs_a3⟩,⟨⟨w_side_w_c_cap,w_side_w_c_l⟩,w_side_w_ready,w_side_w_shown⟩,⟨w_side_p_next,w_side_p_snaps⟩⟩,w_told⟩:Work)) ⟨2,w_req_cluster⟩).getD Ve).to'⟩
 have w3:=JaU _ w_req_a_other s1
 have w4:=Jbm w_req_a_port w_req_a_host w_req_a_path w_req_a_first w_req_a_other w_req_stage w_req_id w_req_route w_req_cluster w_req_out_what w_req_out_cluster w_req_out_host w_side_epoch w_side_turn w_side_up w_side_in_last_a0 w_side_in_last_a1 w_side_in_last_a2 w_side_in_last_a3 w_side_in_max w_side_errs_a0 w_side_errs_a1 w_side_errs_a2 w_side_errs_a3 w_side_w_c_cap w_side_w_c_l w_side_w_ready w_side_w_shown w_side_p_next w_side_p_snaps w_told 0 [] 0 hz
 unfold JaB
 rw[JkQ]
 clear hz s1
 simp only
 generalize Vs (⟨⟨⟨w_req_a_port,w_req_a_host,w_req_a_path,w_req_a_first,w_req_a_other⟩,w_req_stage,w_req_id,w_req_route,w_req_cluster,⟨w_req_out_what,w_req_out_cluster,w_req_out_host⟩⟩,⟨w_side_epoch,w_side_turn,w_side_up,⟨⟨w_side_in_last_a0,w_side_in_last_a1,w_side_in_last_a2,w_side_in_last_a3⟩,w_side_in_max⟩,⟨w_side_errs_a0,w_side_errs_a1,w_side_errs_a2,w_side_errs_a3⟩,⟨⟨w_side_w_c_cap,w_side_w_c_l⟩,w_side_w_ready,w_side_w_shown⟩,⟨w_side_p_next,w_side_p_snaps⟩⟩,w_told⟩:Work)=l at *
 generalize JL l ⟨2,w_req_cluster⟩=o at *
 generalize JL l ⟨3,(o.getD Ve).to'⟩=u at *
 generalize V8 (u.getD Ve).hosts w_req_a_other=q at *
 by_cases hc:(o.isSome=true∧u.isSome=true)∧q.isSome=true
 ·obtain⟨⟨c1,c2⟩,c3⟩:=hc
  rw[if_pos ⟨c1,c2⟩]
  clear w4
  cases q with
  |none=>simp at c3
  |some n =>
   simp only
   simp only[Option.getD_none,Option.isSome_none,Option.getD_some,Option.isSome_some] at w3
   rw[c1] at w1
   rw[c2] at w2
   unfold wc
   simp only
   refine CallI.goR0 Tryz.call49 Tryz.func49 rfl Tryz.ntmps49 T (congrArg Array.toList Tryz.results49) (by decide) fun ts hn h0 hg0 ho0=>?_
   (repeat' (first
 | (with_reducible refine callX.io ?_ ?_ ?_ (w1);(focus(simp only[go_sem,↓reduceIte,reduceIte,Qa,Qh,Qb,Qc,Qd,Qe,Qf,Qg,reduceCtorEq, *,-w1,-w2,-w3,Option.getD_none,Option.isSome_none,Option.getD_some,Option.isSome_some];first|done|rfl));(focus(simp only[go_sem,↓reduceIte,reduceIte,Qa,Qh,Qb,Qc,Qd,Qe,Qf,Qg,reduceCtorEq, *,-w1,-w2,-w3,Option.getD_none,Option.isSome_none,Option.getD_some,Option.isSome_some];first|done|rfl)))
 | (with_reducible refine callX.io ?_ ?_ ?_ (w2);(focus(simp only[go_sem,↓reduceIte,reduceIte,Qa,Qh,Qb,Qc,Qd,Qe,Qf,Qg,reduceCtorEq, *,-w1,-w2,-w3,Option.getD_none,Option.isSome_none,Option.getD_some,Option.isSome_some];first|done|rfl));(focus(simp only[go_sem,↓reduceIte,reduceIte,Qa,Qh,Qb,Qc,Qd,Qe,Qf,Qg,reduceCtorEq, *,-w1,-w2,-w3,Option.getD_none,Option.isSome_none,Option.getD_some,Option.isSome_some];first|done|rfl)))
 | (with_reducible first|refine callX.by (w3) ?_|assumption|(refine Qw hK _ ?_;clear hK K)|refine Qw ‹_› _ ?_|refine Nx.out ‹_› ?_|refine Qi fun K hK=>?_|refine Qj T fun K hK=>?_|refine Qk (id:=2) T mixed Jgx (by kernel_rfl) fun K hK=>?_|refine Ql fun A B hA hB=>?_|refine Qn ?_|refine Qr ?_)
 | ((with_reducible first|apply Qy|apply Qz|apply QA)<;>intro hb<;>try simp only[nr] at hb)
 |simp only[go_sem,↓reduceIte,reduceIte,Qa,Qh,Qb,Qc,Qd,Qe,Qf,Qg,reduceCtorEq, *,-w1,-w2,-w3,Option.getD_none,Option.isSome_none,Option.getD_some,Option.isSome_some]
 |with_reducible refine fun(bn:Bool) hbn=>?_))
 ·cases o<;>cases u<;>cases q<;>simp only[Option.getD_none,Option.isSome_none,Option.getD_some,Option.isSome_some,and_self,and_false,false_and,and_true,true_and,Bool.false_eq_true,↓reduceIte,not_true_eq_false,not_false_eq_true] at hc w1 w2 w3 ⊢
  all_goals
   refine CallI.goR0 Tryz.call49 Tryz.func49 rfl Tryz.ntmps49 T (congrArg Array.toList Tryz.results49) (by decide) fun ts hn h0 hg0 ho0=>?_
   (repeat' (first
 | (with_reducible refine callX.io ?_ ?_ ?_ (w1);(focus(simp only[go_sem,↓reduceIte,reduceIte,Qa,Qh,Qb,Qc,Qd,Qe,Qf,Qg,reduceCtorEq, *,-w1,-w2,-w3,-w4,JW,Option.getD_none,Option.isSome_none,Option.getD_some,Option.isSome_some];first|done|rfl));(focus(simp only[go_sem,↓reduceIte,reduceIte,Qa,Qh,Qb,Qc,Qd,Qe,Qf,Qg,reduceCtorEq, *,-w1,-w2,-w3,-w4,JW,Option.getD_none,Option.isSome_none,Option.getD_some,Option.isSome_some];first|done|rfl)))
 | (with_reducible refine callX.io ?_ ?_ ?_ (w2);(focus(simp only[go_sem,↓reduceIte,reduceIte,Qa,Qh,Qb,Qc,Qd,Qe,Qf,Qg,reduceCtorEq, *,-w1,-w2,-w3,-w4,JW,Option.getD_none,Option.isSome_none,Option.getD_some,Option.isSome_some];first|done|rfl));(focus(simp only[go_sem,↓reduceIte,reduceIte,Qa,Qh,Qb,Qc,Qd,Qe,Qf,Qg,reduceCtorEq, *,-w1,-w2,-w3,-w4,JW,Option.getD_none,Option.isSome_none,Option.getD_some,Option.isSome_some];first|done|rfl)))
 |with_reducible refine callX.by (w3) ?_
 | (with_reducible refine callX.io ?_ ?_ ?_ (w4);(focus(simp only[go_sem,↓reduceIte,reduceIte,Qa,Qh,Qb,Qc,Qd,Qe,Qf,Qg,reduceCtorEq, *,-w1,-w2,-w3,-w4,JW,Option.getD_none,Option.isSome_none,Option.getD_some,Option.isSome_some];first|done|rfl));(focus(simp only[go_sem,↓reduceIte,reduceIte,Qa,Qh,Qb,Qc,Qd,Qe,Qf,Qg,reduceCtorEq, *,-w1,-w2,-w3,-w4,JW,Option.getD_none,Option.isSome_none,Option.getD_some,Option.isSome_some];first|done|rfl)))
 | (with_reducible first|assumption|(refine Qw hK _ ?_;clear hK K)|refine Qw ‹_› _ ?_|refine Nx.out ‹_› ?_|refine Qi fun K hK=>?_|refine Qj T fun K hK=>?_|refine Qk (id:=2) T mixed Jgx (by kernel_rfl) fun K hK=>?_|refine Ql fun A B hA hB=>?_|refine Qn ?_|refine Qr ?_)
 | ((with_reducible first|apply Qy|apply Qz|apply QA)<;>intro hb<;>try simp only[nr] at hb)
 |simp only[go_sem,↓reduceIte,reduceIte,Qa,Qh,Qb,Qc,Qd,Qe,Qf,Qg,reduceCtorEq, *,-w1,-w2,-w3,-w4,JW,Option.getD_none,Option.isSome_none,Option.getD_some,Option.isSome_some]
 |with_reducible refine fun(bn:Bool) hbn=>?_))
end Go.Proofs.YthjalhfmpffbjaaGreatDoor.Lg
