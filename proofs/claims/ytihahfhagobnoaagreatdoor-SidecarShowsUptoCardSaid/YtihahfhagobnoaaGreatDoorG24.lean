/- Parts of the proof, one behind the other. -/
import Derived.Test.YtihahfhagobnoaaGreatDoorG23
namespace Go.Proofs.YtihahfhagobnoaaGreatDoor.Lg
set_option maxRecDepth 100000
set_option linter.unusedVariables false
set_option linter.unusedSimpArgs false
open Go
open Nat renaming reduceEqDiff → Qa, reduceLT → Qb, reduceLeDiff → Qc, reduceAdd → Qd, reduceMul → Qe, reduceSub → Qf, reduceBEq → Qg
open String renaming reduceEq → Qh
open SpecC renaming seqW → Qi, regW → Qj, drawW → Qk, condW → Ql, block → Qm, skip → Qn, exit → Qp, ret → Qr
open NxK renaming out → Qw
open Nx renaming out → Qx
open condK renaming split → Qy
open gK renaming split_t → Qz, split_f → QA
def Jz(s:Side)(f:Frame):Side×Int :=
 let w:=JW s.w f.adds f.gone
 let p:=if w.2.1=true then Vh s.p w.1.shown else (s.p,0,0)
 if p.2.2=0 then
  if Y8 p.1=true then ({ s with w:=w.1,p:=p.1,errs:=Jbq s.errs f.kind w.2.2 },0) else ({ s with errs:=Jbq s.errs f.kind 8 },0)
 else (s,p.2.2)
set_option maxHeartbeats 16000000 in
theorem Joo(s_epoch:Int)(s_turn:Int)(s_up:Bool)(s_in_last_a0:Int)(s_in_last_a1:Int)(s_in_last_a2:Int)(s_in_last_a3:Int)(s_in_max:Int)(s_errs_a0:Int)(s_errs_a1:Int)(s_errs_a2:Int)(s_errs_a3:Int)(s_w_c_cap:Int)(s_w_c_l:List Res)(s_w_ready:Bool)(s_w_shown:List Res)(s_p_next:Int)(s_p_snaps:List Snap)(f_type:Int)(f_epoch:Int)(f_kind:Int)(f_nonce:Int)(f_turn:Int)(f_adds:List Res)(f_gone:List Key)(f_err:Int)(f_have:List Mark)(f_held:List Key)(h:SzS (⟨s_epoch,s_turn,s_up,⟨⟨s_in_last_a0,s_in_last_a1,s_in_last_a2,s_in_last_a3⟩,s_in_max⟩,⟨s_errs_a0,s_errs_a1,s_errs_a2,s_errs_a3⟩,⟨⟨s_w_c_cap,s_w_c_l⟩,s_w_ready,s_w_shown⟩,⟨s_p_next,s_p_snaps⟩⟩:Side))(hf:VG (⟨f_type,f_epoch,f_kind,f_nonce,f_turn,f_adds,f_gone,f_err,f_have,f_held⟩:Frame))(hl:s_w_c_l.length+f_adds.length≤65536)(hq:SzP (Vh ⟨s_p_next,s_p_snaps⟩ (JW (⟨s_epoch,s_turn,s_up,⟨⟨s_in_last_a0,s_in_last_a1,s_in_last_a2,s_in_last_a3⟩,s_in_max⟩,⟨s_errs_a0,s_errs_a1,s_errs_a2,s_errs_a3⟩,⟨⟨s_w_c_cap,s_w_c_l⟩,s_w_ready,s_w_shown⟩,⟨s_p_next,s_p_snaps⟩⟩:Side).w f_adds f_gone).1.shown).1)(hk4:0≤f_kind∧f_kind<4) :
  CallR Tryz.prog 43 [.agg [.int .i64 s_epoch,.int .i64 s_turn,.bool s_up,.int .i64 s_in_last_a0,.int .i64 s_in_last_a1,.int .i64 s_in_last_a2,.int .i64 s_in_last_a3,.int .i64 s_in_max,.int .i64 s_errs_a0,.int .i64 s_errs_a1,.int .i64 s_errs_a2,.int .i64 s_errs_a3,.int .i64 s_w_c_cap,.slice false (Ja s_w_c_l),.bool s_w_ready,.slice false (Ja s_w_shown),.int .i64 s_p_next,.slice false (Ja s_p_snaps)],.agg [.int .i64 f_type,.int .i64 f_epoch,.int .i64 f_kind,.int .i64 f_nonce,.int .i64 f_turn,.slice false (Ja f_adds),.slice false (Ja f_gone),.int .i64 f_err,.slice false (Ja f_have),.slice false (Ja f_held)]] (.val (.tup [.agg [.int .i64 (Jz (⟨s_epoch,s_turn,s_up,⟨⟨s_in_last_a0,s_in_last_a1,s_in_last_a2,s_in_last_a3⟩,s_in_max⟩,⟨s_errs_a0,s_errs_a1,s_errs_a2,s_errs_a3⟩,⟨⟨s_w_c_cap,s_w_c_l⟩,s_w_ready,s_w_shown⟩,⟨s_p_next,s_p_snaps⟩⟩:Side) (⟨f_type,f_epoch,f_kind,f_nonce,f_turn,f_adds,f_gone,f_err,f_have,f_held⟩:Frame)).1.epoch,.int .i64 (Jz (⟨s_epoch,s_turn,s_up,⟨⟨s_in_last_a0,s_in_last_a1,s_in_last_a2,s_in_last_a3⟩,s_in_max⟩,⟨s_errs_a0,s_errs_a1,s_errs_a2,s_errs_a3⟩,⟨⟨s_w_c_cap,s_w_c_l⟩,s_w_ready,s_w_shown⟩,⟨s_p_next,s_p_snaps⟩⟩:Side) (⟨f_type,f_epoch,f_kind,f_nonce,f_turn,f_adds,f_gone,f_err,f_have,f_held⟩:Frame)).1.turn,.bool (Jz (⟨s_epoch,s_turn,s_up,⟨⟨s_in_last_a0,s_in_last_a1,s_in_last_a2,s_in_last_a3⟩,s_in_max⟩,⟨s_errs_a0,s_errs_a1,s_errs_a2,s_errs_a3⟩,⟨⟨s_w_c_cap,s_w_c_l⟩,s_w_ready,s_w_shown⟩,⟨s_p_next,s_p_snaps⟩⟩:Side) (⟨f_type,f_epoch,f_kind,f_nonce,f_turn,f_adds,f_gone,f_err,f_have,f_held⟩:Frame)).1.up,.int .i64 (Jz (⟨s_epoch,s_turn,s_up,⟨⟨s_in_last_a0,s_in_last_a1,s_in_last_a2,s_in_last_a3⟩,s_in_max⟩,⟨s_errs_a0,s_errs_a1,s_errs_a2,s_errs_a3⟩,⟨⟨s_w_c_cap,s_w_c_l⟩,s_w_ready,s_w_shown⟩,⟨s_p_next,s_p_snaps⟩⟩:Side) (⟨f_type,f_epoch,f_kind,f_nonce,f_turn,f_adds,f_gone,f_err,f_have,f_held⟩:Frame)).1.in'.last.a0,.int .i64 (Jz (⟨s_epoch,s_turn,s_up,⟨⟨s_in_last_a0,s_in_last_a1,s_in_last_a2,s_in_last_a3⟩,s_in_max⟩,⟨s_errs_a0,s_errs_a1,s_errs_a2,s_errs_a3⟩,⟨⟨s_w_c_cap,s_w_c_l⟩,s_w_ready,s_w_shown⟩,⟨s_p_next,s_p_snaps⟩⟩:Side) (⟨f_type,f_epoch,f_kind,f_nonce,f_turn,f_adds,f_gone,f_err,f_have,f_held⟩:Frame)).1.in'.last.a1,.int .i64 (Jz (⟨s_epoch,s_turn,s_up,⟨⟨s_in_last_a0,s_in_last_a1,s_in_last_a2,s_in_last_a3⟩,s_in_max⟩,⟨s_errs_a0,s_errs_a1,s_errs_a2,s_errs_a3⟩,⟨⟨s_w_c_cap,s_w_c_l⟩,s_w_ready,s_w_shown⟩,⟨s_p_next,s_p_snaps⟩⟩:Side) (⟨f_type,f_epoch,f_kind,f_nonce,f_turn,f_adds,f_gone,f_err,f_have,f_held⟩:Frame)).1.in'.last.a2,.int .i64 (Jz (⟨s_epoch,s_turn,s_up,⟨⟨s_in_last_a0,s_in_last_a1,s_in_last_a2,s_in_last_a3⟩,s_in_max⟩,⟨s_errs_a0,s_errs_a1,s_errs_a2,s_errs_a3⟩,⟨⟨s_w_c_cap,s_w_c_l⟩,s_w_ready,s_w_shown⟩,⟨s_p_next,s_p_snaps⟩⟩:Side) (⟨f_type,f_epoch,f_kind,f_nonce,f_turn,f_adds,f_gone,f_err,f_have,f_held⟩:Frame)).1.in'.last.a3,.int .i64 (Jz (⟨s_epoch,s_turn,s_up,⟨⟨s_in_last_a0,s_in_last_a1,s_in_last_a2,s_in_last_a3⟩,s_in_max⟩,⟨s_errs_a0,s_errs_a1,s_errs_a2,s_errs_a3⟩,⟨⟨s_w_c_cap,s_w_c_l⟩,s_w_ready,s_w_shown⟩,⟨s_p_next,s_p_snaps⟩⟩:Side) (⟨f_type,f_epoch,f_kind,f_nonce,f_turn,f_adds,f_gone,f_err,f_have,f_held⟩:Frame)).1.in'.max,.int .i64 (Jz (⟨s_epoch,s_turn,s_up,⟨⟨s_in_last_a0,s_in_last_a1,s_in_last_a2,s_in_last_a3⟩,s_in_max⟩,⟨s_errs_a0,s_errs_a1,s_errs_a2,s_errs_a3⟩,⟨⟨s_w_c_cap,s_w_c_l⟩,s_w_ready,s_w_shown⟩,⟨s_p_next,s_p_snaps⟩⟩:Side) (⟨f_type,f_epoch,f_kind,f_nonce,f_turn,f_adds,f_gone,f_err,f_have,f_held⟩:Frame)).1.errs.a0,.int .i64 (Jz (⟨s_epoch,s_turn,s_up,⟨⟨s_in_last_a0,s_in_last_a1,s_in_last_a2,s_in_last_a3⟩,s_in_max⟩,⟨s_errs_a0,s_errs_a1,s_errs_a2,s_errs_a3⟩,⟨⟨s_w_c_cap,s_w_c_l⟩,s_w_ready,s_w_shown⟩,⟨s_p_next,s_p_snaps⟩⟩:Side) (⟨f_type,f_epoch,f_kind,f_nonce,f_turn,f_adds,f_gone,f_err,f_have,f_held⟩:Frame)).1.errs.a1,.int .i64 (Jz (⟨s_epoch,s_turn,s_up,⟨⟨s_in_last_a0,s_in_last_a1,s_in_last_a2,s_in_last_a3⟩,s_in_max⟩,⟨s_errs_a0,s_errs_a1,s_errs_a2,s_errs_a3⟩,⟨⟨s_w_c_cap,s_w_c_l⟩,s_w_ready,s_w_shown⟩,⟨s_p_next,s_p_snaps⟩⟩:Side) (⟨f_type,f_epoch,f_kind,f_nonce,f_turn,f_adds,f_gone,f_err,f_have,f_held⟩:Frame)).1.errs.a2,.int .i64 (Jz (⟨s_epoch,s_turn,s_up,⟨⟨s_in_last_a0,s_in_last_a1,s_in_last_a2,s_in_last_a3⟩,s_in_max⟩,⟨s_errs_a0,s_errs_a1,s_errs_a2,s_errs_a3⟩,⟨⟨s_w_c_cap,s_w_c_l⟩,s_w_ready,s_w_shown⟩,⟨s_p_next,s_p_snaps⟩⟩:Side) (⟨f_type,f_epoch,f_kind,f_nonce,f_turn,f_adds,f_gone,f_err,f_have,f_held⟩:Frame)).1.errs.a3,.int .i64 (Jz (⟨s_epoch,s_turn,s_up,⟨⟨s_in_last_a0,s_in_last_a1,s_in_last_a2,s_in_last_a3⟩,s_in_max⟩,⟨s_errs_a0,s_errs_a1,s_errs_a2,s_errs_a3⟩,⟨⟨s_w_c_cap,s_w_c_l⟩,s_w_ready,s_w_shown⟩,⟨s_p_next,s_p_snaps⟩⟩:Side) (⟨f_type,f_epoch,f_kind,f_nonce,f_turn,f_adds,f_gone,f_err,f_have,f_held⟩:Frame)).1.w.c.cap,.slice false (Ja (Jz (⟨s_epoch,s_turn,s_up,⟨⟨s_in_last_a0,s_in_last_a1,s_in_last_a2,s_in_last_a3⟩,s_in_max⟩,⟨s_errs_a0,s_errs_a1,s_errs_a2,s_errs_a3⟩,⟨⟨s_w_c_cap,s_w_c_l⟩,s_w_ready,s_w_shown⟩,⟨s_p_next,s_p_snaps⟩⟩:Side) (⟨f_type,f_epoch,f_kind,f_nonce,f_turn,f_adds,f_gone,f_err,f_have,f_held⟩:Frame)).1.w.c.l),.bool (Jz (⟨s_epoch,s_turn,s_up,⟨⟨s_in_last_a0,s_in_last_a1,s_in_last_a2,s_in_last_a3⟩,s_in_max⟩,⟨s_errs_a0,s_errs_a1,s_errs_a2,s_errs_a3⟩,⟨⟨s_w_c_cap,s_w_c_l⟩,s_w_ready,s_w_shown⟩,⟨s_p_next,s_p_snaps⟩⟩:Side) (⟨f_type,f_epoch,f_kind,f_nonce,f_turn,f_adds,f_gone,f_err,f_have,f_held⟩:Frame)).1.w.ready,.slice false (Ja (Jz (⟨s_epoch,s_turn,s_up,⟨⟨s_in_last_a0,s_in_last_a1,s_in_last_a2,s_in_last_a3⟩,s_in_max⟩,⟨s_errs_a0,s_errs_a1,s_errs_a2,s_errs_a3⟩,⟨⟨s_w_c_cap,s_w_c_l⟩,s_w_ready,s_w_shown⟩,⟨s_p_next,s_p_snaps⟩⟩:Side) (⟨f_type,f_epoch,f_kind,f_nonce,f_turn,f_adds,f_gone,f_err,f_have,f_held⟩:Frame)).1.w.shown),.int .i64 (Jz (⟨s_epoch,s_turn,s_up,⟨⟨s_in_last_a0,s_in_last_a1,s_in_last_a2,s_in_last_a3⟩,s_in_max⟩,⟨s_errs_a0,s_errs_a1,s_errs_a2,s_errs_a3⟩,⟨⟨s_w_c_cap,s_w_c_l⟩,s_w_ready,s_w_shown⟩,⟨s_p_next,s_p_snaps⟩⟩:Side) (⟨f_type,f_epoch,f_kind,f_nonce,f_turn,f_adds,f_gone,f_err,f_have,f_held⟩:Frame)).1.p.next',.slice false (Ja (Jz (⟨s_epoch,s_turn,s_up,⟨⟨s_in_last_a0,s_in_last_a1,s_in_last_a2,s_in_last_a3⟩,s_in_max⟩,⟨s_errs_a0,s_errs_a1,s_errs_a2,s_errs_a3⟩,⟨⟨s_w_c_cap,s_w_c_l⟩,s_w_ready,s_w_shown⟩,⟨s_p_next,s_p_snaps⟩⟩:Side) (⟨f_type,f_epoch,f_kind,f_nonce,f_turn,f_adds,f_gone,f_err,f_have,f_held⟩:Frame)).1.p.snaps)],.int .i64 (Jz (⟨s_epoch,s_turn,s_up,⟨⟨s_in_last_a0,s_in_last_a1,s_in_last_a2,s_in_last_a3⟩,s_in_max⟩,⟨s_errs_a0,s_errs_a1,s_errs_a2,s_errs_a3⟩,⟨⟨s_w_c_cap,s_w_c_l⟩,s_w_ready,s_w_shown⟩,⟨s_p_next,s_p_snaps⟩⟩:Side) (⟨f_type,f_epoch,f_kind,f_nonce,f_turn,f_adds,f_gone,f_err,f_have,f_held⟩:Frame)).2])):=by
 have w1:=Joq s_w_c_cap s_w_c_l s_w_ready s_w_shown f_adds f_gone hl h.w.1.2 h.w.2.1 h.w.2.2 hf.2.2.1 hf.2.1
 have hp:=h.p
 clear h hf hl
 unfold Jz
 simp only at w1 hq hp ⊢
 generalize JW ⟨⟨s_w_c_cap,s_w_c_l⟩,s_w_ready,s_w_shown⟩ f_adds f_gone=r at *
 obtain⟨w,ch,why⟩:=r
 simp only at w1 hq ⊢
 cases ch
 ·have w2:=trivial
  have w3:=Jbl s_p_next s_p_snaps hp
  clear hp hq
  cases hr:Y8 ⟨s_p_next,s_p_snaps⟩<;>rw[hr] at w3<;>rcases(show f_kind=0∨f_kind=1∨f_kind=2∨f_kind=3 by omega) with rfl|rfl|rfl|rfl
  all_goals (simp only[hr,Bool.false_eq_true,↓reduceIte];clear hk4 hr)
  all_goals
   refine CallR.go2 (T:=T) Tryz.call43 Tryz.func43 rfl Tryz.ntmps43 (congrArg Array.toList Tryz.results43) (by decide) fun ts hn h0 h1=>?_
   (repeat' (first
 | (with_reducible first|refine callX.by (w1) ?_|refine callX.by (w2) ?_|refine callX.by (w3) ?_|refine callX.by awc1 ?_|refine callX.by awc3 ?_|refine callX.by (Jen _ _ _ ?_) ?_|refine callX.by (Jbl _ _ ?_) ?_|assumption|(refine Qw hK _ ?_;clear hK K)|refine Qw ‹_› _ ?_|refine Qx ‹_› ?_|refine Qi fun K hK=>?_|refine Qj T fun K hK=>?_|refine SpecC.drawI (id:=11) T mixed 2 [([49],[51,52,53,54,2,55,56]),([50],[51,52,53,54,2,55,56]),([51],[49,50,52,53,56]),([52],[49,50,51,53,54,2,56]),([53],[49,50,51,52,54,2,55,56]),([54],[49,50,52,53,56]),([2],[49,50,52,53,56]),([55],[49,50,53,56]),([2],[49,50,53,56]),([56],[49,50,51,52,53,54,2,55])] (by kernel_rfl) fun K hK=>?_|refine Ql fun A B hA hB=>?_|refine Qn ?_|refine Qr ?_)
 | ((with_reducible first|apply Qy|apply Qz|apply QA)<;>intro hb<;>try simp only[nr] at hb)
 |simp only[go_sem,↓reduceIte,reduceIte,Qa,Qh,Qb,Qc,Qd,Qe,Qf,Qg,reduceCtorEq, *,-w1,-w2,-w3,YB,YK,YQ,YW]
 |with_reducible refine fun(bn:Bool) hbn=>?_))
  all_goals (repeat' (first|rfl|apply And.intro))
 ·have w2:=Jen s_p_next s_p_snaps w.shown hp.n
  generalize Vh ⟨s_p_next,s_p_snaps⟩ w.shown=q at *
  obtain⟨q,id,e⟩:=q
  simp only at w2 hq ⊢
  have w3:=Jbl q.next' q.snaps hq
  have eq:(⟨q.next',q.snaps⟩:Pins)=q:=rfl
  rw[eq] at w3
  clear hp hq eq
  by_cases he:e=0
  ·subst he
   cases hr:Y8 q<;>rw[hr] at w3<;>rcases(show f_kind=0∨f_kind=1∨f_kind=2∨f_kind=3 by omega) with rfl|rfl|rfl|rfl
   all_goals (simp only[hr,Bool.false_eq_true,↓reduceIte];clear hk4 hr)
   all_goals
    refine CallR.go2 (T:=T) Tryz.call43 Tryz.func43 rfl Tryz.ntmps43 (congrArg Array.toList Tryz.results43) (by decide) fun ts hn h0 h1=>?_
    (repeat' (first
 | (with_reducible first|refine callX.by (w1) ?_|refine callX.by (w2) ?_|refine callX.by (w3) ?_|refine callX.by awc1 ?_|refine callX.by awc3 ?_|refine callX.by (Jen _ _ _ ?_) ?_|refine callX.by (Jbl _ _ ?_) ?_|assumption|(refine Qw hK _ ?_;clear hK K)|refine Qw ‹_› _ ?_|refine Qx ‹_› ?_|refine Qi fun K hK=>?_|refine Qj T fun K hK=>?_|refine SpecC.drawI (id:=11) T mixed 2 [([49],[51,52,53,54,2,55,56]),([50],[51,52,53,54,2,55,56]),([51],[49,50,52,53,56]),([52],[49,50,51,53,54,2,56]),([53],[49,50,51,52,54,2,55,56]),([54],[49,50,52,53,56]),([2],[49,50,52,53,56]),([55],[49,50,53,56]),([2],[49,50,53,56]),([56],[49,50,51,52,53,54,2,55])] (by kernel_rfl) fun K hK=>?_|refine Ql fun A B hA hB=>?_|refine Qn ?_|refine Qr ?_)
 | ((with_reducible first|apply Qy|apply Qz|apply QA)<;>intro hb<;>try simp only[nr] at hb)
 |simp only[go_sem,↓reduceIte,reduceIte,Qa,Qh,Qb,Qc,Qd,Qe,Qf,Qg,reduceCtorEq, *,-w1,-w2,-w3,YB,YK,YQ,YW]
 |with_reducible refine fun(bn:Bool) hbn=>?_))
   all_goals (repeat' (first|rfl|apply And.intro))
  ·simp only[he,↓reduceIte]
   clear hk4
   refine CallR.go2 (T:=T) Tryz.call43 Tryz.func43 rfl Tryz.ntmps43 (congrArg Array.toList Tryz.results43) (by decide) fun ts hn h0 h1=>?_
   (repeat' (first
 | (with_reducible first|refine callX.by (w1) ?_|refine callX.by (w2) ?_|refine callX.by (w3) ?_|refine callX.by awc1 ?_|refine callX.by awc3 ?_|refine callX.by (Jen _ _ _ ?_) ?_|refine callX.by (Jbl _ _ ?_) ?_|assumption|(refine Qw hK _ ?_;clear hK K)|refine Qw ‹_› _ ?_|refine Qx ‹_› ?_|refine Qi fun K hK=>?_|refine Qj T fun K hK=>?_|refine SpecC.drawI (id:=11) T mixed 2 [([49],[51,52,53,54,2,55,56]),([50],[51,52,53,54,2,55,56]),([51],[49,50,52,53,56]),([52],[49,50,51,53,54,2,56]),([53],[49,50,51,52,54,2,55,56]),([54],[49,50,52,53,56]),([2],[49,50,52,53,56]),([55],[49,50,53,56]),([2],[49,50,53,56]),([56],[49,50,51,52,53,54,2,55])] (by kernel_rfl) fun K hK=>?_|refine Ql fun A B hA hB=>?_|refine Qn ?_|refine Qr ?_)
 | ((with_reducible first|apply Qy|apply Qz|apply QA)<;>intro hb<;>try simp only[nr] at hb)
 |simp only[go_sem,↓reduceIte,reduceIte,Qa,Qh,Qb,Qc,Qd,Qe,Qf,Qg,reduceCtorEq, *,-w1,-w2,-w3,YB,YK,YQ,YW]
 |with_reducible refine fun(bn:Bool) hbn=>?_))
   all_goals (repeat' (first|rfl|apply And.intro))
@[go_sem] def Je7:List (List Nat×List Nat):=[([50],[51,52,53]),([51],[50,52,4]),([52],[50,51,4]),([53],[50,4]),([4],[51,52,53])]
theorem fin_iff{n m:Int}:Jw n m=true↔0≤n∧n≤m:=by simp[Jw]
theorem saneS_iff{s:Side}:Vi s=true↔(0≤s.epoch∧s.epoch≤2147483647)∧(0≤s.turn∧s.turn≤2147483647)∧ZL s.errs=true∧Yp s.in'=true∧Vp s.w=true∧ZP s.p=true∧Y8 s.p=true∧Jaq s=true:=by
 unfold Vi
 simp only[Bool.and_eq_true,fin_iff,and_assoc]
theorem Jf3:Jr ⟨0,[]⟩=⟨0,[]⟩:=by rcases Jf4 ⟨0,[]⟩ with h|h<;>exact h
theorem Jd1:Vk ⟨0,[]⟩=[]:=by
 unfold Vk
 rw[Jf3]
 simp[J2,JK,VK,Ve]
theorem JfM(a b:Int):Vi (Jk a b)=true:=by
 rw[saneS_iff]
 refine⟨by simp[Jk],by simp[Jk],(by decide:ZL z4=true),?_,JiG a,(by decide:ZP ⟨0,[]⟩=true),?_,by simp only[Jk,Jaq,JY,Jf3];decide⟩
 ·have h1:1≤JS b∧JS b≤2147483647:=by unfold JS;omega
  have h2:JS (JS b)=JS b:=by unfold JS;omega
  have h3:VM (JS b) 0=0:=by unfold VM;omega
  simp only[Jk,Yp,Jgz,JgA,JgB,JgC,h2,h3,decide_true,Bool.and_self]
 ·show Y8 ⟨0,[]⟩=true
  unfold Y8
  rw[Jd1]
  decide
theorem Jco(s:Side):Vi (JC s)=true:=by
 unfold JC
 split
 ·assumption
 ·exact JfM _ _
def JD(s:Side)(n:Int):Side×List Frame×Int :=
 let b:=JC s
 if n≤b.epoch∨2147483647<n then (b,[],11)
 else if b.turn=2147483647 then (b,[],14)
 else ({ b with epoch:=n,up:=true,in':=⟨z4,JS b.in'.max⟩,errs:=z4,turn:=b.turn+1 },[⟨0,n,0,0,0,[],[],0,Jd8 b.w.c.l,[]⟩,⟨3,n,0,0,b.turn+1,[],[],0,[],Vk b.p⟩],0)
set_option maxHeartbeats 16000000 in
theorem YM(s_epoch:Int)(s_turn:Int)(s_up:Bool)(s_in_last_a0:Int)(s_in_last_a1:Int)(s_in_last_a2:Int)(s_in_last_a3:Int)(s_in_max:Int)(s_errs_a0:Int)(s_errs_a1:Int)(s_errs_a2:Int)(s_errs_a3:Int)(s_w_c_cap:Int)(s_w_c_l:List Res)(s_w_ready:Bool)(s_w_shown:List Res)(s_p_next:Int)(s_p_snaps:List Snap)(n:Int)(h:SzS (⟨s_epoch,s_turn,s_up,⟨⟨s_in_last_a0,s_in_last_a1,s_in_last_a2,s_in_last_a3⟩,s_in_max⟩,⟨s_errs_a0,s_errs_a1,s_errs_a2,s_errs_a3⟩,⟨⟨s_w_c_cap,s_w_c_l⟩,s_w_ready,s_w_shown⟩,⟨s_p_next,s_p_snaps⟩⟩:Side)):CallR Tryz.prog 17 [.agg [.int .i64 s_epoch,.int .i64 s_turn,.bool s_up,.int .i64 s_in_last_a0,.int .i64 s_in_last_a1,.int .i64 s_in_last_a2,.int .i64 s_in_last_a3,.int .i64 s_in_max,.int .i64 s_errs_a0,.int .i64 s_errs_a1,.int .i64 s_errs_a2,.int .i64 s_errs_a3,.int .i64 s_w_c_cap,.slice false (Ja s_w_c_l),.bool s_w_ready,.slice false (Ja s_w_shown),.int .i64 s_p_next,.slice false (Ja s_p_snaps)],.int .i64 n] (.val (.tup [.agg [.int .i64 (JD (⟨s_epoch,s_turn,s_up,⟨⟨s_in_last_a0,s_in_last_a1,s_in_last_a2,s_in_last_a3⟩,s_in_max⟩,⟨s_errs_a0,s_errs_a1,s_errs_a2,s_errs_a3⟩,⟨⟨s_w_c_cap,s_w_c_l⟩,s_w_ready,s_w_shown⟩,⟨s_p_next,s_p_snaps⟩⟩:Side) n).1.epoch,.int .i64 (JD (⟨s_epoch,s_turn,s_up,⟨⟨s_in_last_a0,s_in_last_a1,s_in_last_a2,s_in_last_a3⟩,s_in_max⟩,⟨s_errs_a0,s_errs_a1,s_errs_a2,s_errs_a3⟩,⟨⟨s_w_c_cap,s_w_c_l⟩,s_w_ready,s_w_shown⟩,⟨s_p_next,s_p_snaps⟩⟩:Side) n).1.turn,.bool (JD (⟨s_epoch,s_turn,s_up,⟨⟨s_in_last_a0,s_in_last_a1,s_in_last_a2,s_in_last_a3⟩,s_in_max⟩,⟨s_errs_a0,s_errs_a1,s_errs_a2,s_errs_a3⟩,⟨⟨s_w_c_cap,s_w_c_l⟩,s_w_ready,s_w_shown⟩,⟨s_p_next,s_p_snaps⟩⟩:Side) n).1.up,.int .i64 (JD (⟨s_epoch,s_turn,s_up,⟨⟨s_in_last_a0,s_in_last_a1,s_in_last_a2,s_in_last_a3⟩,s_in_max⟩,⟨s_errs_a0,s_errs_a1,s_errs_a2,s_errs_a3⟩,⟨⟨s_w_c_cap,s_w_c_l⟩,s_w_ready,s_w_shown⟩,⟨s_p_next,s_p_snaps⟩⟩:Side) n).1.in'.last.a0,.int .i64 (JD (⟨s_epoch,s_turn,s_up,⟨⟨s_in_last_a0,s_in_last_a1,s_in_last_a2,s_in_last_a3⟩,s_in_max⟩,⟨s_errs_a0,s_errs_a1,s_errs_a2,s_errs_a3⟩,⟨⟨s_w_c_cap,s_w_c_l⟩,s_w_ready,s_w_shown⟩,⟨s_p_next,s_p_snaps⟩⟩:Side) n).1.in'.last.a1,.int .i64 (JD (⟨s_epoch,s_turn,s_up,⟨⟨s_in_last_a0,s_in_last_a1,s_in_last_a2,s_in_last_a3⟩,s_in_max⟩,⟨s_errs_a0,s_errs_a1,s_errs_a2,s_errs_a3⟩,⟨⟨s_w_c_cap,s_w_c_l⟩,s_w_ready,s_w_shown⟩,⟨s_p_next,s_p_snaps⟩⟩:Side) n).1.in'.last.a2,.int .i64 (JD (⟨s_epoch,s_turn,s_up,⟨⟨s_in_last_a0,s_in_last_a1,s_in_last_a2,s_in_last_a3⟩,s_in_max⟩,⟨s_errs_a0,s_errs_a1,s_errs_a2,s_errs_a3⟩,⟨⟨s_w_c_cap,s_w_c_l⟩,s_w_ready,s_w_shown⟩,⟨s_p_next,s_p_snaps⟩⟩:Side) n).1.in'.last.a3,.int .i64 (JD (⟨s_epoch,s_turn,s_up,⟨⟨s_in_last_a0,s_in_last_a1,s_in_last_a2,s_in_last_a3⟩,s_in_max⟩,⟨s_errs_a0,s_errs_a1,s_errs_a2,s_errs_a3⟩,⟨⟨s_w_c_cap,s_w_c_l⟩,s_w_ready,s_w_shown⟩,⟨s_p_next,s_p_snaps⟩⟩:Side) n).1.in'.max,.int .i64 (JD (⟨s_epoch,s_turn,s_up,⟨⟨s_in_last_a0,s_in_last_a1,s_in_last_a2,s_in_last_a3⟩,s_in_max⟩,⟨s_errs_a0,s_errs_a1,s_errs_a2,s_errs_a3⟩,⟨⟨s_w_c_cap,s_w_c_l⟩,s_w_ready,s_w_shown⟩,⟨s_p_next,s_p_snaps⟩⟩:Side) n).1.errs.a0,.int .i64 (JD (⟨s_epoch,s_turn,s_up,⟨⟨s_in_last_a0,s_in_last_a1,s_in_last_a2,s_in_last_a3⟩,s_in_max⟩,⟨s_errs_a0,s_errs_a1,s_errs_a2,s_errs_a3⟩,⟨⟨s_w_c_cap,s_w_c_l⟩,s_w_ready,s_w_shown⟩,⟨s_p_next,s_p_snaps⟩⟩:Side) n).1.errs.a1,.int .i64 (JD (⟨s_epoch,s_turn,s_up,⟨⟨s_in_last_a0,s_in_last_a1,s_in_last_a2,s_in_last_a3⟩,s_in_max⟩,⟨s_errs_a0,s_errs_a1,s_errs_a2,s_errs_a3⟩,⟨⟨s_w_c_cap,s_w_c_l⟩,s_w_ready,s_w_shown⟩,⟨s_p_next,s_p_snaps⟩⟩:Side) n).1.errs.a2,.int .i64 (JD (⟨s_epoch,s_turn,s_up,⟨⟨s_in_last_a0,s_in_last_a1,s_in_last_a2,s_in_last_a3⟩,s_in_max⟩,⟨s_errs_a0,s_errs_a1,s_errs_a2,s_errs_a3⟩,⟨⟨s_w_c_cap,s_w_c_l⟩,s_w_ready,s_w_shown⟩,⟨s_p_next,s_p_snaps⟩⟩:Side) n).1.errs.a3,.int .i64 (JD (⟨s_epoch,s_turn,s_up,⟨⟨s_in_last_a0,s_in_last_a1,s_in_last_a2,s_in_last_a3⟩,s_in_max⟩,⟨s_errs_a0,s_errs_a1,s_errs_a2,s_errs_a3⟩,⟨⟨s_w_c_cap,s_w_c_l⟩,s_w_ready,s_w_shown⟩,⟨s_p_next,s_p_snaps⟩⟩:Side) n).1.w.c.cap,.slice false (Ja (JD (⟨s_epoch,s_turn,s_up,⟨⟨s_in_last_a0,s_in_last_a1,s_in_last_a2,s_in_last_a3⟩,s_in_max⟩,⟨s_errs_a0,s_errs_a1,s_errs_a2,s_errs_a3⟩,⟨⟨s_w_c_cap,s_w_c_l⟩,s_w_ready,s_w_shown⟩,⟨s_p_next,s_p_snaps⟩⟩:Side) n).1.w.c.l),.bool (JD (⟨s_epoch,s_turn,s_up,⟨⟨s_in_last_a0,s_in_last_a1,s_in_last_a2,s_in_last_a3⟩,s_in_max⟩,⟨s_errs_a0,s_errs_a1,s_errs_a2,s_errs_a3⟩,⟨⟨s_w_c_cap,s_w_c_l⟩,s_w_ready,s_w_shown⟩,⟨s_p_next,s_p_snaps⟩⟩:Side) n).1.w.ready,.slice false (Ja (JD (⟨s_epoch,s_turn,s_up,⟨⟨s_in_last_a0,s_in_last_a1,s_in_last_a2,s_in_last_a3⟩,s_in_max⟩,⟨s_errs_a0,s_errs_a1,s_errs_a2,s_errs_a3⟩,⟨⟨s_w_c_cap,s_w_c_l⟩,s_w_ready,s_w_shown⟩,⟨s_p_next,s_p_snaps⟩⟩:Side) n).1.w.shown),.int .i64 (JD (⟨s_epoch,s_turn,s_up,⟨⟨s_in_last_a0,s_in_last_a1,s_in_last_a2,s_in_last_a3⟩,s_in_max⟩,⟨s_errs_a0,s_errs_a1,s_errs_a2,s_errs_a3⟩,⟨⟨s_w_c_cap,s_w_c_l⟩,s_w_ready,s_w_shown⟩,⟨s_p_next,s_p_snaps⟩⟩:Side) n).1.p.next',.slice false (Ja (JD (⟨s_epoch,s_turn,s_up,⟨⟨s_in_last_a0,s_in_last_a1,s_in_last_a2,s_in_last_a3⟩,s_in_max⟩,⟨s_errs_a0,s_errs_a1,s_errs_a2,s_errs_a3⟩,⟨⟨s_w_c_cap,s_w_c_l⟩,s_w_ready,s_w_shown⟩,⟨s_p_next,s_p_snaps⟩⟩:Side) n).1.p.snaps)],.slice false (Ja (JD (⟨s_epoch,s_turn,s_up,⟨⟨s_in_last_a0,s_in_last_a1,s_in_last_a2,s_in_last_a3⟩,s_in_max⟩,⟨s_errs_a0,s_errs_a1,s_errs_a2,s_errs_a3⟩,⟨⟨s_w_c_cap,s_w_c_l⟩,s_w_ready,s_w_shown⟩,⟨s_p_next,s_p_snaps⟩⟩:Side) n).2.1),.int .i64 (JD (⟨s_epoch,s_turn,s_up,⟨⟨s_in_last_a0,s_in_last_a1,s_in_last_a2,s_in_last_a3⟩,s_in_max⟩,⟨s_errs_a0,s_errs_a1,s_errs_a2,s_errs_a3⟩,⟨⟨s_w_c_cap,s_w_c_l⟩,s_w_ready,s_w_shown⟩,⟨s_p_next,s_p_snaps⟩⟩:Side) n).2.2])):=by
 have w1:=Ys s_epoch s_turn s_up s_in_last_a0 s_in_last_a1 s_in_last_a2 s_in_last_a3 s_in_max s_errs_a0 s_errs_a1 s_errs_a2 s_errs_a3 s_w_c_cap s_w_c_l s_w_ready s_w_shown s_p_next s_p_snaps h
 have hz:=JeH h
 have hr:=(saneS_iff.1 (Jco (⟨s_epoch,s_turn,s_up,⟨⟨s_in_last_a0,s_in_last_a1,s_in_last_a2,s_in_last_a3⟩,s_in_max⟩,⟨s_errs_a0,s_errs_a1,s_errs_a2,s_errs_a3⟩,⟨⟨s_w_c_cap,s_w_c_l⟩,s_w_ready,s_w_shown⟩,⟨s_p_next,s_p_snaps⟩⟩:Side))).2.1
 unfold JD
 clear h
 generalize JC (⟨s_epoch,s_turn,s_up,⟨⟨s_in_last_a0,s_in_last_a1,s_in_last_a2,s_in_last_a3⟩,s_in_max⟩,⟨s_errs_a0,s_errs_a1,s_errs_a2,s_errs_a3⟩,⟨⟨s_w_c_cap,s_w_c_l⟩,s_w_ready,s_w_shown⟩,⟨s_p_next,s_p_snaps⟩⟩:Side)=b at *
 simp only
 have w2:=ZD b.epoch b.turn b.up b.in'.last.a0 b.in'.last.a1 b.in'.last.a2 b.in'.last.a3 b.in'.max b.errs.a0 b.errs.a1 b.errs.a2 b.errs.a3 b.w.c.cap b.w.c.l b.w.ready b.w.shown b.p.next' b.p.snaps
 have w3:=JbP b.in'.max
 have w4:=(Jd9 b.w.c.l (by have:=hz.c;unfold Jc;omega)).frz
 have w5:CallR Tryz.prog 54 [.agg [.int .i64 (n),.int .i64 (b.turn),.bool (true),.int .i64 (0),.int .i64 (0),.int .i64 (0),.int .i64 (0),.int .i64 (JS b.in'.max),.int .i64 (0),.int .i64 (0),.int .i64 (0),.int .i64 (0),.int .i64 (b.w.c.cap),.slice false (Ja (b.w.c.l)),.bool (b.w.ready),.slice false (Ja (b.w.shown)),.int .i64 (b.p.next'),.slice false (Ja (b.p.snaps))],.agg [.int .i64 3,.int .i64 n,.int .i64 0,.int .i64 0,.int .i64 0,.slice false [],.slice false [],.int .i64 0,.slice false [],.slice false []]]
  (.val (.tup [.agg [.int .i64 (n),.int .i64 (b.turn+1),.bool (true),.int .i64 (0),.int .i64 (0),.int .i64 (0),.int .i64 (0),.int .i64 (JS b.in'.max),.int .i64 (0),.int .i64 (0),.int .i64 (0),.int .i64 (0),.int .i64 (b.w.c.cap),.slice false (Ja (b.w.c.l)),.bool (b.w.ready),.slice false (Ja (b.w.shown)),.int .i64 (b.p.next'),.slice false (Ja (b.p.snaps))],.agg [.int .i64 3,.int .i64 n,.int .i64 0,.int .i64 0,.int .i64 (b.turn+1),.slice false [],.slice false [],.int .i64 0,.slice false [],.slice false (Ja (Vk b.p))]])) :=
  Jcs n b.turn true 0 0 0 0 (JS b.in'.max) 0 0 0 0 b.w.c.cap b.w.c.l b.w.ready b.w.shown b.p.next' b.p.snaps 3 n 0 0 0 [] [] 0 [] [] hz.p hr
 clear hz hr
 by_cases ha:n≤b.epoch
 rotate_left
 ·by_cases hc:2147483647<n
  rotate_left
  ·by_cases h2:b.turn=2147483647
   all_goals
    simp only[ha,hc,h2,or_self,↓reduceIte]
    refine CallR.go2 (T:=T.withF [53]) Tryz.call17 Tryz.func17 rfl Tryz.ntmps17 (congrArg Array.toList Tryz.results17) (by decide) fun ts hn h0 h1=>?_
    (repeat' (first
 | (with_reducible first|refine callX.by (w1) ?_|refine callX.by (w2) ?_|refine callX.by (w3) ?_|refine callX.by (w4) ?_|refine callX.by (w5) ?_|refine callX.by (Ys _ _ _ _ _ _ _ _ _ _ _ _ _ _ _ _ _ _ ?_) ?_|refine callX.by (ZD _ _ _ _ _ _ _ _ _ _ _ _ _ _ _ _ _ _) ?_|refine callX.by (JbP _) ?_|refine callX.by (Jd9 _ ?_) ?_|refine callX.by (Jcs _ _ _ _ _ _ _ _ _ _ _ _ _ _ _ _ _ _ _ _ _ _ _ _ _ _ _ _ ?_ ?_) ?_|assumption|(refine Qw hK _ ?_;clear hK K)|refine Qw ‹_› _ ?_|refine Qx ‹_› ?_|refine Qi fun K hK=>?_|refine Qj (T.withF [53]) fun K hK=>?_|refine Qk (id:=9) (T.withF [53]) mixed Je7 (by kernel_rfl) fun K hK=>?_|refine Ql fun A B hA hB=>?_|refine Qm ?_|refine Qn ?_|refine Qr ?_)
 | ((with_reducible first|apply Qy|apply Qz|apply QA)<;>intro hb<;>try simp only[nr] at hb)
 |simp only[go_sem,↓reduceIte,reduceIte,Qa,Qh,Qb,Qc,Qd,Qe,Qf,Qg,reduceCtorEq, *,-w1,-w2,-w3,-w4,-w5]
 |with_reducible refine fun(bn:Bool) hbn=>?_))
   all_goals (repeat' (first|rfl|apply And.intro))
  ·simp only[ha,hc,or_true,↓reduceIte]
   refine CallR.go2 (T:=T.withF [53]) Tryz.call17 Tryz.func17 rfl Tryz.ntmps17 (congrArg Array.toList Tryz.results17) (by decide) fun ts hn h0 h1=>?_
   (repeat' (first
 | (with_reducible first|refine callX.by (w1) ?_|refine callX.by (w2) ?_|refine callX.by (w3) ?_|refine callX.by (w4) ?_|refine callX.by (w5) ?_|refine callX.by (Ys _ _ _ _ _ _ _ _ _ _ _ _ _ _ _ _ _ _ ?_) ?_|refine callX.by (ZD _ _ _ _ _ _ _ _ _ _ _ _ _ _ _ _ _ _) ?_|refine callX.by (JbP _) ?_|refine callX.by (Jd9 _ ?_) ?_|refine callX.by (Jcs _ _ _ _ _ _ _ _ _ _ _ _ _ _ _ _ _ _ _ _ _ _ _ _ _ _ _ _ ?_ ?_) ?_|assumption|(refine Qw hK _ ?_;clear hK K)|refine Qw ‹_› _ ?_|refine Qx ‹_› ?_|refine Qi fun K hK=>?_|refine Qj (T.withF [53]) fun K hK=>?_|refine Qk (id:=9) (T.withF [53]) mixed Je7 (by kernel_rfl) fun K hK=>?_|refine Ql fun A B hA hB=>?_|refine Qm ?_|refine Qn ?_|refine Qr ?_)
 | ((with_reducible first|apply Qy|apply Qz|apply QA)<;>intro hb<;>try simp only[nr] at hb)
 |simp only[go_sem,↓reduceIte,reduceIte,Qa,Qh,Qb,Qc,Qd,Qe,Qf,Qg,reduceCtorEq, *,-w1,-w2,-w3,-w4,-w5]
 |with_reducible refine fun(bn:Bool) hbn=>?_))
   all_goals (repeat' (first|rfl|apply And.intro))
 ·simp only[ha,true_or,↓reduceIte]
  refine CallR.go2 (T:=T.withF [53]) Tryz.call17 Tryz.func17 rfl Tryz.ntmps17 (congrArg Array.toList Tryz.results17) (by decide) fun ts hn h0 h1=>?_
  (repeat' (first
 | (with_reducible first|refine callX.by (w1) ?_|refine callX.by (w2) ?_|refine callX.by (w3) ?_|refine callX.by (w4) ?_|refine callX.by (w5) ?_|refine callX.by (Ys _ _ _ _ _ _ _ _ _ _ _ _ _ _ _ _ _ _ ?_) ?_|refine callX.by (ZD _ _ _ _ _ _ _ _ _ _ _ _ _ _ _ _ _ _) ?_|refine callX.by (JbP _) ?_|refine callX.by (Jd9 _ ?_) ?_|refine callX.by (Jcs _ _ _ _ _ _ _ _ _ _ _ _ _ _ _ _ _ _ _ _ _ _ _ _ _ _ _ _ ?_ ?_) ?_|assumption|(refine Qw hK _ ?_;clear hK K)|refine Qw ‹_› _ ?_|refine Qx ‹_› ?_|refine Qi fun K hK=>?_|refine Qj (T.withF [53]) fun K hK=>?_|refine Qk (id:=9) (T.withF [53]) mixed Je7 (by kernel_rfl) fun K hK=>?_|refine Ql fun A B hA hB=>?_|refine Qm ?_|refine Qn ?_|refine Qr ?_)
 | ((with_reducible first|apply Qy|apply Qz|apply QA)<;>intro hb<;>try simp only[nr] at hb)
 |simp only[go_sem,↓reduceIte,reduceIte,Qa,Qh,Qb,Qc,Qd,Qe,Qf,Qg,reduceCtorEq, *,-w1,-w2,-w3,-w4,-w5]
 |with_reducible refine fun(bn:Bool) hbn=>?_))
  all_goals (repeat' (first|rfl|apply And.intro))
theorem frameE_iff{f:Frame}:Yz f=0↔(Jw f.type 3=true∧Jw f.kind 3=true)∧JbR f=true∧JbQ f=true∧JbO f=true∧ZH f.adds=0∧JbN f=true:=by
 unfold Yz Y9
 simp only[Z9,←Bool.and_eq_true]
 cases (Jw f.type 3 && Jw f.kind 3)<;>cases JbR f<;>cases JbQ f<;>cases JbO f<;>cases JbN f<;>by_cases ha:ZH f.adds=0<;>simp[ha]
theorem refusesS_iff{s:Side}{f:Frame}:Jaj s f=0↔s.up=true∧Yz f=0∧f.epoch=s.epoch∧f.type=1:=by
 unfold Jaj
 cases s.up<;>simp only[Bool.false_eq_true,↓reduceIte,false_and,iff_false,true_and]
 ·omega
 ·by_cases h1:Yz f=0<;>by_cases h2:f.epoch=s.epoch<;>by_cases h3:f.type=1<;>simp[h1,h2,h3]
theorem Jgr(s:Side)(f:Frame):(Jz s f).1.turn=s.turn∧(Jz s f).1.epoch=s.epoch∧(Jz s f).1.up=s.up∧(Jz s f).1.in'=s.in'∧((Jz s f).1.p=s.p∨(Jz s f).1.p=(Vh s.p (JW s.w f.adds f.gone).1.shown).1):=by
 unfold Jz
 generalize JW s.w f.adds f.gone=r
 obtain⟨w,ch,why⟩:=r
 cases ch<;>simp only[Bool.false_eq_true,↓reduceIte]
 ·split<;>simp
 ·repeat' split
  all_goals simp
def JdD(s:Side)(f:Frame):Frame:=⟨2,f.epoch,f.kind,f.nonce,s.turn+1,[],[],Jaa s.errs f.kind,[],Vk s.p⟩
def JA(s:Side)(f:Frame):Side×List Frame×Int :=
 let b:=JC s
 if Jaj b f=0 then
  let t:=VB b.in' f.kind f.nonce
  if t.2=0 then
   if b.turn=2147483647 then (b,[],14)
   else
    let r:=Jz b f
    if r.2=0 then ({ r.1 with in':=t.1,turn:=r.1.turn+1 },[JdD r.1 f],0) else (b,[],r.2)
  else if t.2=9 then
   if b.turn=2147483647 then (b,[],14) else ({ b with turn:=b.turn+1 },[JdD b f],9)
  else (b,[],t.2)
 else (b,[],Jaj b f)
set_option maxHeartbeats 16000000 in
theorem Jfw(s_epoch:Int)(s_turn:Int)(s_up:Bool)(s_in_last_a0:Int)(s_in_last_a1:Int)(s_in_last_a2:Int)(s_in_last_a3:Int)(s_in_max:Int)(s_errs_a0:Int)(s_errs_a1:Int)(s_errs_a2:Int)(s_errs_a3:Int)(s_w_c_cap:Int)(s_w_c_l:List Res)(s_w_ready:Bool)(s_w_shown:List Res)(s_p_next:Int)(s_p_snaps:List Snap)(f_type:Int)(f_epoch:Int)(f_kind:Int)(f_nonce:Int)(f_turn:Int)(f_adds:List Res)(f_gone:List Key)(f_err:Int)(f_have:List Mark)(f_held:List Key)(h:SzS (⟨s_epoch,s_turn,s_up,⟨⟨s_in_last_a0,s_in_last_a1,s_in_last_a2,s_in_last_a3⟩,s_in_max⟩,⟨s_errs_a0,s_errs_a1,s_errs_a2,s_errs_a3⟩,⟨⟨s_w_c_cap,s_w_c_l⟩,s_w_ready,s_w_shown⟩,⟨s_p_next,s_p_snaps⟩⟩:Side))(hf:VG (⟨f_type,f_epoch,f_kind,f_nonce,f_turn,f_adds,f_gone,f_err,f_have,f_held⟩:Frame))(hl:(JC (⟨s_epoch,s_turn,s_up,⟨⟨s_in_last_a0,s_in_last_a1,s_in_last_a2,s_in_last_a3⟩,s_in_max⟩,⟨s_errs_a0,s_errs_a1,s_errs_a2,s_errs_a3⟩,⟨⟨s_w_c_cap,s_w_c_l⟩,s_w_ready,s_w_shown⟩,⟨s_p_next,s_p_snaps⟩⟩:Side)).w.c.l.length+f_adds.length≤65536)(hq:SzP (Vh (JC (⟨s_epoch,s_turn,s_up,⟨⟨s_in_last_a0,s_in_last_a1,s_in_last_a2,s_in_last_a3⟩,s_in_max⟩,⟨s_errs_a0,s_errs_a1,s_errs_a2,s_errs_a3⟩,⟨⟨s_w_c_cap,s_w_c_l⟩,s_w_ready,s_w_shown⟩,⟨s_p_next,s_p_snaps⟩⟩:Side)).p (JW (JC (⟨s_epoch,s_turn,s_up,⟨⟨s_in_last_a0,s_in_last_a1,s_in_last_a2,s_in_last_a3⟩,s_in_max⟩,⟨s_errs_a0,s_errs_a1,s_errs_a2,s_errs_a3⟩,⟨⟨s_w_c_cap,s_w_c_l⟩,s_w_ready,s_w_shown⟩,⟨s_p_next,s_p_snaps⟩⟩:Side)).w f_adds f_gone).1.shown).1) :
  CallR Tryz.prog 12 [.agg [.int .i64 s_epoch,.int .i64 s_turn,.bool s_up,.int .i64 s_in_last_a0,.int .i64 s_in_last_a1,.int .i64 s_in_last_a2,.int .i64 s_in_last_a3,.int .i64 s_in_max,.int .i64 s_errs_a0,.int .i64 s_errs_a1,.int .i64 s_errs_a2,.int .i64 s_errs_a3,.int .i64 s_w_c_cap,.slice false (Ja s_w_c_l),.bool s_w_ready,.slice false (Ja s_w_shown),.int .i64 s_p_next,.slice false (Ja s_p_snaps)],.agg [.int .i64 f_type,.int .i64 f_epoch,.int .i64 f_kind,.int .i64 f_nonce,.int .i64 f_turn,.slice false (Ja f_adds),.slice false (Ja f_gone),.int .i64 f_err,.slice false (Ja f_have),.slice false (Ja f_held)]] (.val (.tup [.agg [.int .i64 (JA (⟨s_epoch,s_turn,s_up,⟨⟨s_in_last_a0,s_in_last_a1,s_in_last_a2,s_in_last_a3⟩,s_in_max⟩,⟨s_errs_a0,s_errs_a1,s_errs_a2,s_errs_a3⟩,⟨⟨s_w_c_cap,s_w_c_l⟩,s_w_ready,s_w_shown⟩,⟨s_p_next,s_p_snaps⟩⟩:Side) (⟨f_type,f_epoch,f_kind,f_nonce,f_turn,f_adds,f_gone,f_err,f_have,f_held⟩:Frame)).1.epoch,.int .i64 (JA (⟨s_epoch,s_turn,s_up,⟨⟨s_in_last_a0,s_in_last_a1,s_in_last_a2,s_in_last_a3⟩,s_in_max⟩,⟨s_errs_a0,s_errs_a1,s_errs_a2,s_errs_a3⟩,⟨⟨s_w_c_cap,s_w_c_l⟩,s_w_ready,s_w_shown⟩,⟨s_p_next,s_p_snaps⟩⟩:Side) (⟨f_type,f_epoch,f_kind,f_nonce,f_turn,f_adds,f_gone,f_err,f_have,f_held⟩:Frame)).1.turn,.bool (JA (⟨s_epoch,s_turn,s_up,⟨⟨s_in_last_a0,s_in_last_a1,s_in_last_a2,s_in_last_a3⟩,s_in_max⟩,⟨s_errs_a0,s_errs_a1,s_errs_a2,s_errs_a3⟩,⟨⟨s_w_c_cap,s_w_c_l⟩,s_w_ready,s_w_shown⟩,⟨s_p_next,s_p_snaps⟩⟩:Side) (⟨f_type,f_epoch,f_kind,f_nonce,f_turn,f_adds,f_gone,f_err,f_have,f_held⟩:Frame)).1.up,.int .i64 (JA (⟨s_epoch,s_turn,s_up,⟨⟨s_in_last_a0,s_in_last_a1,s_in_last_a2,s_in_last_a3⟩,s_in_max⟩,⟨s_errs_a0,s_errs_a1,s_errs_a2,s_errs_a3⟩,⟨⟨s_w_c_cap,s_w_c_l⟩,s_w_ready,s_w_shown⟩,⟨s_p_next,s_p_snaps⟩⟩:Side) (⟨f_type,f_epoch,f_kind,f_nonce,f_turn,f_adds,f_gone,f_err,f_have,f_held⟩:Frame)).1.in'.last.a0,.int .i64 (JA (⟨s_epoch,s_turn,s_up,⟨⟨s_in_last_a0,s_in_last_a1,s_in_last_a2,s_in_last_a3⟩,s_in_max⟩,⟨s_errs_a0,s_errs_a1,s_errs_a2,s_errs_a3⟩,⟨⟨s_w_c_cap,s_w_c_l⟩,s_w_ready,s_w_shown⟩,⟨s_p_next,s_p_snaps⟩⟩:Side) (⟨f_type,f_epoch,f_kind,f_nonce,f_turn,f_adds,f_gone,f_err,f_have,f_held⟩:Frame)).1.in'.last.a1,.int .i64 (JA (⟨s_epoch,s_turn,s_up,⟨⟨s_in_last_a0,s_in_last_a1,s_in_last_a2,s_in_last_a3⟩,s_in_max⟩,⟨s_errs_a0,s_errs_a1,s_errs_a2,s_errs_a3⟩,⟨⟨s_w_c_cap,s_w_c_l⟩,s_w_ready,s_w_shown⟩,⟨s_p_next,s_p_snaps⟩⟩:Side) (⟨f_type,f_epoch,f_kind,f_nonce,f_turn,f_adds,f_gone,f_err,f_have,f_held⟩:Frame)).1.in'.last.a2,.int .i64 (JA (⟨s_epoch,s_turn,s_up,⟨⟨s_in_last_a0,s_in_last_a1,s_in_last_a2,s_in_last_a3⟩,s_in_max⟩,⟨s_errs_a0,s_errs_a1,s_errs_a2,s_errs_a3⟩,⟨⟨s_w_c_cap,s_w_c_l⟩,s_w_ready,s_w_shown⟩,⟨s_p_next,s_p_snaps⟩⟩:Side) (⟨f_type,f_epoch,f_kind,f_nonce,f_turn,f_adds,f_gone,f_err,f_have,f_held⟩:Frame)).1.in'.last.a3,.int .i64 (JA (⟨s_epoch,s_turn,s_up,⟨⟨s_in_last_a0,s_in_last_a1,s_in_last_a2,s_in_last_a3⟩,s_in_max⟩,⟨s_errs_a0,s_errs_a1,s_errs_a2,s_errs_a3⟩,⟨⟨s_w_c_cap,s_w_c_l⟩,s_w_ready,s_w_shown⟩,⟨s_p_next,s_p_snaps⟩⟩:Side) (⟨f_type,f_epoch,f_kind,f_nonce,f_turn,f_adds,f_gone,f_err,f_have,f_held⟩:Frame)).1.in'.max,.int .i64 (JA (⟨s_epoch,s_turn,s_up,⟨⟨s_in_last_a0,s_in_last_a1,s_in_last_a2,s_in_last_a3⟩,s_in_max⟩,⟨s_errs_a0,s_errs_a1,s_errs_a2,s_errs_a3⟩,⟨⟨s_w_c_cap,s_w_c_l⟩,s_w_ready,s_w_shown⟩,⟨s_p_next,s_p_snaps⟩⟩:Side) (⟨f_type,f_epoch,f_kind,f_nonce,f_turn,f_adds,f_gone,f_err,f_have,f_held⟩:Frame)).1.errs.a0,.int .i64 (JA (⟨s_epoch,s_turn,s_up,⟨⟨s_in_last_a0,s_in_last_a1,s_in_last_a2,s_in_last_a3⟩,s_in_max⟩,⟨s_errs_a0,s_errs_a1,s_errs_a2,s_errs_a3⟩,⟨⟨s_w_c_cap,s_w_c_l⟩,s_w_ready,s_w_shown⟩,⟨s_p_next,s_p_snaps⟩⟩:Side) (⟨f_type,f_epoch,f_kind,f_nonce,f_turn,f_adds,f_gone,f_err,f_have,f_held⟩:Frame)).1.errs.a1,.int .i64 (JA (⟨s_epoch,s_turn,s_up,⟨⟨s_in_last_a0,s_in_last_a1,s_in_last_a2,s_in_last_a3⟩,s_in_max⟩,⟨s_errs_a0,s_errs_a1,s_errs_a2,s_errs_a3⟩,⟨⟨s_w_c_cap,s_w_c_l⟩,s_w_ready,s_w_shown⟩,⟨s_p_next,s_p_snaps⟩⟩:Side) (⟨f_type,f_epoch,f_kind,f_nonce,f_turn,f_adds,f_gone,f_err,f_have,f_held⟩:Frame)).1.errs.a2,.int .i64 (JA (⟨s_epoch,s_turn,s_up,⟨⟨s_in_last_a0,s_in_last_a1,s_in_last_a2,s_in_last_a3⟩,s_in_max⟩,⟨s_errs_a0,s_errs_a1,s_errs_a2,s_errs_a3⟩,⟨⟨s_w_c_cap,s_w_c_l⟩,s_w_ready,s_w_shown⟩,⟨s_p_next,s_p_snaps⟩⟩:Side) (⟨f_type,f_epoch,f_kind,f_nonce,f_turn,f_adds,f_gone,f_err,f_have,f_held⟩:Frame)).1.errs.a3,.int .i64 (JA (⟨s_epoch,s_turn,s_up,⟨⟨s_in_last_a0,s_in_last_a1,s_in_last_a2,s_in_last_a3⟩,s_in_max⟩,⟨s_errs_a0,s_errs_a1,s_errs_a2,s_errs_a3⟩,⟨⟨s_w_c_cap,s_w_c_l⟩,s_w_ready,s_w_shown⟩,⟨s_p_next,s_p_snaps⟩⟩:Side) (⟨f_type,f_epoch,f_kind,f_nonce,f_turn,f_adds,f_gone,f_err,f_have,f_held⟩:Frame)).1.w.c.cap,.slice false (Ja (JA (⟨s_epoch,s_turn,s_up,⟨⟨s_in_last_a0,s_in_last_a1,s_in_last_a2,s_in_last_a3⟩,s_in_max⟩,⟨s_errs_a0,s_errs_a1,s_errs_a2,s_errs_a3⟩,⟨⟨s_w_c_cap,s_w_c_l⟩,s_w_ready,s_w_shown⟩,⟨s_p_next,s_p_snaps⟩⟩:Side) (⟨f_type,f_epoch,f_kind,f_nonce,f_turn,f_adds,f_gone,f_err,f_have,f_held⟩:Frame)).1.w.c.l),.bool (JA (⟨s_epoch,s_turn,s_up,⟨⟨s_in_last_a0,s_in_last_a1,s_in_last_a2,s_in_last_a3⟩,s_in_max⟩,⟨s_errs_a0,s_errs_a1,s_errs_a2,s_errs_a3⟩,⟨⟨s_w_c_cap,s_w_c_l⟩,s_w_ready,s_w_shown⟩,⟨s_p_next,s_p_snaps⟩⟩:Side) (⟨f_type,f_epoch,f_kind,f_nonce,f_turn,f_adds,f_gone,f_err,f_have,f_held⟩:Frame)).1.w.ready,.slice false (Ja (JA (⟨s_epoch,s_turn,s_up,⟨⟨s_in_last_a0,s_in_last_a1,s_in_last_a2,s_in_last_a3⟩,s_in_max⟩,⟨s_errs_a0,s_errs_a1,s_errs_a2,s_errs_a3⟩,⟨⟨s_w_c_cap,s_w_c_l⟩,s_w_ready,s_w_shown⟩,⟨s_p_next,s_p_snaps⟩⟩:Side) (⟨f_type,f_epoch,f_kind,f_nonce,f_turn,f_adds,f_gone,f_err,f_have,f_held⟩:Frame)).1.w.shown),.int .i64 (JA (⟨s_epoch,s_turn,s_up,⟨⟨s_in_last_a0,s_in_last_a1,s_in_last_a2,s_in_last_a3⟩,s_in_max⟩,⟨s_errs_a0,s_errs_a1,s_errs_a2,s_errs_a3⟩,⟨⟨s_w_c_cap,s_w_c_l⟩,s_w_ready,s_w_shown⟩,⟨s_p_next,s_p_snaps⟩⟩:Side) (⟨f_type,f_epoch,f_kind,f_nonce,f_turn,f_adds,f_gone,f_err,f_have,f_held⟩:Frame)).1.p.next',.slice false (Ja (JA (⟨s_epoch,s_turn,s_up,⟨⟨s_in_last_a0,s_in_last_a1,s_in_last_a2,s_in_last_a3⟩,s_in_max⟩,⟨s_errs_a0,s_errs_a1,s_errs_a2,s_errs_a3⟩,⟨⟨s_w_c_cap,s_w_c_l⟩,s_w_ready,s_w_shown⟩,⟨s_p_next,s_p_snaps⟩⟩:Side) (⟨f_type,f_epoch,f_kind,f_nonce,f_turn,f_adds,f_gone,f_err,f_have,f_held⟩:Frame)).1.p.snaps)],.slice false (Ja (JA (⟨s_epoch,s_turn,s_up,⟨⟨s_in_last_a0,s_in_last_a1,s_in_last_a2,s_in_last_a3⟩,s_in_max⟩,⟨s_errs_a0,s_errs_a1,s_errs_a2,s_errs_a3⟩,⟨⟨s_w_c_cap,s_w_c_l⟩,s_w_ready,s_w_shown⟩,⟨s_p_next,s_p_snaps⟩⟩:Side) (⟨f_type,f_epoch,f_kind,f_nonce,f_turn,f_adds,f_gone,f_err,f_have,f_held⟩:Frame)).2.1),.int .i64 (JA (⟨s_epoch,s_turn,s_up,⟨⟨s_in_last_a0,s_in_last_a1,s_in_last_a2,s_in_last_a3⟩,s_in_max⟩,⟨s_errs_a0,s_errs_a1,s_errs_a2,s_errs_a3⟩,⟨⟨s_w_c_cap,s_w_c_l⟩,s_w_ready,s_w_shown⟩,⟨s_p_next,s_p_snaps⟩⟩:Side) (⟨f_type,f_epoch,f_kind,f_nonce,f_turn,f_adds,f_gone,f_err,f_have,f_held⟩:Frame)).2.2])):=by
 have w1:=Ys s_epoch s_turn s_up s_in_last_a0 s_in_last_a1 s_in_last_a2 s_in_last_a3 s_in_max s_errs_a0 s_errs_a1 s_errs_a2 s_errs_a3 s_w_c_cap s_w_c_l s_w_ready s_w_shown s_p_next s_p_snaps h
 have hz:=JeH h
 have hr:=(saneS_iff.1 (Jco (⟨s_epoch,s_turn,s_up,⟨⟨s_in_last_a0,s_in_last_a1,s_in_last_a2,s_in_last_a3⟩,s_in_max⟩,⟨s_errs_a0,s_errs_a1,s_errs_a2,s_errs_a3⟩,⟨⟨s_w_c_cap,s_w_c_l⟩,s_w_ready,s_w_shown⟩,⟨s_p_next,s_p_snaps⟩⟩:Side))).2.1
 unfold JA
 clear h
 generalize JC (⟨s_epoch,s_turn,s_up,⟨⟨s_in_last_a0,s_in_last_a1,s_in_last_a2,s_in_last_a3⟩,s_in_max⟩,⟨s_errs_a0,s_errs_a1,s_errs_a2,s_errs_a3⟩,⟨⟨s_w_c_cap,s_w_c_l⟩,s_w_ready,s_w_shown⟩,⟨s_p_next,s_p_snaps⟩⟩:Side)=b at *
 simp only
 have w2:=Jbj b.epoch b.turn b.up b.in'.last.a0 b.in'.last.a1 b.in'.last.a2 b.in'.last.a3 b.in'.max b.errs.a0 b.errs.a1 b.errs.a2 b.errs.a3 b.w.c.cap b.w.c.l b.w.ready b.w.shown b.p.next' b.p.snaps f_type f_epoch f_kind f_nonce f_turn f_adds f_gone f_err f_have f_held hf
 have w2:CallR Tryz.prog 40 [.agg [.int .i64 b.epoch,.int .i64 b.turn,.bool b.up,.int .i64 b.in'.last.a0,.int .i64 b.in'.last.a1,.int .i64 b.in'.last.a2,.int .i64 b.in'.last.a3,.int .i64 b.in'.max,.int .i64 b.errs.a0,.int .i64 b.errs.a1,.int .i64 b.errs.a2,.int .i64 b.errs.a3,.int .i64 b.w.c.cap,.slice false (Ja b.w.c.l),.bool b.w.ready,.slice false (Ja b.w.shown),.int .i64 b.p.next',.slice false (Ja b.p.snaps)],.agg [.int .i64 f_type,.int .i64 f_epoch,.int .i64 f_kind,.int .i64 f_nonce,.int .i64 f_turn,.slice false (Ja f_adds),.slice false (Ja f_gone),.int .i64 f_err,.slice false (Ja f_have),.slice false (Ja f_held)]] (.val (.int .i64 (Jaj b (⟨f_type,f_epoch,f_kind,f_nonce,f_turn,f_adds,f_gone,f_err,f_have,f_held⟩:Frame)))):=w2
 have w3:=Jbe b.in'.last.a0 b.in'.last.a1 b.in'.last.a2 b.in'.last.a3 b.in'.max f_kind f_nonce
 have w3:CallR Tryz.prog 41 [.agg [.int .i64 b.in'.last.a0,.int .i64 b.in'.last.a1,.int .i64 b.in'.last.a2,.int .i64 b.in'.last.a3,.int .i64 b.in'.max],.int .i64 f_kind,.int .i64 f_nonce] (.val (.tup [.agg [.int .i64 (VB b.in' f_kind f_nonce).1.last.a0,.int .i64 (VB b.in' f_kind f_nonce).1.last.a1,.int .i64 (VB b.in' f_kind f_nonce).1.last.a2,.int .i64 (VB b.in' f_kind f_nonce).1.last.a3,.int .i64 (VB b.in' f_kind f_nonce).1.max],.int .i64 (VB b.in' f_kind f_nonce).2])):=w3
 have w4:=ZD b.epoch b.turn b.up b.in'.last.a0 b.in'.last.a1 b.in'.last.a2 b.in'.last.a3 b.in'.max b.errs.a0 b.errs.a1 b.errs.a2 b.errs.a3 b.w.c.cap b.w.c.l b.w.ready b.w.shown b.p.next' b.p.snaps
 by_cases h1:Jaj b (⟨f_type,f_epoch,f_kind,f_nonce,f_turn,f_adds,f_gone,f_err,f_have,f_held⟩:Frame)=0
 rotate_left
 ·have w5:=trivial
  have w6:=trivial
  simp only[h1,↓reduceIte]
  clear hz hr hq hl hf
  generalize Jaj b (⟨f_type,f_epoch,f_kind,f_nonce,f_turn,f_adds,f_gone,f_err,f_have,f_held⟩:Frame)=e at *
  refine CallR.go2 (T:=T.withF [14]) Tryz.call12 Tryz.func12 rfl Tryz.ntmps12 (congrArg Array.toList Tryz.results12) (by decide) fun ts hn h0 h1=>?_
  (repeat' (first
 | (with_reducible first|refine callX.by (w1) ?_|refine callX.by (w2) ?_|refine callX.by (Ys _ _ _ _ _ _ _ _ _ _ _ _ _ _ _ _ _ _ ?_) ?_|refine callX.by (Jbj _ _ _ _ _ _ _ _ _ _ _ _ _ _ _ _ _ _ _ _ _ _ _ _ _ _ _ _ ?_) ?_|refine callX.by (Jbe _ _ _ _ _ _ _) ?_|refine callX.by (ZD _ _ _ _ _ _ _ _ _ _ _ _ _ _ _ _ _ _) ?_|refine callX.by (JaM _ _ _ _ _ _ _ _ _ _ _ _ _ _ _ _ _ _ _ _ _ _ _ _ _ _ _ _ ?_ ?_ _ ?_ ?_) ?_|assumption|(refine Qw hK _ ?_;clear hK K)|refine Qw ‹_› _ ?_|refine Qx ‹_› ?_|refine Qi fun K hK=>?_|refine Qj (T.withF [14]) fun K hK=>?_|refine Ql fun A B hA hB=>?_|refine Qm ?_|refine Qn ?_|refine Qp ?_|refine Qr ?_)
 | ((with_reducible first|apply Qy|apply Qz|apply QA)<;>intro hb<;>try simp only[nr] at hb)
 |simp only[go_sem,↓reduceIte,reduceIte,Qa,Qh,Qb,Qc,Qd,Qe,Qf,Qg,reduceCtorEq, *,-w1,-w2,-w3,-w4,-w5,-w6]
 |with_reducible refine fun(bn:Bool) hbn=>?_))
  all_goals (repeat' (first|rfl|apply And.intro))
 rw[h1] at w2
 have hk4:0≤f_kind∧f_kind<4:=by
  have:=fin_iff.1 ((frameE_iff.1 (refusesS_iff.1 h1).2.1).1.2)
  simp only at this
  omega
 simp only[h1,↓reduceIte]
 clear h1
 have w5:=Joo b.epoch b.turn b.up b.in'.last.a0 b.in'.last.a1 b.in'.last.a2 b.in'.last.a3 b.in'.max b.errs.a0 b.errs.a1 b.errs.a2 b.errs.a3 b.w.c.cap b.w.c.l b.w.ready b.w.shown b.p.next' b.p.snaps f_type f_epoch f_kind f_nonce f_turn f_adds f_gone f_err f_have f_held hz hf hl hq hk4
 have w5:CallR Tryz.prog 43 [.agg [.int .i64 b.epoch,.int .i64 b.turn,.bool b.up,.int .i64 b.in'.last.a0,.int .i64 b.in'.last.a1,.int .i64 b.in'.last.a2,.int .i64 b.in'.last.a3,.int .i64 b.in'.max,.int .i64 b.errs.a0,.int .i64 b.errs.a1,.int .i64 b.errs.a2,.int .i64 b.errs.a3,.int .i64 b.w.c.cap,.slice false (Ja b.w.c.l),.bool b.w.ready,.slice false (Ja b.w.shown),.int .i64 b.p.next',.slice false (Ja b.p.snaps)],.agg [.int .i64 f_type,.int .i64 f_epoch,.int .i64 f_kind,.int .i64 f_nonce,.int .i64 f_turn,.slice false (Ja f_adds),.slice false (Ja f_gone),.int .i64 f_err,.slice false (Ja f_have),.slice false (Ja f_held)]] (.val (.tup [.agg [.int .i64 (Jz b (⟨f_type,f_epoch,f_kind,f_nonce,f_turn,f_adds,f_gone,f_err,f_have,f_held⟩:Frame)).1.epoch,.int .i64 (Jz b (⟨f_type,f_epoch,f_kind,f_nonce,f_turn,f_adds,f_gone,f_err,f_have,f_held⟩:Frame)).1.turn,.bool (Jz b (⟨f_type,f_epoch,f_kind,f_nonce,f_turn,f_adds,f_gone,f_err,f_have,f_held⟩:Frame)).1.up,.int .i64 (Jz b (⟨f_type,f_epoch,f_kind,f_nonce,f_turn,f_adds,f_gone,f_err,f_have,f_held⟩:Frame)).1.in'.last.a0,.int .i64 (Jz b (⟨f_type,f_epoch,f_kind,f_nonce,f_turn,f_adds,f_gone,f_err,f_have,f_held⟩:Frame)).1.in'.last.a1,.int .i64 (Jz b (⟨f_type,f_epoch,f_kind,f_nonce,f_turn,f_adds,f_gone,f_err,f_have,f_held⟩:Frame)).1.in'.last.a2,.int .i64 (Jz b (⟨f_type,f_epoch,f_kind,f_nonce,f_turn,f_adds,f_gone,f_err,f_have,f_held⟩:Frame)).1.in'.last.a3,.int .i64 (Jz b (⟨f_type,f_epoch,f_kind,f_nonce,f_turn,f_adds,f_gone,f_err,f_have,f_held⟩:Frame)).1.in'.max,.int .i64 (Jz b (⟨f_type,f_epoch,f_kind,f_nonce,f_turn,f_adds,f_gone,f_err,f_have,f_held⟩:Frame)).1.errs.a0,.int .i64 (Jz b (⟨f_type,f_epoch,f_kind,f_nonce,f_turn,f_adds,f_gone,f_err,f_have,f_held⟩:Frame)).1.errs.a1,.int .i64 (Jz b (⟨f_type,f_epoch,f_kind,f_nonce,f_turn,f_adds,f_gone,f_err,f_have,f_held⟩:Frame)).1.errs.a2,.int .i64 (Jz b (⟨f_type,f_epoch,f_kind,f_nonce,f_turn,f_adds,f_gone,f_err,f_have,f_held⟩:Frame)).1.errs.a3,.int .i64 (Jz b (⟨f_type,f_epoch,f_kind,f_nonce,f_turn,f_adds,f_gone,f_err,f_have,f_held⟩:Frame)).1.w.c.cap,.slice false (Ja (Jz b (⟨f_type,f_epoch,f_kind,f_nonce,f_turn,f_adds,f_gone,f_err,f_have,f_held⟩:Frame)).1.w.c.l),.bool (Jz b (⟨f_type,f_epoch,f_kind,f_nonce,f_turn,f_adds,f_gone,f_err,f_have,f_held⟩:Frame)).1.w.ready,.slice false (Ja (Jz b (⟨f_type,f_epoch,f_kind,f_nonce,f_turn,f_adds,f_gone,f_err,f_have,f_held⟩:Frame)).1.w.shown),.int .i64 (Jz b (⟨f_type,f_epoch,f_kind,f_nonce,f_turn,f_adds,f_gone,f_err,f_have,f_held⟩:Frame)).1.p.next',.slice false (Ja (Jz b (⟨f_type,f_epoch,f_kind,f_nonce,f_turn,f_adds,f_gone,f_err,f_have,f_held⟩:Frame)).1.p.snaps)],.int .i64 (Jz b (⟨f_type,f_epoch,f_kind,f_nonce,f_turn,f_adds,f_gone,f_err,f_have,f_held⟩:Frame)).2])):=w5
 obtain⟨k1,k2,k3,k4,k5⟩:=Jgr b (⟨f_type,f_epoch,f_kind,f_nonce,f_turn,f_adds,f_gone,f_err,f_have,f_held⟩:Frame)
 have hpr:SzP (Jz b (⟨f_type,f_epoch,f_kind,f_nonce,f_turn,f_adds,f_gone,f_err,f_have,f_held⟩:Frame)).1.p:=by
  rcases k5 with k5|k5<;>rw[k5]
  ·exact hz.p
  ·exact hq
 generalize Jz b (⟨f_type,f_epoch,f_kind,f_nonce,f_turn,f_adds,f_gone,f_err,f_have,f_held⟩:Frame)=r at *
 obtain⟨r,re⟩:=r
 generalize VB b.in' f_kind f_nonce=t at *
 obtain⟨t,te⟩:=t
 simp only at w3 w5 hpr k1 ⊢
 rw[←k1] at hr
 by_cases h2:te=0
 ·subst h2
  have w6:=JaM r.epoch r.turn r.up t.last.a0 t.last.a1 t.last.a2 t.last.a3 t.max r.errs.a0 r.errs.a1 r.errs.a2 r.errs.a3 r.w.c.cap r.w.c.l r.w.ready r.w.shown r.p.next' r.p.snaps f_type f_epoch f_kind f_nonce f_turn f_adds f_gone f_err f_have f_held hpr hr _ rfl hk4
  clear hz hq hl hf hpr k1 k2 k3 k4 k5 hr
  by_cases h3:b.turn=2147483647
  ·rw[decide_eq_true h3] at w4
   simp only[↓reduceIte,if_pos h3]
   clear h3
   refine CallR.go2 (T:=T.withF [14]) Tryz.call12 Tryz.func12 rfl Tryz.ntmps12 (congrArg Array.toList Tryz.results12) (by decide) fun ts hn h0 h1=>?_
   (repeat' (first
 | (with_reducible first|refine callX.by (w1) ?_|refine callX.by (w2) ?_|refine callX.by (w3) ?_|refine callX.by (w4) ?_|refine callX.by (w5) ?_|refine callX.by (w6) ?_|refine callX.by (Ys _ _ _ _ _ _ _ _ _ _ _ _ _ _ _ _ _ _ ?_) ?_|refine callX.by (Jbj _ _ _ _ _ _ _ _ _ _ _ _ _ _ _ _ _ _ _ _ _ _ _ _ _ _ _ _ ?_) ?_|refine callX.by (Jbe _ _ _ _ _ _ _) ?_|refine callX.by (ZD _ _ _ _ _ _ _ _ _ _ _ _ _ _ _ _ _ _) ?_|refine callX.by (JaM _ _ _ _ _ _ _ _ _ _ _ _ _ _ _ _ _ _ _ _ _ _ _ _ _ _ _ _ ?_ ?_ _ ?_ ?_) ?_|assumption|(refine Qw hK _ ?_;clear hK K)|refine Qw ‹_› _ ?_|refine Qx ‹_› ?_|refine Qi fun K hK=>?_|refine Qj (T.withF [14]) fun K hK=>?_|refine Ql fun A B hA hB=>?_|refine Qm ?_|refine Qn ?_|refine Qp ?_|refine Qr ?_)
 | ((with_reducible first|apply Qy|apply Qz|apply QA)<;>intro hb<;>try simp only[nr] at hb)
 |simp only[go_sem,↓reduceIte,reduceIte,Qa,Qh,Qb,Qc,Qd,Qe,Qf,Qg,reduceCtorEq, *,-w1,-w2,-w3,-w4,-w5,-w6]
 |with_reducible refine fun(bn:Bool) hbn=>?_))
   all_goals (repeat' (first|rfl|apply And.intro))
  ·rw[decide_eq_false h3] at w4
   by_cases h4:re=0
   all_goals
    simp only[h3,h4,↓reduceIte]
    refine CallR.go2 (T:=T.withF [14]) Tryz.call12 Tryz.func12 rfl Tryz.ntmps12 (congrArg Array.toList Tryz.results12) (by decide) fun ts hn h0 h1=>?_
    (repeat' (first
 | (with_reducible first|refine callX.by (w1) ?_|refine callX.by (w2) ?_|refine callX.by (w3) ?_|refine callX.by (w4) ?_|refine callX.by (w5) ?_|refine callX.by (w6) ?_|refine callX.by (Ys _ _ _ _ _ _ _ _ _ _ _ _ _ _ _ _ _ _ ?_) ?_|refine callX.by (Jbj _ _ _ _ _ _ _ _ _ _ _ _ _ _ _ _ _ _ _ _ _ _ _ _ _ _ _ _ ?_) ?_|refine callX.by (Jbe _ _ _ _ _ _ _) ?_|refine callX.by (ZD _ _ _ _ _ _ _ _ _ _ _ _ _ _ _ _ _ _) ?_|refine callX.by (JaM _ _ _ _ _ _ _ _ _ _ _ _ _ _ _ _ _ _ _ _ _ _ _ _ _ _ _ _ ?_ ?_ _ ?_ ?_) ?_|assumption|(refine Qw hK _ ?_;clear hK K)|refine Qw ‹_› _ ?_|refine Qx ‹_› ?_|refine Qi fun K hK=>?_|refine Qj (T.withF [14]) fun K hK=>?_|refine Ql fun A B hA hB=>?_|refine Qm ?_|refine Qn ?_|refine Qp ?_|refine Qr ?_)
 | ((with_reducible first|apply Qy|apply Qz|apply QA)<;>intro hb<;>try simp only[nr] at hb)
 |simp only[go_sem,↓reduceIte,reduceIte,Qa,Qh,Qb,Qc,Qd,Qe,Qf,Qg,reduceCtorEq, *,-w1,-w2,-w3,-w4,-w5,-w6]
 |with_reducible refine fun(bn:Bool) hbn=>?_))
   all_goals (repeat' (first|rfl|apply And.intro))
 ·by_cases h5:te=9
  ·subst h5
   have w6:=JaM b.epoch b.turn b.up b.in'.last.a0 b.in'.last.a1 b.in'.last.a2 b.in'.last.a3 b.in'.max b.errs.a0 b.errs.a1 b.errs.a2 b.errs.a3 b.w.c.cap b.w.c.l b.w.ready b.w.shown b.p.next' b.p.snaps f_type f_epoch f_kind f_nonce f_turn f_adds f_gone f_err f_have f_held hz.p (k1▸hr) _ rfl hk4
   clear hz hq hl hf hpr k1 k2 k3 k4 k5 hr
   by_cases h3:b.turn=2147483647
   ·rw[decide_eq_true h3] at w4
    simp only[h2,if_pos h3,↓reduceIte]
    clear h3
    refine CallR.go2 (T:=T.withF [14]) Tryz.call12 Tryz.func12 rfl Tryz.ntmps12 (congrArg Array.toList Tryz.results12) (by decide) fun ts hn h0 h1=>?_
    (repeat' (first
 | (with_reducible first|refine callX.by (w1) ?_|refine callX.by (w2) ?_|refine callX.by (w3) ?_|refine callX.by (w4) ?_|refine callX.by (w5) ?_|refine callX.by (w6) ?_|refine callX.by (Ys _ _ _ _ _ _ _ _ _ _ _ _ _ _ _ _ _ _ ?_) ?_|refine callX.by (Jbj _ _ _ _ _ _ _ _ _ _ _ _ _ _ _ _ _ _ _ _ _ _ _ _ _ _ _ _ ?_) ?_|refine callX.by (Jbe _ _ _ _ _ _ _) ?_|refine callX.by (ZD _ _ _ _ _ _ _ _ _ _ _ _ _ _ _ _ _ _) ?_|refine callX.by (JaM _ _ _ _ _ _ _ _ _ _ _ _ _ _ _ _ _ _ _ _ _ _ _ _ _ _ _ _ ?_ ?_ _ ?_ ?_) ?_|assumption|(refine Qw hK _ ?_;clear hK K)|refine Qw ‹_› _ ?_|refine Qx ‹_› ?_|refine Qi fun K hK=>?_|refine Qj (T.withF [14]) fun K hK=>?_|refine Ql fun A B hA hB=>?_|refine Qm ?_|refine Qn ?_|refine Qp ?_|refine Qr ?_)
 | ((with_reducible first|apply Qy|apply Qz|apply QA)<;>intro hb<;>try simp only[nr] at hb)
 |simp only[go_sem,↓reduceIte,reduceIte,Qa,Qh,Qb,Qc,Qd,Qe,Qf,Qg,reduceCtorEq, *,-w1,-w2,-w3,-w4,-w5,-w6]
 |with_reducible refine fun(bn:Bool) hbn=>?_))
    all_goals (repeat' (first|rfl|apply And.intro))
   ·rw[decide_eq_false h3] at w4
    simp only[h2,h3,↓reduceIte]
    refine CallR.go2 (T:=T.withF [14]) Tryz.call12 Tryz.func12 rfl Tryz.ntmps12 (congrArg Array.toList Tryz.results12) (by decide) fun ts hn h0 h1=>?_
    (repeat' (first
 | (with_reducible first|refine callX.by (w1) ?_|refine callX.by (w2) ?_|refine callX.by (w3) ?_|refine callX.by (w4) ?_|refine callX.by (w5) ?_|refine callX.by (w6) ?_|refine callX.by (Ys _ _ _ _ _ _ _ _ _ _ _ _ _ _ _ _ _ _ ?_) ?_|refine callX.by (Jbj _ _ _ _ _ _ _ _ _ _ _ _ _ _ _ _ _ _ _ _ _ _ _ _ _ _ _ _ ?_) ?_|refine callX.by (Jbe _ _ _ _ _ _ _) ?_|refine callX.by (ZD _ _ _ _ _ _ _ _ _ _ _ _ _ _ _ _ _ _) ?_|refine callX.by (JaM _ _ _ _ _ _ _ _ _ _ _ _ _ _ _ _ _ _ _ _ _ _ _ _ _ _ _ _ ?_ ?_ _ ?_ ?_) ?_|assumption|(refine Qw hK _ ?_;clear hK K)|refine Qw ‹_› _ ?_|refine Qx ‹_› ?_|refine Qi fun K hK=>?_|refine Qj (T.withF [14]) fun K hK=>?_|refine Ql fun A B hA hB=>?_|refine Qm ?_|refine Qn ?_|refine Qp ?_|refine Qr ?_)
 | ((with_reducible first|apply Qy|apply Qz|apply QA)<;>intro hb<;>try simp only[nr] at hb)
 |simp only[go_sem,↓reduceIte,reduceIte,Qa,Qh,Qb,Qc,Qd,Qe,Qf,Qg,reduceCtorEq, *,-w1,-w2,-w3,-w4,-w5,-w6]
 |with_reducible refine fun(bn:Bool) hbn=>?_))
    all_goals (repeat' (first|rfl|apply And.intro))
  ·have w6:=trivial
   clear hz hq hl hf hpr k1 k2 k3 k4 k5 hr
   simp only[h2,h5,↓reduceIte]
   refine CallR.go2 (T:=T.withF [14]) Tryz.call12 Tryz.func12 rfl Tryz.ntmps12 (congrArg Array.toList Tryz.results12) (by decide) fun ts hn h0 h1=>?_
   (repeat' (first
 | (with_reducible first|refine callX.by (w1) ?_|refine callX.by (w2) ?_|refine callX.by (w3) ?_|refine callX.by (w4) ?_|refine callX.by (w5) ?_|refine callX.by (w6) ?_|refine callX.by (Ys _ _ _ _ _ _ _ _ _ _ _ _ _ _ _ _ _ _ ?_) ?_|refine callX.by (Jbj _ _ _ _ _ _ _ _ _ _ _ _ _ _ _ _ _ _ _ _ _ _ _ _ _ _ _ _ ?_) ?_|refine callX.by (Jbe _ _ _ _ _ _ _) ?_|refine callX.by (ZD _ _ _ _ _ _ _ _ _ _ _ _ _ _ _ _ _ _) ?_|refine callX.by (JaM _ _ _ _ _ _ _ _ _ _ _ _ _ _ _ _ _ _ _ _ _ _ _ _ _ _ _ _ ?_ ?_ _ ?_ ?_) ?_|assumption|(refine Qw hK _ ?_;clear hK K)|refine Qw ‹_› _ ?_|refine Qx ‹_› ?_|refine Qi fun K hK=>?_|refine Qj (T.withF [14]) fun K hK=>?_|refine Ql fun A B hA hB=>?_|refine Qm ?_|refine Qn ?_|refine Qp ?_|refine Qr ?_)
 | ((with_reducible first|apply Qy|apply Qz|apply QA)<;>intro hb<;>try simp only[nr] at hb)
 |simp only[go_sem,↓reduceIte,reduceIte,Qa,Qh,Qb,Qc,Qd,Qe,Qf,Qg,reduceCtorEq, *,-w1,-w2,-w3,-w4,-w5,-w6]
 |with_reducible refine fun(bn:Bool) hbn=>?_))
   all_goals (repeat' (first|rfl|apply And.intro))
end Go.Proofs.YtihahfhagobnoaaGreatDoor.Lg
