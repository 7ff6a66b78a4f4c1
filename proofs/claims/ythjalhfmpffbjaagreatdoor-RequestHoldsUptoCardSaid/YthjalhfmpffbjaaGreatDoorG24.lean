/- Parts of the proof, one behind the other. -/
import Derived.Test.YthjalhfmpffbjaaGreatDoorG23
set_option linter.unusedVariables false
set_option linter.unusedSimpArgs false
set_option maxRecDepth 100000
set_option maxHeartbeats 64000000
namespace Go.Proofs.YthjalhfmpffbjaaGreatDoor.Lg
open Go
open Tryz
open Nat renaming reduceEqDiff → Qa, reduceLT → Qb, reduceLeDiff → Qc, reduceAdd → Qd, reduceMul → Qe, reduceSub → Qf, reduceBEq → Qg
open String renaming reduceEq → Qh
open SpecC renaming seqW → Qi, regW → Qj, condW → Ql, block → Qm, skip → Qn, exit → Qp, ret → Qr
open NxK renaming out → Qw
open Nx renaming out → Qx
open condK renaming split → Qy
open gK renaming split_t → Qz, split_f → QA
open List renaming getElem_mem → QC
def JB(s:Side)(f:Frame):Side×Int :=
 let w:=JX s.w f.adds f.gone
 let p:=if w.2.1=true then Vg s.p w.1.shown else (s.p,0,0)
 if p.2.2=0 then
  if YW p.1=true then ({ s with w:=w.1,p:=p.1,errs:=JbA s.errs f.kind w.2.2 },0) else ({ s with errs:=JbA s.errs f.kind 8 },0)
 else (s,p.2.2)
theorem Jq2(Kn Ko:Int)(KR:Bool)(Ka Kb:Int)(Kc Kd:Int)(Km Kh:Int)(Ki Kj:Int)(Kk Kf:Int)(s_w_c_l:List Res)(Kg:Bool)(Ke:List Res)(Kl:Int)(s_p_snaps:List Snap)(KH Kv:Int)(Kw Ku KJ:Int)(f_adds:List Res)(f_gone:List Key)(K4:Int)(f_have:List Mark)(f_held:List Key)(h:SzS (⟨Kn,Ko,KR,⟨⟨Ka,Kb,Kc,Kd⟩,Km⟩,⟨Kh,Ki,Kj,Kk⟩,⟨⟨Kf,s_w_c_l⟩,Kg,Ke⟩,⟨Kl,s_p_snaps⟩⟩:Side))(hf:V4 (⟨KH,Kv,Kw,Ku,KJ,f_adds,f_gone,K4,f_have,f_held⟩:Frame))(hl:s_w_c_l.length+f_adds.length≤65536)(hq:SzP (Vg ⟨Kl,s_p_snaps⟩ (JX (⟨Kn,Ko,KR,⟨⟨Ka,Kb,Kc,Kd⟩,Km⟩,⟨Kh,Ki,Kj,Kk⟩,⟨⟨Kf,s_w_c_l⟩,Kg,Ke⟩,⟨Kl,s_p_snaps⟩⟩:Side).w f_adds f_gone).1.shown).1)(hk4:0≤Kw∧Kw<4) :
  CallR prog 67 [.agg [.int .i64 Kn,.int .i64 Ko,.bool KR,.int .i64 Ka,.int .i64 Kb,.int .i64 Kc,.int .i64 Kd,.int .i64 Km,.int .i64 Kh,.int .i64 Ki,.int .i64 Kj,.int .i64 Kk,.int .i64 Kf,.slice false (Ja s_w_c_l),.bool Kg,.slice false (Ja Ke),.int .i64 Kl,.slice false (Ja s_p_snaps)],.agg [.int .i64 KH,.int .i64 Kv,.int .i64 Kw,.int .i64 Ku,.int .i64 KJ,.slice false (Ja f_adds),.slice false (Ja f_gone),.int .i64 K4,.slice false (Ja f_have),.slice false (Ja f_held)]] (.val (.tup [.agg [.int .i64 (JB (⟨Kn,Ko,KR,⟨⟨Ka,Kb,Kc,Kd⟩,Km⟩,⟨Kh,Ki,Kj,Kk⟩,⟨⟨Kf,s_w_c_l⟩,Kg,Ke⟩,⟨Kl,s_p_snaps⟩⟩:Side) (⟨KH,Kv,Kw,Ku,KJ,f_adds,f_gone,K4,f_have,f_held⟩:Frame)).1.epoch,.int .i64 (JB (⟨Kn,Ko,KR,⟨⟨Ka,Kb,Kc,Kd⟩,Km⟩,⟨Kh,Ki,Kj,Kk⟩,⟨⟨Kf,s_w_c_l⟩,Kg,Ke⟩,⟨Kl,s_p_snaps⟩⟩:Side) (⟨KH,Kv,Kw,Ku,KJ,f_adds,f_gone,K4,f_have,f_held⟩:Frame)).1.turn,.bool (JB (⟨Kn,Ko,KR,⟨⟨Ka,Kb,Kc,Kd⟩,Km⟩,⟨Kh,Ki,Kj,Kk⟩,⟨⟨Kf,s_w_c_l⟩,Kg,Ke⟩,⟨Kl,s_p_snaps⟩⟩:Side) (⟨KH,Kv,Kw,Ku,KJ,f_adds,f_gone,K4,f_have,f_held⟩:Frame)).1.up,.int .i64 (JB (⟨Kn,Ko,KR,⟨⟨Ka,Kb,Kc,Kd⟩,Km⟩,⟨Kh,Ki,Kj,Kk⟩,⟨⟨Kf,s_w_c_l⟩,Kg,Ke⟩,⟨Kl,s_p_snaps⟩⟩:Side) (⟨KH,Kv,Kw,Ku,KJ,f_adds,f_gone,K4,f_have,f_held⟩:Frame)).1.in'.last.a0,.int .i64 (JB (⟨Kn,Ko,KR,⟨⟨Ka,Kb,Kc,Kd⟩,Km⟩,⟨Kh,Ki,Kj,Kk⟩,⟨⟨Kf,s_w_c_l⟩,Kg,Ke⟩,⟨Kl,s_p_snaps⟩⟩:Side) (⟨KH,Kv,Kw,Ku,KJ,f_adds,f_gone,K4,f_have,f_held⟩:Frame)).1.in'.last.a1,.int .i64 (JB (⟨Kn,Ko,KR,⟨⟨Ka,Kb,Kc,Kd⟩,Km⟩,⟨Kh,Ki,Kj,Kk⟩,⟨⟨Kf,s_w_c_l⟩,Kg,Ke⟩,⟨Kl,s_p_snaps⟩⟩:Side) (⟨KH,Kv,Kw,Ku,KJ,f_adds,f_gone,K4,f_have,f_held⟩:Frame)).1.in'.last.a2,.int .i64 (JB (⟨Kn,Ko,KR,⟨⟨Ka,Kb,Kc,Kd⟩,Km⟩,⟨Kh,Ki,Kj,Kk⟩,⟨⟨Kf,s_w_c_l⟩,Kg,Ke⟩,⟨Kl,s_p_snaps⟩⟩:Side) (⟨KH,Kv,Kw,Ku,KJ,f_adds,f_gone,K4,f_have,f_held⟩:Frame)).1.in'.last.a3,.int .i64 (JB (⟨Kn,Ko,KR,⟨⟨Ka,Kb,Kc,Kd⟩,Km⟩,⟨Kh,Ki,Kj,Kk⟩,⟨⟨Kf,s_w_c_l⟩,Kg,Ke⟩,⟨Kl,s_p_snaps⟩⟩:Side) (⟨KH,Kv,Kw,Ku,KJ,f_adds,f_gone,K4,f_have,f_held⟩:Frame)).1.in'.max,.int .i64 (JB (⟨Kn,Ko,KR,⟨⟨Ka,Kb,Kc,Kd⟩,Km⟩,⟨Kh,Ki,Kj,Kk⟩,⟨⟨Kf,s_w_c_l⟩,Kg,Ke⟩,⟨Kl,s_p_snaps⟩⟩:Side) (⟨KH,Kv,Kw,Ku,KJ,f_adds,f_gone,K4,f_have,f_held⟩:Frame)).1.errs.a0,.int .i64 (JB (⟨Kn,Ko,KR,⟨⟨Ka,Kb,Kc,Kd⟩,Km⟩,⟨Kh,Ki,Kj,Kk⟩,⟨⟨Kf,s_w_c_l⟩,Kg,Ke⟩,⟨Kl,s_p_snaps⟩⟩:Side) (⟨KH,Kv,Kw,Ku,KJ,f_adds,f_gone,K4,f_have,f_held⟩:Frame)).1.errs.a1,.int .i64 (JB (⟨Kn,Ko,KR,⟨⟨Ka,Kb,Kc,Kd⟩,Km⟩,⟨Kh,Ki,Kj,Kk⟩,⟨⟨Kf,s_w_c_l⟩,Kg,Ke⟩,⟨Kl,s_p_snaps⟩⟩:Side) (⟨KH,Kv,Kw,Ku,KJ,f_adds,f_gone,K4,f_have,f_held⟩:Frame)).1.errs.a2,.int .i64 (JB (⟨Kn,Ko,KR,⟨⟨Ka,Kb,Kc,Kd⟩,Km⟩,⟨Kh,Ki,Kj,Kk⟩,⟨⟨Kf,s_w_c_l⟩,Kg,Ke⟩,⟨Kl,s_p_snaps⟩⟩:Side) (⟨KH,Kv,Kw,Ku,KJ,f_adds,f_gone,K4,f_have,f_held⟩:Frame)).1.errs.a3,.int .i64 (JB (⟨Kn,Ko,KR,⟨⟨Ka,Kb,Kc,Kd⟩,Km⟩,⟨Kh,Ki,Kj,Kk⟩,⟨⟨Kf,s_w_c_l⟩,Kg,Ke⟩,⟨Kl,s_p_snaps⟩⟩:Side) (⟨KH,Kv,Kw,Ku,KJ,f_adds,f_gone,K4,f_have,f_held⟩:Frame)).1.w.c.cap,.slice false (Ja (JB (⟨Kn,Ko,KR,⟨⟨Ka,Kb,Kc,Kd⟩,Km⟩,⟨Kh,Ki,Kj,Kk⟩,⟨⟨Kf,s_w_c_l⟩,Kg,Ke⟩,⟨Kl,s_p_snaps⟩⟩:Side) (⟨KH,Kv,Kw,Ku,KJ,f_adds,f_gone,K4,f_have,f_held⟩:Frame)).1.w.c.l),.bool (JB (⟨Kn,Ko,KR,⟨⟨Ka,Kb,Kc,Kd⟩,Km⟩,⟨Kh,Ki,Kj,Kk⟩,⟨⟨Kf,s_w_c_l⟩,Kg,Ke⟩,⟨Kl,s_p_snaps⟩⟩:Side) (⟨KH,Kv,Kw,Ku,KJ,f_adds,f_gone,K4,f_have,f_held⟩:Frame)).1.w.ready,.slice false (Ja (JB (⟨Kn,Ko,KR,⟨⟨Ka,Kb,Kc,Kd⟩,Km⟩,⟨Kh,Ki,Kj,Kk⟩,⟨⟨Kf,s_w_c_l⟩,Kg,Ke⟩,⟨Kl,s_p_snaps⟩⟩:Side) (⟨KH,Kv,Kw,Ku,KJ,f_adds,f_gone,K4,f_have,f_held⟩:Frame)).1.w.shown),.int .i64 (JB (⟨Kn,Ko,KR,⟨⟨Ka,Kb,Kc,Kd⟩,Km⟩,⟨Kh,Ki,Kj,Kk⟩,⟨⟨Kf,s_w_c_l⟩,Kg,Ke⟩,⟨Kl,s_p_snaps⟩⟩:Side) (⟨KH,Kv,Kw,Ku,KJ,f_adds,f_gone,K4,f_have,f_held⟩:Frame)).1.p.next',.slice false (Ja (JB (⟨Kn,Ko,KR,⟨⟨Ka,Kb,Kc,Kd⟩,Km⟩,⟨Kh,Ki,Kj,Kk⟩,⟨⟨Kf,s_w_c_l⟩,Kg,Ke⟩,⟨Kl,s_p_snaps⟩⟩:Side) (⟨KH,Kv,Kw,Ku,KJ,f_adds,f_gone,K4,f_have,f_held⟩:Frame)).1.p.snaps)],.int .i64 (JB (⟨Kn,Ko,KR,⟨⟨Ka,Kb,Kc,Kd⟩,Km⟩,⟨Kh,Ki,Kj,Kk⟩,⟨⟨Kf,s_w_c_l⟩,Kg,Ke⟩,⟨Kl,s_p_snaps⟩⟩:Side) (⟨KH,Kv,Kw,Ku,KJ,f_adds,f_gone,K4,f_have,f_held⟩:Frame)).2])):=by
 have w1:=Jq4 Kf s_w_c_l Kg Ke f_adds f_gone hl h.w.1.2 h.w.2.1 h.w.2.2 hf.2.2.1 hf.2.1
 have hp:=h.p
 clear h hf hl
 unfold JB
 simp only at w1 hq hp ⊢
 generalize JX ⟨⟨Kf,s_w_c_l⟩,Kg,Ke⟩ f_adds f_gone=r at *
 obtain⟨w,ch,why⟩:=r
 simp only at w1 hq ⊢
 cases ch
 ·have w2:=trivial
  have w3:=JeO Kl s_p_snaps hp
  clear hp hq
  cases hr:YW ⟨Kl,s_p_snaps⟩<;>rw[hr] at w3<;>rcases(show Kw=0∨Kw=1∨Kw=2∨Kw=3 by omega) with rfl|rfl|rfl|rfl
  all_goals (simp only[hr,Bool.false_eq_true,↓reduceIte];clear hk4 hr)
  all_goals
   refine Jn call67 func67 rfl ntmps67 results67 fun ts hn h0 h1=>?_
   (repeat' (first
 | (with_reducible first|refine callX.by (w1) ?_|refine callX.by (w2) ?_|refine callX.by (w3) ?_|assumption|(refine Qw hK _ ?_;clear hK K)|refine Qw ‹_› _ ?_|refine Qx ‹_› ?_|refine Qi fun K hK=>?_|refine Qj T fun K hK=>?_|refine SpecC.drawI (id:=11) T mixed 2 [([49],[51,52,53,54,2,55,56]),([50],[51,52,53,54,2,55,56]),([51],[49,50,52,53,56]),([52],[49,50,51,53,54,2,56]),([53],[49,50,51,52,54,2,55,56]),([54],[49,50,52,53,56]),([2],[49,50,52,53,56]),([55],[49,50,53,56]),([2],[49,50,53,56]),([56],[49,50,51,52,53,54,2,55])] (by kernel_rfl) fun K hK=>?_|refine Ql fun A B hA hB=>?_|refine Qn ?_|refine Qr ?_)
 |(with_reducible first|apply Qy|apply Qz|apply QA)<;>intro hb<;>try simp only[nr] at hb
 |simp only[go_sem,↓reduceIte,Qa,Qh,Qb,Qc,Qd,Qe,Qf,Qg,reduceCtorEq, *,-w1,-w2,-w3,YD,YO,YU,YX]
 |intro(bn:Bool) hbn))
  all_goals (repeat' (first|rfl|apply And.intro))
 ·have w2:=JpD Kl s_p_snaps w.shown hp.n
  generalize Vg ⟨Kl,s_p_snaps⟩ w.shown=q at *
  obtain⟨q,id,e⟩:=q
  simp only at w2 hq ⊢
  have w3:=JeO q.next' q.snaps hq
  have eq:(⟨q.next',q.snaps⟩:Pins)=q:=rfl
  rw[eq] at w3
  clear hp hq eq
  by_cases he:e=0
  ·subst he
   cases hr:YW q<;>rw[hr] at w3<;>rcases(show Kw=0∨Kw=1∨Kw=2∨Kw=3 by omega) with rfl|rfl|rfl|rfl
   all_goals (simp only[hr,Bool.false_eq_true,↓reduceIte];clear hk4 hr)
   all_goals
    refine Jn call67 func67 rfl ntmps67 results67 fun ts hn h0 h1=>?_
    (repeat' (first
 | (with_reducible first|refine callX.by (w1) ?_|refine callX.by (w2) ?_|refine callX.by (w3) ?_|assumption|(refine Qw hK _ ?_;clear hK K)|refine Qw ‹_› _ ?_|refine Qx ‹_› ?_|refine Qi fun K hK=>?_|refine Qj T fun K hK=>?_|refine SpecC.drawI (id:=11) T mixed 2 [([49],[51,52,53,54,2,55,56]),([50],[51,52,53,54,2,55,56]),([51],[49,50,52,53,56]),([52],[49,50,51,53,54,2,56]),([53],[49,50,51,52,54,2,55,56]),([54],[49,50,52,53,56]),([2],[49,50,52,53,56]),([55],[49,50,53,56]),([2],[49,50,53,56]),([56],[49,50,51,52,53,54,2,55])] (by kernel_rfl) fun K hK=>?_|refine Ql fun A B hA hB=>?_|refine Qn ?_|refine Qr ?_)
 |(with_reducible first|apply Qy|apply Qz|apply QA)<;>intro hb<;>try simp only[nr] at hb
 |simp only[go_sem,↓reduceIte,Qa,Qh,Qb,Qc,Qd,Qe,Qf,Qg,reduceCtorEq, *,-w1,-w2,-w3,YD,YO,YU,YX]
 |intro(bn:Bool) hbn))
   all_goals (repeat' (first|rfl|apply And.intro))
  ·simp only[he,↓reduceIte]
   clear hk4
   refine Jn call67 func67 rfl ntmps67 results67 fun ts hn h0 h1=>?_
   (repeat' (first
 | (with_reducible first|refine callX.by (w1) ?_|refine callX.by (w2) ?_|refine callX.by (w3) ?_|assumption|(refine Qw hK _ ?_;clear hK K)|refine Qw ‹_› _ ?_|refine Qx ‹_› ?_|refine Qi fun K hK=>?_|refine Qj T fun K hK=>?_|refine SpecC.drawI (id:=11) T mixed 2 [([49],[51,52,53,54,2,55,56]),([50],[51,52,53,54,2,55,56]),([51],[49,50,52,53,56]),([52],[49,50,51,53,54,2,56]),([53],[49,50,51,52,54,2,55,56]),([54],[49,50,52,53,56]),([2],[49,50,52,53,56]),([55],[49,50,53,56]),([2],[49,50,53,56]),([56],[49,50,51,52,53,54,2,55])] (by kernel_rfl) fun K hK=>?_|refine Ql fun A B hA hB=>?_|refine Qn ?_|refine Qr ?_)
 |(with_reducible first|apply Qy|apply Qz|apply QA)<;>intro hb<;>try simp only[nr] at hb
 |simp only[go_sem,↓reduceIte,Qa,Qh,Qb,Qc,Qd,Qe,Qf,Qg,reduceCtorEq, *,-w1,-w2,-w3,YD,YO,YU,YX]
 |intro(bn:Bool) hbn))
   all_goals (repeat' (first|rfl|apply And.intro))
theorem fin_iff{n m:Int}:fin n m=true↔0≤n∧n≤m:=by simp[fin]
theorem saneS_iff{s:Side}:JK s=true↔(0≤s.epoch∧s.epoch≤2147483647)∧(0≤s.turn∧s.turn≤2147483647)∧Z4 s.errs=true∧YF s.in'=true∧VF s.w=true∧ZL s.p=true∧YW s.p=true∧Z0 s=true:=by
 unfold JK
 simp only[Bool.and_eq_true,fin_iff,and_assoc]
theorem Jgp:Jq ⟨0,[]⟩=⟨0,[]⟩:=by rcases JeC ⟨0,[]⟩ with h|h<;>exact h
theorem Joa:JV ⟨0,[]⟩=[]:=by
 unfold JV
 rw[Jgp]
 simp[JZ,JM,V8,Vd]
theorem Jep(a b:Int):JK (Jf a b)=true:=by
 rw[saneS_iff]
 refine⟨by simp[Jf],by simp[Jf],(by decide:Z4 z4=true),?_,Jpa a,(by decide:ZL ⟨0,[]⟩=true),?_,by simp only[Jf,Z0,JJ,Jgp];decide⟩
 ·have h1:1≤J9 b∧J9 b≤2147483647:=by unfold J9;omega
  have h2:J9 (J9 b)=J9 b:=by unfold J9;omega
  have h3:Ya (J9 b) 0=0:=by unfold Ya;omega
  simp only[Jf,YF,Jmz,JmA,JmB,JmC,h2,h3,decide_true,Bool.and_self]
 ·show YW ⟨0,[]⟩=true
  unfold YW
  rw[Joa]
  decide
theorem Jdp(s:Side):JK (Jr s)=true:=by
 unfold Jr
 split
 ·assumption
 ·exact Jep _ _
theorem frameE_iff{f:Frame}:YQ f=0↔(fin f.type 3=true∧fin f.kind 3=true)∧Jbd f=true∧Jb1 f=true∧Jbc f=true∧ZC f.adds=0∧Jb0 f=true:=by
 unfold YQ Zd
 simp only[Z5,←Bool.and_eq_true]
 cases (fin f.type 3 && fin f.kind 3)<;>cases Jbd f<;>cases Jb1 f<;>cases Jbc f<;>cases Jb0 f<;>by_cases ha:ZC f.adds=0<;>simp[ha]
theorem refusesS_iff{s:Side}{f:Frame}:Jad s f=0↔s.up=true∧YQ f=0∧f.epoch=s.epoch∧f.type=1:=by
 unfold Jad
 cases s.up<;>simp only[Bool.false_eq_true,↓reduceIte,false_and,iff_false,true_and]
 ·omega
 ·by_cases h1:YQ f=0<;>by_cases h2:f.epoch=s.epoch<;>by_cases h3:f.type=1<;>simp[h1,h2,h3]
theorem Je5(s:Side)(f:Frame):(JB s f).1.turn=s.turn∧(JB s f).1.epoch=s.epoch∧(JB s f).1.up=s.up∧(JB s f).1.in'=s.in'∧((JB s f).1.p=s.p∨(JB s f).1.p=(Vg s.p (JX s.w f.adds f.gone).1.shown).1):=by
 unfold JB
 generalize JX s.w f.adds f.gone=r
 obtain⟨w,ch,why⟩:=r
 cases ch<;>simp only[Bool.false_eq_true,↓reduceIte]
 ·split<;>simp
 ·repeat' split
  all_goals simp
def Jhe(s:Side)(f:Frame):Frame:=⟨2,f.epoch,f.kind,f.nonce,s.turn+1,[],[],Z6 s.errs f.kind,[],JV s.p⟩
def Jz(s:Side)(f:Frame):Side×List Frame×Int :=
 let b:=Jr s
 if Jad b f=0 then
  let t:=VX b.in' f.kind f.nonce
  if t.2=0 then
   if b.turn=2147483647 then (b,[],14)
   else
    let r:=JB b f
    if r.2=0 then ({ r.1 with in':=t.1,turn:=r.1.turn+1 },[Jhe r.1 f],0) else (b,[],r.2)
  else if t.2=9 then
   if b.turn=2147483647 then (b,[],14) else ({ b with turn:=b.turn+1 },[Jhe b f],9)
  else (b,[],t.2)
 else (b,[],Jad b f)
theorem Jn6(Kn Ko:Int)(KR:Bool)(Ka Kb:Int)(Kc Kd:Int)(Km Kh:Int)(Ki Kj:Int)(Kk Kf:Int)(s_w_c_l:List Res)(Kg:Bool)(Ke:List Res)(Kl:Int)(s_p_snaps:List Snap)(KH Kv:Int)(Kw Ku KJ:Int)(f_adds:List Res)(f_gone:List Key)(K4:Int)(f_have:List Mark)(f_held:List Key)(h:SzS (⟨Kn,Ko,KR,⟨⟨Ka,Kb,Kc,Kd⟩,Km⟩,⟨Kh,Ki,Kj,Kk⟩,⟨⟨Kf,s_w_c_l⟩,Kg,Ke⟩,⟨Kl,s_p_snaps⟩⟩:Side))(hf:V4 (⟨KH,Kv,Kw,Ku,KJ,f_adds,f_gone,K4,f_have,f_held⟩:Frame))(hl:(Jr (⟨Kn,Ko,KR,⟨⟨Ka,Kb,Kc,Kd⟩,Km⟩,⟨Kh,Ki,Kj,Kk⟩,⟨⟨Kf,s_w_c_l⟩,Kg,Ke⟩,⟨Kl,s_p_snaps⟩⟩:Side)).w.c.l.length+f_adds.length≤65536)(hq:SzP (Vg (Jr (⟨Kn,Ko,KR,⟨⟨Ka,Kb,Kc,Kd⟩,Km⟩,⟨Kh,Ki,Kj,Kk⟩,⟨⟨Kf,s_w_c_l⟩,Kg,Ke⟩,⟨Kl,s_p_snaps⟩⟩:Side)).p (JX (Jr (⟨Kn,Ko,KR,⟨⟨Ka,Kb,Kc,Kd⟩,Km⟩,⟨Kh,Ki,Kj,Kk⟩,⟨⟨Kf,s_w_c_l⟩,Kg,Ke⟩,⟨Kl,s_p_snaps⟩⟩:Side)).w f_adds f_gone).1.shown).1) :
  CallR prog 27 [.agg [.int .i64 Kn,.int .i64 Ko,.bool KR,.int .i64 Ka,.int .i64 Kb,.int .i64 Kc,.int .i64 Kd,.int .i64 Km,.int .i64 Kh,.int .i64 Ki,.int .i64 Kj,.int .i64 Kk,.int .i64 Kf,.slice false (Ja s_w_c_l),.bool Kg,.slice false (Ja Ke),.int .i64 Kl,.slice false (Ja s_p_snaps)],.agg [.int .i64 KH,.int .i64 Kv,.int .i64 Kw,.int .i64 Ku,.int .i64 KJ,.slice false (Ja f_adds),.slice false (Ja f_gone),.int .i64 K4,.slice false (Ja f_have),.slice false (Ja f_held)]] (.val (.tup [.agg [.int .i64 (Jz (⟨Kn,Ko,KR,⟨⟨Ka,Kb,Kc,Kd⟩,Km⟩,⟨Kh,Ki,Kj,Kk⟩,⟨⟨Kf,s_w_c_l⟩,Kg,Ke⟩,⟨Kl,s_p_snaps⟩⟩:Side) (⟨KH,Kv,Kw,Ku,KJ,f_adds,f_gone,K4,f_have,f_held⟩:Frame)).1.epoch,.int .i64 (Jz (⟨Kn,Ko,KR,⟨⟨Ka,Kb,Kc,Kd⟩,Km⟩,⟨Kh,Ki,Kj,Kk⟩,⟨⟨Kf,s_w_c_l⟩,Kg,Ke⟩,⟨Kl,s_p_snaps⟩⟩:Side) (⟨KH,Kv,Kw,Ku,KJ,f_adds,f_gone,K4,f_have,f_held⟩:Frame)).1.turn,.bool (Jz (⟨Kn,Ko,KR,⟨⟨Ka,Kb,Kc,Kd⟩,Km⟩,⟨Kh,Ki,Kj,Kk⟩,⟨⟨Kf,s_w_c_l⟩,Kg,Ke⟩,⟨Kl,s_p_snaps⟩⟩:Side) (⟨KH,Kv,Kw,Ku,KJ,f_adds,f_gone,K4,f_have,f_held⟩:Frame)).1.up,.int .i64 (Jz (⟨Kn,Ko,KR,⟨⟨Ka,Kb,Kc,Kd⟩,Km⟩,⟨Kh,Ki,Kj,Kk⟩,⟨⟨Kf,s_w_c_l⟩,Kg,Ke⟩,⟨Kl,s_p_snaps⟩⟩:Side) (⟨KH,Kv,Kw,Ku,KJ,f_adds,f_gone,K4,f_have,f_held⟩:Frame)).1.in'.last.a0,.int .i64 (Jz (⟨Kn,Ko,KR,⟨⟨Ka,Kb,Kc,Kd⟩,Km⟩,⟨Kh,Ki,Kj,Kk⟩,⟨⟨Kf,s_w_c_l⟩,Kg,Ke⟩,⟨Kl,s_p_snaps⟩⟩:Side) (⟨KH,Kv,Kw,Ku,KJ,f_adds,f_gone,K4,f_have,f_held⟩:Frame)).1.in'.last.a1,.int .i64 (Jz (⟨Kn,Ko,KR,⟨⟨Ka,Kb,Kc,Kd⟩,Km⟩,⟨Kh,Ki,Kj,Kk⟩,⟨⟨Kf,s_w_c_l⟩,Kg,Ke⟩,⟨Kl,s_p_snaps⟩⟩:Side) (⟨KH,Kv,Kw,Ku,KJ,f_adds,f_gone,K4,f_have,f_held⟩:Frame)).1.in'.last.a2,.int .i64 (Jz (⟨Kn,Ko,KR,⟨⟨Ka,Kb,Kc,Kd⟩,Km⟩,⟨Kh,Ki,Kj,Kk⟩,⟨⟨Kf,s_w_c_l⟩,Kg,Ke⟩,⟨Kl,s_p_snaps⟩⟩:Side) (⟨KH,Kv,Kw,Ku,KJ,f_adds,f_gone,K4,f_have,f_held⟩:Frame)).1.in'.last.a3,.int .i64 (Jz (⟨Kn,Ko,KR,⟨⟨Ka,Kb,Kc,Kd⟩,Km⟩,⟨Kh,Ki,Kj,Kk⟩,⟨⟨Kf,s_w_c_l⟩,Kg,Ke⟩,⟨Kl,s_p_snaps⟩⟩:Side) (⟨KH,Kv,Kw,Ku,KJ,f_adds,f_gone,K4,f_have,f_held⟩:Frame)).1.in'.max,.int .i64 (Jz (⟨Kn,Ko,KR,⟨⟨Ka,Kb,Kc,Kd⟩,Km⟩,⟨Kh,Ki,Kj,Kk⟩,⟨⟨Kf,s_w_c_l⟩,Kg,Ke⟩,⟨Kl,s_p_snaps⟩⟩:Side) (⟨KH,Kv,Kw,Ku,KJ,f_adds,f_gone,K4,f_have,f_held⟩:Frame)).1.errs.a0,.int .i64 (Jz (⟨Kn,Ko,KR,⟨⟨Ka,Kb,Kc,Kd⟩,Km⟩,⟨Kh,Ki,Kj,Kk⟩,⟨⟨Kf,s_w_c_l⟩,Kg,Ke⟩,⟨Kl,s_p_snaps⟩⟩:Side) (⟨KH,Kv,Kw,Ku,KJ,f_adds,f_gone,K4,f_have,f_held⟩:Frame)).1.errs.a1,.int .i64 (Jz (⟨Kn,Ko,KR,⟨⟨Ka,Kb,Kc,Kd⟩,Km⟩,⟨Kh,Ki,Kj,Kk⟩,⟨⟨Kf,s_w_c_l⟩,Kg,Ke⟩,⟨Kl,s_p_snaps⟩⟩:Side) (⟨KH,Kv,Kw,Ku,KJ,f_adds,f_gone,K4,f_have,f_held⟩:Frame)).1.errs.a2,.int .i64 (Jz (⟨Kn,Ko,KR,⟨⟨Ka,Kb,Kc,Kd⟩,Km⟩,⟨Kh,Ki,Kj,Kk⟩,⟨⟨Kf,s_w_c_l⟩,Kg,Ke⟩,⟨Kl,s_p_snaps⟩⟩:Side) (⟨KH,Kv,Kw,Ku,KJ,f_adds,f_gone,K4,f_have,f_held⟩:Frame)).1.errs.a3,.int .i64 (Jz (⟨Kn,Ko,KR,⟨⟨Ka,Kb,Kc,Kd⟩,Km⟩,⟨Kh,Ki,Kj,Kk⟩,⟨⟨Kf,s_w_c_l⟩,Kg,Ke⟩,⟨Kl,s_p_snaps⟩⟩:Side) (⟨KH,Kv,Kw,Ku,KJ,f_adds,f_gone,K4,f_have,f_held⟩:Frame)).1.w.c.cap,.slice false (Ja (Jz (⟨Kn,Ko,KR,⟨⟨Ka,Kb,Kc,Kd⟩,Km⟩,⟨Kh,Ki,Kj,Kk⟩,⟨⟨Kf,s_w_c_l⟩,Kg,Ke⟩,⟨Kl,s_p_snaps⟩⟩:Side) (⟨KH,Kv,Kw,Ku,KJ,f_adds,f_gone,K4,f_have,f_held⟩:Frame)).1.w.c.l),.bool (Jz (⟨Kn,Ko,KR,⟨⟨Ka,Kb,Kc,Kd⟩,Km⟩,⟨Kh,Ki,Kj,Kk⟩,⟨⟨Kf,s_w_c_l⟩,Kg,Ke⟩,⟨Kl,s_p_snaps⟩⟩:Side) (⟨KH,Kv,Kw,Ku,KJ,f_adds,f_gone,K4,f_have,f_held⟩:Frame)).1.w.ready,.slice false (Ja (Jz (⟨Kn,Ko,KR,⟨⟨Ka,Kb,Kc,Kd⟩,Km⟩,⟨Kh,Ki,Kj,Kk⟩,⟨⟨Kf,s_w_c_l⟩,Kg,Ke⟩,⟨Kl,s_p_snaps⟩⟩:Side) (⟨KH,Kv,Kw,Ku,KJ,f_adds,f_gone,K4,f_have,f_held⟩:Frame)).1.w.shown),.int .i64 (Jz (⟨Kn,Ko,KR,⟨⟨Ka,Kb,Kc,Kd⟩,Km⟩,⟨Kh,Ki,Kj,Kk⟩,⟨⟨Kf,s_w_c_l⟩,Kg,Ke⟩,⟨Kl,s_p_snaps⟩⟩:Side) (⟨KH,Kv,Kw,Ku,KJ,f_adds,f_gone,K4,f_have,f_held⟩:Frame)).1.p.next',.slice false (Ja (Jz (⟨Kn,Ko,KR,⟨⟨Ka,Kb,Kc,Kd⟩,Km⟩,⟨Kh,Ki,Kj,Kk⟩,⟨⟨Kf,s_w_c_l⟩,Kg,Ke⟩,⟨Kl,s_p_snaps⟩⟩:Side) (⟨KH,Kv,Kw,Ku,KJ,f_adds,f_gone,K4,f_have,f_held⟩:Frame)).1.p.snaps)],.slice false (Ja (Jz (⟨Kn,Ko,KR,⟨⟨Ka,Kb,Kc,Kd⟩,Km⟩,⟨Kh,Ki,Kj,Kk⟩,⟨⟨Kf,s_w_c_l⟩,Kg,Ke⟩,⟨Kl,s_p_snaps⟩⟩:Side) (⟨KH,Kv,Kw,Ku,KJ,f_adds,f_gone,K4,f_have,f_held⟩:Frame)).2.1),.int .i64 (Jz (⟨Kn,Ko,KR,⟨⟨Ka,Kb,Kc,Kd⟩,Km⟩,⟨Kh,Ki,Kj,Kk⟩,⟨⟨Kf,s_w_c_l⟩,Kg,Ke⟩,⟨Kl,s_p_snaps⟩⟩:Side) (⟨KH,Kv,Kw,Ku,KJ,f_adds,f_gone,K4,f_have,f_held⟩:Frame)).2.2])):=by
 have w1:=YJ Kn Ko KR Ka Kb Kc Kd Km Kh Ki Kj Kk Kf s_w_c_l Kg Ke Kl s_p_snaps h
 have hz:=JeY h
 have hr:=(saneS_iff.1 (Jdp (⟨Kn,Ko,KR,⟨⟨Ka,Kb,Kc,Kd⟩,Km⟩,⟨Kh,Ki,Kj,Kk⟩,⟨⟨Kf,s_w_c_l⟩,Kg,Ke⟩,⟨Kl,s_p_snaps⟩⟩:Side))).2.1
 unfold Jz
 clear h
 generalize Jr (⟨Kn,Ko,KR,⟨⟨Ka,Kb,Kc,Kd⟩,Km⟩,⟨Kh,Ki,Kj,Kk⟩,⟨⟨Kf,s_w_c_l⟩,Kg,Ke⟩,⟨Kl,s_p_snaps⟩⟩:Side)=b at *
 simp only
 have w2:=Jbt b.epoch b.turn b.up b.in'.last.a0 b.in'.last.a1 b.in'.last.a2 b.in'.last.a3 b.in'.max b.errs.a0 b.errs.a1 b.errs.a2 b.errs.a3 b.w.c.cap b.w.c.l b.w.ready b.w.shown b.p.next' b.p.snaps KH Kv Kw Ku KJ f_adds f_gone K4 f_have f_held hf
 have w2:CallR prog 64 [.agg [.int .i64 b.epoch,.int .i64 b.turn,.bool b.up,.int .i64 b.in'.last.a0,.int .i64 b.in'.last.a1,.int .i64 b.in'.last.a2,.int .i64 b.in'.last.a3,.int .i64 b.in'.max,.int .i64 b.errs.a0,.int .i64 b.errs.a1,.int .i64 b.errs.a2,.int .i64 b.errs.a3,.int .i64 b.w.c.cap,.slice false (Ja b.w.c.l),.bool b.w.ready,.slice false (Ja b.w.shown),.int .i64 b.p.next',.slice false (Ja b.p.snaps)],.agg [.int .i64 KH,.int .i64 Kv,.int .i64 Kw,.int .i64 Ku,.int .i64 KJ,.slice false (Ja f_adds),.slice false (Ja f_gone),.int .i64 K4,.slice false (Ja f_have),.slice false (Ja f_held)]] (.val (.int .i64 (Jad b (⟨KH,Kv,Kw,Ku,KJ,f_adds,f_gone,K4,f_have,f_held⟩:Frame)))):=w2
 have w3:=Jbm b.in'.last.a0 b.in'.last.a1 b.in'.last.a2 b.in'.last.a3 b.in'.max Kw Ku
 have w3:CallR prog 65 [.agg [.int .i64 b.in'.last.a0,.int .i64 b.in'.last.a1,.int .i64 b.in'.last.a2,.int .i64 b.in'.last.a3,.int .i64 b.in'.max],.int .i64 Kw,.int .i64 Ku] (.val (.tup [.agg [.int .i64 (VX b.in' Kw Ku).1.last.a0,.int .i64 (VX b.in' Kw Ku).1.last.a1,.int .i64 (VX b.in' Kw Ku).1.last.a2,.int .i64 (VX b.in' Kw Ku).1.last.a3,.int .i64 (VX b.in' Kw Ku).1.max],.int .i64 (VX b.in' Kw Ku).2])):=w3
 have w4:=Zc b.epoch b.turn b.up b.in'.last.a0 b.in'.last.a1 b.in'.last.a2 b.in'.last.a3 b.in'.max b.errs.a0 b.errs.a1 b.errs.a2 b.errs.a3 b.w.c.cap b.w.c.l b.w.ready b.w.shown b.p.next' b.p.snaps
 by_cases h1:Jad b (⟨KH,Kv,Kw,Ku,KJ,f_adds,f_gone,K4,f_have,f_held⟩:Frame)=0
 rotate_left
 ·have w5:=trivial
  have w6:=trivial
  simp only[h1,↓reduceIte]
  clear hz hr hq hl hf
  generalize Jad b (⟨KH,Kv,Kw,Ku,KJ,f_adds,f_gone,K4,f_have,f_held⟩:Frame)=e at *
  refine CallR.go2 (T:=T.withF [14]) call27 func27 rfl ntmps27 (congrArg Array.toList results27) (by decide) fun ts hn h0 h1=>?_
  (repeat' (first
 | (with_reducible first|refine callX.by (w1) ?_|refine callX.by (w2) ?_|refine callX.by (YJ _ _ _ _ _ _ _ _ _ _ _ _ _ _ _ _ _ _ ?_) ?_|refine callX.by (Jbt _ _ _ _ _ _ _ _ _ _ _ _ _ _ _ _ _ _ _ _ _ _ _ _ _ _ _ _ ?_) ?_|refine callX.by (Jbm _ _ _ _ _ _ _) ?_|refine callX.by (Zc _ _ _ _ _ _ _ _ _ _ _ _ _ _ _ _ _ _) ?_|refine callX.by (JaR _ _ _ _ _ _ _ _ _ _ _ _ _ _ _ _ _ _ _ _ _ _ _ _ _ _ _ _ ?_ ?_ _ ?_ ?_) ?_|assumption|(refine Qw hK _ ?_;clear hK K)|refine Qw ‹_› _ ?_|refine Qx ‹_› ?_|refine Qi fun K hK=>?_|refine Qj (T.withF [14]) fun K hK=>?_|refine Ql fun A B hA hB=>?_|refine Qm ?_|refine Qn ?_|refine Qp ?_|refine Qr ?_)
 |(with_reducible first|apply Qy|apply Qz|apply QA)<;>intro hb<;>try simp only[nr] at hb
 |simp only[go_sem,↓reduceIte,Qa,Qh,Qb,Qc,Qd,Qe,Qf,Qg,reduceCtorEq, *,-w1,-w2,-w3,-w4,-w5,-w6]
 |intro(bn:Bool) hbn))
  all_goals (repeat' (first|rfl|apply And.intro))
 rw[h1] at w2
 have hk4:0≤Kw∧Kw<4:=by
  have:=fin_iff.1 ((frameE_iff.1 (refusesS_iff.1 h1).2.1).1.2)
  simp only at this
  omega
 simp only[h1,↓reduceIte]
 clear h1
 have w5:=Jq2 b.epoch b.turn b.up b.in'.last.a0 b.in'.last.a1 b.in'.last.a2 b.in'.last.a3 b.in'.max b.errs.a0 b.errs.a1 b.errs.a2 b.errs.a3 b.w.c.cap b.w.c.l b.w.ready b.w.shown b.p.next' b.p.snaps KH Kv Kw Ku KJ f_adds f_gone K4 f_have f_held hz hf hl hq hk4
 have w5:CallR prog 67 [.agg [.int .i64 b.epoch,.int .i64 b.turn,.bool b.up,.int .i64 b.in'.last.a0,.int .i64 b.in'.last.a1,.int .i64 b.in'.last.a2,.int .i64 b.in'.last.a3,.int .i64 b.in'.max,.int .i64 b.errs.a0,.int .i64 b.errs.a1,.int .i64 b.errs.a2,.int .i64 b.errs.a3,.int .i64 b.w.c.cap,.slice false (Ja b.w.c.l),.bool b.w.ready,.slice false (Ja b.w.shown),.int .i64 b.p.next',.slice false (Ja b.p.snaps)],.agg [.int .i64 KH,.int .i64 Kv,.int .i64 Kw,.int .i64 Ku,.int .i64 KJ,.slice false (Ja f_adds),.slice false (Ja f_gone),.int .i64 K4,.slice false (Ja f_have),.slice false (Ja f_held)]] (.val (.tup [.agg [.int .i64 (JB b (⟨KH,Kv,Kw,Ku,KJ,f_adds,f_gone,K4,f_have,f_held⟩:Frame)).1.epoch,.int .i64 (JB b (⟨KH,Kv,Kw,Ku,KJ,f_adds,f_gone,K4,f_have,f_held⟩:Frame)).1.turn,.bool (JB b (⟨KH,Kv,Kw,Ku,KJ,f_adds,f_gone,K4,f_have,f_held⟩:Frame)).1.up,.int .i64 (JB b (⟨KH,Kv,Kw,Ku,KJ,f_adds,f_gone,K4,f_have,f_held⟩:Frame)).1.in'.last.a0,.int .i64 (JB b (⟨KH,Kv,Kw,Ku,KJ,f_adds,f_gone,K4,f_have,f_held⟩:Frame)).1.in'.last.a1,.int .i64 (JB b (⟨KH,Kv,Kw,Ku,KJ,f_adds,f_gone,K4,f_have,f_held⟩:Frame)).1.in'.last.a2,.int .i64 (JB b (⟨KH,Kv,Kw,Ku,KJ,f_adds,f_gone,K4,f_have,f_held⟩:Frame)).1.in'.last.a3,.int .i64 (JB b (⟨KH,Kv,Kw,Ku,KJ,f_adds,f_gone,K4,f_have,f_held⟩:Frame)).1.in'.max,.int .i64 (JB b (⟨KH,Kv,Kw,Ku,KJ,f_adds,f_gone,K4,f_have,f_held⟩:Frame)).1.errs.a0,.int .i64 (JB b (⟨KH,Kv,Kw,Ku,KJ,f_adds,f_gone,K4,f_have,f_held⟩:Frame)).1.errs.a1,.int .i64 (JB b (⟨KH,Kv,Kw,Ku,KJ,f_adds,f_gone,K4,f_have,f_held⟩:Frame)).1.errs.a2,.int .i64 (JB b (⟨KH,Kv,Kw,Ku,KJ,f_adds,f_gone,K4,f_have,f_held⟩:Frame)).1.errs.a3,.int .i64 (JB b (⟨KH,Kv,Kw,Ku,KJ,f_adds,f_gone,K4,f_have,f_held⟩:Frame)).1.w.c.cap,.slice false (Ja (JB b (⟨KH,Kv,Kw,Ku,KJ,f_adds,f_gone,K4,f_have,f_held⟩:Frame)).1.w.c.l),.bool (JB b (⟨KH,Kv,Kw,Ku,KJ,f_adds,f_gone,K4,f_have,f_held⟩:Frame)).1.w.ready,.slice false (Ja (JB b (⟨KH,Kv,Kw,Ku,KJ,f_adds,f_gone,K4,f_have,f_held⟩:Frame)).1.w.shown),.int .i64 (JB b (⟨KH,Kv,Kw,Ku,KJ,f_adds,f_gone,K4,f_have,f_held⟩:Frame)).1.p.next',.slice false (Ja (JB b (⟨KH,Kv,Kw,Ku,KJ,f_adds,f_gone,K4,f_have,f_held⟩:Frame)).1.p.snaps)],.int .i64 (JB b (⟨KH,Kv,Kw,Ku,KJ,f_adds,f_gone,K4,f_have,f_held⟩:Frame)).2])):=w5
 obtain⟨k1,k2,k3,k4,k5⟩:=Je5 b (⟨KH,Kv,Kw,Ku,KJ,f_adds,f_gone,K4,f_have,f_held⟩:Frame)
 have hpr:SzP (JB b (⟨KH,Kv,Kw,Ku,KJ,f_adds,f_gone,K4,f_have,f_held⟩:Frame)).1.p:=by
  rcases k5 with k5|k5<;>rw[k5]
  ·exact hz.p
  ·exact hq
 generalize JB b (⟨KH,Kv,Kw,Ku,KJ,f_adds,f_gone,K4,f_have,f_held⟩:Frame)=r at *
 obtain⟨r,re⟩:=r
 generalize VX b.in' Kw Ku=t at *
 obtain⟨t,te⟩:=t
 simp only at w3 w5 hpr k1 ⊢
 rw[←k1] at hr
 by_cases h2:te=0
 ·subst h2
  have w6:=JaR r.epoch r.turn r.up t.last.a0 t.last.a1 t.last.a2 t.last.a3 t.max r.errs.a0 r.errs.a1 r.errs.a2 r.errs.a3 r.w.c.cap r.w.c.l r.w.ready r.w.shown r.p.next' r.p.snaps KH Kv Kw Ku KJ f_adds f_gone K4 f_have f_held hpr hr _ rfl hk4
  clear hz hq hl hf hpr k1 k2 k3 k4 k5 hr
  by_cases h3:b.turn=2147483647
  ·rw[decide_eq_true h3] at w4
   simp only[↓reduceIte,if_pos h3]
   clear h3
   refine CallR.go2 (T:=T.withF [14]) call27 func27 rfl ntmps27 (congrArg Array.toList results27) (by decide) fun ts hn h0 h1=>?_
   (repeat' (first
 | (with_reducible first|refine callX.by (w1) ?_|refine callX.by (w2) ?_|refine callX.by (w3) ?_|refine callX.by (w4) ?_|refine callX.by (w5) ?_|refine callX.by (w6) ?_|refine callX.by (YJ _ _ _ _ _ _ _ _ _ _ _ _ _ _ _ _ _ _ ?_) ?_|refine callX.by (Jbt _ _ _ _ _ _ _ _ _ _ _ _ _ _ _ _ _ _ _ _ _ _ _ _ _ _ _ _ ?_) ?_|refine callX.by (Jbm _ _ _ _ _ _ _) ?_|refine callX.by (Zc _ _ _ _ _ _ _ _ _ _ _ _ _ _ _ _ _ _) ?_|refine callX.by (JaR _ _ _ _ _ _ _ _ _ _ _ _ _ _ _ _ _ _ _ _ _ _ _ _ _ _ _ _ ?_ ?_ _ ?_ ?_) ?_|assumption|(refine Qw hK _ ?_;clear hK K)|refine Qw ‹_› _ ?_|refine Qx ‹_› ?_|refine Qi fun K hK=>?_|refine Qj (T.withF [14]) fun K hK=>?_|refine Ql fun A B hA hB=>?_|refine Qm ?_|refine Qn ?_|refine Qp ?_|refine Qr ?_)
 |(with_reducible first|apply Qy|apply Qz|apply QA)<;>intro hb<;>try simp only[nr] at hb
 |simp only[go_sem,↓reduceIte,Qa,Qh,Qb,Qc,Qd,Qe,Qf,Qg,reduceCtorEq, *,-w1,-w2,-w3,-w4,-w5,-w6]
 |intro(bn:Bool) hbn))
   all_goals (repeat' (first|rfl|apply And.intro))
  ·rw[decide_eq_false h3] at w4
   by_cases h4:re=0
   all_goals
    simp only[h3,h4,↓reduceIte]
    refine CallR.go2 (T:=T.withF [14]) call27 func27 rfl ntmps27 (congrArg Array.toList results27) (by decide) fun ts hn h0 h1=>?_
    (repeat' (first
 | (with_reducible first|refine callX.by (w1) ?_|refine callX.by (w2) ?_|refine callX.by (w3) ?_|refine callX.by (w4) ?_|refine callX.by (w5) ?_|refine callX.by (w6) ?_|refine callX.by (YJ _ _ _ _ _ _ _ _ _ _ _ _ _ _ _ _ _ _ ?_) ?_|refine callX.by (Jbt _ _ _ _ _ _ _ _ _ _ _ _ _ _ _ _ _ _ _ _ _ _ _ _ _ _ _ _ ?_) ?_|refine callX.by (Jbm _ _ _ _ _ _ _) ?_|refine callX.by (Zc _ _ _ _ _ _ _ _ _ _ _ _ _ _ _ _ _ _) ?_|refine callX.by (JaR _ _ _ _ _ _ _ _ _ _ _ _ _ _ _ _ _ _ _ _ _ _ _ _ _ _ _ _ ?_ ?_ _ ?_ ?_) ?_|assumption|(refine Qw hK _ ?_;clear hK K)|refine Qw ‹_› _ ?_|refine Qx ‹_› ?_|refine Qi fun K hK=>?_|refine Qj (T.withF [14]) fun K hK=>?_|refine Ql fun A B hA hB=>?_|refine Qm ?_|refine Qn ?_|refine Qp ?_|refine Qr ?_)
 |(with_reducible first|apply Qy|apply Qz|apply QA)<;>intro hb<;>try simp only[nr] at hb
 |simp only[go_sem,↓reduceIte,Qa,Qh,Qb,Qc,Qd,Qe,Qf,Qg,reduceCtorEq, *,-w1,-w2,-w3,-w4,-w5,-w6]
 |intro(bn:Bool) hbn))
   all_goals (repeat' (first|rfl|apply And.intro))
 ·by_cases h5:te=9
  ·subst h5
   have w6:=JaR b.epoch b.turn b.up b.in'.last.a0 b.in'.last.a1 b.in'.last.a2 b.in'.last.a3 b.in'.max b.errs.a0 b.errs.a1 b.errs.a2 b.errs.a3 b.w.c.cap b.w.c.l b.w.ready b.w.shown b.p.next' b.p.snaps KH Kv Kw Ku KJ f_adds f_gone K4 f_have f_held hz.p (k1▸hr) _ rfl hk4
   clear hz hq hl hf hpr k1 k2 k3 k4 k5 hr
   by_cases h3:b.turn=2147483647
   ·rw[decide_eq_true h3] at w4
    simp only[h2,if_pos h3,↓reduceIte]
    clear h3
    refine CallR.go2 (T:=T.withF [14]) call27 func27 rfl ntmps27 (congrArg Array.toList results27) (by decide) fun ts hn h0 h1=>?_
    (repeat' (first
 | (with_reducible first|refine callX.by (w1) ?_|refine callX.by (w2) ?_|refine callX.by (w3) ?_|refine callX.by (w4) ?_|refine callX.by (w5) ?_|refine callX.by (w6) ?_|refine callX.by (YJ _ _ _ _ _ _ _ _ _ _ _ _ _ _ _ _ _ _ ?_) ?_|refine callX.by (Jbt _ _ _ _ _ _ _ _ _ _ _ _ _ _ _ _ _ _ _ _ _ _ _ _ _ _ _ _ ?_) ?_|refine callX.by (Jbm _ _ _ _ _ _ _) ?_|refine callX.by (Zc _ _ _ _ _ _ _ _ _ _ _ _ _ _ _ _ _ _) ?_|refine callX.by (JaR _ _ _ _ _ _ _ _ _ _ _ _ _ _ _ _ _ _ _ _ _ _ _ _ _ _ _ _ ?_ ?_ _ ?_ ?_) ?_|assumption|(refine Qw hK _ ?_;clear hK K)|refine Qw ‹_› _ ?_|refine Qx ‹_› ?_|refine Qi fun K hK=>?_|refine Qj (T.withF [14]) fun K hK=>?_|refine Ql fun A B hA hB=>?_|refine Qm ?_|refine Qn ?_|refine Qp ?_|refine Qr ?_)
 |(with_reducible first|apply Qy|apply Qz|apply QA)<;>intro hb<;>try simp only[nr] at hb
 |simp only[go_sem,↓reduceIte,Qa,Qh,Qb,Qc,Qd,Qe,Qf,Qg,reduceCtorEq, *,-w1,-w2,-w3,-w4,-w5,-w6]
 |intro(bn:Bool) hbn))
    all_goals (repeat' (first|rfl|apply And.intro))
   ·rw[decide_eq_false h3] at w4
    simp only[h2,h3,↓reduceIte]
    refine CallR.go2 (T:=T.withF [14]) call27 func27 rfl ntmps27 (congrArg Array.toList results27) (by decide) fun ts hn h0 h1=>?_
    (repeat' (first
 | (with_reducible first|refine callX.by (w1) ?_|refine callX.by (w2) ?_|refine callX.by (w3) ?_|refine callX.by (w4) ?_|refine callX.by (w5) ?_|refine callX.by (w6) ?_|refine callX.by (YJ _ _ _ _ _ _ _ _ _ _ _ _ _ _ _ _ _ _ ?_) ?_|refine callX.by (Jbt _ _ _ _ _ _ _ _ _ _ _ _ _ _ _ _ _ _ _ _ _ _ _ _ _ _ _ _ ?_) ?_|refine callX.by (Jbm _ _ _ _ _ _ _) ?_|refine callX.by (Zc _ _ _ _ _ _ _ _ _ _ _ _ _ _ _ _ _ _) ?_|refine callX.by (JaR _ _ _ _ _ _ _ _ _ _ _ _ _ _ _ _ _ _ _ _ _ _ _ _ _ _ _ _ ?_ ?_ _ ?_ ?_) ?_|assumption|(refine Qw hK _ ?_;clear hK K)|refine Qw ‹_› _ ?_|refine Qx ‹_› ?_|refine Qi fun K hK=>?_|refine Qj (T.withF [14]) fun K hK=>?_|refine Ql fun A B hA hB=>?_|refine Qm ?_|refine Qn ?_|refine Qp ?_|refine Qr ?_)
 |(with_reducible first|apply Qy|apply Qz|apply QA)<;>intro hb<;>try simp only[nr] at hb
 |simp only[go_sem,↓reduceIte,Qa,Qh,Qb,Qc,Qd,Qe,Qf,Qg,reduceCtorEq, *,-w1,-w2,-w3,-w4,-w5,-w6]
 |intro(bn:Bool) hbn))
    all_goals (repeat' (first|rfl|apply And.intro))
  ·have w6:=trivial
   clear hz hq hl hf hpr k1 k2 k3 k4 k5 hr
   simp only[h2,h5,↓reduceIte]
   refine CallR.go2 (T:=T.withF [14]) call27 func27 rfl ntmps27 (congrArg Array.toList results27) (by decide) fun ts hn h0 h1=>?_
   (repeat' (first
 | (with_reducible first|refine callX.by (w1) ?_|refine callX.by (w2) ?_|refine callX.by (w3) ?_|refine callX.by (w4) ?_|refine callX.by (w5) ?_|refine callX.by (w6) ?_|refine callX.by (YJ _ _ _ _ _ _ _ _ _ _ _ _ _ _ _ _ _ _ ?_) ?_|refine callX.by (Jbt _ _ _ _ _ _ _ _ _ _ _ _ _ _ _ _ _ _ _ _ _ _ _ _ _ _ _ _ ?_) ?_|refine callX.by (Jbm _ _ _ _ _ _ _) ?_|refine callX.by (Zc _ _ _ _ _ _ _ _ _ _ _ _ _ _ _ _ _ _) ?_|refine callX.by (JaR _ _ _ _ _ _ _ _ _ _ _ _ _ _ _ _ _ _ _ _ _ _ _ _ _ _ _ _ ?_ ?_ _ ?_ ?_) ?_|assumption|(refine Qw hK _ ?_;clear hK K)|refine Qw ‹_› _ ?_|refine Qx ‹_› ?_|refine Qi fun K hK=>?_|refine Qj (T.withF [14]) fun K hK=>?_|refine Ql fun A B hA hB=>?_|refine Qm ?_|refine Qn ?_|refine Qp ?_|refine Qr ?_)
 |(with_reducible first|apply Qy|apply Qz|apply QA)<;>intro hb<;>try simp only[nr] at hb
 |simp only[go_sem,↓reduceIte,Qa,Qh,Qb,Qc,Qd,Qe,Qf,Qg,reduceCtorEq, *,-w1,-w2,-w3,-w4,-w5,-w6]
 |intro(bn:Bool) hbn))
   all_goals (repeat' (first|rfl|apply And.intro))
def JbW(f:Frame):Bool:=(f.have'.all fun m=>decide (m.k.name.length≤100)) && (V7 f.adds && decide (f.gone.length≤80) && decide (f.have'.length≤80) && decide (f.held.length≤80))
theorem JnL(KH Kv:Int)(Kw Ku KJ:Int)(f_adds:List Res)(f_gone:List Key)(K4:Int)(f_have:List Mark)(f_held:List Key)(h:V4 (⟨KH,Kv,Kw,Ku,KJ,f_adds,f_gone,K4,f_have,f_held⟩:Frame)):CallR prog 26 [.agg [.int .i64 KH,.int .i64 Kv,.int .i64 Kw,.int .i64 Ku,.int .i64 KJ,.slice false (Ja f_adds),.slice false (Ja f_gone),.int .i64 K4,.slice false (Ja f_have),.slice false (Ja f_held)]] (.val (.bool (JbW (⟨KH,Kv,Kw,Ku,KJ,f_adds,f_gone,K4,f_have,f_held⟩:Frame)))):=by
 have w1:=JbX f_adds h.1 h.2.1
 have hl:=h.2.2.2.2.1
 have hn:=h.2.2.2.2.2.1
 simp only at hl hn
 have e:JbW (⟨KH,Kv,Kw,Ku,KJ,f_adds,f_gone,K4,f_have,f_held⟩:Frame)=((f_have.all fun m=>decide (m.k.name.length≤100)) && (V7 f_adds && decide (f_gone.length≤80) && decide (f_have.length≤80) && decide (f_held.length≤80))):=rfl
 rw[e]
 clear h e
 generalize V7 f_adds=fa at *
 refine Jl call26 func26 rfl ntmps26 results26 fun ts hn h0=>?_
 (repeat' (first
 | (with_reducible first|refine callX.by (w1) ?_|assumption|(refine Qw hK _ ?_;clear hK K)|refine Qw ‹_› _ ?_|refine Qx ‹_› ?_|refine Qi fun K hK=>?_|refine Qj T fun K hK=>?_|refine Ql fun A B hA hB=>?_|refine Qm ?_|refine Qn ?_|refine Qp ?_|refine Qr ?_)
 |(with_reducible first|apply Qy|apply Qz|apply QA)<;>intro hb<;>try simp only[nr] at hb
 |simp only[go_sem,↓reduceIte,Qa,Qh,Qb,Qc,Qd,Qe,Qf,Qg,reduceCtorEq, *,-w1]
 |intro(bn:Bool) hbn))
 refine SpecC.loopF [1] (fun m ts'=>∃(i:Nat),m=f_have.length-i∧i≤f_have.length∧(f_have.all fun m=>decide (m.k.name.length≤100))=((f_have.drop i).all fun m=>decide (m.k.name.length≤100))∧ts'.tmp 3=.int .i64 i) f_have.length ?_ ?_
 ·refine⟨0,?_⟩
  simp only[go_sem,↓reduceIte,Qa,Qh,Qb,Qc,Qd,Qe,Qf,Qg,reduceCtorEq, *,-w1]
 ·rintro m A hM ts' hk ⟨i,hm,f1,f2,s1⟩
  simp only[go_sem,↓reduceIte,Qa,Qh,Qb,Qc,Qd,Qe,Qf,Qg,reduceCtorEq, *] at hk
  by_cases hlt:i<f_have.length
  ·rw[List.drop_eq_getElem_cons hlt,List.all_cons] at f2
   (repeat' (first
 | (with_reducible first|refine callX.by (w1) ?_|assumption|(refine Qw hK _ ?_;clear hK K)|refine Qw ‹_› _ ?_|refine Qx ‹_› ?_|refine Qi fun K hK=>?_|refine Qj T fun K hK=>?_|refine Ql fun A B hA hB=>?_|refine Qm ?_|refine Qn ?_|refine Qp ?_|refine Qr ?_)
 |(with_reducible first|apply Qy|apply Qz|apply QA)<;>intro hb<;>try simp only[nr] at hb
 |simp only[go_sem,↓reduceIte,Qa,Qh,Qb,Qc,Qd,Qe,Qf,Qg,reduceCtorEq, *,-f2,-w1]
 |intro(bn:Bool) hbn))
   all_goals ((repeat clear hK);(repeat clear hA);(repeat clear hB))
   ·rw[f2,decide_eq_false (by omega)];simp
   ·rw[decide_eq_true (by omega),Bool.true_and] at f2
    (refine hM.on (f_have.length-(i+1)) (by omega) (by simp only[go_sem,↓reduceIte,Qa,Qh,Qb,Qc,Qd,Qe,Qf,Qg,reduceCtorEq, *,Jg hlt hl,-f2,-w1]) ⟨i+1,rfl,by omega,f2,?_⟩;simp only[go_sem,↓reduceIte,Qa,Qh,Qb,Qc,Qd,Qe,Qf,Qg,reduceCtorEq, *,Jg hlt hl,-f2,-w1];done)
  ·rw[List.drop_eq_nil_of_le (by omega),List.all_nil] at f2
   (repeat' (first
 | (with_reducible first|refine callX.by (w1) ?_|assumption|(refine Qw hK _ ?_;clear hK K)|refine Qw ‹_› _ ?_|refine Qx ‹_› ?_|refine Qi fun K hK=>?_|refine Qj T fun K hK=>?_|refine Ql fun A B hA hB=>?_|refine Qm ?_|refine Qn ?_|refine Qp ?_|refine Qr ?_)
 |(with_reducible first|apply Qy|apply Qz|apply QA)<;>intro hb<;>try simp only[nr] at hb
 |simp only[go_sem,↓reduceIte,Qa,Qh,Qb,Qc,Qd,Qe,Qf,Qg,reduceCtorEq, *,-f2,-w1]
 |intro(bn:Bool) hbn))
   all_goals ((repeat clear hK);(repeat clear hA);(repeat clear hB))
   all_goals (rw[f2];simp_all)
def Ja8(s:Side):Bool:=V7 s.w.c.l && V7 s.w.shown && Ja9 s.p
theorem JnN(Kn Ko:Int)(KR:Bool)(Ka Kb:Int)(Kc Kd:Int)(Km Kh:Int)(Ki Kj:Int)(Kk Kf:Int)(s_w_c_l:List Res)(Kg:Bool)(Ke:List Res)(Kl:Int)(s_p_snaps:List Snap)(hw:JaY ⟨⟨Kf,s_w_c_l⟩,Kg,Ke⟩)(hl:Jc s_p_snaps.length)(hs:∀x∈s_p_snaps,Yp x):CallR prog 31 [.agg [.int .i64 Kn,.int .i64 Ko,.bool KR,.int .i64 Ka,.int .i64 Kb,.int .i64 Kc,.int .i64 Kd,.int .i64 Km,.int .i64 Kh,.int .i64 Ki,.int .i64 Kj,.int .i64 Kk,.int .i64 Kf,.slice false (Ja s_w_c_l),.bool Kg,.slice false (Ja Ke),.int .i64 Kl,.slice false (Ja s_p_snaps)]] (.val (.bool (Ja8 (⟨Kn,Ko,KR,⟨⟨Ka,Kb,Kc,Kd⟩,Km⟩,⟨Kh,Ki,Kj,Kk⟩,⟨⟨Kf,s_w_c_l⟩,Kg,Ke⟩,⟨Kl,s_p_snaps⟩⟩:Side)))):=by
 have w1:=JbX s_w_c_l hw.1.1 hw.1.2
 have w2:=JbX Ke hw.2.1 hw.2.2
 have w3:=JnM Kl s_p_snaps hl hs
 have e:Ja8 (⟨Kn,Ko,KR,⟨⟨Ka,Kb,Kc,Kd⟩,Km⟩,⟨Kh,Ki,Kj,Kk⟩,⟨⟨Kf,s_w_c_l⟩,Kg,Ke⟩,⟨Kl,s_p_snaps⟩⟩:Side)=(V7 s_w_c_l && V7 Ke && Ja9 ⟨Kl,s_p_snaps⟩):=rfl
 rw[e]
 clear hw hl hs e
 generalize V7 s_w_c_l=a at *
 generalize V7 Ke=b at *
 generalize Ja9 ⟨Kl,s_p_snaps⟩=c at *
 refine Jl call31 func31 rfl ntmps31 results31 fun ts hn h0=>?_
 (repeat' (first
 | (with_reducible first|refine callX.by (w1) ?_|refine callX.by (w2) ?_|refine callX.by (w3) ?_|assumption|(refine Qw hK _ ?_;clear hK K)|refine Qw ‹_› _ ?_|refine Qx ‹_› ?_|refine Qi fun K hK=>?_|refine Qj T fun K hK=>?_|refine Ql fun A B hA hB=>?_|refine Qn ?_|refine Qr ?_)
 |(with_reducible first|apply Qy|apply Qz|apply QA)<;>intro hb<;>try simp only[nr] at hb
 |simp only[go_sem,↓reduceIte,Qa,Qh,Qb,Qc,Qd,Qe,Qf,Qg,reduceCtorEq, *,-w1,-w2,-w3]
 |intro(bn:Bool) hbn))
 all_goals simp_all
theorem Jel(l:List Snap):(∀x∈l.dropLast,0<x.pins)↔∀i,(h:i+1<l.length)→0<l[i].pins:=by
 constructor
 ·intro h i hi
  have h1:i<l.dropLast.length:=by simp;omega
  have:=h _ (QC h1)
  simpa using this
 ·intro h x hx
  obtain⟨i,hi,rfl⟩:=List.getElem_of_mem hx
  simp only[List.length_dropLast] at hi
  simpa using h i (by omega)
theorem Jrr{l:List Snap}{q:Snap→Bool}(h:l.Pairwise (fun x y=>x.id<y.id)):(l.filter q).Pairwise (fun x y=>x.id<y.id):=h.sublist List.filter_sublist
theorem Jpj(p:Pins)(l:List Res):OkP (JeQ p l).1:=by
 have h:=Jcj p
 unfold JeQ
 simp only
 generalize Va p=q at *
 split
 ·exact h
 ·rename_i h1
  split
  ·exact h
  ·rename_i h2
   have hw:IntKind.i64.wrap (q.next'+1)=q.next'+1:=IntWalk.i64_in _ (by have:=h.lo;have:=h.hi;omega)
   rw[hw]
   have h3:=h.hi;have h4:=h.lo
   refine⟨by simp only;omega,by simp only;omega,by simp only[List.length_append,List.length_cons,List.length_nil];omega,?_,?_,?_⟩
   ·rw[List.pairwise_append]
    refine⟨Jrr h.up,by simp,fun x hx y hy=>?_⟩
    simp only[List.mem_singleton] at hy
    subst hy
    have:=h.mem x ((List.mem_filter.1 hx).1)
    simp only;omega
   ·intro x hx
    rcases List.mem_append.1 hx with hx|hx
    ·have:=h.mem x ((List.mem_filter.1 hx).1)
     simp only;omega
    ·simp only[List.mem_singleton] at hx
     subst hx
     simp only;omega
   ·intro x hx
    simp only[List.dropLast_concat] at hx
    simpa using(List.mem_filter.1 hx).2
theorem JeV{q:Pins}{k:Nat}{s:Snap}(hk:k<q.snaps.length)(h:0<s.pins∨k+1=q.snaps.length):Zx q k s=⟨q.next',q.snaps.set k s⟩:=by
 rw[Zx,if_pos h,Je4 _ _ _ hk]
theorem JgO{q:Pins}{k:Nat}{s:Snap}(h:¬(0<s.pins∨k+1=q.snaps.length)):Zx q k s=⟨q.next',q.snaps.eraseIdx k⟩:=by
 rw[Zx,if_neg h,List.eraseIdx_eq_take_drop_succ];simp
theorem Jjb{q:Pins}(h:OkP q){k:Nat}{s:Snap}(hk:k<q.snaps.length)(hid:s.id=q.snaps[k].id)(h0:0≤s.pins)(h1:s.pins≤10000):OkP (Zx q k s):=by
 have hb:=h.mem _ (QC hk)
 by_cases hc:0<s.pins∨k+1=q.snaps.length
 ·rw[JeV hk hc]
  refine⟨h.lo,h.hi,by simpa using h.len,?_,?_,?_⟩
  ·have h2:(q.snaps.map (·.id)).Pairwise (· < ·):=List.pairwise_map.2 h.up
   suffices h3:((q.snaps.set k s).map (·.id)).Pairwise (· < ·) from List.pairwise_map.1 h3
   rw[List.map_set,hid]
   have:(q.snaps.map (·.id)).set k q.snaps[k].id=q.snaps.map (·.id):=by
    have e:q.snaps[k].id=(q.snaps.map (·.id))[k]'(by simpa using hk):=by simp
    rw[e,List.set_getElem_self]
   rw[this];exact h2
  ·intro x hx
   rcases List.mem_or_eq_of_mem_set hx with hx|rfl
   ·exact h.mem x hx
   ·simp only;omega
  ·rw[Jel]
   have hp:=(Jel _).1 h.pos
   intro i hi
   simp only[List.length_set] at hi
   simp only[List.getElem_set]
   split
   ·omega
   ·exact hp i hi
 ·rw[JgO hc]
  refine⟨h.lo,h.hi,?_,h.up.sublist (List.eraseIdx_sublist _ _),fun x hx=>h.mem x (List.mem_of_mem_eraseIdx hx),?_⟩
  ·have:=h.len
   simp only[List.length_eraseIdx];split<;>omega
  ·rw[Jel]
   have hp:=(Jel _).1 h.pos
   intro i hi
   simp only[List.length_eraseIdx,if_pos hk] at hi
   rw[List.getElem_eraseIdx]
   split
   ·exact hp i (by omega)
   ·exact hp (i+1) (by omega)
theorem Jiv{l:List Snap}{s:Snap}(h:l.getLast?=some s):∃hk:l.length-1<l.length,l[l.length-1]=s:=by
 have hne:0<l.length:=by
  cases l with
  |nil=>simp at h
  |cons=>simp
 refine⟨by omega,?_⟩
 rw[List.getLast?_eq_getElem?,List.getElem?_eq_getElem (by omega)] at h
 exact Option.some.inj h
theorem Jpi(p:Pins):OkP (JeP p).1:=by
 have h:=Jcj p
 unfold JeP
 simp only
 generalize Va p=q at *
 cases hg:q.snaps.getLast? with
 |none=>exact h
 |some s =>
  obtain⟨hk,rfl⟩:=Jiv hg
  have hb:=h.mem _ (QC hk)
  simp only
  split
  ·exact h
  ·have hw:IntKind.i64.wrap (q.snaps[q.snaps.length-1].pins+1)=q.snaps[q.snaps.length-1].pins+1:=IntWalk.i64_in _ (by omega)
   exact Jjb h hk rfl (by simp only[hw];omega) (by simp only[hw];omega)
theorem JjW{q:Pins}(h:OkP q){id:Int}(hn:∀x∈q.snaps,x.id≠id):Zw q id=(q,10):=by
 rw[Zw,Jct h,Jgz hn]
theorem JeR{q:Pins}(h:OkP q){k:Nat}(hk:k<q.snaps.length):Zw q q.snaps[k].id=if q.snaps[k].pins=0 then (q,15) else (Zx q k ⟨q.snaps[k].id,q.snaps[k].pins-1,q.snaps[k].l⟩,0):=by
 have hb:=h.mem _ (QC hk)
 have hw:IntKind.i64.wrap (q.snaps[k].pins-1)=q.snaps[k].pins-1:=IntWalk.i64_in _ (by omega)
 rw[Zw,Jct h,Jgy hk rfl (fun j hj hid=>by
  have:=JdB h.up (by omega) hk hid
  omega),hw,Nat.zero_add]
theorem JgG{q:Pins}(h:OkP q){k:Nat}(hk:k<q.snaps.length):Jae q q.snaps[k].id=(q.snaps[k].l,true):=by
 rw[Jae,Jct h,Jif h.up hk]
theorem Jqg{q:Pins}(h:OkP q){id:Int}(hn:∀x∈q.snaps,x.id≠id):Jae q id=([],false):=by
 have:q.snaps.find? (fun x=>decide (x.id=id))=none:=by
  rw[List.find?_eq_none];intro x hx;simpa using hn x hx
 rw[Jae,Jct h,this]
theorem Jiy(l:List Snap)(id:Int):(∀x∈l,x.id≠id)∨∃k,∃h:k<l.length,l[k].id=id:=by
 by_cases h:∀x∈l,x.id≠id
 ·exact .inl h
 ·simp only[ne_eq,Decidable.not_not,Classical.not_forall] at h
  obtain⟨x,hx,e⟩:=h
  obtain⟨k,hk,rfl⟩:=List.getElem_of_mem hx
  exact .inr ⟨k,hk,e⟩
theorem Jql(p:Pins)(id:Int):Zw p id=Zw (Va p) id:=by
 rw[Zw,Zw,Jct (Jcj p)]
theorem Jpk(p:Pins)(id:Int):OkP (Zw p id).1:=by
 have h:=Jcj p
 rw[Jql]
 generalize Va p=q at *
 rcases Jiy q.snaps id with hn|⟨k,hk,rfl⟩
 ·rw[JjW h hn];exact h
 ·have hb:=h.mem _ (QC hk)
  rw[JeR h hk]
  split
  ·exact h
  ·exact Jjb h hk rfl (by simp only;omega) (by simp only;omega)
def SmP(p:Pins):Prop:=∀x∈p.snaps,Yp x
theorem JqV{p:Pins}(h:SmP p):SmP (Va p):=by
 unfold Va;split
 ·exact h
 ·intro x hx;simp at hx
theorem Jkl{p:Pins}{id:Int}(h:SmP p):Jc (Jae p id).1.length∧∀x∈(Jae p id).1,Jy x:=by
 have h1:=JqV h
 unfold Jae
 split
 ·simp[Jc]
 ·rename_i s hs
  exact h1 s (List.mem_of_find?_eq_some hs)
theorem OkP.small{p:Pins}(h:OkP p):Jc p.snaps.length:=by have:=h.len;unfold Jc;omega
def Y1(e:Int):Prop:=0≤e∧e≤15∧e≠9
theorem JqB(r:Res):Y1 (V1 r):=by unfold V1 Y1;repeat' split;all_goals omega
theorem Jih:∀l:List Res,Y1 (Y4 l)
 | []=>by simp[Y4,Y1]
 |r :: l=>by
  rw[Y4]
  split
  ·exact Jih l
  ·exact JqB r
theorem Jrm(l:List Res):Y1 (Vb l):=by
 have:=Jih l
 unfold Vb
 repeat' split
 all_goals first|exact this|simp[Y1]
theorem Jo2(c:Int)(l:List Res):Y1 (J8 c l):=by
 have:=Jrm l
 unfold J8 Zy
 repeat' split
 all_goals first|exact this|simp[Y1]
theorem JmS(c:Cache)(a:List Res)(g:List Key):Y1 (J7 c a g).2:=by
 have:=Jo2 (Vx c).cap (YG (Vx c).l a g)
 unfold J7
 simp only
 split
 ·simp[Y1]
 ·exact this
theorem Jq5(w:Warm)(a:List Res)(g:List Key):Y1 (JX w a g).2.2:=by
 have:=JmS (Yy w).c a g
 unfold JX
 simp only
 repeat' split
 all_goals first|exact this|simp[Y1]
theorem Jjw(p:Pins)(l:List Res):OkP (Vg p l).1:=by rw[JpF];exact Jpj p l
theorem JpE{p:Pins}{l:List Res}(h:(Vg p l).2.2=0):(JJ (Vg p l).1).2=(l,true):=by
 have h0:=Y9 (Jjw p l)
 unfold JJ
 rw[h0]
 unfold Vg at h ⊢
 simp only at h ⊢
 by_cases h1:(Jq p).next'=2147483647
 ·rw[if_pos h1] at h;simp at h
 ·rw[if_neg h1] at h ⊢
  by_cases h2:1000≤((Jq p).snaps.filter fun x=>!decide (x.pins=0)).length
  ·rw[if_pos h2] at h;simp at h
  ·rw[if_neg h2]
   simp
theorem JfI{e:Four}(h:Z4 e=true){k n:Int}(hn:0≤n∧n≤15):Z4 (JbA e k n)=true:=by
 have hn2:=fin_iff.2 hn
 unfold Z4 at h ⊢
 simp only[Bool.and_eq_true] at h ⊢
 obtain⟨⟨⟨g0,g1⟩,g2⟩,g3⟩:=h
 unfold JbA
 repeat' split
 all_goals simp only[hn2,g0,g1,g2,g3,and_self]
theorem Jq3{s:Side}(h:JK s=true)(f:Frame):JK (JB s f).1=true:=by
 obtain⟨h1,h2,h3,h4,h5,h6,h7,h8⟩:=saneS_iff.1 h
 have k1:=Jks h5 f.adds f.gone
 have k2:=Jq8 h5 f.adds f.gone
 have k3:=Jq7 h5 f.adds f.gone
 have k4:=Jq5 s.w f.adds f.gone
 unfold JB
 generalize JX s.w f.adds f.gone=r at *
 obtain⟨w,ch,why⟩:=r
 simp only at k1 k2 k3 k4 ⊢
 cases ch
 ·simp only[Bool.false_eq_true,↓reduceIte,h7]
  have hs:s.w.shown=w.shown:=by simpa using k2.symm
  rw[Bool.or_false] at k3
  refine saneS_iff.2 ⟨h1,h2,JfI h3 ⟨k4.1,k4.2.1⟩,h4,k1,h6,h7,?_⟩
  unfold Z0 at h8 ⊢
  simp only[k3,←hs]
  exact h8
 ·simp only[↓reduceIte]
  by_cases he:(Vg s.p w.shown).2.2=0
  ·rw[if_pos he]
   by_cases hr:YW (Vg s.p w.shown).1=true
   ·rw[if_pos hr]
    refine saneS_iff.2 ⟨h1,h2,JfI h3 ⟨k4.1,k4.2.1⟩,h4,k1,(Zt _).2 (Jjw _ _),hr,?_⟩
    have hc:=JpE he
    unfold Z0
    simp only[hc,k3,Bool.or_true]
    simp
   ·rw[if_neg hr]
    exact saneS_iff.2 ⟨h1,h2,JfI h3 (by omega),h4,h5,h6,h7,h8⟩
  ·rw[if_neg he];exact h
theorem Jo4(i:In)(k n:Int):YF (VX i k n).1=true:=by
 have h:=Ji2 i
 have hr:=Ji9 h
 unfold VX
 by_cases hk4:0≤k∧k<4
 ·rw[if_neg (by simpa using hk4)]
  split
  ·exact h
  ·split
   ·exact h
   ·rename_i h2
    simp only[not_or,Decidable.not_not] at h2
    obtain⟨h2,h3⟩:=h2
    obtain⟨⟨r0,q0⟩,⟨r1,q1⟩,⟨r2,q2⟩,⟨r3,q3⟩,rm,qm⟩:=hr
    simp only[YF,Bool.and_eq_true,decide_eq_true_eq]
    have hn:0≤n∧n≤(Vq i).max:=by
     unfold Z6 at h2
     refine⟨?_,by omega⟩
     split at h2
     ·omega
     ·split at h2
      ·omega
      ·split at h2<;>omega
    have e1:∀x:Int,0≤x∧x≤(Vq i).max→Ya (Vq i).max x=x:=fun x hx=>by unfold Ya;omega
    have e2:(Vq i).max=J9 (Vq i).max:=by unfold J9;omega
    refine⟨?_,e2⟩
    unfold JbA
    repeat' split
    all_goals exact⟨e1 _ (by first|exact hn|exact⟨r0,q0⟩),e1 _ (by first|exact hn|exact⟨r1,q1⟩),e1 _ (by first|exact hn|exact⟨r2,q2⟩),e1 _ (by first|exact hn|exact⟨r3,q3⟩)⟩
 ·rw[if_pos (by simpa using hk4)];exact h
theorem Vy{s:Side}(h:JK s=true):Jr s=s:=by unfold Jr;rw[if_pos h]
theorem JgP{s:Side}(h:JK s=true)(h1:s.turn≠2147483647):JK { s with turn:=s.turn+1 }=true:=by
 obtain⟨g1,g2,g⟩:=saneS_iff.1 h
 exact saneS_iff.2 ⟨g1,⟨by simp only;omega,by simp only;omega⟩,g⟩
theorem JqC{s:Side}(h:JK s=true){i:In}(h1:YF i=true):JK { s with in':=i }=true:=by
 obtain⟨g1,g2,g3,g4,g⟩:=saneS_iff.1 h
 exact saneS_iff.2 ⟨g1,g2,g3,h1,g⟩
theorem Jiw(s:Side)(f:Frame):JK (Jz s f).1=true:=by
 have h:=Jdp s
 unfold Jz
 generalize Jr s=b at *
 simp only
 have k:=Je5 b f
 have k1:=Jq3 h f
 have k2:=Jo4 b.in' f.kind f.nonce
 generalize JB b f=r at *
 generalize VX b.in' f.kind f.nonce=t at *
 split
 ·split
  ·split
   ·exact h
   ·rename_i h2
    split
    ·exact JgP (s:={ r.1 with in':=t.1 }) (JqC k1 k2) (by simp only;rw[k.1];exact h2)
    ·exact h
  ·split
   ·split
    ·exact h
    ·rename_i h2;exact JgP h h2
   ·exact h
 ·exact h
structure Bd(p:Pins)(n:Nat):Prop where
 len:p.snaps.length≤n
 all:∀x∈p.snaps,x.l.length≤80∧Yp x
theorem JiA:∀(l:List Snap),(∀x∈l,x.l.length≤80)→(JZ l).length≤l.length*80
 | [],_=>by simp[JZ]
 |x :: l,h=>by
  have:=JiA l fun y hy=>h y (by simp[hy])
  have h1:=h x (by simp)
  rw[Jiz,List.length_append,List.length_map,List.length_cons]
  omega
theorem Bd.sz{p:Pins}{n:Nat}(h:Bd p n)(hn:n≤1000000):SzP p:=by
 have h1:=JiA p.snaps fun x hx=>(h.all x hx).1
 have h2:=h.len
 exact⟨by unfold Jc;omega,fun x hx=>(h.all x hx).2,by unfold Jc;omega⟩
theorem Bd.sane{p:Pins}{n:Nat}(h:Bd p n):Bd (Jq p) n:=by
 rcases JeC p with e|e<;>rw[e]
 ·exact h
 ·exact⟨by simp,by simp⟩
theorem Bd.publish{p:Pins}{n:Nat}(h:Bd p n){l:List Res}(h1:l.length≤80)(h2:∀r∈l,Jy r):Bd (Vg p l).1 (n+1):=by
 have h0:=h.sane
 unfold Vg
 simp only
 generalize Jq p=q at *
 have hf:=List.length_filter_le (fun x:Snap=>!decide (x.pins=0)) q.snaps
 have hl:=h0.len
 split
 ·exact⟨Nat.le_succ_of_le hl,h0.all⟩
 ·split
  ·exact⟨Nat.le_succ_of_le hl,h0.all⟩
  ·refine⟨by simp only[List.length_append,List.length_cons,List.length_nil];omega,fun x hx=>?_⟩
   rcases List.mem_append.1 hx with hx|hx
   ·exact h0.all x (List.mem_filter.1 hx).1
   ·rw[List.mem_singleton] at hx
    subst hx
    exact⟨h1,by unfold Jc;simp only;omega,h2⟩
structure BdS(s:Side)(n:Nat):Prop where
 c:s.w.c.l.length≤80
 w:s.w.shown.length≤80
 sc:∀r∈s.w.c.l,Jy r
 sw:∀r∈s.w.shown,Jy r
 p:Bd s.p n
theorem BdS.sz{s:Side}{n:Nat}(h:BdS s n)(hn:n≤1000000):SzS s:=by
 have h1:=h.c
 have h2:=h.w
 exact⟨by omega,⟨⟨by unfold Jc;omega,h.sc⟩,by unfold Jc;omega,h.sw⟩,h.p.sz hn⟩
theorem BdS.sane{s:Side}{n:Nat}(h:BdS s n):BdS (Jr s) n:=by
 unfold Jr
 split
 ·exact h
 ·exact⟨by simp[Jf],by simp[Jf],by simp[Jf],by simp[Jf],⟨by simp[Jf],by simp[Jf]⟩⟩
theorem Jkr{w:Warm}(h:VF w=true){a:List Res}(g:List Key)(h1:∀r∈w.c.l,Jy r)(h2:∀r∈a,Jy r) :
  (JX w a g).1.c.l.length≤80∧(JX w a g).1.shown.length≤80∧(∀r∈(JX w a g).1.c.l,Jy r)∧∀r∈(JX w a g).1.shown,Jy r:=by
 have k:=Jks h a g
 have k1:=Jka k
 have k2:=JqD k
 have k3:∀r∈(JX w a g).1.c.l,Jy r:=fun r hr=>(Jq6 h hr).elim (h1 r) (h2 r)
 exact⟨by omega,by omega,k3,fun r hr=>k3 r (JqE k hr)⟩
theorem BdS.step{s:Side}{n:Nat}(h:BdS s n)(hs:JK s=true){f:Frame}(hf:∀r∈f.adds,Jy r):BdS (JB s f).1 (n+1):=by
 obtain⟨k1,k2,k3,k4⟩:=Jkr (saneS_iff.1 hs).2.2.2.2.1 f.gone h.sc hf
 have hp:=h.p.publish k2 k4
 have hn:Bd s.p (n+1):=⟨by have:=h.p.len;omega,h.p.all⟩
 unfold JB
 generalize JX s.w f.adds f.gone=r at *
 obtain⟨w,ch,why⟩:=r
 simp only at k1 k2 k3 k4 hp ⊢
 cases ch<;>simp only[Bool.false_eq_true,↓reduceIte]
 ·split
  ·exact⟨k1,k2,k3,k4,hn⟩
  ·exact⟨h.c,h.w,h.sc,h.sw,hn⟩
 ·split
  ·split
   ·exact⟨k1,k2,k3,k4,hp⟩
   ·exact⟨h.c,h.w,h.sc,h.sw,hn⟩
  ·exact⟨h.c,h.w,h.sc,h.sw,hn⟩
theorem BdS.handle{s:Side}{n:Nat}(h:BdS s n){f:Frame}(hf:∀r∈f.adds,Jy r):BdS (Jz s f).1 (n+1):=by
 have hb:=h.sane
 have hr:=hb.step (Jdp s) hf
 have hn:BdS (Jr s) (n+1):=⟨hb.c,hb.w,hb.sc,hb.sw,by have:=hb.p.len;omega,hb.p.all⟩
 unfold Jz
 generalize Jr s=b at *
 simp only
 generalize JB b f=r at *
 repeat' split
 all_goals first|exact hn|exact⟨hr.c,hr.w,hr.sc,hr.sw,hr.p⟩|exact⟨hn.c,hn.w,hn.sc,hn.sw,hn.p⟩
theorem Jh9{s:Side}(h:Ja8 s=true)(hw:JaY s.w)(hs:∀x∈s.p.snaps,Yp x):BdS s 20:=by
 unfold Ja8 Ja9 V7 at h
 simp only[Bool.and_eq_true,decide_eq_true_eq,List.all_eq_true] at h
 obtain⟨⟨⟨-,h1⟩,-,h2⟩,h3,h4⟩:=h
 exact⟨h1,h2,hw.1.2,hw.2.2,h4,fun x hx=>⟨(h3 x hx).2,hs x hx⟩⟩
end Go.Proofs.YthjalhfmpffbjaaGreatDoor.Lg
