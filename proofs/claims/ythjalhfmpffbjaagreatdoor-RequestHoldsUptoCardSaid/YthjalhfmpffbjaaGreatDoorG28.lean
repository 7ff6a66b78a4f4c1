/- Parts of the proof, one behind the other. -/
import Derived.Test.YthjalhfmpffbjaaGreatDoorG27
set_option linter.unusedVariables false
set_option linter.unusedSimpArgs false
set_option maxRecDepth 100000
set_option maxHeartbeats 64000000
namespace Go.Proofs.YthjalhfmpffbjaaGreatDoor.Lg
open Go
open Tryz
open Nat renaming reduceEqDiff → Qa, reduceLT → Qb, reduceLeDiff → Qc, reduceAdd → Qd, reduceMul → Qe, reduceSub → Qf, reduceBEq → Qg
open String renaming reduceEq → Qh
open SpecC renaming seqW → Qi, regW → Qj, drawW → Qk, condW → Ql, skip → Qn, ret → Qr
open NxK renaming out → Qw
open Nx renaming out → Qx
open condK renaming split → Qy
open gK renaming split_t → Qz, split_f → QA
def Jbv(r:Req):Bool:=decide (0≤r.stage∧r.stage≤5∧0≤r.id) && (decide (0<r.id) || (decide (r.stage=0) || decide (r.stage=5)))
def Je(a:Ask):Req:=⟨a,0,0,[],[],⟨0,[],0⟩⟩
def JG(r:Req):Req:=if Jbv r=true then r else Je r.a
def YK(w:Work):Work :=
 if w.req.stage=0 then Jao w else if w.req.stage=1 then Jbj w else if w.req.stage=2 then Jbx w else if w.req.stage=3 then Ja2 w else if w.req.stage=4 then V5 w w.req.out else w
def Jh(r:Req)(s:Side):Work:=YK ⟨JG r,Jr s,[]⟩
theorem JfS:((1:Int)=0)=False∧((2:Int)=0)=False∧((2:Int)=1)=False∧((3:Int)=0)=False∧((3:Int)=1)=False∧((3:Int)=2)=False∧((4:Int)=0)=False∧((4:Int)=1)=False∧((4:Int)=2)=False∧((4:Int)=3)=False:=by simp
theorem JjR(Lh:Int)(Ld Lf:List UInt8)(K8 K9:Int)(Ll Ly:Int)(Lk La:List UInt8)(KY:Int)(KF:List UInt8)(KX:Int):CallR prog 10 [.agg [.int .i64 Lh,.str Ld,.str Lf,.int .i64 K8,.int .i64 K9,.int .i64 Ll,.int .i64 Ly,.str Lk,.str La,.int .i64 KY,.str KF,.int .i64 KX]] (.val (.bool (Jbv (⟨⟨Lh,Ld,Lf,K8,K9⟩,Ll,Ly,Lk,La,⟨KY,KF,KX⟩⟩:Req)))):=by
 refine Jl call10 func10 rfl ntmps10 results10 fun ts hn h0=>?_
 (repeat' (first
 | (with_reducible first|assumption|(refine Qw hK _ ?_;clear hK K)|refine Qw ‹_› _ ?_|refine Qx ‹_› ?_|refine Qi fun K hK=>?_|refine Qj T fun K hK=>?_|refine Ql fun A B hA hB=>?_|refine Qn ?_|refine Qr ?_)
 |(with_reducible first|apply Qy|apply Qz|apply QA)<;>intro hb<;>try simp only[nr] at hb
 |simp only[go_sem,↓reduceIte,Qa,Qh,Qb,Qc,Qd,Qe,Qf,Qg,reduceCtorEq, *]
 |intro(bn:Bool) hbn))
 all_goals (rw[Bool.eq_iff_iff];simp_all[Jbv])
 all_goals omega
theorem Jf4(Lb:Int)(a_host Li:List UInt8)(K5 K6:Int):CallR prog 20 [.agg [.int .i64 Lb,.str a_host,.str Li,.int .i64 K5,.int .i64 K6]] (.val (.agg [.int .i64 (Je (⟨Lb,a_host,Li,K5,K6⟩:Ask)).a.port,.str (Je (⟨Lb,a_host,Li,K5,K6⟩:Ask)).a.host,.str (Je (⟨Lb,a_host,Li,K5,K6⟩:Ask)).a.path,.int .i64 (Je (⟨Lb,a_host,Li,K5,K6⟩:Ask)).a.first,.int .i64 (Je (⟨Lb,a_host,Li,K5,K6⟩:Ask)).a.other,.int .i64 (Je (⟨Lb,a_host,Li,K5,K6⟩:Ask)).stage,.int .i64 (Je (⟨Lb,a_host,Li,K5,K6⟩:Ask)).id,.str (Je (⟨Lb,a_host,Li,K5,K6⟩:Ask)).route,.str (Je (⟨Lb,a_host,Li,K5,K6⟩:Ask)).cluster,.int .i64 (Je (⟨Lb,a_host,Li,K5,K6⟩:Ask)).out.what,.str (Je (⟨Lb,a_host,Li,K5,K6⟩:Ask)).out.cluster,.int .i64 (Je (⟨Lb,a_host,Li,K5,K6⟩:Ask)).out.host])):=by
 unfold Je
 refine Jl call20 func20 rfl ntmps20 results20 fun ts hn h0=>?_
 (repeat' (first
 | (with_reducible first|assumption|(refine Qw hK _ ?_;clear hK K)|refine Qw ‹_› _ ?_|refine Qx ‹_› ?_|refine Qi fun K hK=>?_|refine Qj T fun K hK=>?_|refine Ql fun A B hA hB=>?_|refine Qn ?_|refine Qr ?_)
 |(with_reducible first|apply Qy|apply Qz|apply QA)<;>intro hb<;>try simp only[nr] at hb
 |simp only[go_sem,↓reduceIte,Qa,Qh,Qb,Qc,Qd,Qe,Qf,Qg,reduceCtorEq, *]
 |intro(bn:Bool) hbn))
theorem JjS(Lh:Int)(Ld Lf:List UInt8)(K8 K9:Int)(Ll Ly:Int)(Lk La:List UInt8)(KY:Int)(KF:List UInt8)(KX:Int):CallR prog 44 [.agg [.int .i64 Lh,.str Ld,.str Lf,.int .i64 K8,.int .i64 K9,.int .i64 Ll,.int .i64 Ly,.str Lk,.str La,.int .i64 KY,.str KF,.int .i64 KX]] (.val (.agg [.int .i64 (JG (⟨⟨Lh,Ld,Lf,K8,K9⟩,Ll,Ly,Lk,La,⟨KY,KF,KX⟩⟩:Req)).a.port,.str (JG (⟨⟨Lh,Ld,Lf,K8,K9⟩,Ll,Ly,Lk,La,⟨KY,KF,KX⟩⟩:Req)).a.host,.str (JG (⟨⟨Lh,Ld,Lf,K8,K9⟩,Ll,Ly,Lk,La,⟨KY,KF,KX⟩⟩:Req)).a.path,.int .i64 (JG (⟨⟨Lh,Ld,Lf,K8,K9⟩,Ll,Ly,Lk,La,⟨KY,KF,KX⟩⟩:Req)).a.first,.int .i64 (JG (⟨⟨Lh,Ld,Lf,K8,K9⟩,Ll,Ly,Lk,La,⟨KY,KF,KX⟩⟩:Req)).a.other,.int .i64 (JG (⟨⟨Lh,Ld,Lf,K8,K9⟩,Ll,Ly,Lk,La,⟨KY,KF,KX⟩⟩:Req)).stage,.int .i64 (JG (⟨⟨Lh,Ld,Lf,K8,K9⟩,Ll,Ly,Lk,La,⟨KY,KF,KX⟩⟩:Req)).id,.str (JG (⟨⟨Lh,Ld,Lf,K8,K9⟩,Ll,Ly,Lk,La,⟨KY,KF,KX⟩⟩:Req)).route,.str (JG (⟨⟨Lh,Ld,Lf,K8,K9⟩,Ll,Ly,Lk,La,⟨KY,KF,KX⟩⟩:Req)).cluster,.int .i64 (JG (⟨⟨Lh,Ld,Lf,K8,K9⟩,Ll,Ly,Lk,La,⟨KY,KF,KX⟩⟩:Req)).out.what,.str (JG (⟨⟨Lh,Ld,Lf,K8,K9⟩,Ll,Ly,Lk,La,⟨KY,KF,KX⟩⟩:Req)).out.cluster,.int .i64 (JG (⟨⟨Lh,Ld,Lf,K8,K9⟩,Ll,Ly,Lk,La,⟨KY,KF,KX⟩⟩:Req)).out.host])):=by
 have w1:=JjR Lh Ld Lf K8 K9 Ll Ly Lk La KY KF KX
 have w2:=Jf4 Lh Ld Lf K8 K9
 unfold JG
 cases hb0:Jbv (⟨⟨Lh,Ld,Lf,K8,K9⟩,Ll,Ly,Lk,La,⟨KY,KF,KX⟩⟩:Req)
 ·rw[hb0] at w1
  simp only[Bool.false_eq_true,↓reduceIte]
  refine Jl call44 func44 rfl ntmps44 results44 fun ts hn h0=>?_
  (repeat' (first
 | (with_reducible first|refine callX.by (w1) ?_|refine callX.by (w2) ?_|assumption|(refine Qw hK _ ?_;clear hK K)|refine Qw ‹_› _ ?_|refine Qx ‹_› ?_|refine Qi fun K hK=>?_|refine Qj T fun K hK=>?_|refine Ql fun A B hA hB=>?_|refine Qn ?_|refine Qr ?_)
 |(with_reducible first|apply Qy|apply Qz|apply QA)<;>intro hb<;>try simp only[nr] at hb
 |simp only[go_sem,↓reduceIte,Qa,Qh,Qb,Qc,Qd,Qe,Qf,Qg,reduceCtorEq, *,-w1,-w2,-hb0]
 |intro(bn:Bool) hbn))
 ·rw[hb0] at w1
  simp only[↓reduceIte]
  refine Jl call44 func44 rfl ntmps44 results44 fun ts hn h0=>?_
  (repeat' (first
 | (with_reducible first|refine callX.by (w1) ?_|assumption|(refine Qw hK _ ?_;clear hK K)|refine Qw ‹_› _ ?_|refine Qx ‹_› ?_|refine Qi fun K hK=>?_|refine Qj T fun K hK=>?_|refine Ql fun A B hA hB=>?_|refine Qn ?_|refine Qr ?_)
 |(with_reducible first|apply Qy|apply Qz|apply QA)<;>intro hb<;>try simp only[nr] at hb
 |simp only[go_sem,↓reduceIte,Qa,Qh,Qb,Qc,Qd,Qe,Qf,Qg,reduceCtorEq, *,-w1,-w2,-hb0]
 |intro(bn:Bool) hbn))
theorem Jdo(Lh:Int)(Ld Lf:List UInt8)(K8 K9:Int)(Ll Ly:Int)(Lk La:List UInt8)(KY:Int)(KF:List UInt8)(KX:Int):CallR prog 22 [.agg [.int .i64 Lh,.str Ld,.str Lf,.int .i64 K8,.int .i64 K9,.int .i64 Ll,.int .i64 Ly,.str Lk,.str La,.int .i64 KY,.str KF,.int .i64 KX]] (.val (.bool (!decide ((JG (⟨⟨Lh,Ld,Lf,K8,K9⟩,Ll,Ly,Lk,La,⟨KY,KF,KX⟩⟩:Req)).stage=5)))):=by
 have w1:=JjS Lh Ld Lf K8 K9 Ll Ly Lk La KY KF KX
 generalize JG (⟨⟨Lh,Ld,Lf,K8,K9⟩,Ll,Ly,Lk,La,⟨KY,KF,KX⟩⟩:Req)=q at *
 refine Jl call22 func22 rfl ntmps22 results22 fun ts hn h0=>?_
 (repeat' (first
 | (with_reducible first|refine callX.by (w1) ?_|assumption|(refine Qw hK _ ?_;clear hK K)|refine Qw ‹_› _ ?_|refine Qx ‹_› ?_|refine Qi fun K hK=>?_|refine Qj T fun K hK=>?_|refine Ql fun A B hA hB=>?_|refine Qn ?_|refine Qr ?_)
 |(with_reducible first|apply Qy|apply Qz|apply QA)<;>intro hb<;>try simp only[nr] at hb
 |simp only[go_sem,↓reduceIte,Qa,Qh,Qb,Qc,Qd,Qe,Qf,Qg,reduceCtorEq, *,-w1]
 |intro(bn:Bool) hbn))
theorem Jrx(Kn Ko:Int)(KR:Bool)(Ka Kb:Int)(Kc Kd:Int)(Km Kh:Int)(Ki Kj:Int)(Kk Kf:Int)(s_w_c_l:List Res)(Kg:Bool)(Ke:List Res)(Kl:Int)(s_p_snaps:List Snap)(h:SzS (⟨Kn,Ko,KR,⟨⟨Ka,Kb,Kc,Kd⟩,Km⟩,⟨Kh,Ki,Kj,Kk⟩,⟨⟨Kf,s_w_c_l⟩,Kg,Ke⟩,⟨Kl,s_p_snaps⟩⟩:Side)):CallR prog 45 [.agg [.int .i64 Kn,.int .i64 Ko,.bool KR,.int .i64 Ka,.int .i64 Kb,.int .i64 Kc,.int .i64 Kd,.int .i64 Km,.int .i64 Kh,.int .i64 Ki,.int .i64 Kj,.int .i64 Kk,.int .i64 Kf,.slice false (Ja s_w_c_l),.bool Kg,.slice false (Ja Ke),.int .i64 Kl,.slice false (Ja s_p_snaps)]] (.val (.agg [.int .i64 (Jr (⟨Kn,Ko,KR,⟨⟨Ka,Kb,Kc,Kd⟩,Km⟩,⟨Kh,Ki,Kj,Kk⟩,⟨⟨Kf,s_w_c_l⟩,Kg,Ke⟩,⟨Kl,s_p_snaps⟩⟩:Side)).epoch,.int .i64 (Jr (⟨Kn,Ko,KR,⟨⟨Ka,Kb,Kc,Kd⟩,Km⟩,⟨Kh,Ki,Kj,Kk⟩,⟨⟨Kf,s_w_c_l⟩,Kg,Ke⟩,⟨Kl,s_p_snaps⟩⟩:Side)).turn,.bool (Jr (⟨Kn,Ko,KR,⟨⟨Ka,Kb,Kc,Kd⟩,Km⟩,⟨Kh,Ki,Kj,Kk⟩,⟨⟨Kf,s_w_c_l⟩,Kg,Ke⟩,⟨Kl,s_p_snaps⟩⟩:Side)).up,.int .i64 (Jr (⟨Kn,Ko,KR,⟨⟨Ka,Kb,Kc,Kd⟩,Km⟩,⟨Kh,Ki,Kj,Kk⟩,⟨⟨Kf,s_w_c_l⟩,Kg,Ke⟩,⟨Kl,s_p_snaps⟩⟩:Side)).in'.last.a0,.int .i64 (Jr (⟨Kn,Ko,KR,⟨⟨Ka,Kb,Kc,Kd⟩,Km⟩,⟨Kh,Ki,Kj,Kk⟩,⟨⟨Kf,s_w_c_l⟩,Kg,Ke⟩,⟨Kl,s_p_snaps⟩⟩:Side)).in'.last.a1,.int .i64 (Jr (⟨Kn,Ko,KR,⟨⟨Ka,Kb,Kc,Kd⟩,Km⟩,⟨Kh,Ki,Kj,Kk⟩,⟨⟨Kf,s_w_c_l⟩,Kg,Ke⟩,⟨Kl,s_p_snaps⟩⟩:Side)).in'.last.a2,.int .i64 (Jr (⟨Kn,Ko,KR,⟨⟨Ka,Kb,Kc,Kd⟩,Km⟩,⟨Kh,Ki,Kj,Kk⟩,⟨⟨Kf,s_w_c_l⟩,Kg,Ke⟩,⟨Kl,s_p_snaps⟩⟩:Side)).in'.last.a3,.int .i64 (Jr (⟨Kn,Ko,KR,⟨⟨Ka,Kb,Kc,Kd⟩,Km⟩,⟨Kh,Ki,Kj,Kk⟩,⟨⟨Kf,s_w_c_l⟩,Kg,Ke⟩,⟨Kl,s_p_snaps⟩⟩:Side)).in'.max,.int .i64 (Jr (⟨Kn,Ko,KR,⟨⟨Ka,Kb,Kc,Kd⟩,Km⟩,⟨Kh,Ki,Kj,Kk⟩,⟨⟨Kf,s_w_c_l⟩,Kg,Ke⟩,⟨Kl,s_p_snaps⟩⟩:Side)).errs.a0,.int .i64 (Jr (⟨Kn,Ko,KR,⟨⟨Ka,Kb,Kc,Kd⟩,Km⟩,⟨Kh,Ki,Kj,Kk⟩,⟨⟨Kf,s_w_c_l⟩,Kg,Ke⟩,⟨Kl,s_p_snaps⟩⟩:Side)).errs.a1,.int .i64 (Jr (⟨Kn,Ko,KR,⟨⟨Ka,Kb,Kc,Kd⟩,Km⟩,⟨Kh,Ki,Kj,Kk⟩,⟨⟨Kf,s_w_c_l⟩,Kg,Ke⟩,⟨Kl,s_p_snaps⟩⟩:Side)).errs.a2,.int .i64 (Jr (⟨Kn,Ko,KR,⟨⟨Ka,Kb,Kc,Kd⟩,Km⟩,⟨Kh,Ki,Kj,Kk⟩,⟨⟨Kf,s_w_c_l⟩,Kg,Ke⟩,⟨Kl,s_p_snaps⟩⟩:Side)).errs.a3,.int .i64 (Jr (⟨Kn,Ko,KR,⟨⟨Ka,Kb,Kc,Kd⟩,Km⟩,⟨Kh,Ki,Kj,Kk⟩,⟨⟨Kf,s_w_c_l⟩,Kg,Ke⟩,⟨Kl,s_p_snaps⟩⟩:Side)).w.c.cap,.slice false (Ja (Jr (⟨Kn,Ko,KR,⟨⟨Ka,Kb,Kc,Kd⟩,Km⟩,⟨Kh,Ki,Kj,Kk⟩,⟨⟨Kf,s_w_c_l⟩,Kg,Ke⟩,⟨Kl,s_p_snaps⟩⟩:Side)).w.c.l),.bool (Jr (⟨Kn,Ko,KR,⟨⟨Ka,Kb,Kc,Kd⟩,Km⟩,⟨Kh,Ki,Kj,Kk⟩,⟨⟨Kf,s_w_c_l⟩,Kg,Ke⟩,⟨Kl,s_p_snaps⟩⟩:Side)).w.ready,.slice false (Ja (Jr (⟨Kn,Ko,KR,⟨⟨Ka,Kb,Kc,Kd⟩,Km⟩,⟨Kh,Ki,Kj,Kk⟩,⟨⟨Kf,s_w_c_l⟩,Kg,Ke⟩,⟨Kl,s_p_snaps⟩⟩:Side)).w.shown),.int .i64 (Jr (⟨Kn,Ko,KR,⟨⟨Ka,Kb,Kc,Kd⟩,Km⟩,⟨Kh,Ki,Kj,Kk⟩,⟨⟨Kf,s_w_c_l⟩,Kg,Ke⟩,⟨Kl,s_p_snaps⟩⟩:Side)).p.next',.slice false (Ja (Jr (⟨Kn,Ko,KR,⟨⟨Ka,Kb,Kc,Kd⟩,Km⟩,⟨Kh,Ki,Kj,Kk⟩,⟨⟨Kf,s_w_c_l⟩,Kg,Ke⟩,⟨Kl,s_p_snaps⟩⟩:Side)).p.snaps)])):=by
 have w1:=Je1 Kn Ko KR Ka Kb Kc Kd Km Kh Ki Kj Kk Kf s_w_c_l Kg Ke Kl s_p_snaps h
 have w2:=Jf5 Kf Km
 unfold Jr
 cases hb0:JK (⟨Kn,Ko,KR,⟨⟨Ka,Kb,Kc,Kd⟩,Km⟩,⟨Kh,Ki,Kj,Kk⟩,⟨⟨Kf,s_w_c_l⟩,Kg,Ke⟩,⟨Kl,s_p_snaps⟩⟩:Side)
 ·rw[hb0] at w1
  simp only[Bool.false_eq_true,↓reduceIte]
  clear h
  refine Jl call45 func45 rfl ntmps45 results45 fun ts hn h0=>?_
  (repeat' (first
 | (with_reducible first|refine callX.by (w1) ?_|refine callX.by (w2) ?_|assumption|(refine Qw hK _ ?_;clear hK K)|refine Qw ‹_› _ ?_|refine Qx ‹_› ?_|refine Qi fun K hK=>?_|refine Qj T fun K hK=>?_|refine Ql fun A B hA hB=>?_|refine Qn ?_|refine Qr ?_)
 |(with_reducible first|apply Qy|apply Qz|apply QA)<;>intro hb<;>try simp only[nr] at hb
 |simp only[go_sem,↓reduceIte,Qa,Qh,Qb,Qc,Qd,Qe,Qf,Qg,reduceCtorEq, *,-w1,-w2,-hb0]
 |intro(bn:Bool) hbn))
 ·rw[hb0] at w1
  simp only[↓reduceIte]
  clear h
  refine Jl call45 func45 rfl ntmps45 results45 fun ts hn h0=>?_
  (repeat' (first
 | (with_reducible first|refine callX.by (w1) ?_|assumption|(refine Qw hK _ ?_;clear hK K)|refine Qw ‹_› _ ?_|refine Qx ‹_› ?_|refine Qi fun K hK=>?_|refine Qj T fun K hK=>?_|refine Ql fun A B hA hB=>?_|refine Qn ?_|refine Qr ?_)
 |(with_reducible first|apply Qy|apply Qz|apply QA)<;>intro hb<;>try simp only[nr] at hb
 |simp only[go_sem,↓reduceIte,Qa,Qh,Qb,Qc,Qd,Qe,Qf,Qg,reduceCtorEq, *,-w1,-w2,-hb0]
 |intro(bn:Bool) hbn))
theorem JgR(Lh:Int)(Ld Lf:List UInt8)(K8 K9:Int)(Ll Ly:Int)(Lk La:List UInt8)(KY:Int)(KF:List UInt8)(KX Kn Ko:Int)(KR:Bool)(Ka Kb:Int)(Kc Kd:Int)(Km Kh:Int)(Ki Kj:Int)(Kk Kf:Int)(s_w_c_l:List Res)(Kg:Bool)(Ke:List Res)(Kl:Int)(s_p_snaps:List Snap)(h:SzS (⟨Kn,Ko,KR,⟨⟨Ka,Kb,Kc,Kd⟩,Km⟩,⟨Kh,Ki,Kj,Kk⟩,⟨⟨Kf,s_w_c_l⟩,Kg,Ke⟩,⟨Kl,s_p_snaps⟩⟩:Side))(hk:SzK ⟨JG (⟨⟨Lh,Ld,Lf,K8,K9⟩,Ll,Ly,Lk,La,⟨KY,KF,KX⟩⟩:Req),Jr (⟨Kn,Ko,KR,⟨⟨Ka,Kb,Kc,Kd⟩,Km⟩,⟨Kh,Ki,Kj,Kk⟩,⟨⟨Kf,s_w_c_l⟩,Kg,Ke⟩,⟨Kl,s_p_snaps⟩⟩:Side),[]⟩):CallR prog 15 [.agg [.int .i64 Lh,.str Ld,.str Lf,.int .i64 K8,.int .i64 K9,.int .i64 Ll,.int .i64 Ly,.str Lk,.str La,.int .i64 KY,.str KF,.int .i64 KX],.agg [.int .i64 Kn,.int .i64 Ko,.bool KR,.int .i64 Ka,.int .i64 Kb,.int .i64 Kc,.int .i64 Kd,.int .i64 Km,.int .i64 Kh,.int .i64 Ki,.int .i64 Kj,.int .i64 Kk,.int .i64 Kf,.slice false (Ja s_w_c_l),.bool Kg,.slice false (Ja Ke),.int .i64 Kl,.slice false (Ja s_p_snaps)]]
  (.val (.tup [.agg [.int .i64 (Jh (⟨⟨Lh,Ld,Lf,K8,K9⟩,Ll,Ly,Lk,La,⟨KY,KF,KX⟩⟩:Req) (⟨Kn,Ko,KR,⟨⟨Ka,Kb,Kc,Kd⟩,Km⟩,⟨Kh,Ki,Kj,Kk⟩,⟨⟨Kf,s_w_c_l⟩,Kg,Ke⟩,⟨Kl,s_p_snaps⟩⟩:Side)).req.a.port,.str (Jh (⟨⟨Lh,Ld,Lf,K8,K9⟩,Ll,Ly,Lk,La,⟨KY,KF,KX⟩⟩:Req) (⟨Kn,Ko,KR,⟨⟨Ka,Kb,Kc,Kd⟩,Km⟩,⟨Kh,Ki,Kj,Kk⟩,⟨⟨Kf,s_w_c_l⟩,Kg,Ke⟩,⟨Kl,s_p_snaps⟩⟩:Side)).req.a.host,.str (Jh (⟨⟨Lh,Ld,Lf,K8,K9⟩,Ll,Ly,Lk,La,⟨KY,KF,KX⟩⟩:Req) (⟨Kn,Ko,KR,⟨⟨Ka,Kb,Kc,Kd⟩,Km⟩,⟨Kh,Ki,Kj,Kk⟩,⟨⟨Kf,s_w_c_l⟩,Kg,Ke⟩,⟨Kl,s_p_snaps⟩⟩:Side)).req.a.path,.int .i64 (Jh (⟨⟨Lh,Ld,Lf,K8,K9⟩,Ll,Ly,Lk,La,⟨KY,KF,KX⟩⟩:Req) (⟨Kn,Ko,KR,⟨⟨Ka,Kb,Kc,Kd⟩,Km⟩,⟨Kh,Ki,Kj,Kk⟩,⟨⟨Kf,s_w_c_l⟩,Kg,Ke⟩,⟨Kl,s_p_snaps⟩⟩:Side)).req.a.first,.int .i64 (Jh (⟨⟨Lh,Ld,Lf,K8,K9⟩,Ll,Ly,Lk,La,⟨KY,KF,KX⟩⟩:Req) (⟨Kn,Ko,KR,⟨⟨Ka,Kb,Kc,Kd⟩,Km⟩,⟨Kh,Ki,Kj,Kk⟩,⟨⟨Kf,s_w_c_l⟩,Kg,Ke⟩,⟨Kl,s_p_snaps⟩⟩:Side)).req.a.other,.int .i64 (Jh (⟨⟨Lh,Ld,Lf,K8,K9⟩,Ll,Ly,Lk,La,⟨KY,KF,KX⟩⟩:Req) (⟨Kn,Ko,KR,⟨⟨Ka,Kb,Kc,Kd⟩,Km⟩,⟨Kh,Ki,Kj,Kk⟩,⟨⟨Kf,s_w_c_l⟩,Kg,Ke⟩,⟨Kl,s_p_snaps⟩⟩:Side)).req.stage,.int .i64 (Jh (⟨⟨Lh,Ld,Lf,K8,K9⟩,Ll,Ly,Lk,La,⟨KY,KF,KX⟩⟩:Req) (⟨Kn,Ko,KR,⟨⟨Ka,Kb,Kc,Kd⟩,Km⟩,⟨Kh,Ki,Kj,Kk⟩,⟨⟨Kf,s_w_c_l⟩,Kg,Ke⟩,⟨Kl,s_p_snaps⟩⟩:Side)).req.id,.str (Jh (⟨⟨Lh,Ld,Lf,K8,K9⟩,Ll,Ly,Lk,La,⟨KY,KF,KX⟩⟩:Req) (⟨Kn,Ko,KR,⟨⟨Ka,Kb,Kc,Kd⟩,Km⟩,⟨Kh,Ki,Kj,Kk⟩,⟨⟨Kf,s_w_c_l⟩,Kg,Ke⟩,⟨Kl,s_p_snaps⟩⟩:Side)).req.route,.str (Jh (⟨⟨Lh,Ld,Lf,K8,K9⟩,Ll,Ly,Lk,La,⟨KY,KF,KX⟩⟩:Req) (⟨Kn,Ko,KR,⟨⟨Ka,Kb,Kc,Kd⟩,Km⟩,⟨Kh,Ki,Kj,Kk⟩,⟨⟨Kf,s_w_c_l⟩,Kg,Ke⟩,⟨Kl,s_p_snaps⟩⟩:Side)).req.cluster,.int .i64 (Jh (⟨⟨Lh,Ld,Lf,K8,K9⟩,Ll,Ly,Lk,La,⟨KY,KF,KX⟩⟩:Req) (⟨Kn,Ko,KR,⟨⟨Ka,Kb,Kc,Kd⟩,Km⟩,⟨Kh,Ki,Kj,Kk⟩,⟨⟨Kf,s_w_c_l⟩,Kg,Ke⟩,⟨Kl,s_p_snaps⟩⟩:Side)).req.out.what,.str (Jh (⟨⟨Lh,Ld,Lf,K8,K9⟩,Ll,Ly,Lk,La,⟨KY,KF,KX⟩⟩:Req) (⟨Kn,Ko,KR,⟨⟨Ka,Kb,Kc,Kd⟩,Km⟩,⟨Kh,Ki,Kj,Kk⟩,⟨⟨Kf,s_w_c_l⟩,Kg,Ke⟩,⟨Kl,s_p_snaps⟩⟩:Side)).req.out.cluster,.int .i64 (Jh (⟨⟨Lh,Ld,Lf,K8,K9⟩,Ll,Ly,Lk,La,⟨KY,KF,KX⟩⟩:Req) (⟨Kn,Ko,KR,⟨⟨Ka,Kb,Kc,Kd⟩,Km⟩,⟨Kh,Ki,Kj,Kk⟩,⟨⟨Kf,s_w_c_l⟩,Kg,Ke⟩,⟨Kl,s_p_snaps⟩⟩:Side)).req.out.host],.agg [.int .i64 (Jh (⟨⟨Lh,Ld,Lf,K8,K9⟩,Ll,Ly,Lk,La,⟨KY,KF,KX⟩⟩:Req) (⟨Kn,Ko,KR,⟨⟨Ka,Kb,Kc,Kd⟩,Km⟩,⟨Kh,Ki,Kj,Kk⟩,⟨⟨Kf,s_w_c_l⟩,Kg,Ke⟩,⟨Kl,s_p_snaps⟩⟩:Side)).side.epoch,.int .i64 (Jh (⟨⟨Lh,Ld,Lf,K8,K9⟩,Ll,Ly,Lk,La,⟨KY,KF,KX⟩⟩:Req) (⟨Kn,Ko,KR,⟨⟨Ka,Kb,Kc,Kd⟩,Km⟩,⟨Kh,Ki,Kj,Kk⟩,⟨⟨Kf,s_w_c_l⟩,Kg,Ke⟩,⟨Kl,s_p_snaps⟩⟩:Side)).side.turn,.bool (Jh (⟨⟨Lh,Ld,Lf,K8,K9⟩,Ll,Ly,Lk,La,⟨KY,KF,KX⟩⟩:Req) (⟨Kn,Ko,KR,⟨⟨Ka,Kb,Kc,Kd⟩,Km⟩,⟨Kh,Ki,Kj,Kk⟩,⟨⟨Kf,s_w_c_l⟩,Kg,Ke⟩,⟨Kl,s_p_snaps⟩⟩:Side)).side.up,.int .i64 (Jh (⟨⟨Lh,Ld,Lf,K8,K9⟩,Ll,Ly,Lk,La,⟨KY,KF,KX⟩⟩:Req) (⟨Kn,Ko,KR,⟨⟨Ka,Kb,Kc,Kd⟩,Km⟩,⟨Kh,Ki,Kj,Kk⟩,⟨⟨Kf,s_w_c_l⟩,Kg,Ke⟩,⟨Kl,s_p_snaps⟩⟩:Side)).side.in'.last.a0,.int .i64 (Jh (⟨⟨Lh,Ld,Lf,K8,K9⟩,Ll,Ly,Lk,La,⟨KY,KF,KX⟩⟩:Req) (⟨Kn,Ko,KR,⟨⟨Ka,Kb,Kc,Kd⟩,Km⟩,⟨Kh,Ki,Kj,Kk⟩,⟨⟨Kf,s_w_c_l⟩,Kg,Ke⟩,⟨Kl,s_p_snaps⟩⟩:Side)).side.in'.last.a1,.int .i64 (Jh (⟨⟨Lh,Ld,Lf,K8,K9⟩,Ll,Ly,Lk,La,⟨KY,KF,KX⟩⟩:Req) (⟨Kn,Ko,KR,⟨⟨Ka,Kb,Kc,Kd⟩,Km⟩,⟨Kh,Ki,Kj,Kk⟩,⟨⟨Kf,s_w_c_l⟩,Kg,Ke⟩,⟨Kl,s_p_snaps⟩⟩:Side)).side.in'.last.a2,.int .i64 (Jh (⟨⟨Lh,Ld,Lf,K8,K9⟩,Ll,Ly,Lk,La,⟨KY,KF,KX⟩⟩:Req) (⟨Kn,Ko,KR,⟨⟨Ka,Kb,Kc,Kd⟩,Km⟩,⟨Kh,Ki,Kj,Kk⟩,⟨⟨Kf,s_w_c_l⟩,Kg,Ke⟩,⟨Kl,s_p_snaps⟩⟩:Side)).side.in'.last.a3,.int .i64 (Jh (⟨⟨Lh,Ld,Lf,K8,K9⟩,Ll,Ly,Lk,La,⟨KY,KF,KX⟩⟩:Req) (⟨Kn,Ko,KR,⟨⟨Ka,Kb,Kc,Kd⟩,Km⟩,⟨Kh,Ki,Kj,Kk⟩,⟨⟨Kf,s_w_c_l⟩,Kg,Ke⟩,⟨Kl,s_p_snaps⟩⟩:Side)).side.in'.max,.int .i64 (Jh (⟨⟨Lh,Ld,Lf,K8,K9⟩,Ll,Ly,Lk,La,⟨KY,KF,KX⟩⟩:Req) (⟨Kn,Ko,KR,⟨⟨Ka,Kb,Kc,Kd⟩,Km⟩,⟨Kh,Ki,Kj,Kk⟩,⟨⟨Kf,s_w_c_l⟩,Kg,Ke⟩,⟨Kl,s_p_snaps⟩⟩:Side)).side.errs.a0,.int .i64 (Jh (⟨⟨Lh,Ld,Lf,K8,K9⟩,Ll,Ly,Lk,La,⟨KY,KF,KX⟩⟩:Req) (⟨Kn,Ko,KR,⟨⟨Ka,Kb,Kc,Kd⟩,Km⟩,⟨Kh,Ki,Kj,Kk⟩,⟨⟨Kf,s_w_c_l⟩,Kg,Ke⟩,⟨Kl,s_p_snaps⟩⟩:Side)).side.errs.a1,.int .i64 (Jh (⟨⟨Lh,Ld,Lf,K8,K9⟩,Ll,Ly,Lk,La,⟨KY,KF,KX⟩⟩:Req) (⟨Kn,Ko,KR,⟨⟨Ka,Kb,Kc,Kd⟩,Km⟩,⟨Kh,Ki,Kj,Kk⟩,⟨⟨Kf,s_w_c_l⟩,Kg,Ke⟩,⟨Kl,s_p_snaps⟩⟩:Side)).side.errs.a2,.int .i64 (Jh (⟨⟨Lh,Ld,Lf,K8,K9⟩,Ll,Ly,Lk,La,⟨KY,KF,KX⟩⟩:Req) (⟨Kn,Ko,KR,⟨⟨Ka,Kb,Kc,Kd⟩,Km⟩,⟨Kh,Ki,Kj,Kk⟩,⟨⟨Kf,s_w_c_l⟩,Kg,Ke⟩,⟨Kl,s_p_snaps⟩⟩:Side)).side.errs.a3,.int .i64 (Jh (⟨⟨Lh,Ld,Lf,K8,K9⟩,Ll,Ly,Lk,La,⟨KY,KF,KX⟩⟩:Req) (⟨Kn,Ko,KR,⟨⟨Ka,Kb,Kc,Kd⟩,Km⟩,⟨Kh,Ki,Kj,Kk⟩,⟨⟨Kf,s_w_c_l⟩,Kg,Ke⟩,⟨Kl,s_p_snaps⟩⟩:Side)).side.w.c.cap,.slice false (Ja (Jh (⟨⟨Lh,Ld,Lf,K8,K9⟩,Ll,Ly,Lk,La,⟨KY,KF,KX⟩⟩:Req) (⟨Kn,Ko,KR,⟨⟨Ka,Kb,Kc,Kd⟩,Km⟩,⟨Kh,Ki,Kj,Kk⟩,⟨⟨Kf,s_w_c_l⟩,Kg,Ke⟩,⟨Kl,s_p_snaps⟩⟩:Side)).side.w.c.l),.bool (Jh (⟨⟨Lh,Ld,Lf,K8,K9⟩,Ll,Ly,Lk,La,⟨KY,KF,KX⟩⟩:Req) (⟨Kn,Ko,KR,⟨⟨Ka,Kb,Kc,Kd⟩,Km⟩,⟨Kh,Ki,Kj,Kk⟩,⟨⟨Kf,s_w_c_l⟩,Kg,Ke⟩,⟨Kl,s_p_snaps⟩⟩:Side)).side.w.ready,.slice false (Ja (Jh (⟨⟨Lh,Ld,Lf,K8,K9⟩,Ll,Ly,Lk,La,⟨KY,KF,KX⟩⟩:Req) (⟨Kn,Ko,KR,⟨⟨Ka,Kb,Kc,Kd⟩,Km⟩,⟨Kh,Ki,Kj,Kk⟩,⟨⟨Kf,s_w_c_l⟩,Kg,Ke⟩,⟨Kl,s_p_snaps⟩⟩:Side)).side.w.shown),.int .i64 (Jh (⟨⟨Lh,Ld,Lf,K8,K9⟩,Ll,Ly,Lk,La,⟨KY,KF,KX⟩⟩:Req) (⟨Kn,Ko,KR,⟨⟨Ka,Kb,Kc,Kd⟩,Km⟩,⟨Kh,Ki,Kj,Kk⟩,⟨⟨Kf,s_w_c_l⟩,Kg,Ke⟩,⟨Kl,s_p_snaps⟩⟩:Side)).side.p.next',.slice false (Ja (Jh (⟨⟨Lh,Ld,Lf,K8,K9⟩,Ll,Ly,Lk,La,⟨KY,KF,KX⟩⟩:Req) (⟨Kn,Ko,KR,⟨⟨Ka,Kb,Kc,Kd⟩,Km⟩,⟨Kh,Ki,Kj,Kk⟩,⟨⟨Kf,s_w_c_l⟩,Kg,Ke⟩,⟨Kl,s_p_snaps⟩⟩:Side)).side.p.snaps)],.slice false (Ja (Jh (⟨⟨Lh,Ld,Lf,K8,K9⟩,Ll,Ly,Lk,La,⟨KY,KF,KX⟩⟩:Req) (⟨Kn,Ko,KR,⟨⟨Ka,Kb,Kc,Kd⟩,Km⟩,⟨Kh,Ki,Kj,Kk⟩,⟨⟨Kf,s_w_c_l⟩,Kg,Ke⟩,⟨Kl,s_p_snaps⟩⟩:Side)).told)])):=by
 have w1:=JjS Lh Ld Lf K8 K9 Ll Ly Lk La KY KF KX
 have w2:=Jrx Kn Ko KR Ka Kb Kc Kd Km Kh Ki Kj Kk Kf s_w_c_l Kg Ke Kl s_p_snaps h
 unfold Jh
 clear h
 generalize JG (⟨⟨Lh,Ld,Lf,K8,K9⟩,Ll,Ly,Lk,La,⟨KY,KF,KX⟩⟩:Req)=q at *
 generalize Jr (⟨Kn,Ko,KR,⟨⟨Ka,Kb,Kc,Kd⟩,Km⟩,⟨Kh,Ki,Kj,Kk⟩,⟨⟨Kf,s_w_c_l⟩,Kg,Ke⟩,⟨Kl,s_p_snaps⟩⟩:Side)=b at *
 unfold YK
 simp only
 rcases(show q.stage=0∨q.stage=1∨q.stage=2∨q.stage=3∨q.stage=4∨(¬q.stage=0∧¬q.stage=1∧¬q.stage=2∧¬q.stage=3∧¬q.stage=4) by omega) with hs|hs|hs|hs|hs|⟨hs,hs1,hs2,hs3,hs4⟩
 rw[if_pos hs]
 have w3:=Jm8 q.a.port q.a.host q.a.path q.a.first q.a.other q.stage q.id q.route q.cluster q.out.what q.out.cluster q.out.host b.epoch b.turn b.up b.in'.last.a0 b.in'.last.a1 b.in'.last.a2 b.in'.last.a3 b.in'.max b.errs.a0 b.errs.a1 b.errs.a2 b.errs.a3 b.w.c.cap b.w.c.l b.w.ready b.w.shown b.p.next' b.p.snaps [] hk
 have w3:CallI prog 46 [.int .i64 q.a.port,.str q.a.host,.str q.a.path,.int .i64 q.a.first,.int .i64 q.a.other,.int .i64 q.stage,.int .i64 q.id,.str q.route,.str q.cluster,.int .i64 q.out.what,.str q.out.cluster,.int .i64 q.out.host,.int .i64 b.epoch,.int .i64 b.turn,.bool b.up,.int .i64 b.in'.last.a0,.int .i64 b.in'.last.a1,.int .i64 b.in'.last.a2,.int .i64 b.in'.last.a3,.int .i64 b.in'.max,.int .i64 b.errs.a0,.int .i64 b.errs.a1,.int .i64 b.errs.a2,.int .i64 b.errs.a3,.int .i64 b.w.c.cap,.slice false (Ja b.w.c.l),.bool b.w.ready,.slice false (Ja b.w.shown),.int .i64 b.p.next',.slice false (Ja b.p.snaps),.slice false []] [] (.tup []) (wc (Jao ⟨q,b,[]⟩)):=w3
 generalize Jao ⟨q,b,[]⟩=X at *
 rotate_left
 rw[if_neg (by omega),if_pos hs]
 have w3:=JoL q.a.port q.a.host q.a.path q.a.first q.a.other q.stage q.id q.route q.cluster q.out.what q.out.cluster q.out.host b.epoch b.turn b.up b.in'.last.a0 b.in'.last.a1 b.in'.last.a2 b.in'.last.a3 b.in'.max b.errs.a0 b.errs.a1 b.errs.a2 b.errs.a3 b.w.c.cap b.w.c.l b.w.ready b.w.shown b.p.next' b.p.snaps [] hk
 have w3:CallI prog 47 [.int .i64 q.a.port,.str q.a.host,.str q.a.path,.int .i64 q.a.first,.int .i64 q.a.other,.int .i64 q.stage,.int .i64 q.id,.str q.route,.str q.cluster,.int .i64 q.out.what,.str q.out.cluster,.int .i64 q.out.host,.int .i64 b.epoch,.int .i64 b.turn,.bool b.up,.int .i64 b.in'.last.a0,.int .i64 b.in'.last.a1,.int .i64 b.in'.last.a2,.int .i64 b.in'.last.a3,.int .i64 b.in'.max,.int .i64 b.errs.a0,.int .i64 b.errs.a1,.int .i64 b.errs.a2,.int .i64 b.errs.a3,.int .i64 b.w.c.cap,.slice false (Ja b.w.c.l),.bool b.w.ready,.slice false (Ja b.w.shown),.int .i64 b.p.next',.slice false (Ja b.p.snaps),.slice false []] [] (.tup []) (wc (Jbj ⟨q,b,[]⟩)):=w3
 generalize Jbj ⟨q,b,[]⟩=X at *
 rotate_left
 rw[if_neg (by omega),if_neg (by omega),if_pos hs]
 have w3:=Jqj q.a.port q.a.host q.a.path q.a.first q.a.other q.stage q.id q.route q.cluster q.out.what q.out.cluster q.out.host b.epoch b.turn b.up b.in'.last.a0 b.in'.last.a1 b.in'.last.a2 b.in'.last.a3 b.in'.max b.errs.a0 b.errs.a1 b.errs.a2 b.errs.a3 b.w.c.cap b.w.c.l b.w.ready b.w.shown b.p.next' b.p.snaps [] hk
 have w3:CallI prog 48 [.int .i64 q.a.port,.str q.a.host,.str q.a.path,.int .i64 q.a.first,.int .i64 q.a.other,.int .i64 q.stage,.int .i64 q.id,.str q.route,.str q.cluster,.int .i64 q.out.what,.str q.out.cluster,.int .i64 q.out.host,.int .i64 b.epoch,.int .i64 b.turn,.bool b.up,.int .i64 b.in'.last.a0,.int .i64 b.in'.last.a1,.int .i64 b.in'.last.a2,.int .i64 b.in'.last.a3,.int .i64 b.in'.max,.int .i64 b.errs.a0,.int .i64 b.errs.a1,.int .i64 b.errs.a2,.int .i64 b.errs.a3,.int .i64 b.w.c.cap,.slice false (Ja b.w.c.l),.bool b.w.ready,.slice false (Ja b.w.shown),.int .i64 b.p.next',.slice false (Ja b.p.snaps),.slice false []] [] (.tup []) (wc (Jbx ⟨q,b,[]⟩)):=w3
 generalize Jbx ⟨q,b,[]⟩=X at *
 rotate_left
 rw[if_neg (by omega),if_neg (by omega),if_neg (by omega),if_pos hs]
 have w3:=Jnt q.a.port q.a.host q.a.path q.a.first q.a.other q.stage q.id q.route q.cluster q.out.what q.out.cluster q.out.host b.epoch b.turn b.up b.in'.last.a0 b.in'.last.a1 b.in'.last.a2 b.in'.last.a3 b.in'.max b.errs.a0 b.errs.a1 b.errs.a2 b.errs.a3 b.w.c.cap b.w.c.l b.w.ready b.w.shown b.p.next' b.p.snaps [] hk
 have w3:CallI prog 49 [.int .i64 q.a.port,.str q.a.host,.str q.a.path,.int .i64 q.a.first,.int .i64 q.a.other,.int .i64 q.stage,.int .i64 q.id,.str q.route,.str q.cluster,.int .i64 q.out.what,.str q.out.cluster,.int .i64 q.out.host,.int .i64 b.epoch,.int .i64 b.turn,.bool b.up,.int .i64 b.in'.last.a0,.int .i64 b.in'.last.a1,.int .i64 b.in'.last.a2,.int .i64 b.in'.last.a3,.int .i64 b.in'.max,.int .i64 b.errs.a0,.int .i64 b.errs.a1,.int .i64 b.errs.a2,.int .i64 b.errs.a3,.int .i64 b.w.c.cap,.slice false (Ja b.w.c.l),.bool b.w.ready,.slice false (Ja b.w.shown),.int .i64 b.p.next',.slice false (Ja b.p.snaps),.slice false []] [] (.tup []) (wc (Ja2 ⟨q,b,[]⟩)):=w3
 generalize Ja2 ⟨q,b,[]⟩=X at *
 rotate_left
 rw[if_neg (by omega),if_neg (by omega),if_neg (by omega),if_neg (by omega),if_pos hs]
 have w3:=JbS q.a.port q.a.host q.a.path q.a.first q.a.other q.stage q.id q.route q.cluster q.out.what q.out.cluster q.out.host b.epoch b.turn b.up b.in'.last.a0 b.in'.last.a1 b.in'.last.a2 b.in'.last.a3 b.in'.max b.errs.a0 b.errs.a1 b.errs.a2 b.errs.a3 b.w.c.cap b.w.c.l b.w.ready b.w.shown b.p.next' b.p.snaps [] q.out.what q.out.cluster q.out.host hk
 have w3:CallI prog 50 [.int .i64 q.a.port,.str q.a.host,.str q.a.path,.int .i64 q.a.first,.int .i64 q.a.other,.int .i64 q.stage,.int .i64 q.id,.str q.route,.str q.cluster,.int .i64 q.out.what,.str q.out.cluster,.int .i64 q.out.host,.int .i64 b.epoch,.int .i64 b.turn,.bool b.up,.int .i64 b.in'.last.a0,.int .i64 b.in'.last.a1,.int .i64 b.in'.last.a2,.int .i64 b.in'.last.a3,.int .i64 b.in'.max,.int .i64 b.errs.a0,.int .i64 b.errs.a1,.int .i64 b.errs.a2,.int .i64 b.errs.a3,.int .i64 b.w.c.cap,.slice false (Ja b.w.c.l),.bool b.w.ready,.slice false (Ja b.w.shown),.int .i64 b.p.next',.slice false (Ja b.p.snaps),.slice false []] [.agg [.int .i64 q.out.what,.str q.out.cluster,.int .i64 q.out.host]] (.tup []) (wc (V5 ⟨q,b,[]⟩ q.out)):=w3
 generalize V5 ⟨q,b,[]⟩ q.out=X at *
 rotate_left
 rw[if_neg hs,if_neg hs1,if_neg hs2,if_neg hs3,if_neg hs4]
 have w3:=trivial
 rotate_left
 all_goals try rw[hs] at w3
 all_goals try simp only[wc] at w3
 all_goals clear hk
 all_goals
  refine Jn call15 func15 rfl ntmps15 results15 fun ts hn h0 h1=>?_
  (repeat' (first
 | (with_reducible first|refine callX.by (w1) ?_|refine callX.by (w2) ?_|refine SpecC.ent (Ent.nrmB _ 13) (Qj T (id:=2) fun K hK=>?_))
 | (with_reducible refine callX.io ?_ ?_ ?_ (w3);(focus(simp only[go_sem,↓reduceIte,Qa,Qh,Qb,Qc,Qd,Qe,Qf,Qg,reduceCtorEq, *,-w1,-w2,-w3,Vp,JfS,AV.nrm,AV.nrm.nrmL];first|done|rfl));(focus(simp only[go_sem,↓reduceIte,Qa,Qh,Qb,Qc,Qd,Qe,Qf,Qg,reduceCtorEq, *,-w1,-w2,-w3,Vp,JfS,AV.nrm,AV.nrm.nrmL];first|done|rfl)))
 | (with_reducible first|assumption|(refine Qw hK _ ?_;clear hK K)|refine Qw ‹_› _ ?_|refine Qx ‹_› ?_|refine Qi fun K hK=>?_|refine Qj T fun K hK=>?_|refine Qk (id:=1) T mixed [([8],[10]),([9],[10]),([10],[8,9])] (by kernel_rfl) fun K hK=>?_|refine Qk (id:=13) T mixed [([44],[47,48,49,50,51,52,53,54,55]),([45],[48,49,50,51,52,53,54,55]),([46],[48,49,50,51,52,53,54,55]),([47],[44,48,49,50,51,52,53,54,55]),([48],[44,45,46,47,51,52,53,54,55,4]),([49],[44,45,46,47,52,53,54,55,4]),([50],[44,45,46,47,52,53,54,55,4]),([51],[44,45,46,47,48,52,53,54,55,4]),([52],[44,45,46,47,48,49,50,51,55,4,5]),([53],[44,45,46,47,48,49,50,51,4,5]),([54],[44,45,46,47,48,49,50,51,4,5]),([55],[44,45,46,47,48,49,50,51,52,4,5]),([4],[48,49,50,51,52,53,54,55]),([5],[52,53,54,55])] (by kernel_rfl) fun K hK=>?_|refine Ql fun A B hA hB=>?_|refine SpecC.block ?_|refine Qn ?_|refine Qr ?_)
 |(with_reducible first|apply Qy|apply Qz|apply QA)<;>intro hb<;>try simp only[nr] at hb
 |simp only[go_sem,↓reduceIte,Qa,Qh,Qb,Qc,Qd,Qe,Qf,Qg,reduceCtorEq, *,-w1,-w2,-w3,Vp,JfS,AV.nrm,AV.nrm.nrmL]
 |intro(bn:Bool) hbn))
theorem JiB(l:List Snap):JZ l=(l.map (·.l)).flatMap fun r=>r.map Jo:=by
 rw[JZ,List.flatMap_map]
theorem Jpy{p:Pins}(h:OkP p):(∃q,Vn p=(p,0,q)∧q≠0∧((∀x∈p.snaps,x.pins<10000)→(JJ p).2=([],false)))∨∃q id l,Vn p=(q,id,0)∧OkP q∧(JJ p).2=(l,true)∧(JJ q).2=(l,true)∧q.snaps.length=p.snaps.length∧JZ q.snaps=JZ p.snaps ∧
   (∀x∈q.snaps,∃y∈p.snaps,x.l=y.l)∧0<id∧VO q id=(l,true)∧J6 q id=(p,0)∧∃x∈q.snaps,x.id=id∧0<x.pins∧x.l=l:=by
 have hq:OkP (Vn p).1:=by rw[JpC];exact Jpi p
 unfold JJ
 unfold Vn at hq ⊢
 simp only[Y9 h] at hq ⊢
 cases hg:p.snaps.getLast? with
 |none=>exact .inl ⟨10,rfl,by simp,fun _=>rfl⟩
 |some s =>
  rw[hg] at hq
  obtain⟨hk,hs⟩:=Jiv hg
  have hm:s∈p.snaps:=List.mem_of_getLast? hg
  have h2:=h.mem s hm
  have hw:IntKind.i64.wrap (s.pins+1)=s.pins+1:=IntWalk.i64_in _ (by omega)
  simp only at hq ⊢
  by_cases ht:s.pins=10000
  ·rw[if_pos ht]
   exact .inl ⟨14,rfl,by simp,fun hp=>absurd (hp s hm) (by omega)⟩
  rw[if_neg ht,hw] at hq ⊢
  have hk2:p.snaps.length-1<(p.snaps.set (p.snaps.length-1) ⟨s.id,s.pins+1,s.l⟩).length:=by simpa using hk
  have e:(p.snaps.set (p.snaps.length-1) ⟨s.id,s.pins+1,s.l⟩)[p.snaps.length-1]'hk2=⟨s.id,s.pins+1,s.l⟩:=by simp
  have hin:(⟨s.id,s.pins+1,s.l⟩:Snap)∈p.snaps.set (p.snaps.length-1) ⟨s.id,s.pins+1,s.l⟩:=by
   have:=List.getElem_mem hk2
   rwa [e] at this
  refine .inr ⟨_,_,s.l,rfl,hq,rfl,?_,by simp,?_,fun x hx=>?_,h2.1,?_,?_,⟨_,hin,rfl,by show 0<s.pins+1;omega,rfl⟩⟩
  ·rw[Y9 hq]
   simp only[List.getLast?_eq_getElem?,List.length_set,List.getElem?_set_self hk]
  ·rw[JiB,JiB]
   congr 1
   simp only[List.map_set]
   have e:s.l=(p.snaps.map (·.l))[p.snaps.length-1]'(by simpa using hk):=by simp[hs]
   rw[e,List.set_getElem_self]
  ·rcases List.mem_or_eq_of_mem_set hx with hx|rfl
   ·exact⟨x,hx,rfl⟩
   ·exact⟨s,hm,rfl⟩
  ·have:=JgG hq hk2
   rw[e] at this
   rw[Jdd]
   exact this
  ·have hr:=JeR hq hk2
   rw[e] at hr
   simp only at hr
   rw[JeB,hr,if_neg (by omega),JeV hk2 (.inr (by simp;omega))]
   have e3:(⟨s.id,s.pins+1-1,s.l⟩:Snap)=p.snaps[p.snaps.length-1]:=by
    rw[hs,Int.add_sub_cancel]
   simp only[List.set_set,e3,List.set_getElem_self]
structure PinS(s t:Side)(id:Int)(l:List Res):Prop where
 pin:Vn s.p=(t.p,id,0)
 bg:Vi s=t
 sane:JK t=true
 fin:endS t id=(s,[],0)
 get:VO t.p id=(l,true)
 pos:0<id
 cur:(JJ s.p).2=(l,true)
 held:∃x∈t.p.snaps,x.id=id∧0<x.pins∧x.l=l
theorem Jpx{s:Side}(h:JK s=true):(∃q,Vn s.p=(s.p,0,q)∧q≠0∧((∀x∈s.p.snaps,x.pins<10000)→(JJ s.p).2=([],false)))∨∃t id l,PinS s t id l∧∀n,BdS s n→BdS t n:=by
 obtain⟨h1,h2,h3,h4,h5,h6,h7,h8⟩:=saneS_iff.1 h
 have ok:=(Zt _).1 h6
 rcases Jpy ok with hh|⟨q,id,l,e1,e2,e3,e4,e5,e6,e7,e8,e9,e10,eh⟩
 ·exact .inl hh
 ·have e11:JV q=JV s.p:=by
   unfold JV
   rw[Y9 e2,Y9 ok,e6]
  have hs:JK { s with p:=q }=true:=by
   refine saneS_iff.2 ⟨h1,h2,h3,h4,h5,(Zt _).2 e2,?_,?_⟩
   ·unfold YW at h7 ⊢
    rw[e11]
    exact h7
   ·unfold Z0 at h8 ⊢
    simp only[e4]
    rw[e3] at h8
    exact h8
  refine .inr ⟨{ s with p:=q },id,l,⟨e1,?_,hs,?_,e9,e8,e3,eh⟩,fun n hb=>⟨hb.c,hb.w,hb.sc,hb.sw,?_⟩⟩
  ·unfold Vi
   rw[Vy h,e1]
  ·unfold endS
   rw[Vy hs]
   simp only
   rw[e10]
   simp only[e11,true_or,↓reduceIte]
  ·refine⟨by have:=hb.p.len;simp only;omega,fun x hx=>?_⟩
   obtain⟨y,hy,e⟩:=e7 x hx
   have h1:=hb.p.all y hy
   refine⟨by rw[e];exact h1.1,?_⟩
   have h3:=h1.2
   unfold Yp at h3 ⊢
   rw[e]
   exact h3
theorem BdS.szk{s:Side}{n:Nat}(h:BdS s n)(hn:n≤1000000)(hs:JK s=true)(r:Req)(hh:Jc r.a.host.length):SzK ⟨r,s,[]⟩:=by
 refine⟨h.sz hn,?_,hh⟩
 simp only
 rw[Vy hs]
 exact(h.p.release r.id).sz hn
inductive FinR:Nat→Req→Side→Req→Side→Prop
 |done {r:Req} {s:Side} (h:(JG r).stage=5):FinR 0 r s r s
 |step {k:Nat} {r r' r2:Req} {s s' s2:Side} (h:¬(JG r).stage=5) (hz:SzS s) (hk:SzK ⟨JG r,Jr s,[]⟩) (e:Jh r s=⟨r',s',[]⟩) (hf:FinR k r' s' r2 s2):FinR (k+1) r s r2 s2
theorem JeN{r:Req}(h:0≤r.stage∧r.stage≤5∧0<r.id):JG r=r:=by
 unfold JG
 rw[if_pos]
 simp only[Jbv,Bool.and_eq_true,Bool.or_eq_true,decide_eq_true_eq]
 omega
theorem Jcs{r:Req}(h:r.stage=5)(h1:0≤r.id):JG r=r:=by
 unfold JG
 rw[if_pos]
 simp only[Jbv,Bool.and_eq_true,Bool.or_eq_true,decide_eq_true_eq]
 omega
theorem Jdk(a:Ask):JG (Je a)=Je a:=by
 unfold JG
 split<;>rfl
theorem Ji7:∀ {l m:List Key},l.Nodup→(∀x∈l,x∈m)→l.length≤m.length
 | [],_,_,_=>Nat.zero_le _
 |x :: l,m,h,hs=>by
  rw[List.nodup_cons] at h
  have hx:=hs x (by simp)
  have:=Ji7 (l:=l) (m:=m.erase x) h.2 fun y hy=>(List.mem_erase_of_ne (fun e=>h.1 (by rw[←e];exact hy))).2 (hs y (by simp[hy]))
  rw[List.length_erase_of_mem hx] at this
  have:=List.length_pos_of_mem hx
  simp only[List.length_cons]
  omega
theorem Jqh{p q:Pins}(h:YW p=true)(hs:∀k∈JV q,k∈JV p):YW q=true:=by
 unfold YW at h ⊢
 rw[decide_eq_true_eq,frameE_iff] at h ⊢
 obtain⟨h1,h2,h3,h4,h5,h6⟩:=h
 have hl:=Ji7 (Jms (Jew q).1) hs
 refine⟨h1,?_,h3,?_,h5,h6⟩
 ·unfold Jbd at h2 ⊢
  simp only[Bool.and_eq_true,Bool.not_eq_true',decide_eq_false_iff_not] at h2 ⊢
  obtain⟨⟨⟨⟨a1,a2⟩,a3⟩,a4⟩,a5⟩:=h2
  refine⟨⟨⟨⟨?_,a2⟩,a3⟩,a4⟩,a5⟩
  have e0:∀n:Nat,max (max (max ((0:Nat):Int) ((0:Nat):Int)) ((0:Nat):Int)) (n:Int)=n:=fun n=>by
   rw[Int.max_self,Int.max_self]
   exact Int.max_eq_right (by omega)
  simp only[List.length_nil] at a1 ⊢
  rw[e0] at a1 ⊢
  exact⟨fun hx=>a1.1 (by omega),a1.2⟩
 ·unfold Jbc at h4 ⊢
  simp only[Bool.and_eq_true,Bool.not_eq_true',List.any_eq_false] at h4 ⊢
  exact⟨⟨h4.1.1,fun k hk=>h4.1.2 k (hs k hk)⟩,h4.2⟩
theorem heldL_mem{l:List Snap}{k:Key}:k∈JZ l↔∃x∈l,k∈x.l.map Jo:=by
 unfold JZ
 exact List.mem_flatMap
theorem JeI(p:Pins)(id:Int):OkP (J6 p id).1:=by
 rw[JeB]
 exact Jpk p id
theorem Jp5{p:Pins}(h:OkP p)(id:Int):(JJ (J6 p id).1).2=(JJ p).2:=by
 have hq:=JeI p id
 rw[JeB] at hq ⊢
 unfold JJ
 rw[Y9 hq,Y9 h]
 rcases Jiy p.snaps id with hn|⟨k,hk,rfl⟩
 ·rw[JjW h hn]
 ·rw[JeR h hk]
  by_cases hz:p.snaps[k].pins=0
  ·rw[if_pos hz]
  ·rw[if_neg hz]
   by_cases hc:0<p.snaps[k].pins-1∨k+1=p.snaps.length
   ·rw[JeV hk hc]
    simp only[List.getLast?_eq_getElem?,List.length_set]
    by_cases hl:k=p.snaps.length-1
    ·subst hl
     rw[List.getElem?_set_self hk,List.getElem?_eq_getElem hk]
    ·rw[List.getElem?_set_ne hl]
   ·rw[JgO hc]
    have hkl:k≠p.snaps.length-1:=by omega
    simp only[List.getLast?_eq_getElem?,List.length_eraseIdx,if_pos hk,List.getElem?_eraseIdx]
    rw[if_neg (by omega)]
    rw[show p.snaps.length-1-1+1=p.snaps.length-1 by omega]
theorem JnE{s:Side}(h:JK s=true)(id:Int):JK (endS s id).1=true:=by
 obtain⟨h1,h2,h3,h4,h5,h6,h7,h8⟩:=saneS_iff.1 h
 have ok:=(Zt _).1 h6
 have hq:=JeI s.p id
 have hs:JK { s with p:=(J6 s.p id).1 }=true:=by
  refine saneS_iff.2 ⟨h1,h2,h3,h4,h5,(Zt _).2 hq,?_,?_⟩
  ·refine Jqh h7 fun k hk=>?_
   have hk:=((Jew _).2 k).1 hk
   rw[Y9 hq,heldL_mem] at hk
   obtain⟨x,hx,hm⟩:=hk
   obtain⟨y,hy,e⟩:=JjK s.p id x hx
   refine((Jew _).2 k).2 (heldL_mem.2 ⟨y,hy,by rw[←e];exact hm⟩)
  ·unfold Z0 at h8 ⊢
   simp only[Jp5 ok]
   exact h8
 unfold endS
 rw[Vy h]
 simp only
 split
 ·exact hs
 ·rename_i hc
  simp only[not_or] at hc
  exact JgP (s:={ s with p:=(J6 s.p id).1 }) hs hc.2.2
theorem BdS.endS{s:Side}{n:Nat}(h:BdS s n)(hs:JK s=true)(id:Int):BdS (endS s id).1 n:=by
 have hp:=h.p.release id
 unfold Lg.endS
 rw[Vy hs]
 simp only
 split
 ·exact⟨h.c,h.w,h.sc,h.sw,hp⟩
 ·exact⟨h.c,h.w,h.sc,h.sw,hp⟩
def PinN(p:Pins)(id:Int)(l:List Res):Prop:=∃x∈p.snaps,x.id=id∧0<x.pins∧x.l=l
theorem PinN.get{p:Pins}{id:Int}{l:List Res}(ok:OkP p)(h:PinN p id l):VO p id=(l,true):=by
 obtain⟨x,hx,e1,-,e3⟩:=h
 obtain⟨i,hi,rfl⟩:=List.getElem_of_mem hx
 rw[Jdd,←e1,JgG ok hi,e3]
theorem PinN.handle{s:Side}{id:Int}{l:List Res}(h:PinN s.p id l)(hs:JK s=true)(f:Frame):PinN (Jz s f).1.p id l:=by
 have ok:=(Zt _).1 (saneS_iff.1 hs).2.2.2.2.2.1
 have k:=(Je5 s f).2.2.2.2
 have e:(Jz s f).1.p=s.p∨(Jz s f).1.p=(Vg s.p (JX s.w f.adds f.gone).1.shown).1:=by
  unfold Jz
  rw[Vy hs]
  simp only
  repeat' split
  all_goals first|exact k|exact .inl rfl
 rcases e with e|e
 ·rw[e];exact h
 ·rw[e]
  unfold Vg
  rw[Y9 ok]
  simp only
  split
  ·exact h
  ·split
   ·exact h
   ·obtain⟨x,hx,e1,e2,e3⟩:=h
    exact⟨x,List.mem_append_left _ (List.mem_filter.2 ⟨hx,by simp only[Bool.not_eq_true',decide_eq_false_iff_not];omega⟩),e1,e2,e3⟩
def JcD(l:List Res)(c:List UInt8)(a:Ask):Answer :=
 match Yw (JbT l c).1 a.other with
 |none=>⟨0,[],0⟩
 |some h=>⟨3,c,h⟩
def Yq(l:List Res)(r:Req):Answer :=
 if r.stage=1 then JdS l r.a
 else if r.stage=2 then
  (match JaP l r.route r.a.host r.a.path with
  |none=>⟨2,[],0⟩
  |some x=>match YV x.split r.a.first with
   |none=>⟨0,[],0⟩
   |some c=>JcD l c r.a)
 else if r.stage=3 then JcD l r.cluster r.a
 else r.out
theorem Jkt{r:Req}{t:Side}{l:List Res}(hs:JK t=true)(hk:1≤r.stage∧r.stage≤4)(hid:0<r.id)(hg:VO t.p r.id=(l,true)) :
  (∃r',Jh r t=⟨r',t,[]⟩∧r'.stage=r.stage+1∧r.stage≤3∧r'.id=r.id∧r'.a=r.a∧Yq l r'=Yq l r)∨Jh r t=V5 ⟨r,t,[]⟩ (Yq l r):=by
 have hrs:JG r=r:=JeN ⟨by omega,by omega,hid⟩
 have hsn:VB ⟨r,t,[]⟩=l:=by unfold VB;simp only;rw[hg]
 unfold Jh
 rw[hrs,Vy hs]
 rcases(show r.stage=1∨r.stage=2∨r.stage=3∨r.stage=4 by omega) with h|h|h|h
 ·have e:YK ⟨r,t,[]⟩=Jbj ⟨r,t,[]⟩:=by unfold YK;simp[h]
  have ea:Yq l r=JdS l r.a:=by unfold Yq;rw[if_pos h]
  rw[e,ea]
  unfold Jbj
  rw[hsn]
  simp only
  cases c1:JaE l r.a.port with
  |none=>exact .inr (by simp only[JdS,c1])
  |some x =>
   refine .inl ⟨_,rfl,by simp only;omega,by omega,rfl,rfl,?_⟩
   unfold Yq
   rw[if_neg (by simp),if_pos rfl]
   simp only[JdS,c1]
   cases JaP l x.to' r.a.host r.a.path with
   |none=>rfl
   |some y =>
    simp only
    cases YV y.split r.a.first with
    |none=>rfl
    |some c=>rfl
 ·have e:YK ⟨r,t,[]⟩=Jbx ⟨r,t,[]⟩:=by unfold YK;simp[h]
  have ea:Yq l r=(match JaP l r.route r.a.host r.a.path with
   |none=>⟨2,[],0⟩
   |some x=>match YV x.split r.a.first with
    |none=>⟨0,[],0⟩
    |some c=>JcD l c r.a):=by unfold Yq;rw[if_neg (by omega),if_pos h]
  rw[e,ea]
  unfold Jbx
  rw[hsn]
  simp only
  cases JaP l r.route r.a.host r.a.path with
  |none=>exact .inr rfl
  |some y =>
   simp only
   cases YV y.split r.a.first with
   |none=>exact .inr rfl
   |some c =>
    refine .inl ⟨_,rfl,by simp only;omega,by omega,rfl,rfl,?_⟩
    unfold Yq
    rw[if_neg (by simp),if_neg (by simp),if_pos rfl]
 ·have e:YK ⟨r,t,[]⟩=Ja2 ⟨r,t,[]⟩:=by unfold YK;simp[h]
  have ea:Yq l r=JcD l r.cluster r.a:=by unfold Yq;rw[if_neg (by omega),if_neg (by omega),if_pos h]
  rw[e,ea]
  unfold Ja2 JcD
  rw[hsn]
  simp only
  cases Yw (JbT l r.cluster).1 r.a.other with
  |none=>exact .inr rfl
  |some n =>
   refine .inl ⟨_,rfl,by simp only;omega,by omega,rfl,rfl,?_⟩
   unfold Yq
   rw[if_neg (by simp),if_neg (by simp),if_neg (by simp)]
 ·have e:YK ⟨r,t,[]⟩=V5 ⟨r,t,[]⟩ r.out:=by unfold YK;simp[h]
  have ea:Yq l r=r.out:=by unfold Yq;rw[if_neg (by omega),if_neg (by omega),if_neg (by omega)]
  rw[e,ea]
  exact .inr rfl
structure OneI(a:Ask)(id:Int)(l:List Res)(x:Answer)(i:Nat)(r:Req)(t:Side)(n:Nat):Prop where
 sane:JK t=true
 bd:BdS t n
 a:r.a=a
 st:(r.stage=5∧0≤r.id∧r.out=x)∨(i≤r.stage∧1≤r.stage∧r.stage≤4∧r.id=id∧0<id∧PinN t.p id l∧Yq l r=x)
theorem OneI.handle{a:Ask}{id:Int}{l:List Res}{x:Answer}{i:Nat}{r:Req}{t:Side}{n:Nat}(h:OneI a id l x i r t n){f:Frame}(hf:∀r∈f.adds,Jy r):OneI a id l x i r (Jz t f).1 (n+1) :=
 ⟨Jiw t f,h.bd.handle hf,h.a,h.st.imp (fun h=>h) fun⟨h1,h2,h3,h4,h5,h6,h7⟩=>⟨h1,h2,h3,h4,h5,h6.handle h.sane f,h7⟩⟩
theorem OneI.step{a:Ask}{id:Int}{l:List Res}{x:Answer}{i:Nat}{r:Req}{t:Side}{n:Nat}(h:OneI a id l x i r t n):OneI a id l x (i+1) (Jh r t).req (Jh r t).side n:=by
 rcases h.st with ⟨h1,h2,h3⟩|⟨h1,h2,h3,h4,h5,h6,h7⟩
 ·have hrs:JG r=r:=Jcs h1 h2
  have e:Jh r t=⟨r,t,[]⟩:=by
   unfold Jh
   rw[hrs,Vy h.sane]
   unfold YK
   simp[h1]
  rw[e]
  exact⟨h.sane,h.bd,h.a,.inl ⟨h1,h2,h3⟩⟩
 ·have ok:=(Zt _).1 (saneS_iff.1 h.sane).2.2.2.2.2.1
  rcases Jkt h.sane ⟨h2,h3⟩ (by omega) (by rw[h4];exact h6.get ok) with ⟨r',e,e1,e2,e3,e4,e5⟩|e
  ·rw[e]
   exact⟨h.sane,h.bd,by rw[←h.a];exact e4,.inr ⟨by simp only;omega,by simp only;omega,by simp only;omega,by rw[←h4];exact e3,h5,h6,by rw[←h7];exact e5⟩⟩
  ·rw[e]
   unfold V5
   rw[if_neg (by simp only;omega)]
   exact⟨JnE h.sane _,h.bd.endS h.sane _,h.a,.inl ⟨rfl,by simp only;omega,h7⟩⟩
theorem OneI.mono{a:Ask}{id:Int}{l:List Res}{x:Answer}{i:Nat}{r:Req}{t:Side}{n m:Nat}(h:OneI a id l x i r t n)(hm:n≤m):OneI a id l x i r t m :=
 ⟨h.sane,⟨h.bd.c,h.bd.w,h.bd.sc,h.bd.sw,⟨Nat.le_trans h.bd.p.len hm,h.bd.p.all⟩⟩,h.a,h.st⟩
theorem OneI.szk{a:Ask}{id:Int}{l:List Res}{x:Answer}{i:Nat}{r:Req}{t:Side}{n:Nat}(h:OneI a id l x i r t n)(hn:n≤1000000)(hh:Jc a.host.length):SzK ⟨JG r,Jr t,[]⟩:=by
 have hrs:JG r=r:=by
  rcases h.st with ⟨h1,h2,h3⟩|⟨h1,h2,h3,h4,h5,h6,h7⟩
  ·exact Jcs h1 h2
  ·exact JeN ⟨by omega,by omega,by omega⟩
 rw[hrs,Vy h.sane]
 exact h.bd.szk hn h.sane _ (by rw[h.a];exact hh)
theorem Jn8{s:Side}{n:Nat}(h:BdS s n)(hn:n<1000000){f:Frame}(hf:∀r∈f.adds,Jy r)(hl:f.adds.length≤80) :
  (Jr s).w.c.l.length+f.adds.length≤65536∧SzP (Vg (Jr s).p (JX (Jr s).w f.adds f.gone).1.shown).1:=by
 have hb:=h.sane
 have h1:=hb.c
 obtain⟨k1,k2,k3,k4⟩:=Jkr (saneS_iff.1 (Jdp s)).2.2.2.2.1 f.gone hb.sc hf
 exact⟨by omega,(hb.p.publish k2 k4).sz (by omega)⟩
inductive FinT:Nat→Req→Side→List Frame→Req→Side→List Frame→Prop
 |done {r:Req} {s:Side} {o:List Frame} (h:(JG r).stage=5):FinT 0 r s o r s o
 |step {k:Nat} {r r' r2:Req} {s s' s2:Side} {o l o2:List Frame} (h:¬(JG r).stage=5) (hz:SzS s) (hk:SzK ⟨JG r,Jr s,[]⟩) (hl:l.length≤1) (e:Jh r s=⟨r',s',l⟩) (hf:FinT k r' s' (o++l) r2 s2 o2):FinT (k+1) r s o r2 s2 o2
theorem JfG(s:Side)(id:Int):(endS s id).2.1.length≤1∧∀f∈(endS s id).2.1,f.type=3:=by
 unfold endS
 simp only
 split
 ·simp
 ·simp
theorem Jh2{s:Side}(h:JK s=true)(id:Int):(endS s id).1.p=(J6 s.p id).1:=by
 unfold endS
 rw[Vy h]
 simp only
 split<;>rfl
theorem Jic{t:Side}{l:List Res}{id:Int}{n:Nat}(hs:JK t=true)(hb:BdS t n)(hn:n≤1000000)(hg:VO t.p id=(l,true))(hid:0<id):∀(m:Nat) (r:Req),(5-r.stage).toNat=m→1≤r.stage∧r.stage≤4→r.id=id→Jc r.a.host.length →
  ∃k q,k≤m∧FinT k r t [] q (endS t id).1 (endS t id).2.1∧q.stage=5∧0≤q.id
 |0,r,hm,hk,_,_=>by omega
 |m+1,r,hm,hk,hr,hh=>by
  have hrs:JG r=r:=JeN ⟨by omega,by omega,by omega⟩
  have h5:¬(JG r).stage=5:=by rw[hrs];omega
  have hsk:SzK ⟨JG r,Jr t,[]⟩:=by
   rw[hrs,Vy hs]
   exact hb.szk hn hs _ hh
  rcases Jkt hs hk (by omega) (by rw[hr];exact hg) with ⟨r',e,e1,e2,e3,e4,e5⟩|e
  ·obtain⟨k,q,hkm,hf,h1,h2⟩:=Jic hs hb hn hg hid m r' (by omega) (by omega) (by rw[e3,hr]) (by rw[e4];exact hh)
   exact⟨k+1,q,by omega,.step h5 (hb.sz hn) hsk (by simp) e hf,h1,h2⟩
  ·unfold V5 at e
   rw[if_neg (by simp only;omega)] at e
   simp only[hr] at e
   exact⟨1,_,by omega,.step h5 (hb.sz hn) hsk (JfG t id).1 e (.done (by rw[Jcs rfl (by simp only;omega)])),rfl,by simp only;omega⟩
def Pin1(p:Pins)(id:Int):Prop:=∃x∈p.snaps,x.id=id∧x.pins=1
theorem Jn7{s:Side}(hs:JK s=true)(f:Frame):(Jz s f).1.p=s.p∨(Jz s f).1.p=(Vg s.p (JX s.w f.adds f.gone).1.shown).1:=by
 have k:=(Je5 s f).2.2.2.2
 unfold Jz
 rw[Vy hs]
 simp only
 repeat' split
 all_goals first|exact k|exact .inl rfl
theorem Pin1.handle{s:Side}{id:Int}(h:Pin1 s.p id)(hs:JK s=true)(f:Frame):Pin1 (Jz s f).1.p id:=by
 have ok:=(Zt _).1 (saneS_iff.1 hs).2.2.2.2.2.1
 rcases Jn7 hs f with e|e
 ·rw[e];exact h
 ·rw[e]
  unfold Vg
  rw[Y9 ok]
  simp only
  split
  ·exact h
  ·split
   ·exact h
   ·obtain⟨x,hx,e1,e2⟩:=h
    exact⟨x,List.mem_append_left _ (List.mem_filter.2 ⟨hx,by simp only[Bool.not_eq_true',decide_eq_false_iff_not];omega⟩),e1,e2⟩
theorem Pin1.gone{p:Pins}{id:Int}(ok:OkP p)(h:Pin1 p id):(VO (J6 p id).1 id).2=decide ((JJ (J6 p id).1).1=id):=by
 have hq:=JeI p id
 rw[JeB] at hq ⊢
 obtain⟨x,hx,rfl,e2⟩:=h
 obtain⟨k,hk,rfl⟩:=List.getElem_of_mem hx
 rw[JeR ok hk,if_neg (by omega)] at hq ⊢
 unfold JJ
 rw[Y9 hq,Jdd]
 by_cases hc:0<p.snaps[k].pins-1∨k+1=p.snaps.length
 ·rw[JeV hk hc] at hq ⊢
  have hkl:k=p.snaps.length-1:=by omega
  have hk2:k<(p.snaps.set k ⟨p.snaps[k].id,p.snaps[k].pins-1,p.snaps[k].l⟩).length:=by simpa using hk
  have hg:=JgG hq hk2
  simp only[List.getElem_set_self] at hg
  rw[hg]
  simp only[List.getLast?_eq_getElem?,List.length_set,←hkl,List.getElem?_set_self hk,decide_true]
 ·rw[JgO hc] at hq ⊢
  have hkl:k<p.snaps.length-1:=by omega
  have hne:∀y∈p.snaps.eraseIdx k,y.id≠p.snaps[k].id:=fun y hy e=>by
   obtain⟨j,hj,rfl⟩:=List.getElem_of_mem hy
   rw[List.getElem_eraseIdx] at e
   rw[List.length_eraseIdx,if_pos hk] at hj
   split at e
   ·have:=JdB ok.up (by omega) hk e;omega
   ·have:=JdB ok.up (by omega) hk e;omega
  rw[Jqg hq hne]
  cases hg:(p.snaps.eraseIdx k).getLast? with
  |none =>
   rw[List.getLast?_eq_none_iff] at hg
   have:=congrArg List.length hg
   rw[List.length_eraseIdx,if_pos hk] at this
   simp at this
   omega
  |some y =>
   simp only
   exact(decide_eq_false (hne y (List.mem_of_getLast? hg))).symm
end Go.Proofs.YthjalhfmpffbjaaGreatDoor.Lg
