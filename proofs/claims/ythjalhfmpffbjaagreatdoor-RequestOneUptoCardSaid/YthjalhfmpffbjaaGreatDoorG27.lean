/- Parts of the proof, one behind the other. -/
import Derived.Test.YthjalhfmpffbjaaGreatDoorG26
namespace Go.Proofs.YthjalhfmpffbjaaGreatDoor.Lg
set_option maxRecDepth 100000
set_option maxHeartbeats 64000000
set_option linter.unusedVariables false
set_option linter.unusedSimpArgs false
open Go
open Nat renaming reduceEqDiff → Qa, reduceLT → Qb, reduceLeDiff → Qc, reduceAdd → Qd, reduceMul → Qe, reduceSub → Qf, reduceBEq → Qg
open String renaming reduceEq → Qh
open SpecC renaming seqW → Qi, regW → Qj, drawW → Qk, condW → Ql, skip → Qn, ret → Qr
open NxK renaming out → Qw
open Nx renaming out → Qx
open condK renaming split → Qy
open gK renaming split_t → Qz, split_f → QA
def Jbx(r:Req):Bool:=decide (0≤r.stage∧r.stage≤5∧0≤r.id) && (decide (0<r.id) || (decide (r.stage=0) || decide (r.stage=5)))
def Jd(a:Ask):Req:=⟨a,0,0,[],[],⟨0,[],0⟩⟩
def JP(r:Req):Req:=if Jbx r=true then r else Jd r.a
def YO(w:Work):Work :=
 if w.req.stage=0 then Jao w else if w.req.stage=1 then Jbh w else if w.req.stage=2 then JbB w else if w.req.stage=3 then Ja0 w else if w.req.stage=4 then Yl w w.req.out else w
def Jg(r:Req)(s:Side):Work:=YO ⟨JP r,Jr s,[]⟩
theorem JfG:((1:Int)=0)=False∧((2:Int)=0)=False∧((2:Int)=1)=False∧((3:Int)=0)=False∧((3:Int)=1)=False∧((3:Int)=2)=False∧((4:Int)=0)=False∧((4:Int)=1)=False∧((4:Int)=2)=False∧((4:Int)=3)=False:=by simp
theorem JjL(Li:Int)(Lf Lh:List UInt8)(K8 K9:Int)(Ll Ly:Int)(Lk La:List UInt8)(KY:Int)(KF:List UInt8)(KX:Int):CallR Tryz.prog 10 [.agg [.int .i64 Li,.str Lf,.str Lh,.int .i64 K8,.int .i64 K9,.int .i64 Ll,.int .i64 Ly,.str Lk,.str La,.int .i64 KY,.str KF,.int .i64 KX]] (.val (.bool (Jbx (⟨⟨Li,Lf,Lh,K8,K9⟩,Ll,Ly,Lk,La,⟨KY,KF,KX⟩⟩:Req)))):=by
 refine Jl Tryz.call10 Tryz.func10 rfl Tryz.ntmps10 Tryz.results10 fun ts hn h0=>?_
 (repeat' (first
 | (with_reducible first|assumption|(refine Qw hK _ ?_;clear hK K)|refine Qw ‹_› _ ?_|refine Qx ‹_› ?_|refine Qi fun K hK=>?_|refine Qj T fun K hK=>?_|refine Ql fun A B hA hB=>?_|refine Qn ?_|refine Qr ?_)
 |(with_reducible first|apply Qy|apply Qz|apply QA)<;>intro hb<;>try simp only[nr] at hb
 |simp only[go_sem,↓reduceIte,Qa,Qh,Qb,Qc,Qd,Qe,Qf,Qg,reduceCtorEq, *]
 |intro(bn:Bool) hbn))
 all_goals (rw[Bool.eq_iff_iff];simp_all[Jbx])
 all_goals omega
theorem JfS(Lc:Int)(a_host Lb:List UInt8)(KZ K4:Int):CallR Tryz.prog 20 [.agg [.int .i64 Lc,.str a_host,.str Lb,.int .i64 KZ,.int .i64 K4]] (.val (.agg [.int .i64 (Jd (⟨Lc,a_host,Lb,KZ,K4⟩:Ask)).a.port,.str (Jd (⟨Lc,a_host,Lb,KZ,K4⟩:Ask)).a.host,.str (Jd (⟨Lc,a_host,Lb,KZ,K4⟩:Ask)).a.path,.int .i64 (Jd (⟨Lc,a_host,Lb,KZ,K4⟩:Ask)).a.first,.int .i64 (Jd (⟨Lc,a_host,Lb,KZ,K4⟩:Ask)).a.other,.int .i64 (Jd (⟨Lc,a_host,Lb,KZ,K4⟩:Ask)).stage,.int .i64 (Jd (⟨Lc,a_host,Lb,KZ,K4⟩:Ask)).id,.str (Jd (⟨Lc,a_host,Lb,KZ,K4⟩:Ask)).route,.str (Jd (⟨Lc,a_host,Lb,KZ,K4⟩:Ask)).cluster,.int .i64 (Jd (⟨Lc,a_host,Lb,KZ,K4⟩:Ask)).out.what,.str (Jd (⟨Lc,a_host,Lb,KZ,K4⟩:Ask)).out.cluster,.int .i64 (Jd (⟨Lc,a_host,Lb,KZ,K4⟩:Ask)).out.host])):=by
 unfold Jd
 refine Jl Tryz.call20 Tryz.func20 rfl Tryz.ntmps20 Tryz.results20 fun ts hn h0=>?_
 (repeat' (first
 | (with_reducible first|assumption|(refine Qw hK _ ?_;clear hK K)|refine Qw ‹_› _ ?_|refine Qx ‹_› ?_|refine Qi fun K hK=>?_|refine Qj T fun K hK=>?_|refine Ql fun A B hA hB=>?_|refine Qn ?_|refine Qr ?_)
 |(with_reducible first|apply Qy|apply Qz|apply QA)<;>intro hb<;>try simp only[nr] at hb
 |simp only[go_sem,↓reduceIte,Qa,Qh,Qb,Qc,Qd,Qe,Qf,Qg,reduceCtorEq, *]
 |intro(bn:Bool) hbn))
theorem JjM(Li:Int)(Lf Lh:List UInt8)(K8 K9:Int)(Ll Ly:Int)(Lk La:List UInt8)(KY:Int)(KF:List UInt8)(KX:Int):CallR Tryz.prog 44 [.agg [.int .i64 Li,.str Lf,.str Lh,.int .i64 K8,.int .i64 K9,.int .i64 Ll,.int .i64 Ly,.str Lk,.str La,.int .i64 KY,.str KF,.int .i64 KX]] (.val (.agg [.int .i64 (JP (⟨⟨Li,Lf,Lh,K8,K9⟩,Ll,Ly,Lk,La,⟨KY,KF,KX⟩⟩:Req)).a.port,.str (JP (⟨⟨Li,Lf,Lh,K8,K9⟩,Ll,Ly,Lk,La,⟨KY,KF,KX⟩⟩:Req)).a.host,.str (JP (⟨⟨Li,Lf,Lh,K8,K9⟩,Ll,Ly,Lk,La,⟨KY,KF,KX⟩⟩:Req)).a.path,.int .i64 (JP (⟨⟨Li,Lf,Lh,K8,K9⟩,Ll,Ly,Lk,La,⟨KY,KF,KX⟩⟩:Req)).a.first,.int .i64 (JP (⟨⟨Li,Lf,Lh,K8,K9⟩,Ll,Ly,Lk,La,⟨KY,KF,KX⟩⟩:Req)).a.other,.int .i64 (JP (⟨⟨Li,Lf,Lh,K8,K9⟩,Ll,Ly,Lk,La,⟨KY,KF,KX⟩⟩:Req)).stage,.int .i64 (JP (⟨⟨Li,Lf,Lh,K8,K9⟩,Ll,Ly,Lk,La,⟨KY,KF,KX⟩⟩:Req)).id,.str (JP (⟨⟨Li,Lf,Lh,K8,K9⟩,Ll,Ly,Lk,La,⟨KY,KF,KX⟩⟩:Req)).route,.str (JP (⟨⟨Li,Lf,Lh,K8,K9⟩,Ll,Ly,Lk,La,⟨KY,KF,KX⟩⟩:Req)).cluster,.int .i64 (JP (⟨⟨Li,Lf,Lh,K8,K9⟩,Ll,Ly,Lk,La,⟨KY,KF,KX⟩⟩:Req)).out.what,.str (JP (⟨⟨Li,Lf,Lh,K8,K9⟩,Ll,Ly,Lk,La,⟨KY,KF,KX⟩⟩:Req)).out.cluster,.int .i64 (JP (⟨⟨Li,Lf,Lh,K8,K9⟩,Ll,Ly,Lk,La,⟨KY,KF,KX⟩⟩:Req)).out.host])):=by
 have w1:=JjL Li Lf Lh K8 K9 Ll Ly Lk La KY KF KX
 have w2:=JfS Li Lf Lh K8 K9
 unfold JP
 cases hb0:Jbx (⟨⟨Li,Lf,Lh,K8,K9⟩,Ll,Ly,Lk,La,⟨KY,KF,KX⟩⟩:Req)
 ·rw[hb0] at w1
  simp only[Bool.false_eq_true,↓reduceIte]
  refine Jl Tryz.call44 Tryz.func44 rfl Tryz.ntmps44 Tryz.results44 fun ts hn h0=>?_
  (repeat' (first
 | (with_reducible first|refine callX.by (w1) ?_|refine callX.by (w2) ?_|assumption|(refine Qw hK _ ?_;clear hK K)|refine Qw ‹_› _ ?_|refine Qx ‹_› ?_|refine Qi fun K hK=>?_|refine Qj T fun K hK=>?_|refine Ql fun A B hA hB=>?_|refine Qn ?_|refine Qr ?_)
 |(with_reducible first|apply Qy|apply Qz|apply QA)<;>intro hb<;>try simp only[nr] at hb
 |simp only[go_sem,↓reduceIte,Qa,Qh,Qb,Qc,Qd,Qe,Qf,Qg,reduceCtorEq, *,-w1,-w2,-hb0]
 |intro(bn:Bool) hbn))
 ·rw[hb0] at w1
  simp only[↓reduceIte]
  refine Jl Tryz.call44 Tryz.func44 rfl Tryz.ntmps44 Tryz.results44 fun ts hn h0=>?_
  (repeat' (first
 | (with_reducible first|refine callX.by (w1) ?_|assumption|(refine Qw hK _ ?_;clear hK K)|refine Qw ‹_› _ ?_|refine Qx ‹_› ?_|refine Qi fun K hK=>?_|refine Qj T fun K hK=>?_|refine Ql fun A B hA hB=>?_|refine Qn ?_|refine Qr ?_)
 |(with_reducible first|apply Qy|apply Qz|apply QA)<;>intro hb<;>try simp only[nr] at hb
 |simp only[go_sem,↓reduceIte,Qa,Qh,Qb,Qc,Qd,Qe,Qf,Qg,reduceCtorEq, *,-w1,-w2,-hb0]
 |intro(bn:Bool) hbn))
theorem Jj4(Li:Int)(Lf Lh:List UInt8)(K8 K9:Int)(Ll Ly:Int)(Lk La:List UInt8)(KY:Int)(KF:List UInt8)(KX:Int):CallR Tryz.prog 22 [.agg [.int .i64 Li,.str Lf,.str Lh,.int .i64 K8,.int .i64 K9,.int .i64 Ll,.int .i64 Ly,.str Lk,.str La,.int .i64 KY,.str KF,.int .i64 KX]] (.val (.bool (!decide ((JP (⟨⟨Li,Lf,Lh,K8,K9⟩,Ll,Ly,Lk,La,⟨KY,KF,KX⟩⟩:Req)).stage=5)))):=by
 have w1:=JjM Li Lf Lh K8 K9 Ll Ly Lk La KY KF KX
 generalize JP (⟨⟨Li,Lf,Lh,K8,K9⟩,Ll,Ly,Lk,La,⟨KY,KF,KX⟩⟩:Req)=q at *
 refine Jl Tryz.call22 Tryz.func22 rfl Tryz.ntmps22 Tryz.results22 fun ts hn h0=>?_
 (repeat' (first
 | (with_reducible first|refine callX.by (w1) ?_|assumption|(refine Qw hK _ ?_;clear hK K)|refine Qw ‹_› _ ?_|refine Qx ‹_› ?_|refine Qi fun K hK=>?_|refine Qj T fun K hK=>?_|refine Ql fun A B hA hB=>?_|refine Qn ?_|refine Qr ?_)
 |(with_reducible first|apply Qy|apply Qz|apply QA)<;>intro hb<;>try simp only[nr] at hb
 |simp only[go_sem,↓reduceIte,Qa,Qh,Qb,Qc,Qd,Qe,Qf,Qg,reduceCtorEq, *,-w1]
 |intro(bn:Bool) hbn))
theorem Jrp(Kn Ko:Int)(KR:Bool)(Ka Kb:Int)(Kc Kd:Int)(Km Kh:Int)(Ki Kj:Int)(Kk Kf:Int)(s_w_c_l:List Res)(Kg:Bool)(Ke:List Res)(Kl:Int)(s_p_snaps:List Snap)(h:SzS (⟨Kn,Ko,KR,⟨⟨Ka,Kb,Kc,Kd⟩,Km⟩,⟨Kh,Ki,Kj,Kk⟩,⟨⟨Kf,s_w_c_l⟩,Kg,Ke⟩,⟨Kl,s_p_snaps⟩⟩:Side)):CallR Tryz.prog 45 [.agg [.int .i64 Kn,.int .i64 Ko,.bool KR,.int .i64 Ka,.int .i64 Kb,.int .i64 Kc,.int .i64 Kd,.int .i64 Km,.int .i64 Kh,.int .i64 Ki,.int .i64 Kj,.int .i64 Kk,.int .i64 Kf,.slice false (Ja s_w_c_l),.bool Kg,.slice false (Ja Ke),.int .i64 Kl,.slice false (Ja s_p_snaps)]] (.val (.agg [.int .i64 (Jr (⟨Kn,Ko,KR,⟨⟨Ka,Kb,Kc,Kd⟩,Km⟩,⟨Kh,Ki,Kj,Kk⟩,⟨⟨Kf,s_w_c_l⟩,Kg,Ke⟩,⟨Kl,s_p_snaps⟩⟩:Side)).epoch,.int .i64 (Jr (⟨Kn,Ko,KR,⟨⟨Ka,Kb,Kc,Kd⟩,Km⟩,⟨Kh,Ki,Kj,Kk⟩,⟨⟨Kf,s_w_c_l⟩,Kg,Ke⟩,⟨Kl,s_p_snaps⟩⟩:Side)).turn,.bool (Jr (⟨Kn,Ko,KR,⟨⟨Ka,Kb,Kc,Kd⟩,Km⟩,⟨Kh,Ki,Kj,Kk⟩,⟨⟨Kf,s_w_c_l⟩,Kg,Ke⟩,⟨Kl,s_p_snaps⟩⟩:Side)).up,.int .i64 (Jr (⟨Kn,Ko,KR,⟨⟨Ka,Kb,Kc,Kd⟩,Km⟩,⟨Kh,Ki,Kj,Kk⟩,⟨⟨Kf,s_w_c_l⟩,Kg,Ke⟩,⟨Kl,s_p_snaps⟩⟩:Side)).in'.last.a0,.int .i64 (Jr (⟨Kn,Ko,KR,⟨⟨Ka,Kb,Kc,Kd⟩,Km⟩,⟨Kh,Ki,Kj,Kk⟩,⟨⟨Kf,s_w_c_l⟩,Kg,Ke⟩,⟨Kl,s_p_snaps⟩⟩:Side)).in'.last.a1,.int .i64 (Jr (⟨Kn,Ko,KR,⟨⟨Ka,Kb,Kc,Kd⟩,Km⟩,⟨Kh,Ki,Kj,Kk⟩,⟨⟨Kf,s_w_c_l⟩,Kg,Ke⟩,⟨Kl,s_p_snaps⟩⟩:Side)).in'.last.a2,.int .i64 (Jr (⟨Kn,Ko,KR,⟨⟨Ka,Kb,Kc,Kd⟩,Km⟩,⟨Kh,Ki,Kj,Kk⟩,⟨⟨Kf,s_w_c_l⟩,Kg,Ke⟩,⟨Kl,s_p_snaps⟩⟩:Side)).in'.last.a3,.int .i64 (Jr (⟨Kn,Ko,KR,⟨⟨Ka,Kb,Kc,Kd⟩,Km⟩,⟨Kh,Ki,Kj,Kk⟩,⟨⟨Kf,s_w_c_l⟩,Kg,Ke⟩,⟨Kl,s_p_snaps⟩⟩:Side)).in'.max,.int .i64 (Jr (⟨Kn,Ko,KR,⟨⟨Ka,Kb,Kc,Kd⟩,Km⟩,⟨Kh,Ki,Kj,Kk⟩,⟨⟨Kf,s_w_c_l⟩,Kg,Ke⟩,⟨Kl,s_p_snaps⟩⟩:Side)).errs.a0,.int .i64 (Jr (⟨Kn,Ko,KR,⟨⟨Ka,Kb,Kc,Kd⟩,Km⟩,⟨Kh,Ki,Kj,Kk⟩,⟨⟨Kf,s_w_c_l⟩,Kg,Ke⟩,⟨Kl,s_p_snaps⟩⟩:Side)).errs.a1,.int .i64 (Jr (⟨Kn,Ko,KR,⟨⟨Ka,Kb,Kc,Kd⟩,Km⟩,⟨Kh,Ki,Kj,Kk⟩,⟨⟨Kf,s_w_c_l⟩,Kg,Ke⟩,⟨Kl,s_p_snaps⟩⟩:Side)).errs.a2,.int .i64 (Jr (⟨Kn,Ko,KR,⟨⟨Ka,Kb,Kc,Kd⟩,Km⟩,⟨Kh,Ki,Kj,Kk⟩,⟨⟨Kf,s_w_c_l⟩,Kg,Ke⟩,⟨Kl,s_p_snaps⟩⟩:Side)).errs.a3,.int .i64 (Jr (⟨Kn,Ko,KR,⟨⟨Ka,Kb,Kc,Kd⟩,Km⟩,⟨Kh,Ki,Kj,Kk⟩,⟨⟨Kf,s_w_c_l⟩,Kg,Ke⟩,⟨Kl,s_p_snaps⟩⟩:Side)).w.c.cap,.slice false (Ja (Jr (⟨Kn,Ko,KR,⟨⟨Ka,Kb,Kc,Kd⟩,Km⟩,⟨Kh,Ki,Kj,Kk⟩,⟨⟨Kf,s_w_c_l⟩,Kg,Ke⟩,⟨Kl,s_p_snaps⟩⟩:Side)).w.c.l),.bool (Jr (⟨Kn,Ko,KR,⟨⟨Ka,Kb,Kc,Kd⟩,Km⟩,⟨Kh,Ki,Kj,Kk⟩,⟨⟨Kf,s_w_c_l⟩,Kg,Ke⟩,⟨Kl,s_p_snaps⟩⟩:Side)).w.ready,.slice false (Ja (Jr (⟨Kn,Ko,KR,⟨⟨Ka,Kb,Kc,Kd⟩,Km⟩,⟨Kh,Ki,Kj,Kk⟩,⟨⟨Kf,s_w_c_l⟩,Kg,Ke⟩,⟨Kl,s_p_snaps⟩⟩:Side)).w.shown),.int .i64 (Jr (⟨Kn,Ko,KR,⟨⟨Ka,Kb,Kc,Kd⟩,Km⟩,⟨Kh,Ki,Kj,Kk⟩,⟨⟨Kf,s_w_c_l⟩,Kg,Ke⟩,⟨Kl,s_p_snaps⟩⟩:Side)).p.next',.slice false (Ja (Jr (⟨Kn,Ko,KR,⟨⟨Ka,Kb,Kc,Kd⟩,Km⟩,⟨Kh,Ki,Kj,Kk⟩,⟨⟨Kf,s_w_c_l⟩,Kg,Ke⟩,⟨Kl,s_p_snaps⟩⟩:Side)).p.snaps)])):=by
 have w1:=Jdw Kn Ko KR Ka Kb Kc Kd Km Kh Ki Kj Kk Kf s_w_c_l Kg Ke Kl s_p_snaps h
 have w2:=JfT Kf Km
 unfold Jr
 cases hb0:JR (⟨Kn,Ko,KR,⟨⟨Ka,Kb,Kc,Kd⟩,Km⟩,⟨Kh,Ki,Kj,Kk⟩,⟨⟨Kf,s_w_c_l⟩,Kg,Ke⟩,⟨Kl,s_p_snaps⟩⟩:Side)
 ·rw[hb0] at w1
  simp only[Bool.false_eq_true,↓reduceIte]
  clear h
  refine Jl Tryz.call45 Tryz.func45 rfl Tryz.ntmps45 Tryz.results45 fun ts hn h0=>?_
  (repeat' (first
 | (with_reducible first|refine callX.by (w1) ?_|refine callX.by (w2) ?_|assumption|(refine Qw hK _ ?_;clear hK K)|refine Qw ‹_› _ ?_|refine Qx ‹_› ?_|refine Qi fun K hK=>?_|refine Qj T fun K hK=>?_|refine Ql fun A B hA hB=>?_|refine Qn ?_|refine Qr ?_)
 |(with_reducible first|apply Qy|apply Qz|apply QA)<;>intro hb<;>try simp only[nr] at hb
 |simp only[go_sem,↓reduceIte,Qa,Qh,Qb,Qc,Qd,Qe,Qf,Qg,reduceCtorEq, *,-w1,-w2,-hb0]
 |intro(bn:Bool) hbn))
 ·rw[hb0] at w1
  simp only[↓reduceIte]
  clear h
  refine Jl Tryz.call45 Tryz.func45 rfl Tryz.ntmps45 Tryz.results45 fun ts hn h0=>?_
  (repeat' (first
 | (with_reducible first|refine callX.by (w1) ?_|assumption|(refine Qw hK _ ?_;clear hK K)|refine Qw ‹_› _ ?_|refine Qx ‹_› ?_|refine Qi fun K hK=>?_|refine Qj T fun K hK=>?_|refine Ql fun A B hA hB=>?_|refine Qn ?_|refine Qr ?_)
 |(with_reducible first|apply Qy|apply Qz|apply QA)<;>intro hb<;>try simp only[nr] at hb
 |simp only[go_sem,↓reduceIte,Qa,Qh,Qb,Qc,Qd,Qe,Qf,Qg,reduceCtorEq, *,-w1,-w2,-hb0]
 |intro(bn:Bool) hbn))
theorem JgH(Li:Int)(Lf Lh:List UInt8)(K8 K9:Int)(Ll Ly:Int)(Lk La:List UInt8)(KY:Int)(KF:List UInt8)(KX Kn Ko:Int)(KR:Bool)(Ka Kb:Int)(Kc Kd:Int)(Km Kh:Int)(Ki Kj:Int)(Kk Kf:Int)(s_w_c_l:List Res)(Kg:Bool)(Ke:List Res)(Kl:Int)(s_p_snaps:List Snap)(h:SzS (⟨Kn,Ko,KR,⟨⟨Ka,Kb,Kc,Kd⟩,Km⟩,⟨Kh,Ki,Kj,Kk⟩,⟨⟨Kf,s_w_c_l⟩,Kg,Ke⟩,⟨Kl,s_p_snaps⟩⟩:Side))(hk:SzK ⟨JP (⟨⟨Li,Lf,Lh,K8,K9⟩,Ll,Ly,Lk,La,⟨KY,KF,KX⟩⟩:Req),Jr (⟨Kn,Ko,KR,⟨⟨Ka,Kb,Kc,Kd⟩,Km⟩,⟨Kh,Ki,Kj,Kk⟩,⟨⟨Kf,s_w_c_l⟩,Kg,Ke⟩,⟨Kl,s_p_snaps⟩⟩:Side),[]⟩):CallR Tryz.prog 15 [.agg [.int .i64 Li,.str Lf,.str Lh,.int .i64 K8,.int .i64 K9,.int .i64 Ll,.int .i64 Ly,.str Lk,.str La,.int .i64 KY,.str KF,.int .i64 KX],.agg [.int .i64 Kn,.int .i64 Ko,.bool KR,.int .i64 Ka,.int .i64 Kb,.int .i64 Kc,.int .i64 Kd,.int .i64 Km,.int .i64 Kh,.int .i64 Ki,.int .i64 Kj,.int .i64 Kk,.int .i64 Kf,.slice false (Ja s_w_c_l),.bool Kg,.slice false (Ja Ke),.int .i64 Kl,.slice false (Ja s_p_snaps)]]
  (.val (.tup [.agg [.int .i64 (Jg (⟨⟨Li,Lf,Lh,K8,K9⟩,Ll,Ly,Lk,La,⟨KY,KF,KX⟩⟩:Req) (⟨Kn,Ko,KR,⟨⟨Ka,Kb,Kc,Kd⟩,Km⟩,⟨Kh,Ki,Kj,Kk⟩,⟨⟨Kf,s_w_c_l⟩,Kg,Ke⟩,⟨Kl,s_p_snaps⟩⟩:Side)).req.a.port,.str (Jg (⟨⟨Li,Lf,Lh,K8,K9⟩,Ll,Ly,Lk,La,⟨KY,KF,KX⟩⟩:Req) (⟨Kn,Ko,KR,⟨⟨Ka,Kb,Kc,Kd⟩,Km⟩,⟨Kh,Ki,Kj,Kk⟩,⟨⟨Kf,s_w_c_l⟩,Kg,Ke⟩,⟨Kl,s_p_snaps⟩⟩:Side)).req.a.host,.str (Jg (⟨⟨Li,Lf,Lh,K8,K9⟩,Ll,Ly,Lk,La,⟨KY,KF,KX⟩⟩:Req) (⟨Kn,Ko,KR,⟨⟨Ka,Kb,Kc,Kd⟩,Km⟩,⟨Kh,Ki,Kj,Kk⟩,⟨⟨Kf,s_w_c_l⟩,Kg,Ke⟩,⟨Kl,s_p_snaps⟩⟩:Side)).req.a.path,.int .i64 (Jg (⟨⟨Li,Lf,Lh,K8,K9⟩,Ll,Ly,Lk,La,⟨KY,KF,KX⟩⟩:Req) (⟨Kn,Ko,KR,⟨⟨Ka,Kb,Kc,Kd⟩,Km⟩,⟨Kh,Ki,Kj,Kk⟩,⟨⟨Kf,s_w_c_l⟩,Kg,Ke⟩,⟨Kl,s_p_snaps⟩⟩:Side)).req.a.first,.int .i64 (Jg (⟨⟨Li,Lf,Lh,K8,K9⟩,Ll,Ly,Lk,La,⟨KY,KF,KX⟩⟩:Req) (⟨Kn,Ko,KR,⟨⟨Ka,Kb,Kc,Kd⟩,Km⟩,⟨Kh,Ki,Kj,Kk⟩,⟨⟨Kf,s_w_c_l⟩,Kg,Ke⟩,⟨Kl,s_p_snaps⟩⟩:Side)).req.a.other,.int .i64 (Jg (⟨⟨Li,Lf,Lh,K8,K9⟩,Ll,Ly,Lk,La,⟨KY,KF,KX⟩⟩:Req) (⟨Kn,Ko,KR,⟨⟨Ka,Kb,Kc,Kd⟩,Km⟩,⟨Kh,Ki,Kj,Kk⟩,⟨⟨Kf,s_w_c_l⟩,Kg,Ke⟩,⟨Kl,s_p_snaps⟩⟩:Side)).req.stage,.int .i64 (Jg (⟨⟨Li,Lf,Lh,K8,K9⟩,Ll,Ly,Lk,La,⟨KY,KF,KX⟩⟩:Req) (⟨Kn,Ko,KR,⟨⟨Ka,Kb,Kc,Kd⟩,Km⟩,⟨Kh,Ki,Kj,Kk⟩,⟨⟨Kf,s_w_c_l⟩,Kg,Ke⟩,⟨Kl,s_p_snaps⟩⟩:Side)).req.id,.str (Jg (⟨⟨Li,Lf,Lh,K8,K9⟩,Ll,Ly,Lk,La,⟨KY,KF,KX⟩⟩:Req) (⟨Kn,Ko,KR,⟨⟨Ka,Kb,Kc,Kd⟩,Km⟩,⟨Kh,Ki,Kj,Kk⟩,⟨⟨Kf,s_w_c_l⟩,Kg,Ke⟩,⟨Kl,s_p_snaps⟩⟩:Side)).req.route,.str (Jg (⟨⟨Li,Lf,Lh,K8,K9⟩,Ll,Ly,Lk,La,⟨KY,KF,KX⟩⟩:Req) (⟨Kn,Ko,KR,⟨⟨Ka,Kb,Kc,Kd⟩,Km⟩,⟨Kh,Ki,Kj,Kk⟩,⟨⟨Kf,s_w_c_l⟩,Kg,Ke⟩,⟨Kl,s_p_snaps⟩⟩:Side)).req.cluster,.int .i64 (Jg (⟨⟨Li,Lf,Lh,K8,K9⟩,Ll,Ly,Lk,La,⟨KY,KF,KX⟩⟩:Req) (⟨Kn,Ko,KR,⟨⟨Ka,Kb,Kc,Kd⟩,Km⟩,⟨Kh,Ki,Kj,Kk⟩,⟨⟨Kf,s_w_c_l⟩,Kg,Ke⟩,⟨Kl,s_p_snaps⟩⟩:Side)).req.out.what,.str (Jg (⟨⟨Li,Lf,Lh,K8,K9⟩,Ll,Ly,Lk,La,⟨KY,KF,KX⟩⟩:Req) (⟨Kn,Ko,KR,⟨⟨Ka,Kb,Kc,Kd⟩,Km⟩,⟨Kh,Ki,Kj,Kk⟩,⟨⟨Kf,s_w_c_l⟩,Kg,Ke⟩,⟨Kl,s_p_snaps⟩⟩:Side)).req.out.cluster,.int .i64 (Jg (⟨⟨Li,Lf,Lh,K8,K9⟩,Ll,Ly,Lk,La,⟨KY,KF,KX⟩⟩:Req) (⟨Kn,Ko,KR,⟨⟨Ka,Kb,Kc,Kd⟩,Km⟩,⟨Kh,Ki,Kj,Kk⟩,⟨⟨Kf,s_w_c_l⟩,Kg,Ke⟩,⟨Kl,s_p_snaps⟩⟩:Side)).req.out.host],.agg [.int .i64 (Jg (⟨⟨Li,Lf,Lh,K8,K9⟩,Ll,Ly,Lk,La,⟨KY,KF,KX⟩⟩:Req) (⟨Kn,Ko,KR,⟨⟨Ka,Kb,Kc,Kd⟩,Km⟩,⟨Kh,Ki,Kj,Kk⟩,⟨⟨Kf,s_w_c_l⟩,Kg,Ke⟩,⟨Kl,s_p_snaps⟩⟩:Side)).side.epoch,.int .i64 (Jg (⟨⟨Li,Lf,Lh,K8,K9⟩,Ll,Ly,Lk,La,⟨KY,KF,KX⟩⟩:Req) (⟨Kn,Ko,KR,⟨⟨Ka,Kb,Kc,Kd⟩,Km⟩,⟨Kh,Ki,Kj,Kk⟩,⟨⟨Kf,s_w_c_l⟩,Kg,Ke⟩,⟨Kl,s_p_snaps⟩⟩:Side)).side.turn,.bool (Jg (⟨⟨Li,Lf,Lh,K8,K9⟩,Ll,Ly,Lk,La,⟨KY,KF,KX⟩⟩:Req) (⟨Kn,Ko,KR,⟨⟨Ka,Kb,Kc,Kd⟩,Km⟩,⟨Kh,Ki,Kj,Kk⟩,⟨⟨Kf,s_w_c_l⟩,Kg,Ke⟩,⟨Kl,s_p_snaps⟩⟩:Side)).side.up,.int .i64 (Jg (⟨⟨Li,Lf,Lh,K8,K9⟩,Ll,Ly,Lk,La,⟨KY,KF,KX⟩⟩:Req) (⟨Kn,Ko,KR,⟨⟨Ka,Kb,Kc,Kd⟩,Km⟩,⟨Kh,Ki,Kj,Kk⟩,⟨⟨Kf,s_w_c_l⟩,Kg,Ke⟩,⟨Kl,s_p_snaps⟩⟩:Side)).side.in'.last.a0,.int .i64 (Jg (⟨⟨Li,Lf,Lh,K8,K9⟩,Ll,Ly,Lk,La,⟨KY,KF,KX⟩⟩:Req) (⟨Kn,Ko,KR,⟨⟨Ka,Kb,Kc,Kd⟩,Km⟩,⟨Kh,Ki,Kj,Kk⟩,⟨⟨Kf,s_w_c_l⟩,Kg,Ke⟩,⟨Kl,s_p_snaps⟩⟩:Side)).side.in'.last.a1,.int .i64 (Jg (⟨⟨Li,Lf,Lh,K8,K9⟩,Ll,Ly,Lk,La,⟨KY,KF,KX⟩⟩:Req) (⟨Kn,Ko,KR,⟨⟨Ka,Kb,Kc,Kd⟩,Km⟩,⟨Kh,Ki,Kj,Kk⟩,⟨⟨Kf,s_w_c_l⟩,Kg,Ke⟩,⟨Kl,s_p_snaps⟩⟩:Side)).side.in'.last.a2,.int .i64 (Jg (⟨⟨Li,Lf,Lh,K8,K9⟩,Ll,Ly,Lk,La,⟨KY,KF,KX⟩⟩:Req) (⟨Kn,Ko,KR,⟨⟨Ka,Kb,Kc,Kd⟩,Km⟩,⟨Kh,Ki,Kj,Kk⟩,⟨⟨Kf,s_w_c_l⟩,Kg,Ke⟩,⟨Kl,s_p_snaps⟩⟩:Side)).side.in'.last.a3,.int .i64 (Jg (⟨⟨Li,Lf,Lh,K8,K9⟩,Ll,Ly,Lk,La,⟨KY,KF,KX⟩⟩:Req) (⟨Kn,Ko,KR,⟨⟨Ka,Kb,Kc,Kd⟩,Km⟩,⟨Kh,Ki,Kj,Kk⟩,⟨⟨Kf,s_w_c_l⟩,Kg,Ke⟩,⟨Kl,s_p_snaps⟩⟩:Side)).side.in'.max,.int .i64 (Jg (⟨⟨Li,Lf,Lh,K8,K9⟩,Ll,Ly,Lk,La,⟨KY,KF,KX⟩⟩:Req) (⟨Kn,Ko,KR,⟨⟨Ka,Kb,Kc,Kd⟩,Km⟩,⟨Kh,Ki,Kj,Kk⟩,⟨⟨Kf,s_w_c_l⟩,Kg,Ke⟩,⟨Kl,s_p_snaps⟩⟩:Side)).side.errs.a0,.int .i64 (Jg (⟨⟨Li,Lf,Lh,K8,K9⟩,Ll,Ly,Lk,La,⟨KY,KF,KX⟩⟩:Req) (⟨Kn,Ko,KR,⟨⟨Ka,Kb,Kc,Kd⟩,Km⟩,⟨Kh,Ki,Kj,Kk⟩,⟨⟨Kf,s_w_c_l⟩,Kg,Ke⟩,⟨Kl,s_p_snaps⟩⟩:Side)).side.errs.a1,.int .i64 (Jg (⟨⟨Li,Lf,Lh,K8,K9⟩,Ll,Ly,Lk,La,⟨KY,KF,KX⟩⟩:Req) (⟨Kn,Ko,KR,⟨⟨Ka,Kb,Kc,Kd⟩,Km⟩,⟨Kh,Ki,Kj,Kk⟩,⟨⟨Kf,s_w_c_l⟩,Kg,Ke⟩,⟨Kl,s_p_snaps⟩⟩:Side)).side.errs.a2,.int .i64 (Jg (⟨⟨Li,Lf,Lh,K8,K9⟩,Ll,Ly,Lk,La,⟨KY,KF,KX⟩⟩:Req) (⟨Kn,Ko,KR,⟨⟨Ka,Kb,Kc,Kd⟩,Km⟩,⟨Kh,Ki,Kj,Kk⟩,⟨⟨Kf,s_w_c_l⟩,Kg,Ke⟩,⟨Kl,s_p_snaps⟩⟩:Side)).side.errs.a3,.int .i64 (Jg (⟨⟨Li,Lf,Lh,K8,K9⟩,Ll,Ly,Lk,La,⟨KY,KF,KX⟩⟩:Req) (⟨Kn,Ko,KR,⟨⟨Ka,Kb,Kc,Kd⟩,Km⟩,⟨Kh,Ki,Kj,Kk⟩,⟨⟨Kf,s_w_c_l⟩,Kg,Ke⟩,⟨Kl,s_p_snaps⟩⟩:Side)).side.w.c.cap,.slice false (Ja (Jg (⟨⟨Li,Lf,Lh,K8,K9⟩,Ll,Ly,Lk,La,⟨KY,KF,KX⟩⟩:Req) (⟨Kn,Ko,KR,⟨⟨Ka,Kb,Kc,Kd⟩,Km⟩,⟨Kh,Ki,Kj,Kk⟩,⟨⟨Kf,s_w_c_l⟩,Kg,Ke⟩,⟨Kl,s_p_snaps⟩⟩:Side)).side.w.c.l),.bool (Jg (⟨⟨Li,Lf,Lh,K8,K9⟩,Ll,Ly,Lk,La,⟨KY,KF,KX⟩⟩:Req) (⟨Kn,Ko,KR,⟨⟨Ka,Kb,Kc,Kd⟩,Km⟩,⟨Kh,Ki,Kj,Kk⟩,⟨⟨Kf,s_w_c_l⟩,Kg,Ke⟩,⟨Kl,s_p_snaps⟩⟩:Side)).side.w.ready,.slice false (Ja (Jg (⟨⟨Li,Lf,Lh,K8,K9⟩,Ll,Ly,Lk,La,⟨KY,KF,KX⟩⟩:Req) (⟨Kn,Ko,KR,⟨⟨Ka,Kb,Kc,Kd⟩,Km⟩,⟨Kh,Ki,Kj,Kk⟩,⟨⟨Kf,s_w_c_l⟩,Kg,Ke⟩,⟨Kl,s_p_snaps⟩⟩:Side)).side.w.shown),.int .i64 (Jg (⟨⟨Li,Lf,Lh,K8,K9⟩,Ll,Ly,Lk,La,⟨KY,KF,KX⟩⟩:Req) (⟨Kn,Ko,KR,⟨⟨Ka,Kb,Kc,Kd⟩,Km⟩,⟨Kh,Ki,Kj,Kk⟩,⟨⟨Kf,s_w_c_l⟩,Kg,Ke⟩,⟨Kl,s_p_snaps⟩⟩:Side)).side.p.next',.slice false (Ja (Jg (⟨⟨Li,Lf,Lh,K8,K9⟩,Ll,Ly,Lk,La,⟨KY,KF,KX⟩⟩:Req) (⟨Kn,Ko,KR,⟨⟨Ka,Kb,Kc,Kd⟩,Km⟩,⟨Kh,Ki,Kj,Kk⟩,⟨⟨Kf,s_w_c_l⟩,Kg,Ke⟩,⟨Kl,s_p_snaps⟩⟩:Side)).side.p.snaps)],.slice false (Ja (Jg (⟨⟨Li,Lf,Lh,K8,K9⟩,Ll,Ly,Lk,La,⟨KY,KF,KX⟩⟩:Req) (⟨Kn,Ko,KR,⟨⟨Ka,Kb,Kc,Kd⟩,Km⟩,⟨Kh,Ki,Kj,Kk⟩,⟨⟨Kf,s_w_c_l⟩,Kg,Ke⟩,⟨Kl,s_p_snaps⟩⟩:Side)).told)])):=by
 have w1:=JjM Li Lf Lh K8 K9 Ll Ly Lk La KY KF KX
 have w2:=Jrp Kn Ko KR Ka Kb Kc Kd Km Kh Ki Kj Kk Kf s_w_c_l Kg Ke Kl s_p_snaps h
 unfold Jg
 clear h
 generalize JP (⟨⟨Li,Lf,Lh,K8,K9⟩,Ll,Ly,Lk,La,⟨KY,KF,KX⟩⟩:Req)=q at *
 generalize Jr (⟨Kn,Ko,KR,⟨⟨Ka,Kb,Kc,Kd⟩,Km⟩,⟨Kh,Ki,Kj,Kk⟩,⟨⟨Kf,s_w_c_l⟩,Kg,Ke⟩,⟨Kl,s_p_snaps⟩⟩:Side)=b at *
 unfold YO
 simp only
 rcases(show q.stage=0∨q.stage=1∨q.stage=2∨q.stage=3∨q.stage=4∨(¬q.stage=0∧¬q.stage=1∧¬q.stage=2∧¬q.stage=3∧¬q.stage=4) by omega) with hs|hs|hs|hs|hs|⟨hs,hs1,hs2,hs3,hs4⟩
 rw[if_pos hs]
 have w3:=Jm4 q.a.port q.a.host q.a.path q.a.first q.a.other q.stage q.id q.route q.cluster q.out.what q.out.cluster q.out.host b.epoch b.turn b.up b.in'.last.a0 b.in'.last.a1 b.in'.last.a2 b.in'.last.a3 b.in'.max b.errs.a0 b.errs.a1 b.errs.a2 b.errs.a3 b.w.c.cap b.w.c.l b.w.ready b.w.shown b.p.next' b.p.snaps [] hk
 have w3:CallI Tryz.prog 46 [.int .i64 q.a.port,.str q.a.host,.str q.a.path,.int .i64 q.a.first,.int .i64 q.a.other,.int .i64 q.stage,.int .i64 q.id,.str q.route,.str q.cluster,.int .i64 q.out.what,.str q.out.cluster,.int .i64 q.out.host,.int .i64 b.epoch,.int .i64 b.turn,.bool b.up,.int .i64 b.in'.last.a0,.int .i64 b.in'.last.a1,.int .i64 b.in'.last.a2,.int .i64 b.in'.last.a3,.int .i64 b.in'.max,.int .i64 b.errs.a0,.int .i64 b.errs.a1,.int .i64 b.errs.a2,.int .i64 b.errs.a3,.int .i64 b.w.c.cap,.slice false (Ja b.w.c.l),.bool b.w.ready,.slice false (Ja b.w.shown),.int .i64 b.p.next',.slice false (Ja b.p.snaps),.slice false []] [] (.tup []) (wc (Jao ⟨q,b,[]⟩)):=w3
 generalize Jao ⟨q,b,[]⟩=X at *
 rotate_left
 rw[if_neg (by omega),if_pos hs]
 have w3:=JoG q.a.port q.a.host q.a.path q.a.first q.a.other q.stage q.id q.route q.cluster q.out.what q.out.cluster q.out.host b.epoch b.turn b.up b.in'.last.a0 b.in'.last.a1 b.in'.last.a2 b.in'.last.a3 b.in'.max b.errs.a0 b.errs.a1 b.errs.a2 b.errs.a3 b.w.c.cap b.w.c.l b.w.ready b.w.shown b.p.next' b.p.snaps [] hk
 have w3:CallI Tryz.prog 47 [.int .i64 q.a.port,.str q.a.host,.str q.a.path,.int .i64 q.a.first,.int .i64 q.a.other,.int .i64 q.stage,.int .i64 q.id,.str q.route,.str q.cluster,.int .i64 q.out.what,.str q.out.cluster,.int .i64 q.out.host,.int .i64 b.epoch,.int .i64 b.turn,.bool b.up,.int .i64 b.in'.last.a0,.int .i64 b.in'.last.a1,.int .i64 b.in'.last.a2,.int .i64 b.in'.last.a3,.int .i64 b.in'.max,.int .i64 b.errs.a0,.int .i64 b.errs.a1,.int .i64 b.errs.a2,.int .i64 b.errs.a3,.int .i64 b.w.c.cap,.slice false (Ja b.w.c.l),.bool b.w.ready,.slice false (Ja b.w.shown),.int .i64 b.p.next',.slice false (Ja b.p.snaps),.slice false []] [] (.tup []) (wc (Jbh ⟨q,b,[]⟩)):=w3
 generalize Jbh ⟨q,b,[]⟩=X at *
 rotate_left
 rw[if_neg (by omega),if_neg (by omega),if_pos hs]
 have w3:=Jp9 q.a.port q.a.host q.a.path q.a.first q.a.other q.stage q.id q.route q.cluster q.out.what q.out.cluster q.out.host b.epoch b.turn b.up b.in'.last.a0 b.in'.last.a1 b.in'.last.a2 b.in'.last.a3 b.in'.max b.errs.a0 b.errs.a1 b.errs.a2 b.errs.a3 b.w.c.cap b.w.c.l b.w.ready b.w.shown b.p.next' b.p.snaps [] hk
 have w3:CallI Tryz.prog 48 [.int .i64 q.a.port,.str q.a.host,.str q.a.path,.int .i64 q.a.first,.int .i64 q.a.other,.int .i64 q.stage,.int .i64 q.id,.str q.route,.str q.cluster,.int .i64 q.out.what,.str q.out.cluster,.int .i64 q.out.host,.int .i64 b.epoch,.int .i64 b.turn,.bool b.up,.int .i64 b.in'.last.a0,.int .i64 b.in'.last.a1,.int .i64 b.in'.last.a2,.int .i64 b.in'.last.a3,.int .i64 b.in'.max,.int .i64 b.errs.a0,.int .i64 b.errs.a1,.int .i64 b.errs.a2,.int .i64 b.errs.a3,.int .i64 b.w.c.cap,.slice false (Ja b.w.c.l),.bool b.w.ready,.slice false (Ja b.w.shown),.int .i64 b.p.next',.slice false (Ja b.p.snaps),.slice false []] [] (.tup []) (wc (JbB ⟨q,b,[]⟩)):=w3
 generalize JbB ⟨q,b,[]⟩=X at *
 rotate_left
 rw[if_neg (by omega),if_neg (by omega),if_neg (by omega),if_pos hs]
 have w3:=Jnp q.a.port q.a.host q.a.path q.a.first q.a.other q.stage q.id q.route q.cluster q.out.what q.out.cluster q.out.host b.epoch b.turn b.up b.in'.last.a0 b.in'.last.a1 b.in'.last.a2 b.in'.last.a3 b.in'.max b.errs.a0 b.errs.a1 b.errs.a2 b.errs.a3 b.w.c.cap b.w.c.l b.w.ready b.w.shown b.p.next' b.p.snaps [] hk
 have w3:CallI Tryz.prog 49 [.int .i64 q.a.port,.str q.a.host,.str q.a.path,.int .i64 q.a.first,.int .i64 q.a.other,.int .i64 q.stage,.int .i64 q.id,.str q.route,.str q.cluster,.int .i64 q.out.what,.str q.out.cluster,.int .i64 q.out.host,.int .i64 b.epoch,.int .i64 b.turn,.bool b.up,.int .i64 b.in'.last.a0,.int .i64 b.in'.last.a1,.int .i64 b.in'.last.a2,.int .i64 b.in'.last.a3,.int .i64 b.in'.max,.int .i64 b.errs.a0,.int .i64 b.errs.a1,.int .i64 b.errs.a2,.int .i64 b.errs.a3,.int .i64 b.w.c.cap,.slice false (Ja b.w.c.l),.bool b.w.ready,.slice false (Ja b.w.shown),.int .i64 b.p.next',.slice false (Ja b.p.snaps),.slice false []] [] (.tup []) (wc (Ja0 ⟨q,b,[]⟩)):=w3
 generalize Ja0 ⟨q,b,[]⟩=X at *
 rotate_left
 rw[if_neg (by omega),if_neg (by omega),if_neg (by omega),if_neg (by omega),if_pos hs]
 have w3:=JbW q.a.port q.a.host q.a.path q.a.first q.a.other q.stage q.id q.route q.cluster q.out.what q.out.cluster q.out.host b.epoch b.turn b.up b.in'.last.a0 b.in'.last.a1 b.in'.last.a2 b.in'.last.a3 b.in'.max b.errs.a0 b.errs.a1 b.errs.a2 b.errs.a3 b.w.c.cap b.w.c.l b.w.ready b.w.shown b.p.next' b.p.snaps [] q.out.what q.out.cluster q.out.host hk
 have w3:CallI Tryz.prog 50 [.int .i64 q.a.port,.str q.a.host,.str q.a.path,.int .i64 q.a.first,.int .i64 q.a.other,.int .i64 q.stage,.int .i64 q.id,.str q.route,.str q.cluster,.int .i64 q.out.what,.str q.out.cluster,.int .i64 q.out.host,.int .i64 b.epoch,.int .i64 b.turn,.bool b.up,.int .i64 b.in'.last.a0,.int .i64 b.in'.last.a1,.int .i64 b.in'.last.a2,.int .i64 b.in'.last.a3,.int .i64 b.in'.max,.int .i64 b.errs.a0,.int .i64 b.errs.a1,.int .i64 b.errs.a2,.int .i64 b.errs.a3,.int .i64 b.w.c.cap,.slice false (Ja b.w.c.l),.bool b.w.ready,.slice false (Ja b.w.shown),.int .i64 b.p.next',.slice false (Ja b.p.snaps),.slice false []] [.agg [.int .i64 q.out.what,.str q.out.cluster,.int .i64 q.out.host]] (.tup []) (wc (Yl ⟨q,b,[]⟩ q.out)):=w3
 generalize Yl ⟨q,b,[]⟩ q.out=X at *
 rotate_left
 rw[if_neg hs,if_neg hs1,if_neg hs2,if_neg hs3,if_neg hs4]
 have w3:=trivial
 rotate_left
 all_goals try rw[hs] at w3
 all_goals try simp only[wc] at w3
 all_goals clear hk
 all_goals
  refine Jm Tryz.call15 Tryz.func15 rfl Tryz.ntmps15 Tryz.results15 fun ts hn h0 h1=>?_
  (repeat' (first
 | (with_reducible first|refine callX.by (w1) ?_|refine callX.by (w2) ?_|refine SpecC.ent (Ent.nrmB _ 13) (Qj T (id:=2) fun K hK=>?_))
 | (with_reducible refine callX.io ?_ ?_ ?_ (w3);(focus(simp only[go_sem,↓reduceIte,Qa,Qh,Qb,Qc,Qd,Qe,Qf,Qg,reduceCtorEq, *,-w1,-w2,-w3,J8,JfG,AV.nrm,AV.nrm.nrmL];first|done|rfl));(focus(simp only[go_sem,↓reduceIte,Qa,Qh,Qb,Qc,Qd,Qe,Qf,Qg,reduceCtorEq, *,-w1,-w2,-w3,J8,JfG,AV.nrm,AV.nrm.nrmL];first|done|rfl)))
 | (with_reducible first|assumption|(refine Qw hK _ ?_;clear hK K)|refine Qw ‹_› _ ?_|refine Qx ‹_› ?_|refine Qi fun K hK=>?_|refine Qj T fun K hK=>?_|refine Qk (id:=1) T mixed [([8],[10]),([9],[10]),([10],[8,9])] (by kernel_rfl) fun K hK=>?_|refine Qk (id:=13) T mixed [([44],[47,48,49,50,51,52,53,54,55]),([45],[48,49,50,51,52,53,54,55]),([46],[48,49,50,51,52,53,54,55]),([47],[44,48,49,50,51,52,53,54,55]),([48],[44,45,46,47,51,52,53,54,55,4]),([49],[44,45,46,47,52,53,54,55,4]),([50],[44,45,46,47,52,53,54,55,4]),([51],[44,45,46,47,48,52,53,54,55,4]),([52],[44,45,46,47,48,49,50,51,55,4,5]),([53],[44,45,46,47,48,49,50,51,4,5]),([54],[44,45,46,47,48,49,50,51,4,5]),([55],[44,45,46,47,48,49,50,51,52,4,5]),([4],[48,49,50,51,52,53,54,55]),([5],[52,53,54,55])] (by kernel_rfl) fun K hK=>?_|refine Ql fun A B hA hB=>?_|refine SpecC.block ?_|refine Qn ?_|refine Qr ?_)
 |(with_reducible first|apply Qy|apply Qz|apply QA)<;>intro hb<;>try simp only[nr] at hb
 |simp only[go_sem,↓reduceIte,Qa,Qh,Qb,Qc,Qd,Qe,Qf,Qg,reduceCtorEq, *,-w1,-w2,-w3,J8,JfG,AV.nrm,AV.nrm.nrmL]
 |intro(bn:Bool) hbn))
theorem Jis(l:List Snap):JZ l=(l.map (·.l)).flatMap fun r=>r.map Jo:=by
 rw[JZ,List.flatMap_map]
theorem Jpp{p:Pins}(h:OkP p):(∃q,Vs p=(p,0,q)∧q≠0∧((∀x∈p.snaps,x.pins<10000)→(JI p).2=([],false)))∨∃q id l,Vs p=(q,id,0)∧OkP q∧(JI p).2=(l,true)∧(JI q).2=(l,true)∧q.snaps.length=p.snaps.length∧JZ q.snaps=JZ p.snaps ∧
   (∀x∈q.snaps,∃y∈p.snaps,x.l=y.l)∧0<id∧Zc q id=(l,true)∧Vh q id=(p,0)∧∃x∈q.snaps,x.id=id∧0<x.pins∧x.l=l:=by
 have hq:OkP (Vs p).1:=by rw[Jpt];exact Jpc p
 unfold JI
 unfold Vs at hq ⊢
 simp only[Jac h] at hq ⊢
 cases hg:p.snaps.getLast? with
 |none=>exact .inl ⟨10,rfl,by simp,fun _=>rfl⟩
 |some s =>
  rw[hg] at hq
  obtain⟨hk,hs⟩:=Jin hg
  have hm:s∈p.snaps:=List.mem_of_getLast? hg
  have h2:=h.mem s hm
  have hw:IntKind.i64.wrap (s.pins+1)=s.pins+1:=IntWalk.i64_in _ (by omega)
  simp only at hq ⊢
  by_cases ht:s.pins=10000
  ·rw[if_pos ht]
   exact .inl ⟨14,rfl,by simp,fun hp=>absurd (hp s hm) (by omega)⟩
  rw[if_neg ht,hw] at hq ⊢
  have hk2:p.snaps.length-1<(p.snaps.set (p.snaps.length-1) ⟨s.id,s.pins+1,s.l⟩).length:=by simpa using hk
  have e:(p.snaps.set (p.snaps.length-1) ⟨s.id,s.pins+1,s.l⟩)[p.snaps.length-1]'hk2=⟨s.id,s.pins+1,s.l⟩:=by simp
  have hin:(⟨s.id,s.pins+1,s.l⟩:Snap)∈p.snaps.set (p.snaps.length-1) ⟨s.id,s.pins+1,s.l⟩:=by
   have:=List.getElem_mem hk2
   rwa [e] at this
  refine .inr ⟨_,_,s.l,rfl,hq,rfl,?_,by simp,?_,fun x hx=>?_,h2.1,?_,?_,⟨_,hin,rfl,by show 0<s.pins+1;omega,rfl⟩⟩
  ·rw[Jac hq]
   simp only[List.getLast?_eq_getElem?,List.length_set,List.getElem?_set_self hk]
  ·rw[Jis,Jis]
   congr 1
   simp only[List.map_set]
   have e:s.l=(p.snaps.map (·.l))[p.snaps.length-1]'(by simpa using hk):=by simp[hs]
   rw[e,List.set_getElem_self]
  ·rcases List.mem_or_eq_of_mem_set hx with hx|rfl
   ·exact⟨x,hx,rfl⟩
   ·exact⟨s,hm,rfl⟩
  ·have:=JjR hq hk2
   rw[e] at this
   rw[Jga]
   exact this
  ·have hr:=Jgx hq hk2
   rw[e] at hr
   simp only at hr
   rw[Jgd,hr,if_neg (by omega),JgE hk2 (.inr (by simp;omega))]
   have e3:(⟨s.id,s.pins+1-1,s.l⟩:Snap)=p.snaps[p.snaps.length-1]:=by
    rw[hs,Int.add_sub_cancel]
   simp only[List.set_set,e3,List.set_getElem_self]
structure PinS(s t:Side)(id:Int)(l:List Res):Prop where
 pin:Vs s.p=(t.p,id,0)
 bg:Vk s=t
 sane:JR t=true
 fin:endS t id=(s,[],0)
 get:Zc t.p id=(l,true)
 pos:0<id
 cur:(JI s.p).2=(l,true)
 held:∃x∈t.p.snaps,x.id=id∧0<x.pins∧x.l=l
theorem Jpo{s:Side}(h:JR s=true):(∃q,Vs s.p=(s.p,0,q)∧q≠0∧((∀x∈s.p.snaps,x.pins<10000)→(JI s.p).2=([],false)))∨∃t id l,PinS s t id l∧∀n,BdS s n→BdS t n:=by
 obtain⟨h1,h2,h3,h4,h5,h6,h7,h8⟩:=saneS_iff.1 h
 have ok:=(Jbp _).1 h6
 rcases Jpp ok with hh|⟨q,id,l,e1,e2,e3,e4,e5,e6,e7,e8,e9,e10,eh⟩
 ·exact .inl hh
 ·have e11:JW q=JW s.p:=by
   unfold JW
   rw[Jac e2,Jac ok,e6]
  have hs:JR { s with p:=q }=true:=by
   refine saneS_iff.2 ⟨h1,h2,h3,h4,h5,(Jbp _).2 e2,?_,?_⟩
   ·unfold YZ at h7 ⊢
    rw[e11]
    exact h7
   ·unfold Z2 at h8 ⊢
    simp only[e4]
    rw[e3] at h8
    exact h8
  refine .inr ⟨{ s with p:=q },id,l,⟨e1,?_,hs,?_,e9,e8,e3,eh⟩,fun n hb=>⟨hb.c,hb.w,hb.sc,hb.sw,?_⟩⟩
  ·unfold Vk
   rw[V1 h,e1]
  ·unfold endS
   rw[V1 hs]
   simp only
   rw[e10]
   simp only[e11,true_or,↓reduceIte]
  ·refine⟨by have:=hb.p.len;simp only;omega,fun x hx=>?_⟩
   obtain⟨y,hy,e⟩:=e7 x hx
   have h1:=hb.p.all y hy
   refine⟨by rw[e];exact h1.1,?_⟩
   have h3:=h1.2
   unfold Yt at h3 ⊢
   rw[e]
   exact h3
theorem BdS.szk{s:Side}{n:Nat}(h:BdS s n)(hn:n≤1000000)(hs:JR s=true)(r:Req)(hh:Jc r.a.host.length):SzK ⟨r,s,[]⟩:=by
 refine⟨h.sz hn,?_,hh⟩
 simp only
 rw[V1 hs]
 exact(h.p.release r.id).sz hn
inductive FinR:Nat→Req→Side→Req→Side→Prop
 |done {r:Req} {s:Side} (h:(JP r).stage=5):FinR 0 r s r s
 |step {k:Nat} {r r' r2:Req} {s s' s2:Side} (h:¬(JP r).stage=5) (hz:SzS s) (hk:SzK ⟨JP r,Jr s,[]⟩) (e:Jg r s=⟨r',s',[]⟩) (hf:FinR k r' s' r2 s2):FinR (k+1) r s r2 s2
theorem JjN{r:Req}(h:0≤r.stage∧r.stage≤5∧0<r.id):JP r=r:=by
 unfold JP
 rw[if_pos]
 simp only[Jbx,Bool.and_eq_true,Bool.or_eq_true,decide_eq_true_eq]
 omega
theorem JeL{r:Req}(h:r.stage=5)(h1:0≤r.id):JP r=r:=by
 unfold JP
 rw[if_pos]
 simp only[Jbx,Bool.and_eq_true,Bool.or_eq_true,decide_eq_true_eq]
 omega
theorem Jdp(a:Ask):JP (Jd a)=Jd a:=by
 unfold JP
 split<;>rfl
theorem JiY:∀ {l m:List Key},l.Nodup→(∀x∈l,x∈m)→l.length≤m.length
 | [],_,_,_=>Nat.zero_le _
 |x :: l,m,h,hs=>by
  rw[List.nodup_cons] at h
  have hx:=hs x (by simp)
  have:=JiY (l:=l) (m:=m.erase x) h.2 fun y hy=>(List.mem_erase_of_ne (fun e=>h.1 (by rw[←e];exact hy))).2 (hs y (by simp[hy]))
  rw[List.length_erase_of_mem hx] at this
  have:=List.length_pos_of_mem hx
  simp only[List.length_cons]
  omega
theorem Jp7{p q:Pins}(h:YZ p=true)(hs:∀k∈JW q,k∈JW p):YZ q=true:=by
 unfold YZ at h ⊢
 rw[decide_eq_true_eq,frameE_iff] at h ⊢
 obtain⟨h1,h2,h3,h4,h5,h6⟩:=h
 have hl:=JiY (Jmo (Jew q).1) hs
 refine⟨h1,?_,h3,?_,h5,h6⟩
 ·unfold Jbb at h2 ⊢
  simp only[Bool.and_eq_true,Bool.not_eq_true',decide_eq_false_iff_not] at h2 ⊢
  obtain⟨⟨⟨⟨a1,a2⟩,a3⟩,a4⟩,a5⟩:=h2
  refine⟨⟨⟨⟨?_,a2⟩,a3⟩,a4⟩,a5⟩
  have e0:∀n:Nat,max (max (max ((0:Nat):Int) ((0:Nat):Int)) ((0:Nat):Int)) (n:Int)=n:=fun n=>by
   rw[Int.max_self,Int.max_self]
   exact Int.max_eq_right (by omega)
  simp only[List.length_nil] at a1 ⊢
  rw[e0] at a1 ⊢
  exact⟨fun hx=>a1.1 (by omega),a1.2⟩
 ·unfold Jba at h4 ⊢
  simp only[Bool.and_eq_true,Bool.not_eq_true',List.any_eq_false] at h4 ⊢
  exact⟨⟨h4.1.1,fun k hk=>h4.1.2 k (hs k hk)⟩,h4.2⟩
theorem heldL_mem{l:List Snap}{k:Key}:k∈JZ l↔∃x∈l,k∈x.l.map Jo:=by
 unfold JZ
 exact List.mem_flatMap
theorem JjE(p:Pins)(id:Int):OkP (Vh p id).1:=by
 rw[Jgd]
 exact Jpe p id
theorem JpW{p:Pins}(h:OkP p)(id:Int):(JI (Vh p id).1).2=(JI p).2:=by
 have hq:=JjE p id
 rw[Jgd] at hq ⊢
 unfold JI
 rw[Jac hq,Jac h]
 rcases Jip p.snaps id with hn|⟨k,hk,rfl⟩
 ·rw[JjS h hn]
 ·rw[Jgx h hk]
  by_cases hz:p.snaps[k].pins=0
  ·rw[if_pos hz]
  ·rw[if_neg hz]
   by_cases hc:0<p.snaps[k].pins-1∨k+1=p.snaps.length
   ·rw[JgE hk hc]
    simp only[List.getLast?_eq_getElem?,List.length_set]
    by_cases hl:k=p.snaps.length-1
    ·subst hl
     rw[List.getElem?_set_self hk,List.getElem?_eq_getElem hk]
    ·rw[List.getElem?_set_ne hl]
   ·rw[Jj5 hc]
    have hkl:k≠p.snaps.length-1:=by omega
    simp only[List.getLast?_eq_getElem?,List.length_eraseIdx,if_pos hk,List.getElem?_eraseIdx]
    rw[if_neg (by omega)]
    rw[show p.snaps.length-1-1+1=p.snaps.length-1 by omega]
theorem JnA{s:Side}(h:JR s=true)(id:Int):JR (endS s id).1=true:=by
 obtain⟨h1,h2,h3,h4,h5,h6,h7,h8⟩:=saneS_iff.1 h
 have ok:=(Jbp _).1 h6
 have hq:=JjE s.p id
 have hs:JR { s with p:=(Vh s.p id).1 }=true:=by
  refine saneS_iff.2 ⟨h1,h2,h3,h4,h5,(Jbp _).2 hq,?_,?_⟩
  ·refine Jp7 h7 fun k hk=>?_
   have hk:=((Jew _).2 k).1 hk
   rw[Jac hq,heldL_mem] at hk
   obtain⟨x,hx,hm⟩:=hk
   obtain⟨y,hy,e⟩:=JjD s.p id x hx
   refine((Jew _).2 k).2 (heldL_mem.2 ⟨y,hy,by rw[←e];exact hm⟩)
  ·unfold Z2 at h8 ⊢
   simp only[JpW ok]
   exact h8
 unfold endS
 rw[V1 h]
 simp only
 split
 ·exact hs
 ·rename_i hc
  simp only[not_or] at hc
  exact JgF (s:={ s with p:=(Vh s.p id).1 }) hs hc.2.2
theorem BdS.endS{s:Side}{n:Nat}(h:BdS s n)(hs:JR s=true)(id:Int):BdS (endS s id).1 n:=by
 have hp:=h.p.release id
 unfold Lg.endS
 rw[V1 hs]
 simp only
 split
 ·exact⟨h.c,h.w,h.sc,h.sw,hp⟩
 ·exact⟨h.c,h.w,h.sc,h.sw,hp⟩
def PinN(p:Pins)(id:Int)(l:List Res):Prop:=∃x∈p.snaps,x.id=id∧0<x.pins∧x.l=l
theorem PinN.get{p:Pins}{id:Int}{l:List Res}(ok:OkP p)(h:PinN p id l):Zc p id=(l,true):=by
 obtain⟨x,hx,e1,-,e3⟩:=h
 obtain⟨i,hi,rfl⟩:=List.getElem_of_mem hx
 rw[Jga,←e1,JjR ok hi,e3]
theorem PinN.handle{s:Side}{id:Int}{l:List Res}(h:PinN s.p id l)(hs:JR s=true)(f:Frame):PinN (JB s f).1.p id l:=by
 have ok:=(Jbp _).1 (saneS_iff.1 hs).2.2.2.2.2.1
 have k:=(JgI s f).2.2.2.2
 have e:(JB s f).1.p=s.p∨(JB s f).1.p=(Vt s.p (JY s.w f.adds f.gone).1.shown).1:=by
  unfold JB
  rw[V1 hs]
  simp only
  repeat' split
  all_goals first|exact k|exact .inl rfl
 rcases e with e|e
 ·rw[e];exact h
 ·rw[e]
  unfold Vt
  rw[Jac ok]
  simp only
  split
  ·exact h
  ·split
   ·exact h
   ·obtain⟨x,hx,e1,e2,e3⟩:=h
    exact⟨x,List.mem_append_left _ (List.mem_filter.2 ⟨hx,by simp only[Bool.not_eq_true',decide_eq_false_iff_not];omega⟩),e1,e2,e3⟩
def JcI(l:List Res)(c:List UInt8)(a:Ask):Answer :=
 match Yc (Vo l c).1 a.other with
 |none=>⟨0,[],0⟩
 |some h=>⟨3,c,h⟩
def Yj(l:List Res)(r:Req):Answer :=
 if r.stage=1 then VI l r.a
 else if r.stage=2 then
  (match V0 l r.route r.a.host r.a.path with
  |none=>⟨2,[],0⟩
  |some x=>match Yz x.split r.a.first with
   |none=>⟨0,[],0⟩
   |some c=>JcI l c r.a)
 else if r.stage=3 then JcI l r.cluster r.a
 else r.out
theorem Jq1{r:Req}{t:Side}{l:List Res}(hs:JR t=true)(hk:1≤r.stage∧r.stage≤4)(hid:0<r.id)(hg:Zc t.p r.id=(l,true)) :
  (∃r',Jg r t=⟨r',t,[]⟩∧r'.stage=r.stage+1∧r.stage≤3∧r'.id=r.id∧r'.a=r.a∧Yj l r'=Yj l r)∨Jg r t=Yl ⟨r,t,[]⟩ (Yj l r):=by
 have hrs:JP r=r:=JjN ⟨by omega,by omega,hid⟩
 have hsn:VB ⟨r,t,[]⟩=l:=by unfold VB;simp only;rw[hg]
 unfold Jg
 rw[hrs,V1 hs]
 rcases(show r.stage=1∨r.stage=2∨r.stage=3∨r.stage=4 by omega) with h|h|h|h
 ·have e:YO ⟨r,t,[]⟩=Jbh ⟨r,t,[]⟩:=by unfold YO;simp[h]
  have ea:Yj l r=VI l r.a:=by unfold Yj;rw[if_pos h]
  rw[e,ea]
  unfold Jbh
  rw[hsn]
  simp only
  cases c1:ZN l r.a.port with
  |none=>exact .inr (by simp only[VI,c1])
  |some x =>
   refine .inl ⟨_,rfl,by simp only;omega,by omega,rfl,rfl,?_⟩
   unfold Yj
   rw[if_neg (by simp),if_pos rfl]
   simp only[VI,c1]
   cases V0 l x.to' r.a.host r.a.path with
   |none=>rfl
   |some y =>
    simp only
    cases Yz y.split r.a.first with
    |none=>rfl
    |some c=>rfl
 ·have e:YO ⟨r,t,[]⟩=JbB ⟨r,t,[]⟩:=by unfold YO;simp[h]
  have ea:Yj l r=(match V0 l r.route r.a.host r.a.path with
   |none=>⟨2,[],0⟩
   |some x=>match Yz x.split r.a.first with
    |none=>⟨0,[],0⟩
    |some c=>JcI l c r.a):=by unfold Yj;rw[if_neg (by omega),if_pos h]
  rw[e,ea]
  unfold JbB
  rw[hsn]
  simp only
  cases V0 l r.route r.a.host r.a.path with
  |none=>exact .inr rfl
  |some y =>
   simp only
   cases Yz y.split r.a.first with
   |none=>exact .inr rfl
   |some c =>
    refine .inl ⟨_,rfl,by simp only;omega,by omega,rfl,rfl,?_⟩
    unfold Yj
    rw[if_neg (by simp),if_neg (by simp),if_pos rfl]
 ·have e:YO ⟨r,t,[]⟩=Ja0 ⟨r,t,[]⟩:=by unfold YO;simp[h]
  have ea:Yj l r=JcI l r.cluster r.a:=by unfold Yj;rw[if_neg (by omega),if_neg (by omega),if_pos h]
  rw[e,ea]
  unfold Ja0 JcI
  rw[hsn]
  simp only
  cases Yc (Vo l r.cluster).1 r.a.other with
  |none=>exact .inr rfl
  |some n =>
   refine .inl ⟨_,rfl,by simp only;omega,by omega,rfl,rfl,?_⟩
   unfold Yj
   rw[if_neg (by simp),if_neg (by simp),if_neg (by simp)]
 ·have e:YO ⟨r,t,[]⟩=Yl ⟨r,t,[]⟩ r.out:=by unfold YO;simp[h]
  have ea:Yj l r=r.out:=by unfold Yj;rw[if_neg (by omega),if_neg (by omega),if_neg (by omega)]
  rw[e,ea]
  exact .inr rfl
structure OneI(a:Ask)(id:Int)(l:List Res)(x:Answer)(i:Nat)(r:Req)(t:Side)(n:Nat):Prop where
 sane:JR t=true
 bd:BdS t n
 a:r.a=a
 st:(r.stage=5∧0≤r.id∧r.out=x)∨(i≤r.stage∧1≤r.stage∧r.stage≤4∧r.id=id∧0<id∧PinN t.p id l∧Yj l r=x)
theorem OneI.handle{a:Ask}{id:Int}{l:List Res}{x:Answer}{i:Nat}{r:Req}{t:Side}{n:Nat}(h:OneI a id l x i r t n){f:Frame}(hf:∀r∈f.adds,Jw r):OneI a id l x i r (JB t f).1 (n+1) :=
 ⟨Jn2 t f,h.bd.handle hf,h.a,h.st.imp (fun h=>h) fun⟨h1,h2,h3,h4,h5,h6,h7⟩=>⟨h1,h2,h3,h4,h5,h6.handle h.sane f,h7⟩⟩
theorem OneI.step{a:Ask}{id:Int}{l:List Res}{x:Answer}{i:Nat}{r:Req}{t:Side}{n:Nat}(h:OneI a id l x i r t n):OneI a id l x (i+1) (Jg r t).req (Jg r t).side n:=by
 rcases h.st with ⟨h1,h2,h3⟩|⟨h1,h2,h3,h4,h5,h6,h7⟩
 ·have hrs:JP r=r:=JeL h1 h2
  have e:Jg r t=⟨r,t,[]⟩:=by
   unfold Jg
   rw[hrs,V1 h.sane]
   unfold YO
   simp[h1]
  rw[e]
  exact⟨h.sane,h.bd,h.a,.inl ⟨h1,h2,h3⟩⟩
 ·have ok:=(Jbp _).1 (saneS_iff.1 h.sane).2.2.2.2.2.1
  rcases Jq1 h.sane ⟨h2,h3⟩ (by omega) (by rw[h4];exact h6.get ok) with ⟨r',e,e1,e2,e3,e4,e5⟩|e
  ·rw[e]
   exact⟨h.sane,h.bd,by rw[←h.a];exact e4,.inr ⟨by simp only;omega,by simp only;omega,by simp only;omega,by rw[←h4];exact e3,h5,h6,by rw[←h7];exact e5⟩⟩
  ·rw[e]
   unfold Yl
   rw[if_neg (by simp only;omega)]
   exact⟨JnA h.sane _,h.bd.endS h.sane _,h.a,.inl ⟨rfl,by simp only;omega,h7⟩⟩
theorem OneI.mono{a:Ask}{id:Int}{l:List Res}{x:Answer}{i:Nat}{r:Req}{t:Side}{n m:Nat}(h:OneI a id l x i r t n)(hm:n≤m):OneI a id l x i r t m :=
 ⟨h.sane,⟨h.bd.c,h.bd.w,h.bd.sc,h.bd.sw,⟨Nat.le_trans h.bd.p.len hm,h.bd.p.all⟩⟩,h.a,h.st⟩
theorem OneI.szk{a:Ask}{id:Int}{l:List Res}{x:Answer}{i:Nat}{r:Req}{t:Side}{n:Nat}(h:OneI a id l x i r t n)(hn:n≤1000000)(hh:Jc a.host.length):SzK ⟨JP r,Jr t,[]⟩:=by
 have hrs:JP r=r:=by
  rcases h.st with ⟨h1,h2,h3⟩|⟨h1,h2,h3,h4,h5,h6,h7⟩
  ·exact JeL h1 h2
  ·exact JjN ⟨by omega,by omega,by omega⟩
 rw[hrs,V1 h.sane]
 exact h.bd.szk hn h.sane _ (by rw[h.a];exact hh)
theorem Jn3{s:Side}{n:Nat}(h:BdS s n)(hn:n<1000000){f:Frame}(hf:∀r∈f.adds,Jw r)(hl:f.adds.length≤80) :
  (Jr s).w.c.l.length+f.adds.length≤65536∧SzP (Vt (Jr s).p (JY (Jr s).w f.adds f.gone).1.shown).1:=by
 have hb:=h.sane
 have h1:=hb.c
 obtain⟨k1,k2,k3,k4⟩:=Jko (saneS_iff.1 (Jdu s)).2.2.2.2.1 f.gone hb.sc hf
 exact⟨by omega,(hb.p.publish k2 k4).sz (by omega)⟩
theorem Jpf{s:Side}{n:Nat}(h:JR s=true)(hb:BdS s n)(a:Ask) :
  ∃id x,OneI a id (JI s.p).2.1 x 1 (Jg (Jd a) s).req (Jg (Jd a) s).side n∧((x=VI (JI s.p).2.1 a∧(JI s.p).2.2=true)∨(x=⟨0,[],0⟩∧((∀x∈s.p.snaps,x.pins<10000)→(JI s.p).2=([],false)))):=by
 rcases Jpo h with ⟨q,e1,e2,e3⟩|⟨t,id,l,hp,hbt⟩
 ·have e:Jg (Jd a) s=⟨⟨a,5,0,[],[],⟨0,[],0⟩⟩,s,[]⟩:=by
   unfold Jg YO
   rw[Jdp,V1 h,if_pos (show(Jd a).stage=0 from rfl)]
   unfold Jao
   simp only
   rw[V1 h,e1,if_neg e2]
   rfl
  rw[e]
  exact⟨0,⟨0,[],0⟩,⟨h,hb,rfl,.inl ⟨rfl,Int.le_refl 0,rfl⟩⟩,.inr ⟨rfl,e3⟩⟩
 ·have hcur:(JI s.p).2.1=l:=by rw[hp.cur]
  have hok:(JI s.p).2.2=true:=by rw[hp.cur]
  have e:Jg (Jd a) s=⟨⟨a,1,id,[],[],⟨0,[],0⟩⟩,t,[]⟩:=by
   unfold Jg YO
   rw[Jdp,V1 h,if_pos (show(Jd a).stage=0 from rfl)]
   unfold Jao
   simp only
   rw[V1 h,hp.pin,if_pos rfl,hp.bg]
   rfl
  rw[e,hcur]
  refine⟨id,VI l a,⟨hp.sane,hbt n hb,rfl,.inr ⟨by simp,by simp,by simp,rfl,hp.pos,hp.held,?_⟩⟩,.inl ⟨rfl,hok⟩⟩
  unfold Yj
  rw[if_pos rfl]
end Go.Proofs.YthjalhfmpffbjaaGreatDoor.Lg
