/- Parts of the proof, one behind the other. -/
import Derived.Test.YthjalhfmpffbjaaGreatDoorG29
set_option linter.unusedVariables false
set_option linter.unusedSimpArgs false
set_option maxRecDepth 100000
set_option maxHeartbeats 64000000
namespace Go.Proofs.YthjalhfmpffbjaaGreatDoor.Lg
open Go
open Tryz
open Nat renaming reduceEqDiff → Qa, reduceLT → Qb, reduceLeDiff → Qc, reduceAdd → Qd, reduceMul → Qe, reduceSub → Qf, reduceBEq → Qg
open String renaming reduceEq → Qh
open SpecC renaming seqW → Qi, regW → Qj, drawW → Qk, condW → Ql, block → Qm, skip → Qn, exit → Qp, ret → Qr, loopF → Qs
open NxK renaming out → Qw
open Nx renaming out → Qx
open condK renaming split → Qy
open gK renaming split_t → Qz, split_f → QA
@[go_sem] def Jft:List (List Nat×List Nat):=[([20],[21]),([21],[20,2]),([2],[21])]
@[go_sem] def Jfu:List (List Nat×List Nat):=[([25],[26,27]),([26],[25,27,4]),([27],[25,26,4,5]),([4],[26,27]),([5],[27])]
@[go_sem] def Jal:List (List Nat×List Nat):=[([61],[63,60,66,67,68,10,11]),([62],[63,66,67,68,10,11]),([63],[61,62,60,66,67,68,10,11]),([64],[66,67,68,10,11]),([65],[10,11]),([60],[61,63,10,11]),([66],[61,62,63,64,67,68,10,11]),([67],[61,62,63,64,66,68,10,11]),([68],[61,62,63,64,66,67,10,11]),([10],[61,62,63,64,65,60,66,67,68,11]),([11],[61,62,63,64,65,60,66,67,68,10]),([10],[67,68]),([11],[68])]
@[go_sem] def Jam:List (List Nat×List Nat):=[([110],[111,112,113,114,115,117,118,119,15]),([111],[110,112,115,116,109,117,118,119,15]),([112],[110,111,115,116,109,117,118,119,15]),([113],[110,116,109,117,118,119,15]),([114],[110,109,117,118,119,15]),([115],[110,111,112,117,118,119,15]),([116],[111,112,113,15]),([109],[111,112,113,114,15]),([117],[110,111,112,113,114,115,118,119,15]),([118],[110,111,112,113,114,115,117,119,15]),([119],[110,111,112,113,114,115,117,118,15,16]),([15],[110,111,112,113,114,115,116,109,117,118,119]),([15],[118,119]),([16],[119])]
theorem JnQ{k:Nat}{r2:Req}{s2:Side}{m2:List Frame}(r:Req)(s:Side)(hf:FinT k r s [] r2 s2 m2)(hk8:k≤100) :
  CallR prog 19 [.agg [.int .i64 r.a.port,.str r.a.host,.str r.a.path,.int .i64 r.a.first,.int .i64 r.a.other,.int .i64 r.stage,.int .i64 r.id,.str r.route,.str r.cluster,.int .i64 r.out.what,.str r.out.cluster,.int .i64 r.out.host],.agg [.int .i64 s.epoch,.int .i64 s.turn,.bool s.up,.int .i64 s.in'.last.a0,.int .i64 s.in'.last.a1,.int .i64 s.in'.last.a2,.int .i64 s.in'.last.a3,.int .i64 s.in'.max,.int .i64 s.errs.a0,.int .i64 s.errs.a1,.int .i64 s.errs.a2,.int .i64 s.errs.a3,.int .i64 s.w.c.cap,.slice false (Ja s.w.c.l),.bool s.w.ready,.slice false (Ja s.w.shown),.int .i64 s.p.next',.slice false (Ja s.p.snaps)]] (.val (.tup [.agg [.int .i64 r2.a.port,.str r2.a.host,.str r2.a.path,.int .i64 r2.a.first,.int .i64 r2.a.other,.int .i64 r2.stage,.int .i64 r2.id,.str r2.route,.str r2.cluster,.int .i64 r2.out.what,.str r2.out.cluster,.int .i64 r2.out.host],.agg [.int .i64 s2.epoch,.int .i64 s2.turn,.bool s2.up,.int .i64 s2.in'.last.a0,.int .i64 s2.in'.last.a1,.int .i64 s2.in'.last.a2,.int .i64 s2.in'.last.a3,.int .i64 s2.in'.max,.int .i64 s2.errs.a0,.int .i64 s2.errs.a1,.int .i64 s2.errs.a2,.int .i64 s2.errs.a3,.int .i64 s2.w.c.cap,.slice false (Ja s2.w.c.l),.bool s2.w.ready,.slice false (Ja s2.w.shown),.int .i64 s2.p.next',.slice false (Ja s2.p.snaps)],.slice false (Ja m2)])):=by
 refine Jn call19 func19 rfl ntmps19 results19 fun ts hn h0 h1=>?_
 (repeat' (first
 | (with_reducible first|assumption|(refine Qw hK _ ?_;clear hK K)|refine Qw ‹_› _ ?_|refine Qx ‹_› ?_|refine Qi fun K hK=>?_|refine Qj T fun K hK=>?_|refine Qk (id:=4) T mixed Jft (by kernel_rfl) fun K hK=>?_|refine Qk (id:=6) T mixed Jfu (by kernel_rfl) fun K hK=>?_|refine Ql fun A B hA hB=>?_|refine Qm ?_|refine Qn ?_|refine Qp ?_|refine Qr ?_)
 |(with_reducible first|apply Qy|apply Qz|apply QA)<;>intro hb<;>try simp only[nr] at hb
 |simp only[go_sem,↓reduceIte,Qa,Qh,Qb,Qc,Qd,Qe,Qf,Qg,reduceCtorEq, *,-hf]
 |intro(bn:Bool) hbn))
 refine SpecC.virt 7 24 10 (by decide) (by simp only[go_sem,↓reduceIte,Qa,Qh,Qb,Qc,Qd,Qe,Qf,Qg,reduceCtorEq, *,-hf]) ?_
 refine Qs [4,5] (fun m ts'=>∃(k:Nat),∃(r:Req),∃(s:Side),∃(g:Nat),∃(o:List Frame),m=k∧FinT k r s o r2 s2 m2∧o.length+k≤100∧ts'.tmp 2=.ref 2 (ts.gen 2+1) 0∧ts'.gen 2=ts.gen 2+1∧ts'.obj 2=.box [.int .i64 r.a.port,.str r.a.host,.str r.a.path,.int .i64 r.a.first,.int .i64 r.a.other,.int .i64 r.stage,.int .i64 r.id,.str r.route,.str r.cluster,.int .i64 r.out.what,.str r.out.cluster,.int .i64 r.out.host]∧ts'.tmp 3=.ref 3 (ts.gen 3+1) 0∧ts'.gen 3=ts.gen 3+1∧ts'.obj 3=.box [.int .i64 s.epoch,.int .i64 s.turn,.bool s.up,.int .i64 s.in'.last.a0,.int .i64 s.in'.last.a1,.int .i64 s.in'.last.a2,.int .i64 s.in'.last.a3,.int .i64 s.in'.max,.int .i64 s.errs.a0,.int .i64 s.errs.a1,.int .i64 s.errs.a2,.int .i64 s.errs.a3,.int .i64 s.w.c.cap,.slice false (Ja s.w.c.l),.bool s.w.ready,.slice false (Ja s.w.shown),.int .i64 s.p.next',.slice false (Ja s.p.snaps)]∧ts'.tmp 4=.ref 4 (ts.gen 4+1) 0∧ts'.gen 4=ts.gen 4+1∧ts'.obj 4=.box [.int .i64 0,.str [],.str [],.int .i64 0,.int .i64 0,.int .i64 0,.int .i64 0,.str [],.str [],.int .i64 0,.str [],.int .i64 0]∧ts'.tmp 5=.ref 5 (ts.gen 5+1) 0∧ts'.gen 5=ts.gen 5+1∧ts'.obj 5=.box [.int .i64 0,.int .i64 0,.bool false,.int .i64 0,.int .i64 0,.int .i64 0,.int .i64 0,.int .i64 0,.int .i64 0,.int .i64 0,.int .i64 0,.int .i64 0,.int .i64 0,.slice true [],.bool false,.slice true [],.int .i64 0,.slice true []]∧ts'.tmp 7=.os 24 g o.length∧ts'.gen 24=g∧ts'.obj 24=.arr 10 (Ja o)) k ?_ ?_
 ·refine⟨k,r,s,ts.gen 24+1,[],rfl,hf,by simpa using hk8,?_⟩
  simp only[go_sem,↓reduceIte,Qa,Qh,Qb,Qc,Qd,Qe,Qf,Qg,reduceCtorEq, *,-hf,Vp,List.length_nil]
 ·clear hf hk8
  rintro m A hM ts' hk ⟨k,r,s,g,o,hm,f1,f2,s1,s2,s3,s4,s5,s6,s7,s8,s9,s10,s11,s12,s13,s14,s15⟩
  simp only[go_sem,↓reduceIte,Qa,Qh,Qb,Qc,Qd,Qe,Qf,Qg,reduceCtorEq, *] at hk
  have w1:=Jdo r.a.port r.a.host r.a.path r.a.first r.a.other r.stage r.id r.route r.cluster r.out.what r.out.cluster r.out.host
  have w1:CallR prog 22 [.agg [.int .i64 r.a.port,.str r.a.host,.str r.a.path,.int .i64 r.a.first,.int .i64 r.a.other,.int .i64 r.stage,.int .i64 r.id,.str r.route,.str r.cluster,.int .i64 r.out.what,.str r.out.cluster,.int .i64 r.out.host]] (.val (.bool (!decide ((JG r).stage=5)))):=w1
  cases f1 with
  |done h =>
   rw[h] at w1
   (repeat' (first
 | (with_reducible first|refine callX.by (w1) ?_|assumption|(refine Qw hK _ ?_;clear hK K)|refine Qw ‹_› _ ?_|refine Qx ‹_› ?_|refine Qi fun K hK=>?_|refine Qj T fun K hK=>?_|refine Qk (id:=4) T mixed Jft (by kernel_rfl) fun K hK=>?_|refine Qk (id:=6) T mixed Jfu (by kernel_rfl) fun K hK=>?_|refine Ql fun A B hA hB=>?_|refine Qm ?_|refine Qn ?_|refine Qp ?_|refine Qr ?_)
 |(with_reducible first|apply Qy|apply Qz|apply QA)<;>intro hb<;>try simp only[nr] at hb
 |simp only[go_sem,↓reduceIte,Qa,Qh,Qb,Qc,Qd,Qe,Qf,Qg,reduceCtorEq, *,-w1,-h,List.take_length]
 |intro(bn:Bool) hbn))
  |step h hz hk0 hlen e hf =>
   rename_i k r' s' l
   have w2:=JgR r.a.port r.a.host r.a.path r.a.first r.a.other r.stage r.id r.route r.cluster r.out.what r.out.cluster r.out.host s.epoch s.turn s.up s.in'.last.a0 s.in'.last.a1 s.in'.last.a2 s.in'.last.a3 s.in'.max s.errs.a0 s.errs.a1 s.errs.a2 s.errs.a3 s.w.c.cap s.w.c.l s.w.ready s.w.shown s.p.next' s.p.snaps hz hk0
   have w2:CallR prog 15 [.agg [.int .i64 r.a.port,.str r.a.host,.str r.a.path,.int .i64 r.a.first,.int .i64 r.a.other,.int .i64 r.stage,.int .i64 r.id,.str r.route,.str r.cluster,.int .i64 r.out.what,.str r.out.cluster,.int .i64 r.out.host],.agg [.int .i64 s.epoch,.int .i64 s.turn,.bool s.up,.int .i64 s.in'.last.a0,.int .i64 s.in'.last.a1,.int .i64 s.in'.last.a2,.int .i64 s.in'.last.a3,.int .i64 s.in'.max,.int .i64 s.errs.a0,.int .i64 s.errs.a1,.int .i64 s.errs.a2,.int .i64 s.errs.a3,.int .i64 s.w.c.cap,.slice false (Ja s.w.c.l),.bool s.w.ready,.slice false (Ja s.w.shown),.int .i64 s.p.next',.slice false (Ja s.p.snaps)]] (.val (.tup [.agg [.int .i64 (Jh r s).req.a.port,.str (Jh r s).req.a.host,.str (Jh r s).req.a.path,.int .i64 (Jh r s).req.a.first,.int .i64 (Jh r s).req.a.other,.int .i64 (Jh r s).req.stage,.int .i64 (Jh r s).req.id,.str (Jh r s).req.route,.str (Jh r s).req.cluster,.int .i64 (Jh r s).req.out.what,.str (Jh r s).req.out.cluster,.int .i64 (Jh r s).req.out.host],.agg [.int .i64 (Jh r s).side.epoch,.int .i64 (Jh r s).side.turn,.bool (Jh r s).side.up,.int .i64 (Jh r s).side.in'.last.a0,.int .i64 (Jh r s).side.in'.last.a1,.int .i64 (Jh r s).side.in'.last.a2,.int .i64 (Jh r s).side.in'.last.a3,.int .i64 (Jh r s).side.in'.max,.int .i64 (Jh r s).side.errs.a0,.int .i64 (Jh r s).side.errs.a1,.int .i64 (Jh r s).side.errs.a2,.int .i64 (Jh r s).side.errs.a3,.int .i64 (Jh r s).side.w.c.cap,.slice false (Ja (Jh r s).side.w.c.l),.bool (Jh r s).side.w.ready,.slice false (Ja (Jh r s).side.w.shown),.int .i64 (Jh r s).side.p.next',.slice false (Ja (Jh r s).side.p.snaps)],.slice false (Ja (Jh r s).told)])):=w2
   rw[e] at w2
   rw[decide_eq_false h] at w1
   clear hz hk0 e h
   have hr1:Vt (o.length+l.length) 144:=JaO (by omega) (by decide)
   have hlo:(o++l).length=o.length+l.length:=List.length_append
   (repeat' (first
 | (with_reducible first|refine callX.by (w1) ?_|refine callX.by (w2) ?_|assumption|(refine Qw hK _ ?_;clear hK K)|refine Qw ‹_› _ ?_|refine Qx ‹_› ?_|refine Qi fun K hK=>?_|refine Qj T fun K hK=>?_|refine Qk (id:=4) T mixed Jft (by kernel_rfl) fun K hK=>?_|refine Qk (id:=6) T mixed Jfu (by kernel_rfl) fun K hK=>?_|refine Ql fun A B hA hB=>?_|refine Qm ?_|refine Qn ?_|refine Qp ?_|refine Qr ?_)
 |(with_reducible first|apply Qy|apply Qz|apply QA)<;>intro hb<;>try simp only[nr] at hb
 |simp only[go_sem,↓reduceIte,Qa,Qh,Qb,Qc,Qd,Qe,Qf,Qg,reduceCtorEq, *,-w1,-w2,-hf,-hlen,-hlo,List.take_length]
 |intro(bn:Bool) hbn))
   all_goals ((repeat clear hK);(repeat clear hA);(repeat clear hB))
   (refine hM.on (k) (by omega) (by simp only[go_sem,↓reduceIte,Qa,Qh,Qb,Qc,Qd,Qe,Qf,Qg,reduceCtorEq, *,-hf,-hlen,List.length_append]) ⟨k,r',s',ts'.gen 24+1,o++l,rfl,hf,by omega,?_⟩;simp only[go_sem,↓reduceIte,Qa,Qh,Qb,Qc,Qd,Qe,Qf,Qg,reduceCtorEq, *,-hf,-hlen,List.length_append];done)
theorem Jqc(Kn Ko:Int)(KR:Bool)(Ka Kb:Int)(Kc Kd:Int)(Km Kh:Int)(Ki Kj:Int)(Kk Kf:Int)(s_w_c_l:List Res)(Kg:Bool)(Ke:List Res)(Kl:Int)(s_p_snaps:List Snap)(Lb:Int)(a_host Li:List UInt8)(K5 K6:Int)(xs:List Frame)(hw:JaY ⟨⟨Kf,s_w_c_l⟩,Kg,Ke⟩)(hl:Jc s_p_snaps.length)(hs:∀x∈s_p_snaps,Yp x)(hxl:Jc xs.length)(hxs:∀x∈xs,V4 x):CallR prog 6 [.agg [.int .i64 Kn,.int .i64 Ko,.bool KR,.int .i64 Ka,.int .i64 Kb,.int .i64 Kc,.int .i64 Kd,.int .i64 Km,.int .i64 Kh,.int .i64 Ki,.int .i64 Kj,.int .i64 Kk,.int .i64 Kf,.slice false (Ja s_w_c_l),.bool Kg,.slice false (Ja Ke),.int .i64 Kl,.slice false (Ja s_p_snaps)],.agg [.int .i64 Lb,.str a_host,.str Li,.int .i64 K5,.int .i64 K6],.slice false (Ja xs)] (.val (.bool true)):=by
 have w0:=Jm3
 have w1:=JnO Lb a_host Li K5 K6 0 0 [] [] 0 [] 0 Kn Ko KR Ka Kb Kc Kd Km Kh Ki Kj Kk Kf s_w_c_l Kg Ke Kl s_p_snaps hw hl hs
 have w2:=Jqm Kn Ko KR Ka Kb Kc Kd Km Kh Ki Kj Kk Kf s_w_c_l Kg Ke Kl s_p_snaps hl
 have w3:Ja8 (⟨Kn,Ko,KR,⟨⟨Ka,Kb,Kc,Kd⟩,Km⟩,⟨Kh,Ki,Kj,Kk⟩,⟨⟨Kf,s_w_c_l⟩,Kg,Ke⟩,⟨Kl,s_p_snaps⟩⟩:Side)=true→CallR prog 12 [.agg [.int .i64 Kn,.int .i64 Ko,.bool KR,.int .i64 Ka,.int .i64 Kb,.int .i64 Kc,.int .i64 Kd,.int .i64 Km,.int .i64 Kh,.int .i64 Ki,.int .i64 Kj,.int .i64 Kk,.int .i64 Kf,.slice false (Ja s_w_c_l),.bool Kg,.slice false (Ja Ke),.int .i64 Kl,.slice false (Ja s_p_snaps)]] (.val (.bool (JK (⟨Kn,Ko,KR,⟨⟨Ka,Kb,Kc,Kd⟩,Km⟩,⟨Kh,Ki,Kj,Kk⟩,⟨⟨Kf,s_w_c_l⟩,Kg,Ke⟩,⟨Kl,s_p_snaps⟩⟩:Side)))):=fun h=>Je1 Kn Ko KR Ka Kb Kc Kd Km Kh Ki Kj Kk Kf s_w_c_l Kg Ke Kl s_p_snaps ((Jh9 h hw hs).sz (by decide))
 by_cases hall:Zk ⟨(⟨Lb,a_host,Li,K5,K6⟩:Ask),0,0,[],[],⟨0,[],0⟩⟩ (⟨Kn,Ko,KR,⟨⟨Ka,Kb,Kc,Kd⟩,Km⟩,⟨Kh,Ki,Kj,Kk⟩,⟨⟨Kf,s_w_c_l⟩,Kg,Ke⟩,⟨Kl,s_p_snaps⟩⟩:Side)=true∧¬8<xs.length∧JK (⟨Kn,Ko,KR,⟨⟨Ka,Kb,Kc,Kd⟩,Km⟩,⟨Kh,Ki,Kj,Kk⟩,⟨⟨Kf,s_w_c_l⟩,Kg,Ke⟩,⟨Kl,s_p_snaps⟩⟩:Side)=true∧¬1<s_p_snaps.length
 rotate_left
 ·have hd:Zk ⟨(⟨Lb,a_host,Li,K5,K6⟩:Ask),0,0,[],[],⟨0,[],0⟩⟩ (⟨Kn,Ko,KR,⟨⟨Ka,Kb,Kc,Kd⟩,Km⟩,⟨Kh,Ki,Kj,Kk⟩,⟨⟨Kf,s_w_c_l⟩,Kg,Ke⟩,⟨Kl,s_p_snaps⟩⟩:Side)=false∨(Zk ⟨(⟨Lb,a_host,Li,K5,K6⟩:Ask),0,0,[],[],⟨0,[],0⟩⟩ (⟨Kn,Ko,KR,⟨⟨Ka,Kb,Kc,Kd⟩,Km⟩,⟨Kh,Ki,Kj,Kk⟩,⟨⟨Kf,s_w_c_l⟩,Kg,Ke⟩,⟨Kl,s_p_snaps⟩⟩:Side)=true∧8<xs.length)∨(Zk ⟨(⟨Lb,a_host,Li,K5,K6⟩:Ask),0,0,[],[],⟨0,[],0⟩⟩ (⟨Kn,Ko,KR,⟨⟨Ka,Kb,Kc,Kd⟩,Km⟩,⟨Kh,Ki,Kj,Kk⟩,⟨⟨Kf,s_w_c_l⟩,Kg,Ke⟩,⟨Kl,s_p_snaps⟩⟩:Side)=true∧¬8<xs.length∧JK (⟨Kn,Ko,KR,⟨⟨Ka,Kb,Kc,Kd⟩,Km⟩,⟨Kh,Ki,Kj,Kk⟩,⟨⟨Kf,s_w_c_l⟩,Kg,Ke⟩,⟨Kl,s_p_snaps⟩⟩:Side)=false)∨(Zk ⟨(⟨Lb,a_host,Li,K5,K6⟩:Ask),0,0,[],[],⟨0,[],0⟩⟩ (⟨Kn,Ko,KR,⟨⟨Ka,Kb,Kc,Kd⟩,Km⟩,⟨Kh,Ki,Kj,Kk⟩,⟨⟨Kf,s_w_c_l⟩,Kg,Ke⟩,⟨Kl,s_p_snaps⟩⟩:Side)=true∧¬8<xs.length∧JK (⟨Kn,Ko,KR,⟨⟨Ka,Kb,Kc,Kd⟩,Km⟩,⟨Kh,Ki,Kj,Kk⟩,⟨⟨Kf,s_w_c_l⟩,Kg,Ke⟩,⟨Kl,s_p_snaps⟩⟩:Side)=true∧1<s_p_snaps.length):=by
   by_cases a1:Zk ⟨(⟨Lb,a_host,Li,K5,K6⟩:Ask),0,0,[],[],⟨0,[],0⟩⟩ (⟨Kn,Ko,KR,⟨⟨Ka,Kb,Kc,Kd⟩,Km⟩,⟨Kh,Ki,Kj,Kk⟩,⟨⟨Kf,s_w_c_l⟩,Kg,Ke⟩,⟨Kl,s_p_snaps⟩⟩:Side)=true
   ·by_cases a2:8<xs.length
    ·exact .inr (.inl ⟨a1,a2⟩)
    ·by_cases a3:JK (⟨Kn,Ko,KR,⟨⟨Ka,Kb,Kc,Kd⟩,Km⟩,⟨Kh,Ki,Kj,Kk⟩,⟨⟨Kf,s_w_c_l⟩,Kg,Ke⟩,⟨Kl,s_p_snaps⟩⟩:Side)=true
     ·exact .inr (.inr (.inr ⟨a1,a2,a3,Decidable.of_not_not fun h=>hall ⟨a1,a2,a3,h⟩⟩))
     ·exact .inr (.inr (.inl ⟨a1,a2,Bool.eq_false_iff.2 a3⟩))
   ·exact .inl (Bool.eq_false_iff.2 a1)
  clear hall
  rcases hd with hd|⟨hd,h8⟩|⟨hd,h8,hn⟩|⟨hd,h8,hn,h9⟩<;>rw[hd] at w1
  have h8i:=trivial
  have w3:=trivial
  rotate_left
  have h8i:(8:Int)<(xs.length:Int):=by omega
  have w3:=trivial
  rotate_left
  have h8i:¬(8:Int)<(xs.length:Int):=by omega
  have w3:=w3 (by unfold Zk at hd;simp only[Bool.and_eq_true] at hd;exact hd.1)
  rw[hn] at w3
  rotate_left
  have h8i:¬(8:Int)<(xs.length:Int):=by omega
  have h9i:(1:Int)<(s_p_snaps.length:Int):=by omega
  have w3:=w3 (by unfold Zk at hd;simp only[Bool.and_eq_true] at hd;exact hd.1)
  rw[hn] at w3
  rotate_left
  all_goals
   clear hw hl hs hxl hxs hd
   refine Vs call6 func6 rfl ntmps6 results6 fun ts hn h0 h1 h2=>?_
   (repeat' (first
 | (with_reducible first|refine callX.by (w0) ?_|refine callX.by (w1) ?_|refine callX.by (w2) ?_|refine callX.by (w3) ?_|assumption|(refine Qw hK _ ?_;clear hK K)|refine Qw ‹_› _ ?_|refine Qx ‹_› ?_|refine Qi fun K hK=>?_|refine Qj T fun K hK=>?_|refine Qk (id:=5) T mixed Jal (by kernel_rfl) fun K hK=>?_|refine Qk (id:=13) T mixed Jam (by kernel_rfl) fun K hK=>?_|refine Ql fun A B hA hB=>?_|refine Qm ?_|refine Qn ?_|refine Qp ?_|refine Qr ?_)
 |(with_reducible first|apply Qy|apply Qz|apply QA)<;>intro hb<;>try simp only[nr] at hb
 |simp only[go_sem,↓reduceIte,Qa,Qh,Qb,Qc,Qd,Qe,Qf,Qg,reduceCtorEq, *,-w0,-w1,-w2,-w3]
 |intro(bn:Bool) hbn))
 obtain⟨hfew,h8,hsn,h9⟩:=hall
 have h8i:¬(8:Int)<(xs.length:Int):=by omega
 have h9i:¬(1:Int)<(s_p_snaps.length:Int):=by omega
 rw[hfew] at w1
 unfold Zk at hfew
 simp only[Bool.and_eq_true,decide_eq_true_eq] at hfew
 have w3:=w3 hfew.1
 rw[hsn] at w3
 have hb:=Jh9 hfew.1 hw hs
 have hh:Jc a_host.length:=by have:=hfew.2.1.1.1;unfold Jc;omega
 clear hfew
 have w4:=Jf4 Lb a_host Li K5 K6
 have w5:=JgR (Je (⟨Lb,a_host,Li,K5,K6⟩:Ask)).a.port (Je (⟨Lb,a_host,Li,K5,K6⟩:Ask)).a.host (Je (⟨Lb,a_host,Li,K5,K6⟩:Ask)).a.path (Je (⟨Lb,a_host,Li,K5,K6⟩:Ask)).a.first (Je (⟨Lb,a_host,Li,K5,K6⟩:Ask)).a.other (Je (⟨Lb,a_host,Li,K5,K6⟩:Ask)).stage (Je (⟨Lb,a_host,Li,K5,K6⟩:Ask)).id (Je (⟨Lb,a_host,Li,K5,K6⟩:Ask)).route (Je (⟨Lb,a_host,Li,K5,K6⟩:Ask)).cluster (Je (⟨Lb,a_host,Li,K5,K6⟩:Ask)).out.what (Je (⟨Lb,a_host,Li,K5,K6⟩:Ask)).out.cluster (Je (⟨Lb,a_host,Li,K5,K6⟩:Ask)).out.host Kn Ko KR Ka Kb Kc Kd Km Kh Ki Kj Kk Kf s_w_c_l Kg Ke Kl s_p_snaps (hb.sz (by decide)) (by
  show SzK ⟨JG (Je (⟨Lb,a_host,Li,K5,K6⟩:Ask)),Jr (⟨Kn,Ko,KR,⟨⟨Ka,Kb,Kc,Kd⟩,Km⟩,⟨Kh,Ki,Kj,Kk⟩,⟨⟨Kf,s_w_c_l⟩,Kg,Ke⟩,⟨Kl,s_p_snaps⟩⟩:Side),[]⟩
  rw[Jdk,Vy hsn]
  exact hb.szk (by decide) hsn _ hh)
 have w5:CallR prog 15 [.agg [.int .i64 (Je (⟨Lb,a_host,Li,K5,K6⟩:Ask)).a.port,.str (Je (⟨Lb,a_host,Li,K5,K6⟩:Ask)).a.host,.str (Je (⟨Lb,a_host,Li,K5,K6⟩:Ask)).a.path,.int .i64 (Je (⟨Lb,a_host,Li,K5,K6⟩:Ask)).a.first,.int .i64 (Je (⟨Lb,a_host,Li,K5,K6⟩:Ask)).a.other,.int .i64 (Je (⟨Lb,a_host,Li,K5,K6⟩:Ask)).stage,.int .i64 (Je (⟨Lb,a_host,Li,K5,K6⟩:Ask)).id,.str (Je (⟨Lb,a_host,Li,K5,K6⟩:Ask)).route,.str (Je (⟨Lb,a_host,Li,K5,K6⟩:Ask)).cluster,.int .i64 (Je (⟨Lb,a_host,Li,K5,K6⟩:Ask)).out.what,.str (Je (⟨Lb,a_host,Li,K5,K6⟩:Ask)).out.cluster,.int .i64 (Je (⟨Lb,a_host,Li,K5,K6⟩:Ask)).out.host],.agg [.int .i64 Kn,.int .i64 Ko,.bool KR,.int .i64 Ka,.int .i64 Kb,.int .i64 Kc,.int .i64 Kd,.int .i64 Km,.int .i64 Kh,.int .i64 Ki,.int .i64 Kj,.int .i64 Kk,.int .i64 Kf,.slice false (Ja s_w_c_l),.bool Kg,.slice false (Ja Ke),.int .i64 Kl,.slice false (Ja s_p_snaps)]] (.val (.tup [.agg [.int .i64 (Jh (Je (⟨Lb,a_host,Li,K5,K6⟩:Ask)) (⟨Kn,Ko,KR,⟨⟨Ka,Kb,Kc,Kd⟩,Km⟩,⟨Kh,Ki,Kj,Kk⟩,⟨⟨Kf,s_w_c_l⟩,Kg,Ke⟩,⟨Kl,s_p_snaps⟩⟩:Side)).req.a.port,.str (Jh (Je (⟨Lb,a_host,Li,K5,K6⟩:Ask)) (⟨Kn,Ko,KR,⟨⟨Ka,Kb,Kc,Kd⟩,Km⟩,⟨Kh,Ki,Kj,Kk⟩,⟨⟨Kf,s_w_c_l⟩,Kg,Ke⟩,⟨Kl,s_p_snaps⟩⟩:Side)).req.a.host,.str (Jh (Je (⟨Lb,a_host,Li,K5,K6⟩:Ask)) (⟨Kn,Ko,KR,⟨⟨Ka,Kb,Kc,Kd⟩,Km⟩,⟨Kh,Ki,Kj,Kk⟩,⟨⟨Kf,s_w_c_l⟩,Kg,Ke⟩,⟨Kl,s_p_snaps⟩⟩:Side)).req.a.path,.int .i64 (Jh (Je (⟨Lb,a_host,Li,K5,K6⟩:Ask)) (⟨Kn,Ko,KR,⟨⟨Ka,Kb,Kc,Kd⟩,Km⟩,⟨Kh,Ki,Kj,Kk⟩,⟨⟨Kf,s_w_c_l⟩,Kg,Ke⟩,⟨Kl,s_p_snaps⟩⟩:Side)).req.a.first,.int .i64 (Jh (Je (⟨Lb,a_host,Li,K5,K6⟩:Ask)) (⟨Kn,Ko,KR,⟨⟨Ka,Kb,Kc,Kd⟩,Km⟩,⟨Kh,Ki,Kj,Kk⟩,⟨⟨Kf,s_w_c_l⟩,Kg,Ke⟩,⟨Kl,s_p_snaps⟩⟩:Side)).req.a.other,.int .i64 (Jh (Je (⟨Lb,a_host,Li,K5,K6⟩:Ask)) (⟨Kn,Ko,KR,⟨⟨Ka,Kb,Kc,Kd⟩,Km⟩,⟨Kh,Ki,Kj,Kk⟩,⟨⟨Kf,s_w_c_l⟩,Kg,Ke⟩,⟨Kl,s_p_snaps⟩⟩:Side)).req.stage,.int .i64 (Jh (Je (⟨Lb,a_host,Li,K5,K6⟩:Ask)) (⟨Kn,Ko,KR,⟨⟨Ka,Kb,Kc,Kd⟩,Km⟩,⟨Kh,Ki,Kj,Kk⟩,⟨⟨Kf,s_w_c_l⟩,Kg,Ke⟩,⟨Kl,s_p_snaps⟩⟩:Side)).req.id,.str (Jh (Je (⟨Lb,a_host,Li,K5,K6⟩:Ask)) (⟨Kn,Ko,KR,⟨⟨Ka,Kb,Kc,Kd⟩,Km⟩,⟨Kh,Ki,Kj,Kk⟩,⟨⟨Kf,s_w_c_l⟩,Kg,Ke⟩,⟨Kl,s_p_snaps⟩⟩:Side)).req.route,.str (Jh (Je (⟨Lb,a_host,Li,K5,K6⟩:Ask)) (⟨Kn,Ko,KR,⟨⟨Ka,Kb,Kc,Kd⟩,Km⟩,⟨Kh,Ki,Kj,Kk⟩,⟨⟨Kf,s_w_c_l⟩,Kg,Ke⟩,⟨Kl,s_p_snaps⟩⟩:Side)).req.cluster,.int .i64 (Jh (Je (⟨Lb,a_host,Li,K5,K6⟩:Ask)) (⟨Kn,Ko,KR,⟨⟨Ka,Kb,Kc,Kd⟩,Km⟩,⟨Kh,Ki,Kj,Kk⟩,⟨⟨Kf,s_w_c_l⟩,Kg,Ke⟩,⟨Kl,s_p_snaps⟩⟩:Side)).req.out.what,.str (Jh (Je (⟨Lb,a_host,Li,K5,K6⟩:Ask)) (⟨Kn,Ko,KR,⟨⟨Ka,Kb,Kc,Kd⟩,Km⟩,⟨Kh,Ki,Kj,Kk⟩,⟨⟨Kf,s_w_c_l⟩,Kg,Ke⟩,⟨Kl,s_p_snaps⟩⟩:Side)).req.out.cluster,.int .i64 (Jh (Je (⟨Lb,a_host,Li,K5,K6⟩:Ask)) (⟨Kn,Ko,KR,⟨⟨Ka,Kb,Kc,Kd⟩,Km⟩,⟨Kh,Ki,Kj,Kk⟩,⟨⟨Kf,s_w_c_l⟩,Kg,Ke⟩,⟨Kl,s_p_snaps⟩⟩:Side)).req.out.host],.agg [.int .i64 (Jh (Je (⟨Lb,a_host,Li,K5,K6⟩:Ask)) (⟨Kn,Ko,KR,⟨⟨Ka,Kb,Kc,Kd⟩,Km⟩,⟨Kh,Ki,Kj,Kk⟩,⟨⟨Kf,s_w_c_l⟩,Kg,Ke⟩,⟨Kl,s_p_snaps⟩⟩:Side)).side.epoch,.int .i64 (Jh (Je (⟨Lb,a_host,Li,K5,K6⟩:Ask)) (⟨Kn,Ko,KR,⟨⟨Ka,Kb,Kc,Kd⟩,Km⟩,⟨Kh,Ki,Kj,Kk⟩,⟨⟨Kf,s_w_c_l⟩,Kg,Ke⟩,⟨Kl,s_p_snaps⟩⟩:Side)).side.turn,.bool (Jh (Je (⟨Lb,a_host,Li,K5,K6⟩:Ask)) (⟨Kn,Ko,KR,⟨⟨Ka,Kb,Kc,Kd⟩,Km⟩,⟨Kh,Ki,Kj,Kk⟩,⟨⟨Kf,s_w_c_l⟩,Kg,Ke⟩,⟨Kl,s_p_snaps⟩⟩:Side)).side.up,.int .i64 (Jh (Je (⟨Lb,a_host,Li,K5,K6⟩:Ask)) (⟨Kn,Ko,KR,⟨⟨Ka,Kb,Kc,Kd⟩,Km⟩,⟨Kh,Ki,Kj,Kk⟩,⟨⟨Kf,s_w_c_l⟩,Kg,Ke⟩,⟨Kl,s_p_snaps⟩⟩:Side)).side.in'.last.a0,.int .i64 (Jh (Je (⟨Lb,a_host,Li,K5,K6⟩:Ask)) (⟨Kn,Ko,KR,⟨⟨Ka,Kb,Kc,Kd⟩,Km⟩,⟨Kh,Ki,Kj,Kk⟩,⟨⟨Kf,s_w_c_l⟩,Kg,Ke⟩,⟨Kl,s_p_snaps⟩⟩:Side)).side.in'.last.a1,.int .i64 (Jh (Je (⟨Lb,a_host,Li,K5,K6⟩:Ask)) (⟨Kn,Ko,KR,⟨⟨Ka,Kb,Kc,Kd⟩,Km⟩,⟨Kh,Ki,Kj,Kk⟩,⟨⟨Kf,s_w_c_l⟩,Kg,Ke⟩,⟨Kl,s_p_snaps⟩⟩:Side)).side.in'.last.a2,.int .i64 (Jh (Je (⟨Lb,a_host,Li,K5,K6⟩:Ask)) (⟨Kn,Ko,KR,⟨⟨Ka,Kb,Kc,Kd⟩,Km⟩,⟨Kh,Ki,Kj,Kk⟩,⟨⟨Kf,s_w_c_l⟩,Kg,Ke⟩,⟨Kl,s_p_snaps⟩⟩:Side)).side.in'.last.a3,.int .i64 (Jh (Je (⟨Lb,a_host,Li,K5,K6⟩:Ask)) (⟨Kn,Ko,KR,⟨⟨Ka,Kb,Kc,Kd⟩,Km⟩,⟨Kh,Ki,Kj,Kk⟩,⟨⟨Kf,s_w_c_l⟩,Kg,Ke⟩,⟨Kl,s_p_snaps⟩⟩:Side)).side.in'.max,.int .i64 (Jh (Je (⟨Lb,a_host,Li,K5,K6⟩:Ask)) (⟨Kn,Ko,KR,⟨⟨Ka,Kb,Kc,Kd⟩,Km⟩,⟨Kh,Ki,Kj,Kk⟩,⟨⟨Kf,s_w_c_l⟩,Kg,Ke⟩,⟨Kl,s_p_snaps⟩⟩:Side)).side.errs.a0,.int .i64 (Jh (Je (⟨Lb,a_host,Li,K5,K6⟩:Ask)) (⟨Kn,Ko,KR,⟨⟨Ka,Kb,Kc,Kd⟩,Km⟩,⟨Kh,Ki,Kj,Kk⟩,⟨⟨Kf,s_w_c_l⟩,Kg,Ke⟩,⟨Kl,s_p_snaps⟩⟩:Side)).side.errs.a1,.int .i64 (Jh (Je (⟨Lb,a_host,Li,K5,K6⟩:Ask)) (⟨Kn,Ko,KR,⟨⟨Ka,Kb,Kc,Kd⟩,Km⟩,⟨Kh,Ki,Kj,Kk⟩,⟨⟨Kf,s_w_c_l⟩,Kg,Ke⟩,⟨Kl,s_p_snaps⟩⟩:Side)).side.errs.a2,.int .i64 (Jh (Je (⟨Lb,a_host,Li,K5,K6⟩:Ask)) (⟨Kn,Ko,KR,⟨⟨Ka,Kb,Kc,Kd⟩,Km⟩,⟨Kh,Ki,Kj,Kk⟩,⟨⟨Kf,s_w_c_l⟩,Kg,Ke⟩,⟨Kl,s_p_snaps⟩⟩:Side)).side.errs.a3,.int .i64 (Jh (Je (⟨Lb,a_host,Li,K5,K6⟩:Ask)) (⟨Kn,Ko,KR,⟨⟨Ka,Kb,Kc,Kd⟩,Km⟩,⟨Kh,Ki,Kj,Kk⟩,⟨⟨Kf,s_w_c_l⟩,Kg,Ke⟩,⟨Kl,s_p_snaps⟩⟩:Side)).side.w.c.cap,.slice false (Ja (Jh (Je (⟨Lb,a_host,Li,K5,K6⟩:Ask)) (⟨Kn,Ko,KR,⟨⟨Ka,Kb,Kc,Kd⟩,Km⟩,⟨Kh,Ki,Kj,Kk⟩,⟨⟨Kf,s_w_c_l⟩,Kg,Ke⟩,⟨Kl,s_p_snaps⟩⟩:Side)).side.w.c.l),.bool (Jh (Je (⟨Lb,a_host,Li,K5,K6⟩:Ask)) (⟨Kn,Ko,KR,⟨⟨Ka,Kb,Kc,Kd⟩,Km⟩,⟨Kh,Ki,Kj,Kk⟩,⟨⟨Kf,s_w_c_l⟩,Kg,Ke⟩,⟨Kl,s_p_snaps⟩⟩:Side)).side.w.ready,.slice false (Ja (Jh (Je (⟨Lb,a_host,Li,K5,K6⟩:Ask)) (⟨Kn,Ko,KR,⟨⟨Ka,Kb,Kc,Kd⟩,Km⟩,⟨Kh,Ki,Kj,Kk⟩,⟨⟨Kf,s_w_c_l⟩,Kg,Ke⟩,⟨Kl,s_p_snaps⟩⟩:Side)).side.w.shown),.int .i64 (Jh (Je (⟨Lb,a_host,Li,K5,K6⟩:Ask)) (⟨Kn,Ko,KR,⟨⟨Ka,Kb,Kc,Kd⟩,Km⟩,⟨Kh,Ki,Kj,Kk⟩,⟨⟨Kf,s_w_c_l⟩,Kg,Ke⟩,⟨Kl,s_p_snaps⟩⟩:Side)).side.p.next',.slice false (Ja (Jh (Je (⟨Lb,a_host,Li,K5,K6⟩:Ask)) (⟨Kn,Ko,KR,⟨⟨Ka,Kb,Kc,Kd⟩,Km⟩,⟨Kh,Ki,Kj,Kk⟩,⟨⟨Kf,s_w_c_l⟩,Kg,Ke⟩,⟨Kl,s_p_snaps⟩⟩:Side)).side.p.snaps)],.slice false (Ja (Jh (Je (⟨Lb,a_host,Li,K5,K6⟩:Ask)) (⟨Kn,Ko,KR,⟨⟨Ka,Kb,Kc,Kd⟩,Km⟩,⟨Kh,Ki,Kj,Kk⟩,⟨⟨Kf,s_w_c_l⟩,Kg,Ke⟩,⟨Kl,s_p_snaps⟩⟩:Side)).told)])):=w5
 have w6:=JqN Kn Ko KR Ka Kb Kc Kd Km Kh Ki Kj Kk Kf s_w_c_l Kg Ke Kl s_p_snaps (hb.sz (by decide))
 rw[Vy hsn] at w6
 simp only at w6
 rcases Jpx hsn with ⟨q,e1,e2,e3⟩|⟨t0,id,l,hp,hbt⟩
 ·have e:Jh (Je (⟨Lb,a_host,Li,K5,K6⟩:Ask)) (⟨Kn,Ko,KR,⟨⟨Ka,Kb,Kc,Kd⟩,Km⟩,⟨Kh,Ki,Kj,Kk⟩,⟨⟨Kf,s_w_c_l⟩,Kg,Ke⟩,⟨Kl,s_p_snaps⟩⟩:Side)=⟨⟨(⟨Lb,a_host,Li,K5,K6⟩:Ask),5,0,[],[],⟨0,[],0⟩⟩,(⟨Kn,Ko,KR,⟨⟨Ka,Kb,Kc,Kd⟩,Km⟩,⟨Kh,Ki,Kj,Kk⟩,⟨⟨Kf,s_w_c_l⟩,Kg,Ke⟩,⟨Kl,s_p_snaps⟩⟩:Side),[]⟩:=by
   unfold Jh YK
   rw[Jdk,Vy hsn,if_pos (show(Je (⟨Lb,a_host,Li,K5,K6⟩:Ask)).stage=0 from rfl)]
   unfold Jao
   simp only
   rw[Vy hsn,e1,if_neg e2]
   rfl
  rw[e] at w5
  unfold Je at w4 w5
  simp only at w4 w5
  have w7:=Jdo Lb a_host Li K5 K6 5 0 [] [] 0 [] 0
  rw[show(!decide ((JG ⟨(⟨Lb,a_host,Li,K5,K6⟩:Ask),5,0,[],[],⟨0,[],0⟩⟩).stage=5))=false by rw[Jcs rfl (Int.le_refl 0)];rfl] at w7
  clear hw hl hs hxl hxs hb hsn e1 e2 e3 e hh
  generalize JJ ⟨Kl,s_p_snaps⟩=cur at *
  obtain⟨ci,cl,cb⟩:=cur
  cases cb
  all_goals
   refine Vs call6 func6 rfl ntmps6 results6 fun ts hn h0 h1 h2=>?_
   (repeat' (first
 | (with_reducible first|refine callX.by (w0) ?_|refine callX.by (w1) ?_|refine callX.by (w2) ?_|refine callX.by (w3) ?_|refine callX.by (w4) ?_|refine callX.by (w5) ?_|refine callX.by (w6) ?_|refine callX.by (w7) ?_|assumption|(refine Qw hK _ ?_;clear hK K)|refine Qw ‹_› _ ?_|refine Qx ‹_› ?_|refine Qi fun K hK=>?_|refine Qj T fun K hK=>?_|refine Qk (id:=5) T mixed Jal (by kernel_rfl) fun K hK=>?_|refine Qk (id:=13) T mixed Jam (by kernel_rfl) fun K hK=>?_|refine Ql fun A B hA hB=>?_|refine Qm ?_|refine Qn ?_|refine Qp ?_|refine Qr ?_)
 |(with_reducible first|apply Qy|apply Qz|apply QA)<;>intro hb<;>try simp only[nr] at hb
 |simp only[go_sem,↓reduceIte,Qa,Qh,Qb,Qc,Qd,Qe,Qf,Qg,reduceCtorEq, *,-w0,-w1,-w2,-w3,-w4,-w5,-w6,-w7]
 |intro(bn:Bool) hbn))
 ·have hid:=hp.pos
  have e:Jh (Je (⟨Lb,a_host,Li,K5,K6⟩:Ask)) (⟨Kn,Ko,KR,⟨⟨Ka,Kb,Kc,Kd⟩,Km⟩,⟨Kh,Ki,Kj,Kk⟩,⟨⟨Kf,s_w_c_l⟩,Kg,Ke⟩,⟨Kl,s_p_snaps⟩⟩:Side)=⟨⟨(⟨Lb,a_host,Li,K5,K6⟩:Ask),1,id,[],[],⟨0,[],0⟩⟩,t0,[]⟩:=by
   unfold Jh YK
   rw[Jdk,Vy hsn,if_pos (show(Je (⟨Lb,a_host,Li,K5,K6⟩:Ask)).stage=0 from rfl)]
   unfold Jao
   simp only
   rw[Vy hsn,hp.pin,if_pos rfl,hp.bg]
   rfl
  rw[e] at w5
  unfold Je at w4 w5
  simp only at w4 w5
  have w7:=Jdo Lb a_host Li K5 K6 1 id [] [] 0 [] 0
  rw[show(!decide ((JG ⟨(⟨Lb,a_host,Li,K5,K6⟩:Ask),1,id,[],[],⟨0,[],0⟩⟩).stage=5))=true by rw[JeN ⟨by simp,by simp,hid⟩];rfl] at w7
  have hcur:(JJ ⟨Kl,s_p_snaps⟩).2=(l,true):=hp.cur
  rw[hcur] at w6
  have hb2:=hbt 20 hb
  have hts:=hp.sane
  obtain⟨x0,hx0⟩:∃x0,s_p_snaps=[x0]:=by
   match s_p_snaps,hcur,h9 with
   | [],hcur,_=>unfold JJ at hcur;rcases JeC ⟨Kl,[]⟩ with e|e<;>rw[e] at hcur<;>simp at hcur
   | [x],_,_=>exact⟨x,rfl⟩
   |x :: y :: r,_,h9=>simp at h9
  subst hx0
  have hp1:x0.pins=0→Pin1 t0.p id:=fun hz=>by
   have hpin:=hp.pin
   have ok:=(Zt _).1 (saneS_iff.1 hsn).2.2.2.2.2.1
   unfold Vn at hpin
   rw[Y9 ok] at hpin
   simp only[List.getLast?_singleton,hz] at hpin
   rw[if_neg (by decide)] at hpin
   have hp2:=congrArg Prod.fst hpin
   have hp3:=congrArg (fun z=>z.2.1) hpin
   simp only at hp2 hp3
   rw[←hp2,←hp3]
   exact⟨_,List.mem_singleton.2 rfl,rfl,rfl⟩
  have hpn:PinN t0.p id l:=hp.held
  have hsm:=Jkl (p:=t0.p) (id:=id) (fun x hx=>(hb2.p.all x hx).2)
  rw[←Jdd,hp.get] at hsm
  simp only at hsm
  clear hw hl hs hb hsn e hp hcur h9
  obtain⟨fb,hfb⟩:∃fb:Bool,decide (x0.pins=0)=fb:=⟨_,rfl⟩
  have hp1:fb=true→Pin1 t0.p id:=fun h=>hp1 (of_decide_eq_true (by rw[hfb];exact h))
  have hx0v:(Ja [x0]).getD 0 .any=.agg [.int .i64 x0.id,.int .i64 x0.pins,.slice false (Ja x0.l)]:=rfl
  have c1i:(0:Int)<((1:Nat):Int):=by decide
  clear hbt
  refine Vs call6 func6 rfl ntmps6 results6 fun ts hn h0 h1 h2=>?_
  (repeat' (first
 | (with_reducible first|refine callX.by (w0) ?_|refine callX.by (w1) ?_|refine callX.by (w2) ?_|refine callX.by (w3) ?_|refine callX.by (w4) ?_|refine callX.by (w5) ?_|refine callX.by (w6) ?_|refine callX.by (w7) ?_|assumption|(refine Qw hK _ ?_;clear hK K)|refine Qw ‹_› _ ?_|refine Qx ‹_› ?_|refine Qi fun K hK=>?_|refine Qj T fun K hK=>?_|refine Qk (id:=5) T mixed Jal (by kernel_rfl) fun K hK=>?_|refine Qk (id:=13) T mixed Jam (by kernel_rfl) fun K hK=>?_|refine Ql fun A B hA hB=>?_|refine Qm ?_|refine Qn ?_|refine Qp ?_|refine Qr ?_)
 |(with_reducible first|apply Qy|apply Qz|apply QA)<;>intro hb<;>try simp only[nr] at hb
 |simp only[go_sem,↓reduceIte,Qa,Qh,Qb,Qc,Qd,Qe,Qf,Qg,reduceCtorEq, *,-hxs,-hp1,-hpn,-hsm,-hb2,-hts,-w0,-w1,-w2,-w3,-w4,-w5,-w6,-w7,List.length_cons,List.length_nil,Int.toNat_zero,Int.le_refl]
 |intro(bn:Bool) hbn))
  clear w0 w1 w2 w3 w4 w5 w6 w7 hx0v c1i hfb h8i h9i
  refine Qs [2,7,8,10,13] (fun m ts'=>∃(i:Nat),∃(t:Side),m=xs.length-i∧i≤xs.length∧JK t=true∧BdS t (20+i)∧PinN t.p id l∧(fb=true→Pin1 t.p id)∧ts'.tmp 14=.int .i64 i∧ts'.tmp 11=.ref 11 (ts.gen 11+1) 0∧ts'.gen 11=ts.gen 11+1∧ts'.obj 11=.box [.int .i64 t.epoch,.int .i64 t.turn,.bool t.up,.int .i64 t.in'.last.a0,.int .i64 t.in'.last.a1,.int .i64 t.in'.last.a2,.int .i64 t.in'.last.a3,.int .i64 t.in'.max,.int .i64 t.errs.a0,.int .i64 t.errs.a1,.int .i64 t.errs.a2,.int .i64 t.errs.a3,.int .i64 t.w.c.cap,.slice false (Ja t.w.c.l),.bool t.w.ready,.slice false (Ja t.w.shown),.int .i64 t.p.next',.slice false (Ja t.p.snaps)]) xs.length ?_ ?_
  ·refine⟨0,t0,rfl,Nat.zero_le _,hts,hb2,hpn,hp1,?_⟩
   simp only[go_sem,↓reduceIte,Qa,Qh,Qb,Qc,Qd,Qe,Qf,Qg,reduceCtorEq, *,-hxs,-hp1,-hpn,-hsm,-hb2,-hts]
  ·clear hp1 hpn hb2 hts
   rintro m A hM ts' hk ⟨i,t,hm,f1,f2,f3,f4,f5,s1,s2,s3,s4⟩
   simp only[go_sem,↓reduceIte,Qa,Qh,Qb,Qc,Qd,Qe,Qf,Qg,reduceCtorEq, *] at hk
   have ok:=(Zt _).1 (saneS_iff.1 f2).2.2.2.2.2.1
   by_cases hlt:i<xs.length
   ·have hf:=hxs _ (List.getElem_mem hlt)
    have w7:=JnL xs[i].type xs[i].epoch xs[i].kind xs[i].nonce xs[i].turn xs[i].adds xs[i].gone xs[i].err xs[i].have' xs[i].held hf
    have w7:CallR prog 26 [.agg [.int .i64 xs[i].type,.int .i64 xs[i].epoch,.int .i64 xs[i].kind,.int .i64 xs[i].nonce,.int .i64 xs[i].turn,.slice false (Ja xs[i].adds),.slice false (Ja xs[i].gone),.int .i64 xs[i].err,.slice false (Ja xs[i].have'),.slice false (Ja xs[i].held)]] (.val (.bool (JbW xs[i]))):=w7
    by_cases hfe:JbW xs[i]=true
    ·rw[hfe] at w7
     have ha80:xs[i].adds.length≤80:=by
      unfold JbW V7 at hfe
      simp only[Bool.and_eq_true,decide_eq_true_eq] at hfe
      exact hfe.2.1.1.1.2
     have w8:=Jqf xs[i].type xs[i].epoch xs[i].kind xs[i].nonce xs[i].turn xs[i].adds xs[i].gone xs[i].err xs[i].have' xs[i].held hf.2.2.2.2.1
     obtain⟨p1,p2⟩:=Jn8 f3 (by omega) (f:=xs[i]) hf.2.1 ha80
     have w9:=Jn6 t.epoch t.turn t.up t.in'.last.a0 t.in'.last.a1 t.in'.last.a2 t.in'.last.a3 t.in'.max t.errs.a0 t.errs.a1 t.errs.a2 t.errs.a3 t.w.c.cap t.w.c.l t.w.ready t.w.shown t.p.next' t.p.snaps xs[i].type xs[i].epoch xs[i].kind xs[i].nonce xs[i].turn xs[i].adds xs[i].gone xs[i].err xs[i].have' xs[i].held (f3.sz (by omega)) hf p1 p2
     have w9:CallR prog 27 [.agg [.int .i64 t.epoch,.int .i64 t.turn,.bool t.up,.int .i64 t.in'.last.a0,.int .i64 t.in'.last.a1,.int .i64 t.in'.last.a2,.int .i64 t.in'.last.a3,.int .i64 t.in'.max,.int .i64 t.errs.a0,.int .i64 t.errs.a1,.int .i64 t.errs.a2,.int .i64 t.errs.a3,.int .i64 t.w.c.cap,.slice false (Ja t.w.c.l),.bool t.w.ready,.slice false (Ja t.w.shown),.int .i64 t.p.next',.slice false (Ja t.p.snaps)],.agg [.int .i64 xs[i].type,.int .i64 xs[i].epoch,.int .i64 xs[i].kind,.int .i64 xs[i].nonce,.int .i64 xs[i].turn,.slice false (Ja xs[i].adds),.slice false (Ja xs[i].gone),.int .i64 xs[i].err,.slice false (Ja xs[i].have'),.slice false (Ja xs[i].held)]] (.val (.tup [.agg [.int .i64 (Jz t xs[i]).1.epoch,.int .i64 (Jz t xs[i]).1.turn,.bool (Jz t xs[i]).1.up,.int .i64 (Jz t xs[i]).1.in'.last.a0,.int .i64 (Jz t xs[i]).1.in'.last.a1,.int .i64 (Jz t xs[i]).1.in'.last.a2,.int .i64 (Jz t xs[i]).1.in'.last.a3,.int .i64 (Jz t xs[i]).1.in'.max,.int .i64 (Jz t xs[i]).1.errs.a0,.int .i64 (Jz t xs[i]).1.errs.a1,.int .i64 (Jz t xs[i]).1.errs.a2,.int .i64 (Jz t xs[i]).1.errs.a3,.int .i64 (Jz t xs[i]).1.w.c.cap,.slice false (Ja (Jz t xs[i]).1.w.c.l),.bool (Jz t xs[i]).1.w.ready,.slice false (Ja (Jz t xs[i]).1.w.shown),.int .i64 (Jz t xs[i]).1.p.next',.slice false (Ja (Jz t xs[i]).1.p.snaps)],.slice false (Ja (Jz t xs[i]).2.1),.int .i64 (Jz t xs[i]).2.2])):=w9
     have g2:=Jiw t xs[i]
     have g3:=f3.handle (f:=xs[i]) hf.2.1
     have g4:=f4.handle f2 xs[i]
     have g5:fb=true→Pin1 (Jz t xs[i]).1.p id:=fun h=>(f5 h).handle f2 xs[i]
     clear hf ha80 p1 p2 hfe f2 f3 f4 f5 ok
     generalize (Jz t xs[i]).2.2=e9 at *
     generalize (Jz t xs[i]).2.1=l9 at *
     generalize (Jz t xs[i]).1=t1 at *
     have ok1:=(Zt _).1 (saneS_iff.1 g2).2.2.2.2.2.1
     have w10:=Jgm t1.p.next' id t1.p.snaps ok1.small
     rw[show VO ⟨t1.p.next',t1.p.snaps⟩ id=(l,true) from g4.get ok1] at w10
     have w11:=JmN l l hsm.1 hsm.2
     simp only[decide_true] at w11
     clear ok1
     (repeat' (first
 | (with_reducible first|refine callX.by (w7) ?_|refine callX.by (w8) ?_|refine callX.by (w9) ?_|refine callX.by (w10) ?_|refine callX.by (w11) ?_|assumption|(refine Qw hK _ ?_;clear hK K)|refine Qw ‹_› _ ?_|refine Qx ‹_› ?_|refine Qi fun K hK=>?_|refine Qj T fun K hK=>?_|refine Qk (id:=5) T mixed Jal (by kernel_rfl) fun K hK=>?_|refine Qk (id:=13) T mixed Jam (by kernel_rfl) fun K hK=>?_|refine Ql fun A B hA hB=>?_|refine Qm ?_|refine Qn ?_|refine Qp ?_|refine Qr ?_)
 |(with_reducible first|apply Qy|apply Qz|apply QA)<;>intro hb<;>try simp only[nr] at hb
 |simp only[go_sem,↓reduceIte,Qa,Qh,Qb,Qc,Qd,Qe,Qf,Qg,reduceCtorEq, *,-hxs,-hsm,-g2,-g3,-g4,-g5,-w7,-w8,-w9,-w10,-w11]
 |intro(bn:Bool) hbn))
     all_goals ((repeat clear hK);(repeat clear hA);(repeat clear hB))
     (refine hM.on (xs.length-(i+1)) (by omega) (by simp only[go_sem,↓reduceIte,Qa,Qh,Qb,Qc,Qd,Qe,Qf,Qg,reduceCtorEq, *,Jg hlt hxl,-hxs,-hsm,-g2,-g3,-g4,-g5,-w7,-w8,-w9,-w10,-w11]) ⟨i+1,t1,rfl,by omega,g2,g3,g4,g5,?_⟩;simp only[go_sem,↓reduceIte,Qa,Qh,Qb,Qc,Qd,Qe,Qf,Qg,reduceCtorEq, *,Jg hlt hxl,-hxs,-hsm,-g2,-g3,-g4,-g5,-w7,-w8,-w9,-w10,-w11];done)
    ·rw[show JbW xs[i]=false by simpa using hfe] at w7
     have g3:BdS t (20+(i+1)):=⟨f3.c,f3.w,f3.sc,f3.sw,⟨by have:=f3.p.len;omega,f3.p.all⟩⟩
     clear hf hfe ok
     (repeat' (first
 | (with_reducible first|refine callX.by (w7) ?_|assumption|(refine Qw hK _ ?_;clear hK K)|refine Qw ‹_› _ ?_|refine Qx ‹_› ?_|refine Qi fun K hK=>?_|refine Qj T fun K hK=>?_|refine Qk (id:=5) T mixed Jal (by kernel_rfl) fun K hK=>?_|refine Qk (id:=13) T mixed Jam (by kernel_rfl) fun K hK=>?_|refine Ql fun A B hA hB=>?_|refine Qm ?_|refine Qn ?_|refine Qp ?_|refine Qr ?_)
 |(with_reducible first|apply Qy|apply Qz|apply QA)<;>intro hb<;>try simp only[nr] at hb
 |simp only[go_sem,↓reduceIte,Qa,Qh,Qb,Qc,Qd,Qe,Qf,Qg,reduceCtorEq, *,-hxs,-hsm,-f2,-f3,-f4,-f5,-g3,-w7]
 |intro(bn:Bool) hbn))
     all_goals ((repeat clear hK);(repeat clear hA);(repeat clear hB))
     (refine hM.on (xs.length-(i+1)) (by omega) (by simp only[go_sem,↓reduceIte,Qa,Qh,Qb,Qc,Qd,Qe,Qf,Qg,reduceCtorEq, *,Jg hlt hxl,-hxs,-hsm,-f2,-f3,-f4,-f5,-g3,-w7]) ⟨i+1,t,rfl,by omega,f2,g3,f4,f5,?_⟩;simp only[go_sem,↓reduceIte,Qa,Qh,Qb,Qc,Qd,Qe,Qf,Qg,reduceCtorEq, *,Jg hlt hxl,-hxs,-hsm,-f2,-f3,-f4,-f5,-g3,-w7];done)
   ·obtain⟨k,q,hkm,hf,q5,qi⟩:=Jic f2 f3 (by omega) (f4.get ok) hid 4 ⟨(⟨Lb,a_host,Li,K5,K6⟩:Ask),1,id,[],[],⟨0,[],0⟩⟩ rfl ⟨by simp,by simp⟩ rfl hh
    have w1:=JnQ _ t hf (by omega)
    have hm1:=(JfG t id).1
    have hm3:=(JfG t id).2
    have hge:fb=true→(VO (endS t id).1.p id).2=decide ((JJ (endS t id).1.p).1=id):=fun h=>by
     rw[Jh2 f2]
     exact(f5 h).gone ok
    have oke:OkP (endS t id).1.p:=by rw[Jh2 f2];exact JeI _ _
    clear hf f2 f3 f4 f5 ok hkm
    generalize (endS t id).2.1=mf at *
    generalize (endS t id).1=e at *
    have w2:=Jgm e.p.next' id e.p.snaps oke.small
    have w2:CallR prog 14 [.agg [.int .i64 e.p.next',.slice false (Ja e.p.snaps)],.int .i64 id] (.val (.tup [.slice false (Ja (VO e.p id).1),.bool (VO e.p id).2])):=w2
    have w3:=JfE e.p.next' e.p.snaps oke.small
    have w3:CallR prog 29 [.agg [.int .i64 e.p.next',.slice false (Ja e.p.snaps)]] (.val (.tup [.int .i64 (JJ e.p).1,.slice false (Ja (JJ e.p).2.1),.bool (JJ e.p).2.2])):=w3
    have w4:=Jdo q.a.port q.a.host q.a.path q.a.first q.a.other q.stage q.id q.route q.cluster q.out.what q.out.cluster q.out.host
    have w4:CallR prog 22 [.agg [.int .i64 q.a.port,.str q.a.host,.str q.a.path,.int .i64 q.a.first,.int .i64 q.a.other,.int .i64 q.stage,.int .i64 q.id,.str q.route,.str q.cluster,.int .i64 q.out.what,.str q.out.cluster,.int .i64 q.out.host]] (.val (.bool (!decide ((JG q).stage=5)))):=w4
    rw[show(!decide ((JG q).stage=5))=false by rw[Jcs q5 qi,q5];rfl] at w4
    clear oke q5 qi
    generalize VO e.p id=ge at *
    generalize JJ e.p=ce at *
    have hml:Jc mf.length:=by unfold Jc;omega
    have hmi:(mf.length:Int)≤1:=by omega
    clear hm1
    (repeat' (first
 | (with_reducible first|refine callX.by (w1) ?_|refine callX.by (w2) ?_|refine callX.by (w3) ?_|assumption|(refine Qw hK _ ?_;clear hK K)|refine Qw ‹_› _ ?_|refine Qx ‹_› ?_|refine Qi fun K hK=>?_|refine Qj T fun K hK=>?_|refine Qk (id:=5) T mixed Jal (by kernel_rfl) fun K hK=>?_|refine Qk (id:=13) T mixed Jam (by kernel_rfl) fun K hK=>?_|refine Ql fun A B hA hB=>?_|refine Qm ?_|refine Qn ?_|refine Qp ?_|refine Qr ?_)
 |(with_reducible first|apply Qy|apply Qz|apply QA)<;>intro hb<;>try simp only[nr] at hb
 |simp only[go_sem,↓reduceIte,Qa,Qh,Qb,Qc,Qd,Qe,Qf,Qg,reduceCtorEq, *,-hxs,-hsm,-hge,-hm3,-hmi,-w1,-w2,-w3,-w4]
 |intro(bn:Bool) hbn))
    refine Qs [7,10,13,20,22,24,25] (fun m ts'=>∃(k:Nat),m=mf.length-k∧k≤mf.length∧ts'.tmp 28=.int .i64 k) mf.length ?_ ?_
    ·refine⟨0,rfl,Nat.zero_le _,?_⟩
     simp only[go_sem,↓reduceIte,Qa,Qh,Qb,Qc,Qd,Qe,Qf,Qg,reduceCtorEq, *,-hxs,-hsm,-hge,-hm3,-hmi,-w1,-w2,-w3,-w4]
    ·clear hM
     rintro m A hM ts' hk ⟨k,hm,f1,s1⟩
     simp only[go_sem,↓reduceIte,Qa,Qh,Qb,Qc,Qd,Qe,Qf,Qg,reduceCtorEq, *] at hk
     by_cases hkt:k<mf.length
     ·have hty:=hm3 _ (List.getElem_mem hkt)
      (repeat' (first
 | (with_reducible first|assumption|(refine Qw hK _ ?_;clear hK K)|refine Qw ‹_› _ ?_|refine Qx ‹_› ?_|refine Qi fun K hK=>?_|refine Qj T fun K hK=>?_|refine Qk (id:=5) T mixed Jal (by kernel_rfl) fun K hK=>?_|refine Qk (id:=13) T mixed Jam (by kernel_rfl) fun K hK=>?_|refine Ql fun A B hA hB=>?_|refine Qm ?_|refine Qn ?_|refine Qp ?_|refine Qr ?_)
 |(with_reducible first|apply Qy|apply Qz|apply QA)<;>intro hb<;>try simp only[nr] at hb
 |simp only[go_sem,↓reduceIte,Qa,Qh,Qb,Qc,Qd,Qe,Qf,Qg,reduceCtorEq, *,-hxs,-hsm,-hge,-hm3,-hmi,-w1,-w2,-w3,-w4]
 |intro(bn:Bool) hbn))
      all_goals ((repeat clear hK);(repeat clear hA);(repeat clear hB))
      (refine hM.on (mf.length-(k+1)) (by omega) (by simp only[go_sem,↓reduceIte,Qa,Qh,Qb,Qc,Qd,Qe,Qf,Qg,reduceCtorEq, *,Jg hkt hml,-hxs,-hsm,-hge,-hm3,-hmi,-w1,-w2,-w3,-w4]) ⟨k+1,rfl,by omega,?_⟩;simp only[go_sem,↓reduceIte,Qa,Qh,Qb,Qc,Qd,Qe,Qf,Qg,reduceCtorEq, *,Jg hkt hml,-hxs,-hsm,-hge,-hm3,-hmi,-w1,-w2,-w3,-w4];done)
     ·cases fb
      have hge:=trivial
      rotate_left
      have hge:=hge rfl
      all_goals
       (repeat' (first
 | (with_reducible first|refine callX.by (w4) ?_|assumption|(refine Qw hK _ ?_;clear hK K)|refine Qw ‹_› _ ?_|refine Qx ‹_› ?_|refine Qi fun K hK=>?_|refine Qj T fun K hK=>?_|refine Qk (id:=5) T mixed Jal (by kernel_rfl) fun K hK=>?_|refine Qk (id:=13) T mixed Jam (by kernel_rfl) fun K hK=>?_|refine Ql fun A B hA hB=>?_|refine Qm ?_|refine Qn ?_|refine Qp ?_|refine Qr ?_)
 |(with_reducible first|apply Qy|apply Qz|apply QA)<;>intro hb<;>try simp only[nr] at hb
 |simp only[go_sem,↓reduceIte,Qa,Qh,Qb,Qc,Qd,Qe,Qf,Qg,reduceCtorEq, *,-hxs,-hsm,-hm3,-w1,-w2,-w3,-w4]
 |intro(bn:Bool) hbn))
      all_goals exact decide_eq_true (by omega)
end Go.Proofs.YthjalhfmpffbjaaGreatDoor.Lg
