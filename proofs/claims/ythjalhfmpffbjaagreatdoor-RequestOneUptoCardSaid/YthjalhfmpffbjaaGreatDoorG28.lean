/- Parts of the proof, one behind the other. -/
import Derived.Test.YthjalhfmpffbjaaGreatDoorG27
namespace Go.Proofs.YthjalhfmpffbjaaGreatDoor.Lg
set_option maxRecDepth 100000
set_option maxHeartbeats 64000000
set_option linter.unusedVariables false
set_option linter.unusedSimpArgs false
open Go
open Nat renaming reduceEqDiff → Qa, reduceLT → Qb, reduceLeDiff → Qc, reduceAdd → Qd, reduceMul → Qe, reduceSub → Qf, reduceBEq → Qg
open String renaming reduceEq → Qh
open SpecC renaming seqW → Qi, regW → Qj, drawW → Qk, condW → Ql, block → Qm, skip → Qn, exit → Qp, ret → Qr, loopF → Qs
open NxK renaming out → Qw
open Nx renaming out → Qx
open condK renaming split → Qy
open gK renaming split_t → Qz, split_f → QA
theorem Jql(Lv:Int)(w_c_l:List Res)(Lw:Bool)(w_shown:List Res):CallR Tryz.prog 40 [.agg [.int .i64 Lv,.slice false (Ja w_c_l),.bool Lw,.slice false (Ja w_shown)]] (.val (.agg [.int .i64 Lv,.slice false (Ja w_c_l),.bool Lw,.slice false (Ja w_shown)])):=by
 refine Jl Tryz.call40 Tryz.func40 rfl Tryz.ntmps40 Tryz.results40 fun ts hn h0=>?_
 (repeat' (first
 | (with_reducible first|assumption|(refine Qw hK _ ?_;clear hK K)|refine Qw ‹_› _ ?_|refine Qx ‹_› ?_|refine Qi fun K hK=>?_|refine Qj T fun K hK=>?_|refine Ql fun A B hA hB=>?_|refine Qn ?_|refine Qr ?_)
 |(with_reducible first|apply Qy|apply Qz|apply QA)<;>intro hb<;>try simp only[nr] at hb
 |simp only[go_sem,↓reduceIte,Qa,Qh,Qb,Qc,Qd,Qe,Qf,Qg,reduceCtorEq, *]
 |intro(bn:Bool) hbn))
theorem Jqa(next:Int)(xs:List Snap)(hl:Jc xs.length):CallR Tryz.prog 41 [.agg [.int .i64 next,.slice false (Ja xs)]] (.val (.agg [.int .i64 next,.slice false (Ja xs)])):=by
 refine Jl Tryz.call41 Tryz.func41 rfl Tryz.ntmps41 Tryz.results41 fun ts hn h0=>?_
 (repeat' (first
 | (with_reducible first|assumption|(refine Qw hK _ ?_;clear hK K)|refine Qw ‹_› _ ?_|refine Qx ‹_› ?_|refine Qi fun K hK=>?_|refine Qj T fun K hK=>?_|refine Ql fun A B hA hB=>?_|refine Qm ?_|refine Qn ?_|refine Qp ?_|refine Qr ?_)
 |(with_reducible first|apply Qy|apply Qz|apply QA)<;>intro hb<;>try simp only[nr] at hb
 |simp only[go_sem,↓reduceIte,Qa,Qh,Qb,Qc,Qd,Qe,Qf,Qg,reduceCtorEq, *]
 |intro(bn:Bool) hbn))
 refine SpecC.ent (Ent.virtB 31 3 1 3 (cs:=[.int .i64 next,.slice true []]) (by simp only[go_sem,↓reduceIte,Qa,Qh,Qb,Qc,Qd,Qe,Qf,Qg,reduceCtorEq, *,Ob.box?]) (by decide) rfl (by decide)) ?_
 refine Qs [1,2] (fun m ts'=>∃(i:Nat),∃(g:Nat),m=xs.length-i∧i≤xs.length∧ts'.tmp 3=.ref 3 (ts.gen 3+1) 0∧ts'.gen 3=ts.gen 3+1∧ts'.obj 3=.box [.int .i64 next,.os 31 g i]∧ts'.gen 31=g∧ts'.obj 31=.arr 3 (Ja (xs.take i))∧ts'.tmp 4=.int .i64 i) xs.length ?_ ?_
 ·refine⟨0,ts.gen 31+1,rfl,Nat.zero_le _,?_⟩
  simp only[go_sem,↓reduceIte,Qa,Qh,Qb,Qc,Qd,Qe,Qf,Qg,reduceCtorEq, *,J8,List.take_zero,List.set]
 ·rintro m A hM ts' hk ⟨i,g,hm,f1,s1,s2,s3,s4,s5,s6⟩
  simp only[go_sem,↓reduceIte,Qa,Qh,Qb,Qc,Qd,Qe,Qf,Qg,reduceCtorEq, *] at hk
  have hlen:(xs.take i).length=i:=by rw[List.length_take];omega
  have htk:(xs.take i).take i=xs.take i:=by rw[List.take_take,Nat.min_self]
  have hr1:VC (i+1) 40:=Jbz (by unfold Jc at hl;omega) (by decide)
  by_cases hlt:i<xs.length
  ·have e:=List.take_succ_eq_append_getElem hlt
   (repeat' (first
 | (with_reducible first|assumption|(refine Qw hK _ ?_;clear hK K)|refine Qw ‹_› _ ?_|refine Qx ‹_› ?_|refine Qi fun K hK=>?_|refine Qj T fun K hK=>?_|refine Ql fun A B hA hB=>?_|refine Qm ?_|refine Qn ?_|refine Qp ?_|refine Qr ?_)
 |(with_reducible first|apply Qy|apply Qz|apply QA)<;>intro hb<;>try simp only[nr] at hb
 |simp only[go_sem,↓reduceIte,Qa,Qh,Qb,Qc,Qd,Qe,Qf,Qg,reduceCtorEq, *,-e]
 |intro(bn:Bool) hbn))
   all_goals ((repeat clear hK);(repeat clear hA);(repeat clear hB))
   (refine hM.on (xs.length-(i+1)) (by omega) (by simp only[go_sem,↓reduceIte,Qa,Qh,Qb,Qc,Qd,Qe,Qf,Qg,reduceCtorEq, *,Jh hlt hl,e]) ⟨i+1,ts'.gen 31+1,rfl,by omega,?_⟩;simp only[go_sem,↓reduceIte,Qa,Qh,Qb,Qc,Qd,Qe,Qf,Qg,reduceCtorEq, *,Jh hlt hl,e];done)
  ·have hi2:i=xs.length:=by omega
   (repeat' (first
 | (with_reducible first|assumption|(refine Qw hK _ ?_;clear hK K)|refine Qw ‹_› _ ?_|refine Qx ‹_› ?_|refine Qi fun K hK=>?_|refine Qj T fun K hK=>?_|refine Ql fun A B hA hB=>?_|refine Qm ?_|refine Qn ?_|refine Qp ?_|refine Qr ?_)
 |(with_reducible first|apply Qy|apply Qz|apply QA)<;>intro hb<;>try simp only[nr] at hb
 |simp only[go_sem,↓reduceIte,Qa,Qh,Qb,Qc,Qd,Qe,Qf,Qg,reduceCtorEq, *,Nat.lt_irrefl,List.take_length]
 |intro(bn:Bool) hbn))
theorem Jqc(Kn Ko:Int)(KR:Bool)(Ka Kb:Int)(Kc Kd:Int)(Km Kh:Int)(Ki Kj:Int)(Kk Kf:Int)(s_w_c_l:List Res)(Kg:Bool)(Ke:List Res)(Kl:Int)(s_p_snaps:List Snap)(hl:Jc s_p_snaps.length):CallR Tryz.prog 13 [.agg [.int .i64 Kn,.int .i64 Ko,.bool KR,.int .i64 Ka,.int .i64 Kb,.int .i64 Kc,.int .i64 Kd,.int .i64 Km,.int .i64 Kh,.int .i64 Ki,.int .i64 Kj,.int .i64 Kk,.int .i64 Kf,.slice false (Ja s_w_c_l),.bool Kg,.slice false (Ja Ke),.int .i64 Kl,.slice false (Ja s_p_snaps)]] (.val (.agg [.int .i64 Kn,.int .i64 Ko,.bool KR,.int .i64 Ka,.int .i64 Kb,.int .i64 Kc,.int .i64 Kd,.int .i64 Km,.int .i64 Kh,.int .i64 Ki,.int .i64 Kj,.int .i64 Kk,.int .i64 Kf,.slice false (Ja s_w_c_l),.bool Kg,.slice false (Ja Ke),.int .i64 Kl,.slice false (Ja s_p_snaps)])):=by
 have w1:=Jql Kf s_w_c_l Kg Ke
 have w2:=Jqa Kl s_p_snaps hl
 clear hl
 refine Jl Tryz.call13 Tryz.func13 rfl Tryz.ntmps13 Tryz.results13 fun ts hn h0=>?_
 (repeat' (first
 | (with_reducible first|refine callX.by (w1) ?_|refine callX.by (w2) ?_|assumption|(refine Qw hK _ ?_;clear hK K)|refine Qw ‹_› _ ?_|refine Qx ‹_› ?_|refine Qi fun K hK=>?_|refine Qj T fun K hK=>?_|refine Qk (id:=1) T mixed [([3],[5,6,7,8,9,10,11,12,13,14,15,16,17,18,19,20,21,22,23]),([4],[5,6,7,8,9,10,11,12,13,14,15,16,17,18,19,20,21,22,23]),([5],[3,4,7,8,9,10,11,12,13,14,15,16,17,18,19,20,21,22,23]),([6],[3,4,7,8,9,10,11,12,13,14,15,16,17,18,19,20,21,22,23]),([7],[3,4,5,6,9,10,11,12,13,14,15,16,17,18,19,20,21,22,23]),([8],[3,4,5,6,9,10,11,12,13,14,15,16,17,18,19,20,21,22,23]),([9],[3,4,5,6,7,8,12,13,14,15,16,17,18,19,20,21,22,23]),([10],[3,4,5,6,7,8,12,13,14,16,17,18,19,20,21,22,23]),([11],[3,4,5,6,7,8,12,13,14,16,17,18,19,20,21,22,23]),([12],[3,4,5,6,7,8,9,10,11,15,16,17,18,19,20,21,22,23]),([13],[3,4,5,6,7,8,9,10,11,16,17,18,19,20,21,22,23]),([14],[3,4,5,6,7,8,9,10,11,16,17,18,19,20,21,22,23]),([15],[3,4,5,6,7,8,9,12,16,17,18,19,20,21,22,23]),([16],[3,4,5,6,7,8,9,10,11,12,13,14,15,18,19,20,21,22,23]),([17],[3,4,5,6,7,8,9,10,11,12,13,14,15,18,19,20,21,22,23]),([18],[3,4,5,6,7,8,9,10,11,12,13,14,15,16,17,21,22,23]),([19],[3,4,5,6,7,8,9,10,11,12,13,14,15,16,17,21,22]),([20],[3,4,5,6,7,8,9,10,11,12,13,14,15,16,17,21,22]),([21],[3,4,5,6,7,8,9,10,11,12,13,14,15,16,17,18,19,20]),([22],[3,4,5,6,7,8,9,10,11,12,13,14,15,16,17,18,19,20]),([23],[3,4,5,6,7,8,9,10,11,12,13,14,15,16,17,18])] (by kernel_rfl) fun K hK=>?_|refine Ql fun A B hA hB=>?_|refine Qn ?_|refine Qr ?_)
 |(with_reducible first|apply Qy|apply Qz|apply QA)<;>intro hb<;>try simp only[nr] at hb
 |simp only[go_sem,↓reduceIte,Qa,Qh,Qb,Qc,Qd,Qe,Qf,Qg,reduceCtorEq, *,-w1,-w2]
 |intro(bn:Bool) hbn))
def Z7(r:Req)(s:Side):Bool:=Ja6 s && (decide (r.a.host.length≤100) && decide (r.a.path.length≤100) && decide (r.route.length≤100) && decide (r.cluster.length≤100))
theorem JnK(Li:Int)(Lf Lh:List UInt8)(K8 K9:Int)(Ll Ly:Int)(Lk La:List UInt8)(KY:Int)(KF:List UInt8)(KX Kn Ko:Int)(KR:Bool)(Ka Kb:Int)(Kc Kd:Int)(Km Kh:Int)(Ki Kj:Int)(Kk Kf:Int)(s_w_c_l:List Res)(Kg:Bool)(Ke:List Res)(Kl:Int)(s_p_snaps:List Snap)(hw:JaW ⟨⟨Kf,s_w_c_l⟩,Kg,Ke⟩)(hl:Jc s_p_snaps.length)(hs:∀x∈s_p_snaps,Yt x):CallR Tryz.prog 9 [.agg [.int .i64 Li,.str Lf,.str Lh,.int .i64 K8,.int .i64 K9,.int .i64 Ll,.int .i64 Ly,.str Lk,.str La,.int .i64 KY,.str KF,.int .i64 KX],.agg [.int .i64 Kn,.int .i64 Ko,.bool KR,.int .i64 Ka,.int .i64 Kb,.int .i64 Kc,.int .i64 Kd,.int .i64 Km,.int .i64 Kh,.int .i64 Ki,.int .i64 Kj,.int .i64 Kk,.int .i64 Kf,.slice false (Ja s_w_c_l),.bool Kg,.slice false (Ja Ke),.int .i64 Kl,.slice false (Ja s_p_snaps)]] (.val (.bool (Z7 (⟨⟨Li,Lf,Lh,K8,K9⟩,Ll,Ly,Lk,La,⟨KY,KF,KX⟩⟩:Req) (⟨Kn,Ko,KR,⟨⟨Ka,Kb,Kc,Kd⟩,Km⟩,⟨Kh,Ki,Kj,Kk⟩,⟨⟨Kf,s_w_c_l⟩,Kg,Ke⟩,⟨Kl,s_p_snaps⟩⟩:Side)))):=by
 have w1:=JnJ Kn Ko KR Ka Kb Kc Kd Km Kh Ki Kj Kk Kf s_w_c_l Kg Ke Kl s_p_snaps hw hl hs
 clear hw hl hs
 unfold Z7
 generalize Ja6 (⟨Kn,Ko,KR,⟨⟨Ka,Kb,Kc,Kd⟩,Km⟩,⟨Kh,Ki,Kj,Kk⟩,⟨⟨Kf,s_w_c_l⟩,Kg,Ke⟩,⟨Kl,s_p_snaps⟩⟩:Side)=b at *
 refine Jm Tryz.call9 Tryz.func9 rfl Tryz.ntmps9 Tryz.results9 fun ts hn h0 h1=>?_
 (repeat' (first
 | (with_reducible first|refine callX.by (w1) ?_|assumption|(refine Qw hK _ ?_;clear hK K)|refine Qw ‹_› _ ?_|refine Qx ‹_› ?_|refine Qi fun K hK=>?_|refine Qj T fun K hK=>?_|refine Ql fun A B hA hB=>?_|refine Qn ?_|refine Qr ?_)
 |(with_reducible first|apply Qy|apply Qz|apply QA)<;>intro hb<;>try simp only[nr] at hb
 |simp only[go_sem,↓reduceIte,Qa,Qh,Qb,Qc,Qd,Qe,Qf,Qg,reduceCtorEq, *,-w1]
 |intro(bn:Bool) hbn))
 all_goals (rw[Bool.eq_iff_iff];simp_all)
 all_goals omega
theorem JmY:Jg (Jd ⟨80,[],[],0,0⟩) (Jf 9 9)=⟨⟨⟨80,[],[],0,0⟩,5,0,[],[],⟨0,[],0⟩⟩,Jf 9 9,[]⟩:=by
 unfold Jg YO
 rw[Jdp,V1 (Jep 9 9),if_pos (show(Jd ⟨80,[],[],0,0⟩).stage=0 from rfl)]
 unfold Jao
 simp only
 rw[V1 (Jep 9 9)]
 have e:Vs (Jf 9 9).p=(⟨0,[]⟩,0,10):=by
  unfold Vs
  rw[show(Jf 9 9).p=⟨0,[]⟩ from rfl,Jge]
  rfl
 rw[e,if_neg (by simp)]
 rfl
theorem bdNew:BdS (Jf 9 9) 0:=⟨by simp[Jf],by simp[Jf],by simp[Jf],by simp[Jf],⟨by simp[Jf],by simp[Jf]⟩⟩
theorem JmZ:CallR Tryz.prog 8 [] (.val (.bool true)):=by
 have w1:=JfT 9 9
 have w2:=JfS 80 [] [] 0 0
 have w2:CallR Tryz.prog 20 [.agg [.int .i64 80,.str [],.str [],.int .i64 0,.int .i64 0]] (.val (.agg [.int .i64 (Jd ⟨80,[],[],0,0⟩).a.port,.str (Jd ⟨80,[],[],0,0⟩).a.host,.str (Jd ⟨80,[],[],0,0⟩).a.path,.int .i64 (Jd ⟨80,[],[],0,0⟩).a.first,.int .i64 (Jd ⟨80,[],[],0,0⟩).a.other,.int .i64 (Jd ⟨80,[],[],0,0⟩).stage,.int .i64 (Jd ⟨80,[],[],0,0⟩).id,.str (Jd ⟨80,[],[],0,0⟩).route,.str (Jd ⟨80,[],[],0,0⟩).cluster,.int .i64 (Jd ⟨80,[],[],0,0⟩).out.what,.str (Jd ⟨80,[],[],0,0⟩).out.cluster,.int .i64 (Jd ⟨80,[],[],0,0⟩).out.host])):=w2
 have hs:=Jep 9 9
 have w3:=JgH (Jd ⟨80,[],[],0,0⟩).a.port (Jd ⟨80,[],[],0,0⟩).a.host (Jd ⟨80,[],[],0,0⟩).a.path (Jd ⟨80,[],[],0,0⟩).a.first (Jd ⟨80,[],[],0,0⟩).a.other (Jd ⟨80,[],[],0,0⟩).stage (Jd ⟨80,[],[],0,0⟩).id (Jd ⟨80,[],[],0,0⟩).route (Jd ⟨80,[],[],0,0⟩).cluster (Jd ⟨80,[],[],0,0⟩).out.what (Jd ⟨80,[],[],0,0⟩).out.cluster (Jd ⟨80,[],[],0,0⟩).out.host (Jf 9 9).epoch (Jf 9 9).turn (Jf 9 9).up (Jf 9 9).in'.last.a0 (Jf 9 9).in'.last.a1 (Jf 9 9).in'.last.a2 (Jf 9 9).in'.last.a3 (Jf 9 9).in'.max (Jf 9 9).errs.a0 (Jf 9 9).errs.a1 (Jf 9 9).errs.a2 (Jf 9 9).errs.a3 (Jf 9 9).w.c.cap (Jf 9 9).w.c.l (Jf 9 9).w.ready (Jf 9 9).w.shown (Jf 9 9).p.next' (Jf 9 9).p.snaps (bdNew.sz (by decide)) (by rw[show JP (Jd ⟨80,[],[],0,0⟩)=Jd ⟨80,[],[],0,0⟩ from Jdp _];show SzK ⟨Jd _,Jr (Jf 9 9),[]⟩;rw[V1 hs];exact bdNew.szk (by decide) hs _ (by simp[Jc,Jd]))
 have w3:CallR Tryz.prog 15 [.agg [.int .i64 (Jd ⟨80,[],[],0,0⟩).a.port,.str (Jd ⟨80,[],[],0,0⟩).a.host,.str (Jd ⟨80,[],[],0,0⟩).a.path,.int .i64 (Jd ⟨80,[],[],0,0⟩).a.first,.int .i64 (Jd ⟨80,[],[],0,0⟩).a.other,.int .i64 (Jd ⟨80,[],[],0,0⟩).stage,.int .i64 (Jd ⟨80,[],[],0,0⟩).id,.str (Jd ⟨80,[],[],0,0⟩).route,.str (Jd ⟨80,[],[],0,0⟩).cluster,.int .i64 (Jd ⟨80,[],[],0,0⟩).out.what,.str (Jd ⟨80,[],[],0,0⟩).out.cluster,.int .i64 (Jd ⟨80,[],[],0,0⟩).out.host],.agg [.int .i64 (Jf 9 9).epoch,.int .i64 (Jf 9 9).turn,.bool (Jf 9 9).up,.int .i64 (Jf 9 9).in'.last.a0,.int .i64 (Jf 9 9).in'.last.a1,.int .i64 (Jf 9 9).in'.last.a2,.int .i64 (Jf 9 9).in'.last.a3,.int .i64 (Jf 9 9).in'.max,.int .i64 (Jf 9 9).errs.a0,.int .i64 (Jf 9 9).errs.a1,.int .i64 (Jf 9 9).errs.a2,.int .i64 (Jf 9 9).errs.a3,.int .i64 (Jf 9 9).w.c.cap,.slice false (Ja (Jf 9 9).w.c.l),.bool (Jf 9 9).w.ready,.slice false (Ja (Jf 9 9).w.shown),.int .i64 (Jf 9 9).p.next',.slice false (Ja (Jf 9 9).p.snaps)]] (.val (.tup [.agg [.int .i64 (Jg (Jd ⟨80,[],[],0,0⟩) (Jf 9 9)).req.a.port,.str (Jg (Jd ⟨80,[],[],0,0⟩) (Jf 9 9)).req.a.host,.str (Jg (Jd ⟨80,[],[],0,0⟩) (Jf 9 9)).req.a.path,.int .i64 (Jg (Jd ⟨80,[],[],0,0⟩) (Jf 9 9)).req.a.first,.int .i64 (Jg (Jd ⟨80,[],[],0,0⟩) (Jf 9 9)).req.a.other,.int .i64 (Jg (Jd ⟨80,[],[],0,0⟩) (Jf 9 9)).req.stage,.int .i64 (Jg (Jd ⟨80,[],[],0,0⟩) (Jf 9 9)).req.id,.str (Jg (Jd ⟨80,[],[],0,0⟩) (Jf 9 9)).req.route,.str (Jg (Jd ⟨80,[],[],0,0⟩) (Jf 9 9)).req.cluster,.int .i64 (Jg (Jd ⟨80,[],[],0,0⟩) (Jf 9 9)).req.out.what,.str (Jg (Jd ⟨80,[],[],0,0⟩) (Jf 9 9)).req.out.cluster,.int .i64 (Jg (Jd ⟨80,[],[],0,0⟩) (Jf 9 9)).req.out.host],.agg [.int .i64 (Jg (Jd ⟨80,[],[],0,0⟩) (Jf 9 9)).side.epoch,.int .i64 (Jg (Jd ⟨80,[],[],0,0⟩) (Jf 9 9)).side.turn,.bool (Jg (Jd ⟨80,[],[],0,0⟩) (Jf 9 9)).side.up,.int .i64 (Jg (Jd ⟨80,[],[],0,0⟩) (Jf 9 9)).side.in'.last.a0,.int .i64 (Jg (Jd ⟨80,[],[],0,0⟩) (Jf 9 9)).side.in'.last.a1,.int .i64 (Jg (Jd ⟨80,[],[],0,0⟩) (Jf 9 9)).side.in'.last.a2,.int .i64 (Jg (Jd ⟨80,[],[],0,0⟩) (Jf 9 9)).side.in'.last.a3,.int .i64 (Jg (Jd ⟨80,[],[],0,0⟩) (Jf 9 9)).side.in'.max,.int .i64 (Jg (Jd ⟨80,[],[],0,0⟩) (Jf 9 9)).side.errs.a0,.int .i64 (Jg (Jd ⟨80,[],[],0,0⟩) (Jf 9 9)).side.errs.a1,.int .i64 (Jg (Jd ⟨80,[],[],0,0⟩) (Jf 9 9)).side.errs.a2,.int .i64 (Jg (Jd ⟨80,[],[],0,0⟩) (Jf 9 9)).side.errs.a3,.int .i64 (Jg (Jd ⟨80,[],[],0,0⟩) (Jf 9 9)).side.w.c.cap,.slice false (Ja (Jg (Jd ⟨80,[],[],0,0⟩) (Jf 9 9)).side.w.c.l),.bool (Jg (Jd ⟨80,[],[],0,0⟩) (Jf 9 9)).side.w.ready,.slice false (Ja (Jg (Jd ⟨80,[],[],0,0⟩) (Jf 9 9)).side.w.shown),.int .i64 (Jg (Jd ⟨80,[],[],0,0⟩) (Jf 9 9)).side.p.next',.slice false (Ja (Jg (Jd ⟨80,[],[],0,0⟩) (Jf 9 9)).side.p.snaps)],.slice false (Ja (Jg (Jd ⟨80,[],[],0,0⟩) (Jf 9 9)).told)])):=w3
 rw[JmY] at w3
 have w4:=Jj4 80 [] [] 0 0 5 0 [] [] 0 [] 0
 rw[show JP ⟨⟨80,[],[],0,0⟩,5,0,[],[],⟨0,[],0⟩⟩=⟨⟨80,[],[],0,0⟩,5,0,[],[],⟨0,[],0⟩⟩ from JeL rfl (Int.le_refl 0)] at w4
 have w5:=Jdw (Jf 9 9).epoch (Jf 9 9).turn (Jf 9 9).up (Jf 9 9).in'.last.a0 (Jf 9 9).in'.last.a1 (Jf 9 9).in'.last.a2 (Jf 9 9).in'.last.a3 (Jf 9 9).in'.max (Jf 9 9).errs.a0 (Jf 9 9).errs.a1 (Jf 9 9).errs.a2 (Jf 9 9).errs.a3 (Jf 9 9).w.c.cap (Jf 9 9).w.c.l (Jf 9 9).w.ready (Jf 9 9).w.shown (Jf 9 9).p.next' (Jf 9 9).p.snaps (bdNew.sz (by decide))
 have w5:CallR Tryz.prog 12 [.agg [.int .i64 (Jf 9 9).epoch,.int .i64 (Jf 9 9).turn,.bool (Jf 9 9).up,.int .i64 (Jf 9 9).in'.last.a0,.int .i64 (Jf 9 9).in'.last.a1,.int .i64 (Jf 9 9).in'.last.a2,.int .i64 (Jf 9 9).in'.last.a3,.int .i64 (Jf 9 9).in'.max,.int .i64 (Jf 9 9).errs.a0,.int .i64 (Jf 9 9).errs.a1,.int .i64 (Jf 9 9).errs.a2,.int .i64 (Jf 9 9).errs.a3,.int .i64 (Jf 9 9).w.c.cap,.slice false (Ja (Jf 9 9).w.c.l),.bool (Jf 9 9).w.ready,.slice false (Ja (Jf 9 9).w.shown),.int .i64 (Jf 9 9).p.next',.slice false (Ja (Jf 9 9).p.snaps)]] (.val (.bool (JR (Jf 9 9)))):=w5
 rw[hs] at w5
 have w6:=JjL 80 [] [] 0 0 5 0 [] [] 0 [] 0
 rw[show Jbx ⟨⟨80,[],[],0,0⟩,5,0,[],[],⟨0,[],0⟩⟩=true by decide] at w6
 clear hs
 unfold Jd at w2 w3
 generalize Jf 9 9=n9 at *
 refine GO0 Tryz.call8 Tryz.func8 rfl Tryz.ntmps8 Tryz.results8 fun ts hn=>?_
 (repeat' (first
 | (with_reducible first|refine callX.by (w1) ?_|refine callX.by (w2) ?_|refine callX.by (w3) ?_|refine callX.by (w4) ?_|refine callX.by (w5) ?_|refine callX.by (w6) ?_|assumption|(refine Qw hK _ ?_;clear hK K)|refine Qw ‹_› _ ?_|refine Qx ‹_› ?_|refine Qi fun K hK=>?_|refine Qj T fun K hK=>?_|refine Qk (id:=2) T mixed [([7],[9,6,11,12,13,2,3]),([8],[9,11,12,13,2,3]),([9],[7,8,11,12,13,2,3]),([10],[2,3]),([6],[7,2,3]),([11],[7,8,9,12,13,2,3]),([12],[7,8,9,11,13,2,3]),([13],[7,8,9,11,12,2,3]),([2],[7,8,9,10,6,11,12,13,3]),([3],[7,8,9,10,6,11,12,13,2]),([2],[12,13]),([3],[13])] (by kernel_rfl) fun K hK=>?_|refine Ql fun A B hA hB=>?_|refine Qn ?_|refine Qr ?_)
 |(with_reducible first|apply Qy|apply Qz|apply QA)<;>intro hb<;>try simp only[nr] at hb
 |simp only[go_sem,↓reduceIte,Qa,Qh,Qb,Qc,Qd,Qe,Qf,Qg,reduceCtorEq, *,-w1,-w2,-w3,-w4,-w5,-w6,J8,List.length_nil]
 |intro(bn:Bool) hbn))
theorem Jru(l:List Res)(a:Ask):YE l (VI l a)=true:=by
 unfold VI
 cases ZN l a.port with
 |none=>simp[YE]
 |some x =>
  simp only
  cases V0 l x.to' a.host a.path with
  |none=>simp[YE]
  |some r =>
   simp only
   cases Yz r.split a.first with
   |none=>simp[YE]
   |some c =>
    simp only
    cases e:Yc (Vo l c).1 a.other with
    |none=>simp[YE]
    |some h =>
     have hm:h∈(Vo l c).1:=List.mem_of_getElem? e
     have h2:(Vo l c).2=true:=by
      revert hm
      unfold Vo
      cases JM l ⟨2,c⟩ with
      |none=>simp
      |some x =>
       simp only
       cases JM l ⟨3,x.to'⟩<;>simp
     unfold YE
     rw[if_neg (by simp),if_pos rfl,h2,Bool.true_and,List.any_eq_true]
     exact⟨h,hm,by simp⟩
@[go_sem] def Jfh:List (List Nat×List Nat):=[([31],[33,34,35,36,37,38,39,40,41,42,43,44,45,46]),([32],[33,34,35,36,37,38,39,40,41,42,43,44,45,46]),([33],[31,32,35,37,38,39,40,41,42,43,44,45,46,47]),([34],[31,32,35,38,39,40,41,42,43,44,45,46,47]),([35],[31,32,33,34,38,39,40,41,42,43,44,45,46,47]),([36],[31,32,39,40,41,42,43,44,45,46,47]),([37],[31,32,33,39,40,41,42,43,44,46,47]),([38],[31,32,33,34,35,39,40,41,42,43,44,47]),([39],[31,32,33,34,35,36,37,38,41,43,44,45,46,47]),([40],[31,32,33,34,35,36,37,38,41,44,45,46,47]),([41],[31,32,33,34,35,36,37,38,39,40,44,45,46,47]),([42],[31,32,33,34,35,36,37,38,45,46,47]),([43],[31,32,33,34,35,36,37,38,39,46,47]),([44],[31,32,33,34,35,36,37,38,39,40,41,47]),([45],[31,32,33,34,35,36,39,40,41,42]),([46],[31,32,33,34,35,36,37,39,40,41,42,43]),([47],[33,34,35,36,37,38,39,40,41,42,43,44])]
@[go_sem] def JbM:List (List Nat×List Nat):=[([49],[51,48,53,54,55,11,12]),([50],[51,53,54,55,11,12]),([51],[49,50,53,54,55,11,12]),([52],[11,12]),([48],[49,11,12]),([53],[49,50,51,54,55,11,12]),([54],[49,50,51,53,55,11,12]),([55],[49,50,51,53,54,11,12]),([11],[49,50,51,52,48,53,54,55,12]),([12],[49,50,51,52,48,53,54,55,11]),([11],[54,55]),([12],[55])]
@[go_sem] def JbN:List (List Nat×List Nat):=[([73],[74,75,76,77,78,80,81,82,15]),([74],[73,75,78,79,72,80,81,82,15]),([75],[73,74,78,79,72,80,81,82,15]),([76],[73,79,72,80,81,82,15]),([77],[73,72,80,81,82,15]),([78],[73,74,75,80,81,82,15]),([79],[74,75,76,15]),([72],[74,75,76,77,15]),([80],[73,74,75,76,77,78,81,82,15]),([81],[73,74,75,76,77,78,80,82,15]),([82],[73,74,75,76,77,78,80,81,15,16]),([15],[73,74,75,76,77,78,79,72,80,81,82]),([15],[81,82]),([16],[82])]
@[go_sem] def JbO:List (List Nat×List Nat):=[([112],[118,119,120,121,122,123,124,125,126,127,128,129,130,131,132,133,134,135,136,137,138,139]),([113],[119,120,121,122,123,124,125,126,127,128,129,130,131,132,133,134,135,136,137,138,139]),([114],[117,119,120,121,122,123,124,125,126,127,128,129,130,131,132,133,134,135,136,137,138,139]),([115],[121,122,123,124,125,126,127,130,131,132,133,134,135,136,137,138,139]),([116],[119,120,121,122,123,124,125,126,127,128,129,130,131,132,133,134,135,136,137,138,139]),([117],[114,121,122,123,124,125,126,127,130,131,132,133,134,135,136,137,138,139]),([118],[112,131,132,133,134,135,136,137,138,139]),([119],[112,113,114,116,129,130,131,132,133,134,135,136,137,138,139]),([120],[112,113,114,116,131,132,133,134,135,136,137,138,139]),([121],[112,113,114,115,116,117,123,124,125,126,128,129,130,131,132,133,134,135,136,137,138,139]),([122],[112,113,114,115,116,117,123,124,125,126,129,130,131,132,133,134,135,136,137,138,139]),([123],[112,113,114,115,116,117,121,122,124,125,128,129,131,132,133,134,135,136,137,138,139]),([124],[112,113,114,115,116,117,121,122,123,125,128,129,131,132,133,134,135,136,137,138,139]),([125],[112,113,114,115,116,117,121,122,123,124,128,129,131,132,133,134,135,136,137,138,139]),([126],[112,113,114,115,116,117,121,122,129,136,137,138,139]),([127],[112,113,114,115,116,117,130,131,132,133,134,135,136,137,138,139]),([128],[112,113,114,116,121,123,124,125,131,132,133,134,135,136,137,138,139]),([129],[112,113,114,116,119,121,122,123,124,125,126,136,137,138,139]),([130],[112,113,114,115,116,117,119,121,122,127,137,138,139]),([131],[112,113,114,115,116,117,118,119,120,121,122,123,124,125,127,128,132,133,137,138,139]),([132],[112,113,114,115,116,117,118,119,120,121,122,123,124,125,127,128,131,135,136,137,138,139]),([133],[112,113,114,115,116,117,118,119,120,121,122,123,124,125,127,128,131,137,138,139]),([134],[112,113,114,115,116,117,118,119,120,121,122,123,124,125,127,128]),([135],[112,113,114,115,116,117,118,119,120,121,122,123,124,125,127,128,132]),([136],[112,113,114,115,116,117,118,119,120,121,122,123,124,125,126,127,128,129,132]),([137],[112,113,114,115,116,117,118,119,120,121,122,123,124,125,126,127,128,129,130,131,132,133]),([138],[112,113,114,115,116,117,118,119,120,121,122,123,124,125,126,127,128,129,130,131,132,133]),([139],[112,113,114,115,116,117,118,119,120,121,122,123,124,125,126,127,128,129,130,131,132,133])]
theorem Jp6(KH Kv:Int)(Kw Ku KJ:Int)(f_adds:List Res)(f_gone:List Key)(K6:Int)(f_have:List Mark)(f_held:List Key)(hl:Jc f_have.length):CallR Tryz.prog 28 [.agg [.int .i64 KH,.int .i64 Kv,.int .i64 Kw,.int .i64 Ku,.int .i64 KJ,.slice false (Ja f_adds),.slice false (Ja f_gone),.int .i64 K6,.slice false (Ja f_have),.slice false (Ja f_held)]] (.val (.agg [.int .i64 KH,.int .i64 Kv,.int .i64 Kw,.int .i64 Ku,.int .i64 KJ,.slice false (Ja f_adds),.slice false (Ja f_gone),.int .i64 K6,.slice false (Ja f_have),.slice false (Ja f_held)])):=by
 refine Jl Tryz.call28 Tryz.func28 rfl Tryz.ntmps28 Tryz.results28 fun ts hn h0=>?_
 (repeat' (first
 | (with_reducible first|assumption|(refine Qw hK _ ?_;clear hK K)|refine Qw ‹_› _ ?_|refine Qx ‹_› ?_|refine Qi fun K hK=>?_|refine Qj T fun K hK=>?_|refine Qk (id:=5) T mixed Jfh (by kernel_rfl) fun K hK=>?_|refine Ql fun A B hA hB=>?_|refine Qm ?_|refine Qn ?_|refine Qp ?_|refine Qr ?_)
 |(with_reducible first|apply Qy|apply Qz|apply QA)<;>intro hb<;>try simp only[nr] at hb
 |simp only[go_sem,↓reduceIte,Qa,Qh,Qb,Qc,Qd,Qe,Qf,Qg,reduceCtorEq, *]
 |intro(bn:Bool) hbn))
 refine SpecC.ent (Ent.virtB 47 3 8 3 (cs:=[.int .i64 KH,.int .i64 Kv,.int .i64 Kw,.int .i64 Ku,.int .i64 KJ,.slice false (Ja f_adds),.slice false (Ja f_gone),.int .i64 K6,.slice true [],.slice false (Ja f_held)]) (by simp only[go_sem,↓reduceIte,Qa,Qh,Qb,Qc,Qd,Qe,Qf,Qg,reduceCtorEq, *,Ob.box?]) (by decide) rfl (by decide)) ?_
 refine Qs [1,2] (fun m ts'=>∃(i:Nat),∃(g:Nat),m=f_have.length-i∧i≤f_have.length∧ts'.tmp 3=.ref 3 (ts.gen 3+1) 0∧ts'.gen 3=ts.gen 3+1∧ts'.obj 3=.box [.int .i64 KH,.int .i64 Kv,.int .i64 Kw,.int .i64 Ku,.int .i64 KJ,.slice false (Ja f_adds),.slice false (Ja f_gone),.int .i64 K6,.os 47 g i,.slice false (Ja f_held)]∧ts'.gen 47=g∧ts'.obj 47=.arr 3 (Ja (f_have.take i))∧ts'.tmp 4=.int .i64 i) f_have.length ?_ ?_
 ·refine⟨0,ts.gen 47+1,rfl,Nat.zero_le _,?_⟩
  simp only[go_sem,↓reduceIte,Qa,Qh,Qb,Qc,Qd,Qe,Qf,Qg,reduceCtorEq, *,J8,List.take_zero,List.set]
 ·rintro m A hM ts' hk ⟨i,g,hm,f1,s1,s2,s3,s4,s5,s6⟩
  simp only[go_sem,↓reduceIte,Qa,Qh,Qb,Qc,Qd,Qe,Qf,Qg,reduceCtorEq, *] at hk
  have hlen:(f_have.take i).length=i:=by rw[List.length_take];omega
  have htk:(f_have.take i).take i=f_have.take i:=by rw[List.take_take,Nat.min_self]
  have hr1:VC (i+1) 32:=Jbz (by unfold Jc at hl;omega) (by decide)
  by_cases hlt:i<f_have.length
  ·have e:=List.take_succ_eq_append_getElem hlt
   (repeat' (first
 | (with_reducible first|assumption|(refine Qw hK _ ?_;clear hK K)|refine Qw ‹_› _ ?_|refine Qx ‹_› ?_|refine Qi fun K hK=>?_|refine Qj T fun K hK=>?_|refine Qk (id:=5) T mixed Jfh (by kernel_rfl) fun K hK=>?_|refine Ql fun A B hA hB=>?_|refine Qm ?_|refine Qn ?_|refine Qp ?_|refine Qr ?_)
 |(with_reducible first|apply Qy|apply Qz|apply QA)<;>intro hb<;>try simp only[nr] at hb
 |simp only[go_sem,↓reduceIte,Qa,Qh,Qb,Qc,Qd,Qe,Qf,Qg,reduceCtorEq, *,-e]
 |intro(bn:Bool) hbn))
   all_goals ((repeat clear hK);(repeat clear hA);(repeat clear hB))
   (refine hM.on (f_have.length-(i+1)) (by omega) (by simp only[go_sem,↓reduceIte,Qa,Qh,Qb,Qc,Qd,Qe,Qf,Qg,reduceCtorEq, *,Jh hlt hl,e,Jkl]) ⟨i+1,ts'.gen 47+1,rfl,by omega,?_⟩;simp only[go_sem,↓reduceIte,Qa,Qh,Qb,Qc,Qd,Qe,Qf,Qg,reduceCtorEq, *,Jh hlt hl,e,Jkl];done)
  ·have hi2:i=f_have.length:=by omega
   (repeat' (first
 | (with_reducible first|assumption|(refine Qw hK _ ?_;clear hK K)|refine Qw ‹_› _ ?_|refine Qx ‹_› ?_|refine Qi fun K hK=>?_|refine Qj T fun K hK=>?_|refine Qk (id:=5) T mixed Jfh (by kernel_rfl) fun K hK=>?_|refine Ql fun A B hA hB=>?_|refine Qm ?_|refine Qn ?_|refine Qp ?_|refine Qr ?_)
 |(with_reducible first|apply Qy|apply Qz|apply QA)<;>intro hb<;>try simp only[nr] at hb
 |simp only[go_sem,↓reduceIte,Qa,Qh,Qb,Qc,Qd,Qe,Qf,Qg,reduceCtorEq, *,Nat.lt_irrefl,List.take_length]
 |intro(bn:Bool) hbn))
theorem Jp3(Kn Ko:Int)(KR:Bool)(Ka Kb:Int)(Kc Kd:Int)(Km Kh:Int)(Ki Kj:Int)(Kk Kf:Int)(s_w_c_l:List Res)(Kg:Bool)(Ke:List Res)(Kl:Int)(s_p_snaps:List Snap)(Lc:Int)(a_host Lb:List UInt8)(KZ K4:Int)(xs:List Frame)(hw:JaW ⟨⟨Kf,s_w_c_l⟩,Kg,Ke⟩)(hl:Jc s_p_snaps.length)(hs:∀x∈s_p_snaps,Yt x)(hxl:Jc xs.length)(hxs:∀x∈xs,V5 x):CallR Tryz.prog 7 [.agg [.int .i64 Kn,.int .i64 Ko,.bool KR,.int .i64 Ka,.int .i64 Kb,.int .i64 Kc,.int .i64 Kd,.int .i64 Km,.int .i64 Kh,.int .i64 Ki,.int .i64 Kj,.int .i64 Kk,.int .i64 Kf,.slice false (Ja s_w_c_l),.bool Kg,.slice false (Ja Ke),.int .i64 Kl,.slice false (Ja s_p_snaps)],.agg [.int .i64 Lc,.str a_host,.str Lb,.int .i64 KZ,.int .i64 K4],.slice false (Ja xs)] (.val (.bool true)):=by
 have w0:=JmZ
 have w1:=JnK Lc a_host Lb KZ K4 0 0 [] [] 0 [] 0 Kn Ko KR Ka Kb Kc Kd Km Kh Ki Kj Kk Kf s_w_c_l Kg Ke Kl s_p_snaps hw hl hs
 have w2:=Jqc Kn Ko KR Ka Kb Kc Kd Km Kh Ki Kj Kk Kf s_w_c_l Kg Ke Kl s_p_snaps hl
 have w3:Ja6 (⟨Kn,Ko,KR,⟨⟨Ka,Kb,Kc,Kd⟩,Km⟩,⟨Kh,Ki,Kj,Kk⟩,⟨⟨Kf,s_w_c_l⟩,Kg,Ke⟩,⟨Kl,s_p_snaps⟩⟩:Side)=true→CallR Tryz.prog 12 [.agg [.int .i64 Kn,.int .i64 Ko,.bool KR,.int .i64 Ka,.int .i64 Kb,.int .i64 Kc,.int .i64 Kd,.int .i64 Km,.int .i64 Kh,.int .i64 Ki,.int .i64 Kj,.int .i64 Kk,.int .i64 Kf,.slice false (Ja s_w_c_l),.bool Kg,.slice false (Ja Ke),.int .i64 Kl,.slice false (Ja s_p_snaps)]] (.val (.bool (JR (⟨Kn,Ko,KR,⟨⟨Ka,Kb,Kc,Kd⟩,Km⟩,⟨Kh,Ki,Kj,Kk⟩,⟨⟨Kf,s_w_c_l⟩,Kg,Ke⟩,⟨Kl,s_p_snaps⟩⟩:Side)))):=fun h=>Jdw Kn Ko KR Ka Kb Kc Kd Km Kh Ki Kj Kk Kf s_w_c_l Kg Ke Kl s_p_snaps ((Jh2 h hw hs).sz (by decide))
 by_cases hall:Z7 ⟨(⟨Lc,a_host,Lb,KZ,K4⟩:Ask),0,0,[],[],⟨0,[],0⟩⟩ (⟨Kn,Ko,KR,⟨⟨Ka,Kb,Kc,Kd⟩,Km⟩,⟨Kh,Ki,Kj,Kk⟩,⟨⟨Kf,s_w_c_l⟩,Kg,Ke⟩,⟨Kl,s_p_snaps⟩⟩:Side)=true∧¬8<xs.length∧JR (⟨Kn,Ko,KR,⟨⟨Ka,Kb,Kc,Kd⟩,Km⟩,⟨Kh,Ki,Kj,Kk⟩,⟨⟨Kf,s_w_c_l⟩,Kg,Ke⟩,⟨Kl,s_p_snaps⟩⟩:Side)=true
 rotate_left
 ·have hd:Z7 ⟨(⟨Lc,a_host,Lb,KZ,K4⟩:Ask),0,0,[],[],⟨0,[],0⟩⟩ (⟨Kn,Ko,KR,⟨⟨Ka,Kb,Kc,Kd⟩,Km⟩,⟨Kh,Ki,Kj,Kk⟩,⟨⟨Kf,s_w_c_l⟩,Kg,Ke⟩,⟨Kl,s_p_snaps⟩⟩:Side)=false∨(Z7 ⟨(⟨Lc,a_host,Lb,KZ,K4⟩:Ask),0,0,[],[],⟨0,[],0⟩⟩ (⟨Kn,Ko,KR,⟨⟨Ka,Kb,Kc,Kd⟩,Km⟩,⟨Kh,Ki,Kj,Kk⟩,⟨⟨Kf,s_w_c_l⟩,Kg,Ke⟩,⟨Kl,s_p_snaps⟩⟩:Side)=true∧8<xs.length)∨(Z7 ⟨(⟨Lc,a_host,Lb,KZ,K4⟩:Ask),0,0,[],[],⟨0,[],0⟩⟩ (⟨Kn,Ko,KR,⟨⟨Ka,Kb,Kc,Kd⟩,Km⟩,⟨Kh,Ki,Kj,Kk⟩,⟨⟨Kf,s_w_c_l⟩,Kg,Ke⟩,⟨Kl,s_p_snaps⟩⟩:Side)=true∧¬8<xs.length∧JR (⟨Kn,Ko,KR,⟨⟨Ka,Kb,Kc,Kd⟩,Km⟩,⟨Kh,Ki,Kj,Kk⟩,⟨⟨Kf,s_w_c_l⟩,Kg,Ke⟩,⟨Kl,s_p_snaps⟩⟩:Side)=false):=by
   by_cases a1:Z7 ⟨(⟨Lc,a_host,Lb,KZ,K4⟩:Ask),0,0,[],[],⟨0,[],0⟩⟩ (⟨Kn,Ko,KR,⟨⟨Ka,Kb,Kc,Kd⟩,Km⟩,⟨Kh,Ki,Kj,Kk⟩,⟨⟨Kf,s_w_c_l⟩,Kg,Ke⟩,⟨Kl,s_p_snaps⟩⟩:Side)=true
   ·by_cases a2:8<xs.length
    ·exact .inr (.inl ⟨a1,a2⟩)
    ·exact .inr (.inr ⟨a1,a2,Bool.eq_false_iff.2 fun h=>hall ⟨a1,a2,h⟩⟩)
   ·exact .inl (Bool.eq_false_iff.2 a1)
  clear hall
  rcases hd with hd|⟨hd,h8⟩|⟨hd,h8,hn⟩<;>rw[hd] at w1
  have h8i:=trivial
  have w3:=trivial
  rotate_left
  have h8i:(8:Int)<(xs.length:Int):=by omega
  have w3:=trivial
  rotate_left
  have h8i:¬(8:Int)<(xs.length:Int):=by omega
  have w3:=w3 (by unfold Z7 at hd;simp only[Bool.and_eq_true] at hd;exact hd.1)
  rw[hn] at w3
  rotate_left
  all_goals
   clear hw hl hs hxl hxs hd
   refine J1 Tryz.call7 Tryz.func7 rfl Tryz.ntmps7 Tryz.results7 fun ts hn h0 h1 h2=>?_
   (repeat' (first
 | (with_reducible first|refine callX.by (w0) ?_|refine callX.by (w1) ?_|refine callX.by (w2) ?_|refine callX.by (w3) ?_|assumption|(refine Qw hK _ ?_;clear hK K)|refine Qw ‹_› _ ?_|refine Qx ‹_› ?_|refine Qi fun K hK=>?_|refine Qj T fun K hK=>?_|refine Qk (id:=6) T mixed JbM (by kernel_rfl) fun K hK=>?_|refine Qk (id:=12) T mixed JbN (by kernel_rfl) fun K hK=>?_|refine Qk (id:=22) T mixed JbO (by kernel_rfl) fun K hK=>?_|refine Ql fun A B hA hB=>?_|refine Qm ?_|refine Qn ?_|refine Qp ?_|refine Qr ?_)
 |(with_reducible first|apply Qy|apply Qz|apply QA)<;>intro hb<;>try simp only[nr] at hb
 |simp only[go_sem,↓reduceIte,Qa,Qh,Qb,Qc,Qd,Qe,Qf,Qg,reduceCtorEq, *,-w0,-w1,-w2,-w3]
 |intro(bn:Bool) hbn))
 obtain⟨hfew,h8,hsn⟩:=hall
 have h8i:¬(8:Int)<(xs.length:Int):=by omega
 rw[hfew] at w1
 unfold Z7 at hfew
 simp only[Bool.and_eq_true,decide_eq_true_eq] at hfew
 have w3:=w3 hfew.1
 rw[hsn] at w3
 have hb:=Jh2 hfew.1 hw hs
 have hh:Jc a_host.length:=by have:=hfew.2.1.1.1;unfold Jc;omega
 clear hfew
 obtain⟨id,x,hI,hx⟩:=Jpf hsn hb (⟨Lc,a_host,Lb,KZ,K4⟩:Ask)
 have w4:=JfS Lc a_host Lb KZ K4
 have w5:=JgH (Jd (⟨Lc,a_host,Lb,KZ,K4⟩:Ask)).a.port (Jd (⟨Lc,a_host,Lb,KZ,K4⟩:Ask)).a.host (Jd (⟨Lc,a_host,Lb,KZ,K4⟩:Ask)).a.path (Jd (⟨Lc,a_host,Lb,KZ,K4⟩:Ask)).a.first (Jd (⟨Lc,a_host,Lb,KZ,K4⟩:Ask)).a.other (Jd (⟨Lc,a_host,Lb,KZ,K4⟩:Ask)).stage (Jd (⟨Lc,a_host,Lb,KZ,K4⟩:Ask)).id (Jd (⟨Lc,a_host,Lb,KZ,K4⟩:Ask)).route (Jd (⟨Lc,a_host,Lb,KZ,K4⟩:Ask)).cluster (Jd (⟨Lc,a_host,Lb,KZ,K4⟩:Ask)).out.what (Jd (⟨Lc,a_host,Lb,KZ,K4⟩:Ask)).out.cluster (Jd (⟨Lc,a_host,Lb,KZ,K4⟩:Ask)).out.host Kn Ko KR Ka Kb Kc Kd Km Kh Ki Kj Kk Kf s_w_c_l Kg Ke Kl s_p_snaps (hb.sz (by decide)) (by
  show SzK ⟨JP (Jd (⟨Lc,a_host,Lb,KZ,K4⟩:Ask)),Jr (⟨Kn,Ko,KR,⟨⟨Ka,Kb,Kc,Kd⟩,Km⟩,⟨Kh,Ki,Kj,Kk⟩,⟨⟨Kf,s_w_c_l⟩,Kg,Ke⟩,⟨Kl,s_p_snaps⟩⟩:Side),[]⟩
  rw[Jdp,V1 hsn]
  exact hb.szk (by decide) hsn _ hh)
 have w5:CallR Tryz.prog 15 [.agg [.int .i64 (Jd (⟨Lc,a_host,Lb,KZ,K4⟩:Ask)).a.port,.str (Jd (⟨Lc,a_host,Lb,KZ,K4⟩:Ask)).a.host,.str (Jd (⟨Lc,a_host,Lb,KZ,K4⟩:Ask)).a.path,.int .i64 (Jd (⟨Lc,a_host,Lb,KZ,K4⟩:Ask)).a.first,.int .i64 (Jd (⟨Lc,a_host,Lb,KZ,K4⟩:Ask)).a.other,.int .i64 (Jd (⟨Lc,a_host,Lb,KZ,K4⟩:Ask)).stage,.int .i64 (Jd (⟨Lc,a_host,Lb,KZ,K4⟩:Ask)).id,.str (Jd (⟨Lc,a_host,Lb,KZ,K4⟩:Ask)).route,.str (Jd (⟨Lc,a_host,Lb,KZ,K4⟩:Ask)).cluster,.int .i64 (Jd (⟨Lc,a_host,Lb,KZ,K4⟩:Ask)).out.what,.str (Jd (⟨Lc,a_host,Lb,KZ,K4⟩:Ask)).out.cluster,.int .i64 (Jd (⟨Lc,a_host,Lb,KZ,K4⟩:Ask)).out.host],.agg [.int .i64 Kn,.int .i64 Ko,.bool KR,.int .i64 Ka,.int .i64 Kb,.int .i64 Kc,.int .i64 Kd,.int .i64 Km,.int .i64 Kh,.int .i64 Ki,.int .i64 Kj,.int .i64 Kk,.int .i64 Kf,.slice false (Ja s_w_c_l),.bool Kg,.slice false (Ja Ke),.int .i64 Kl,.slice false (Ja s_p_snaps)]] (.val (.tup [.agg [.int .i64 (Jg (Jd (⟨Lc,a_host,Lb,KZ,K4⟩:Ask)) (⟨Kn,Ko,KR,⟨⟨Ka,Kb,Kc,Kd⟩,Km⟩,⟨Kh,Ki,Kj,Kk⟩,⟨⟨Kf,s_w_c_l⟩,Kg,Ke⟩,⟨Kl,s_p_snaps⟩⟩:Side)).req.a.port,.str (Jg (Jd (⟨Lc,a_host,Lb,KZ,K4⟩:Ask)) (⟨Kn,Ko,KR,⟨⟨Ka,Kb,Kc,Kd⟩,Km⟩,⟨Kh,Ki,Kj,Kk⟩,⟨⟨Kf,s_w_c_l⟩,Kg,Ke⟩,⟨Kl,s_p_snaps⟩⟩:Side)).req.a.host,.str (Jg (Jd (⟨Lc,a_host,Lb,KZ,K4⟩:Ask)) (⟨Kn,Ko,KR,⟨⟨Ka,Kb,Kc,Kd⟩,Km⟩,⟨Kh,Ki,Kj,Kk⟩,⟨⟨Kf,s_w_c_l⟩,Kg,Ke⟩,⟨Kl,s_p_snaps⟩⟩:Side)).req.a.path,.int .i64 (Jg (Jd (⟨Lc,a_host,Lb,KZ,K4⟩:Ask)) (⟨Kn,Ko,KR,⟨⟨Ka,Kb,Kc,Kd⟩,Km⟩,⟨Kh,Ki,Kj,Kk⟩,⟨⟨Kf,s_w_c_l⟩,Kg,Ke⟩,⟨Kl,s_p_snaps⟩⟩:Side)).req.a.first,.int .i64 (Jg (Jd (⟨Lc,a_host,Lb,KZ,K4⟩:Ask)) (⟨Kn,Ko,KR,⟨⟨Ka,Kb,Kc,Kd⟩,Km⟩,⟨Kh,Ki,Kj,Kk⟩,⟨⟨Kf,s_w_c_l⟩,Kg,Ke⟩,⟨Kl,s_p_snaps⟩⟩:Side)).req.a.other,.int .i64 (Jg (Jd (⟨Lc,a_host,Lb,KZ,K4⟩:Ask)) (⟨Kn,Ko,KR,⟨⟨Ka,Kb,Kc,Kd⟩,Km⟩,⟨Kh,Ki,Kj,Kk⟩,⟨⟨Kf,s_w_c_l⟩,Kg,Ke⟩,⟨Kl,s_p_snaps⟩⟩:Side)).req.stage,.int .i64 (Jg (Jd (⟨Lc,a_host,Lb,KZ,K4⟩:Ask)) (⟨Kn,Ko,KR,⟨⟨Ka,Kb,Kc,Kd⟩,Km⟩,⟨Kh,Ki,Kj,Kk⟩,⟨⟨Kf,s_w_c_l⟩,Kg,Ke⟩,⟨Kl,s_p_snaps⟩⟩:Side)).req.id,.str (Jg (Jd (⟨Lc,a_host,Lb,KZ,K4⟩:Ask)) (⟨Kn,Ko,KR,⟨⟨Ka,Kb,Kc,Kd⟩,Km⟩,⟨Kh,Ki,Kj,Kk⟩,⟨⟨Kf,s_w_c_l⟩,Kg,Ke⟩,⟨Kl,s_p_snaps⟩⟩:Side)).req.route,.str (Jg (Jd (⟨Lc,a_host,Lb,KZ,K4⟩:Ask)) (⟨Kn,Ko,KR,⟨⟨Ka,Kb,Kc,Kd⟩,Km⟩,⟨Kh,Ki,Kj,Kk⟩,⟨⟨Kf,s_w_c_l⟩,Kg,Ke⟩,⟨Kl,s_p_snaps⟩⟩:Side)).req.cluster,.int .i64 (Jg (Jd (⟨Lc,a_host,Lb,KZ,K4⟩:Ask)) (⟨Kn,Ko,KR,⟨⟨Ka,Kb,Kc,Kd⟩,Km⟩,⟨Kh,Ki,Kj,Kk⟩,⟨⟨Kf,s_w_c_l⟩,Kg,Ke⟩,⟨Kl,s_p_snaps⟩⟩:Side)).req.out.what,.str (Jg (Jd (⟨Lc,a_host,Lb,KZ,K4⟩:Ask)) (⟨Kn,Ko,KR,⟨⟨Ka,Kb,Kc,Kd⟩,Km⟩,⟨Kh,Ki,Kj,Kk⟩,⟨⟨Kf,s_w_c_l⟩,Kg,Ke⟩,⟨Kl,s_p_snaps⟩⟩:Side)).req.out.cluster,.int .i64 (Jg (Jd (⟨Lc,a_host,Lb,KZ,K4⟩:Ask)) (⟨Kn,Ko,KR,⟨⟨Ka,Kb,Kc,Kd⟩,Km⟩,⟨Kh,Ki,Kj,Kk⟩,⟨⟨Kf,s_w_c_l⟩,Kg,Ke⟩,⟨Kl,s_p_snaps⟩⟩:Side)).req.out.host],.agg [.int .i64 (Jg (Jd (⟨Lc,a_host,Lb,KZ,K4⟩:Ask)) (⟨Kn,Ko,KR,⟨⟨Ka,Kb,Kc,Kd⟩,Km⟩,⟨Kh,Ki,Kj,Kk⟩,⟨⟨Kf,s_w_c_l⟩,Kg,Ke⟩,⟨Kl,s_p_snaps⟩⟩:Side)).side.epoch,.int .i64 (Jg (Jd (⟨Lc,a_host,Lb,KZ,K4⟩:Ask)) (⟨Kn,Ko,KR,⟨⟨Ka,Kb,Kc,Kd⟩,Km⟩,⟨Kh,Ki,Kj,Kk⟩,⟨⟨Kf,s_w_c_l⟩,Kg,Ke⟩,⟨Kl,s_p_snaps⟩⟩:Side)).side.turn,.bool (Jg (Jd (⟨Lc,a_host,Lb,KZ,K4⟩:Ask)) (⟨Kn,Ko,KR,⟨⟨Ka,Kb,Kc,Kd⟩,Km⟩,⟨Kh,Ki,Kj,Kk⟩,⟨⟨Kf,s_w_c_l⟩,Kg,Ke⟩,⟨Kl,s_p_snaps⟩⟩:Side)).side.up,.int .i64 (Jg (Jd (⟨Lc,a_host,Lb,KZ,K4⟩:Ask)) (⟨Kn,Ko,KR,⟨⟨Ka,Kb,Kc,Kd⟩,Km⟩,⟨Kh,Ki,Kj,Kk⟩,⟨⟨Kf,s_w_c_l⟩,Kg,Ke⟩,⟨Kl,s_p_snaps⟩⟩:Side)).side.in'.last.a0,.int .i64 (Jg (Jd (⟨Lc,a_host,Lb,KZ,K4⟩:Ask)) (⟨Kn,Ko,KR,⟨⟨Ka,Kb,Kc,Kd⟩,Km⟩,⟨Kh,Ki,Kj,Kk⟩,⟨⟨Kf,s_w_c_l⟩,Kg,Ke⟩,⟨Kl,s_p_snaps⟩⟩:Side)).side.in'.last.a1,.int .i64 (Jg (Jd (⟨Lc,a_host,Lb,KZ,K4⟩:Ask)) (⟨Kn,Ko,KR,⟨⟨Ka,Kb,Kc,Kd⟩,Km⟩,⟨Kh,Ki,Kj,Kk⟩,⟨⟨Kf,s_w_c_l⟩,Kg,Ke⟩,⟨Kl,s_p_snaps⟩⟩:Side)).side.in'.last.a2,.int .i64 (Jg (Jd (⟨Lc,a_host,Lb,KZ,K4⟩:Ask)) (⟨Kn,Ko,KR,⟨⟨Ka,Kb,Kc,Kd⟩,Km⟩,⟨Kh,Ki,Kj,Kk⟩,⟨⟨Kf,s_w_c_l⟩,Kg,Ke⟩,⟨Kl,s_p_snaps⟩⟩:Side)).side.in'.last.a3,.int .i64 (Jg (Jd (⟨Lc,a_host,Lb,KZ,K4⟩:Ask)) (⟨Kn,Ko,KR,⟨⟨Ka,Kb,Kc,Kd⟩,Km⟩,⟨Kh,Ki,Kj,Kk⟩,⟨⟨Kf,s_w_c_l⟩,Kg,Ke⟩,⟨Kl,s_p_snaps⟩⟩:Side)).side.in'.max,.int .i64 (Jg (Jd (⟨Lc,a_host,Lb,KZ,K4⟩:Ask)) (⟨Kn,Ko,KR,⟨⟨Ka,Kb,Kc,Kd⟩,Km⟩,⟨Kh,Ki,Kj,Kk⟩,⟨⟨Kf,s_w_c_l⟩,Kg,Ke⟩,⟨Kl,s_p_snaps⟩⟩:Side)).side.errs.a0,.int .i64 (Jg (Jd (⟨Lc,a_host,Lb,KZ,K4⟩:Ask)) (⟨Kn,Ko,KR,⟨⟨Ka,Kb,Kc,Kd⟩,Km⟩,⟨Kh,Ki,Kj,Kk⟩,⟨⟨Kf,s_w_c_l⟩,Kg,Ke⟩,⟨Kl,s_p_snaps⟩⟩:Side)).side.errs.a1,.int .i64 (Jg (Jd (⟨Lc,a_host,Lb,KZ,K4⟩:Ask)) (⟨Kn,Ko,KR,⟨⟨Ka,Kb,Kc,Kd⟩,Km⟩,⟨Kh,Ki,Kj,Kk⟩,⟨⟨Kf,s_w_c_l⟩,Kg,Ke⟩,⟨Kl,s_p_snaps⟩⟩:Side)).side.errs.a2,.int .i64 (Jg (Jd (⟨Lc,a_host,Lb,KZ,K4⟩:Ask)) (⟨Kn,Ko,KR,⟨⟨Ka,Kb,Kc,Kd⟩,Km⟩,⟨Kh,Ki,Kj,Kk⟩,⟨⟨Kf,s_w_c_l⟩,Kg,Ke⟩,⟨Kl,s_p_snaps⟩⟩:Side)).side.errs.a3,.int .i64 (Jg (Jd (⟨Lc,a_host,Lb,KZ,K4⟩:Ask)) (⟨Kn,Ko,KR,⟨⟨Ka,Kb,Kc,Kd⟩,Km⟩,⟨Kh,Ki,Kj,Kk⟩,⟨⟨Kf,s_w_c_l⟩,Kg,Ke⟩,⟨Kl,s_p_snaps⟩⟩:Side)).side.w.c.cap,.slice false (Ja (Jg (Jd (⟨Lc,a_host,Lb,KZ,K4⟩:Ask)) (⟨Kn,Ko,KR,⟨⟨Ka,Kb,Kc,Kd⟩,Km⟩,⟨Kh,Ki,Kj,Kk⟩,⟨⟨Kf,s_w_c_l⟩,Kg,Ke⟩,⟨Kl,s_p_snaps⟩⟩:Side)).side.w.c.l),.bool (Jg (Jd (⟨Lc,a_host,Lb,KZ,K4⟩:Ask)) (⟨Kn,Ko,KR,⟨⟨Ka,Kb,Kc,Kd⟩,Km⟩,⟨Kh,Ki,Kj,Kk⟩,⟨⟨Kf,s_w_c_l⟩,Kg,Ke⟩,⟨Kl,s_p_snaps⟩⟩:Side)).side.w.ready,.slice false (Ja (Jg (Jd (⟨Lc,a_host,Lb,KZ,K4⟩:Ask)) (⟨Kn,Ko,KR,⟨⟨Ka,Kb,Kc,Kd⟩,Km⟩,⟨Kh,Ki,Kj,Kk⟩,⟨⟨Kf,s_w_c_l⟩,Kg,Ke⟩,⟨Kl,s_p_snaps⟩⟩:Side)).side.w.shown),.int .i64 (Jg (Jd (⟨Lc,a_host,Lb,KZ,K4⟩:Ask)) (⟨Kn,Ko,KR,⟨⟨Ka,Kb,Kc,Kd⟩,Km⟩,⟨Kh,Ki,Kj,Kk⟩,⟨⟨Kf,s_w_c_l⟩,Kg,Ke⟩,⟨Kl,s_p_snaps⟩⟩:Side)).side.p.next',.slice false (Ja (Jg (Jd (⟨Lc,a_host,Lb,KZ,K4⟩:Ask)) (⟨Kn,Ko,KR,⟨⟨Ka,Kb,Kc,Kd⟩,Km⟩,⟨Kh,Ki,Kj,Kk⟩,⟨⟨Kf,s_w_c_l⟩,Kg,Ke⟩,⟨Kl,s_p_snaps⟩⟩:Side)).side.p.snaps)],.slice false (Ja (Jg (Jd (⟨Lc,a_host,Lb,KZ,K4⟩:Ask)) (⟨Kn,Ko,KR,⟨⟨Ka,Kb,Kc,Kd⟩,Km⟩,⟨Kh,Ki,Kj,Kk⟩,⟨⟨Kf,s_w_c_l⟩,Kg,Ke⟩,⟨Kl,s_p_snaps⟩⟩:Side)).told)])):=w5
 have w6:=JqE Kn Ko KR Ka Kb Kc Kd Km Kh Ki Kj Kk Kf s_w_c_l Kg Ke Kl s_p_snaps (hb.sz (by decide))
 rw[V1 hsn] at w6
 simp only at w6
 obtain⟨c1,c2⟩:=Jjn (hb.p.sz (by decide))
 simp only at c1 c2 hI hx
 have hwi:YE (JI ⟨Kl,s_p_snaps⟩).2.1 x=true:=by
  rcases hx with ⟨e,-⟩|⟨e,-⟩
  ·rw[e];exact Jru _ _
  ·rw[e];simp[YE]
 have key:(∀x∈s_p_snaps,x.pins<10000)→CallR Tryz.prog 24 [.slice false (Ja (JI ⟨Kl,s_p_snaps⟩).2.1),.bool (JI ⟨Kl,s_p_snaps⟩).2.2,.agg [.int .i64 Lc,.str a_host,.str Lb,.int .i64 KZ,.int .i64 K4]] (.val (.agg [.int .i64 x.what,.str x.cluster,.int .i64 x.host])):=fun hp=>by
  rcases hx with ⟨e1,e2⟩|⟨e1,e2⟩
  ·have w7:=JmK (JI ⟨Kl,s_p_snaps⟩).2.1 Lc a_host Lb KZ K4 c1 c2 hh
   rw[←e1] at w7
   rw[e2]
   exact w7
  ·have e2:=e2 hp
   rw[e2,e1]
   exact JmL [] Lc a_host Lb KZ K4
 clear hx
 generalize (Jg (Jd (⟨Lc,a_host,Lb,KZ,K4⟩:Ask)) (⟨Kn,Ko,KR,⟨⟨Ka,Kb,Kc,Kd⟩,Km⟩,⟨Kh,Ki,Kj,Kk⟩,⟨⟨Kf,s_w_c_l⟩,Kg,Ke⟩,⟨Kl,s_p_snaps⟩⟩:Side)).told=l0 at *
 generalize (Jg (Jd (⟨Lc,a_host,Lb,KZ,K4⟩:Ask)) (⟨Kn,Ko,KR,⟨⟨Ka,Kb,Kc,Kd⟩,Km⟩,⟨Kh,Ki,Kj,Kk⟩,⟨⟨Kf,s_w_c_l⟩,Kg,Ke⟩,⟨Kl,s_p_snaps⟩⟩:Side)).side=t0 at *
 generalize (Jg (Jd (⟨Lc,a_host,Lb,KZ,K4⟩:Ask)) (⟨Kn,Ko,KR,⟨⟨Ka,Kb,Kc,Kd⟩,Km⟩,⟨Kh,Ki,Kj,Kk⟩,⟨⟨Kf,s_w_c_l⟩,Kg,Ke⟩,⟨Kl,s_p_snaps⟩⟩:Side)).req=r0 at *
 unfold Jd at w4 w5
 simp only at w4 w5
 clear hw hs hb hsn
 generalize JI ⟨Kl,s_p_snaps⟩=cur at *
 refine J1 Tryz.call7 Tryz.func7 rfl Tryz.ntmps7 Tryz.results7 fun ts hn h0 h1 h2=>?_
 (repeat' (first
 | (with_reducible first|refine callX.by (w0) ?_|refine callX.by (w1) ?_|refine callX.by (w2) ?_|refine callX.by (w3) ?_|refine callX.by (w4) ?_|refine callX.by (w5) ?_|refine callX.by (w6) ?_|assumption|(refine Qw hK _ ?_;clear hK K)|refine Qw ‹_› _ ?_|refine Qx ‹_› ?_|refine Qi fun K hK=>?_|refine Qj T fun K hK=>?_|refine Qk (id:=6) T mixed JbM (by kernel_rfl) fun K hK=>?_|refine Qk (id:=12) T mixed JbN (by kernel_rfl) fun K hK=>?_|refine Qk (id:=22) T mixed JbO (by kernel_rfl) fun K hK=>?_|refine Ql fun A B hA hB=>?_|refine Qm ?_|refine Qn ?_|refine Qp ?_|refine Qr ?_)
 |(with_reducible first|apply Qy|apply Qz|apply QA)<;>intro hb<;>try simp only[nr] at hb
 |simp only[go_sem,↓reduceIte,Qa,Qh,Qb,Qc,Qd,Qe,Qf,Qg,reduceCtorEq, *,-w0,-w1,-w2,-w3,-w4,-w5,-w6,-hI,-hwi,-key,-hxs,-c1,-c2]
 |intro(bn:Bool) hbn))
 clear w0 w1 w2 w3 w4 w5 w6 h8i
 refine Qs [2,3,4,7,9,10] (fun m ts'=>∃(i:Nat),∃(r:Req),∃(t:Side),m=5-i∧i≤5∧OneI (⟨Lc,a_host,Lb,KZ,K4⟩:Ask) id cur.2.1 x (i+1) r t (20+i)∧ts'.tmp 14=.int .i64 i∧ts'.tmp 8=.ref 8 (ts.gen 8+1) 0∧ts'.gen 8=ts.gen 8+1∧ts'.obj 8=.box [.int .i64 t.epoch,.int .i64 t.turn,.bool t.up,.int .i64 t.in'.last.a0,.int .i64 t.in'.last.a1,.int .i64 t.in'.last.a2,.int .i64 t.in'.last.a3,.int .i64 t.in'.max,.int .i64 t.errs.a0,.int .i64 t.errs.a1,.int .i64 t.errs.a2,.int .i64 t.errs.a3,.int .i64 t.w.c.cap,.slice false (Ja t.w.c.l),.bool t.w.ready,.slice false (Ja t.w.shown),.int .i64 t.p.next',.slice false (Ja t.p.snaps)]∧ts'.tmp 11=.ref 11 (ts.gen 11+1) 0∧ts'.gen 11=ts.gen 11+1∧ts'.obj 11=.box [.int .i64 r.a.port,.str r.a.host,.str r.a.path,.int .i64 r.a.first,.int .i64 r.a.other,.int .i64 r.stage,.int .i64 r.id,.str r.route,.str r.cluster,.int .i64 r.out.what,.str r.out.cluster,.int .i64 r.out.host]) 5 ?_ ?_
 ·refine⟨0,r0,t0,rfl,Nat.zero_le _,hI,?_⟩
  simp only[go_sem,↓reduceIte,Qa,Qh,Qb,Qc,Qd,Qe,Qf,Qg,reduceCtorEq, *,-hI,-hwi,-key,-hxs]
 ·clear hI
  rintro m A hM ts' hk ⟨i,r,t,hm,f1,f2,s1,s2,s3,s4,s5,s6,s7⟩
  simp only[go_sem,↓reduceIte,Qa,Qh,Qb,Qc,Qd,Qe,Qf,Qg,reduceCtorEq, *] at hk
  have hi0:(0:Int)≤(i:Int):=by omega
  by_cases hlt:i<5
  ·have hlti:(i:Int)<5:=by omega
   have hi65:IntKind.i64.wrap ((i:Int)+1)=((i+1:Nat):Int):=by rw[show((i:Int)+1)=((i+1:Nat):Int) by omega];exact IntWalk.i64_in _ (by omega)
   by_cases hin:i<xs.length
   have hf:=hxs _ (List.getElem_mem hin)
   have w7:=JnH xs[i].type xs[i].epoch xs[i].kind xs[i].nonce xs[i].turn xs[i].adds xs[i].gone xs[i].err xs[i].have' xs[i].held hf
   have w7:CallR Tryz.prog 26 [.agg [.int .i64 xs[i].type,.int .i64 xs[i].epoch,.int .i64 xs[i].kind,.int .i64 xs[i].nonce,.int .i64 xs[i].turn,.slice false (Ja xs[i].adds),.slice false (Ja xs[i].gone),.int .i64 xs[i].err,.slice false (Ja xs[i].have'),.slice false (Ja xs[i].held)]] (.val (.bool (JbZ xs[i]))):=w7
   by_cases hfe:JbZ xs[i]=true
   rw[hfe] at w7
   have ha80:xs[i].adds.length≤80:=by
    unfold JbZ V7 at hfe
    simp only[Bool.and_eq_true,decide_eq_true_eq] at hfe
    exact hfe.2.1.1.1.2
   have w8:=Jp6 xs[i].type xs[i].epoch xs[i].kind xs[i].nonce xs[i].turn xs[i].adds xs[i].gone xs[i].err xs[i].have' xs[i].held hf.2.2.2.2.1
   obtain⟨p1,p2⟩:=Jn3 f2.bd (by omega) (f:=xs[i]) hf.2.1 ha80
   have w9:=Jn1 t.epoch t.turn t.up t.in'.last.a0 t.in'.last.a1 t.in'.last.a2 t.in'.last.a3 t.in'.max t.errs.a0 t.errs.a1 t.errs.a2 t.errs.a3 t.w.c.cap t.w.c.l t.w.ready t.w.shown t.p.next' t.p.snaps xs[i].type xs[i].epoch xs[i].kind xs[i].nonce xs[i].turn xs[i].adds xs[i].gone xs[i].err xs[i].have' xs[i].held (f2.bd.sz (by omega)) hf p1 p2
   have w9:CallR Tryz.prog 27 [.agg [.int .i64 t.epoch,.int .i64 t.turn,.bool t.up,.int .i64 t.in'.last.a0,.int .i64 t.in'.last.a1,.int .i64 t.in'.last.a2,.int .i64 t.in'.last.a3,.int .i64 t.in'.max,.int .i64 t.errs.a0,.int .i64 t.errs.a1,.int .i64 t.errs.a2,.int .i64 t.errs.a3,.int .i64 t.w.c.cap,.slice false (Ja t.w.c.l),.bool t.w.ready,.slice false (Ja t.w.shown),.int .i64 t.p.next',.slice false (Ja t.p.snaps)],.agg [.int .i64 xs[i].type,.int .i64 xs[i].epoch,.int .i64 xs[i].kind,.int .i64 xs[i].nonce,.int .i64 xs[i].turn,.slice false (Ja xs[i].adds),.slice false (Ja xs[i].gone),.int .i64 xs[i].err,.slice false (Ja xs[i].have'),.slice false (Ja xs[i].held)]] (.val (.tup [.agg [.int .i64 (JB t xs[i]).1.epoch,.int .i64 (JB t xs[i]).1.turn,.bool (JB t xs[i]).1.up,.int .i64 (JB t xs[i]).1.in'.last.a0,.int .i64 (JB t xs[i]).1.in'.last.a1,.int .i64 (JB t xs[i]).1.in'.last.a2,.int .i64 (JB t xs[i]).1.in'.last.a3,.int .i64 (JB t xs[i]).1.in'.max,.int .i64 (JB t xs[i]).1.errs.a0,.int .i64 (JB t xs[i]).1.errs.a1,.int .i64 (JB t xs[i]).1.errs.a2,.int .i64 (JB t xs[i]).1.errs.a3,.int .i64 (JB t xs[i]).1.w.c.cap,.slice false (Ja (JB t xs[i]).1.w.c.l),.bool (JB t xs[i]).1.w.ready,.slice false (Ja (JB t xs[i]).1.w.shown),.int .i64 (JB t xs[i]).1.p.next',.slice false (Ja (JB t xs[i]).1.p.snaps)],.slice false (Ja (JB t xs[i]).2.1),.int .i64 (JB t xs[i]).2.2])):=w9
   have hO:=f2.handle (f:=xs[i]) hf.2.1
   clear hf ha80 p1 p2 hfe
   generalize (JB t xs[i]).2.2=e9 at *
   generalize (JB t xs[i]).2.1=l9 at *
   generalize (JB t xs[i]).1=t1 at *
   rotate_left
   rw[show JbZ xs[i]=false by simpa using hfe] at w7
   have w8:=trivial
   have w9:=trivial
   have hO:=f2.mono (m:=20+i+1) (by omega)
   clear hf hfe
   generalize t=t1 at *
   rotate_left
   have w7:=trivial
   have w8:=trivial
   have w9:=trivial
   have hO:=f2.mono (m:=20+i+1) (by omega)
   generalize t=t1 at *
   rotate_left
   all_goals
    have w10:=JgH r.a.port r.a.host r.a.path r.a.first r.a.other r.stage r.id r.route r.cluster r.out.what r.out.cluster r.out.host t1.epoch t1.turn t1.up t1.in'.last.a0 t1.in'.last.a1 t1.in'.last.a2 t1.in'.last.a3 t1.in'.max t1.errs.a0 t1.errs.a1 t1.errs.a2 t1.errs.a3 t1.w.c.cap t1.w.c.l t1.w.ready t1.w.shown t1.p.next' t1.p.snaps (hO.bd.sz (by omega)) (hO.szk (by omega) hh)
    have w10:CallR Tryz.prog 15 [.agg [.int .i64 r.a.port,.str r.a.host,.str r.a.path,.int .i64 r.a.first,.int .i64 r.a.other,.int .i64 r.stage,.int .i64 r.id,.str r.route,.str r.cluster,.int .i64 r.out.what,.str r.out.cluster,.int .i64 r.out.host],.agg [.int .i64 t1.epoch,.int .i64 t1.turn,.bool t1.up,.int .i64 t1.in'.last.a0,.int .i64 t1.in'.last.a1,.int .i64 t1.in'.last.a2,.int .i64 t1.in'.last.a3,.int .i64 t1.in'.max,.int .i64 t1.errs.a0,.int .i64 t1.errs.a1,.int .i64 t1.errs.a2,.int .i64 t1.errs.a3,.int .i64 t1.w.c.cap,.slice false (Ja t1.w.c.l),.bool t1.w.ready,.slice false (Ja t1.w.shown),.int .i64 t1.p.next',.slice false (Ja t1.p.snaps)]] (.val (.tup [.agg [.int .i64 (Jg r t1).req.a.port,.str (Jg r t1).req.a.host,.str (Jg r t1).req.a.path,.int .i64 (Jg r t1).req.a.first,.int .i64 (Jg r t1).req.a.other,.int .i64 (Jg r t1).req.stage,.int .i64 (Jg r t1).req.id,.str (Jg r t1).req.route,.str (Jg r t1).req.cluster,.int .i64 (Jg r t1).req.out.what,.str (Jg r t1).req.out.cluster,.int .i64 (Jg r t1).req.out.host],.agg [.int .i64 (Jg r t1).side.epoch,.int .i64 (Jg r t1).side.turn,.bool (Jg r t1).side.up,.int .i64 (Jg r t1).side.in'.last.a0,.int .i64 (Jg r t1).side.in'.last.a1,.int .i64 (Jg r t1).side.in'.last.a2,.int .i64 (Jg r t1).side.in'.last.a3,.int .i64 (Jg r t1).side.in'.max,.int .i64 (Jg r t1).side.errs.a0,.int .i64 (Jg r t1).side.errs.a1,.int .i64 (Jg r t1).side.errs.a2,.int .i64 (Jg r t1).side.errs.a3,.int .i64 (Jg r t1).side.w.c.cap,.slice false (Ja (Jg r t1).side.w.c.l),.bool (Jg r t1).side.w.ready,.slice false (Ja (Jg r t1).side.w.shown),.int .i64 (Jg r t1).side.p.next',.slice false (Ja (Jg r t1).side.p.snaps)],.slice false (Ja (Jg r t1).told)])):=w10
    have hN:=hO.step
    clear f2 hO
    generalize (Jg r t1).told=l1 at *
    generalize (Jg r t1).side=t2 at *
    generalize (Jg r t1).req=r2 at *
    (repeat' (first
 | (with_reducible first|refine callX.by (w7) ?_|refine callX.by (w8) ?_|refine callX.by (w9) ?_|refine callX.by (w10) ?_|assumption|(refine Qw hK _ ?_;clear hK K)|refine Qw ‹_› _ ?_|refine Qx ‹_› ?_|refine Qi fun K hK=>?_|refine Qj T fun K hK=>?_|refine Qk (id:=6) T mixed JbM (by kernel_rfl) fun K hK=>?_|refine Qk (id:=12) T mixed JbN (by kernel_rfl) fun K hK=>?_|refine Qk (id:=22) T mixed JbO (by kernel_rfl) fun K hK=>?_|refine Ql fun A B hA hB=>?_|refine Qm ?_|refine Qn ?_|refine Qp ?_|refine Qr ?_)
 |(with_reducible first|apply Qy|apply Qz|apply QA)<;>intro hb<;>try simp only[nr] at hb
 |simp only[go_sem,↓reduceIte,Qa,Qh,Qb,Qc,Qd,Qe,Qf,Qg,reduceCtorEq, *,-w7,-w8,-w9,-w10,-hN,-hwi,-key,-hxs,-c1,-c2]
 |intro(bn:Bool) hbn))
    all_goals ((repeat clear hK);(repeat clear hA);(repeat clear hB))
    (refine hM.on (5-(i+1)) (by omega) (by simp only[go_sem,↓reduceIte,Qa,Qh,Qb,Qc,Qd,Qe,Qf,Qg,reduceCtorEq, *,hi65,-w7,-w8,-w9,-w10,-hN,-hwi,-key,-hxs,-c1,-c2]) ⟨i+1,r2,t2,rfl,by omega,hN,?_⟩;simp only[go_sem,↓reduceIte,Qa,Qh,Qb,Qc,Qd,Qe,Qf,Qg,reduceCtorEq, *,hi65,-w7,-w8,-w9,-w10,-hN,-hwi,-key,-hxs,-c1,-c2];done)
  ·have hlti:¬(i:Int)<5:=by omega
   obtain⟨q1,q2,q3⟩:r.stage=5∧0≤r.id∧r.out=x:=by
    rcases f2.st with h|⟨h1,h2,h3,-⟩
    ·exact h
    ·omega
   have w1:=Jj4 r.a.port r.a.host r.a.path r.a.first r.a.other r.stage r.id r.route r.cluster r.out.what r.out.cluster r.out.host
   have w1:CallR Tryz.prog 22 [.agg [.int .i64 r.a.port,.str r.a.host,.str r.a.path,.int .i64 r.a.first,.int .i64 r.a.other,.int .i64 r.stage,.int .i64 r.id,.str r.route,.str r.cluster,.int .i64 r.out.what,.str r.out.cluster,.int .i64 r.out.host]] (.val (.bool (!decide ((JP r).stage=5)))):=w1
   rw[show(!decide ((JP r).stage=5))=false by rw[JeL q1 q2,q1];rfl] at w1
   have w2:=Jdw t.epoch t.turn t.up t.in'.last.a0 t.in'.last.a1 t.in'.last.a2 t.in'.last.a3 t.in'.max t.errs.a0 t.errs.a1 t.errs.a2 t.errs.a3 t.w.c.cap t.w.c.l t.w.ready t.w.shown t.p.next' t.p.snaps (f2.bd.sz (by omega))
   have w2:CallR Tryz.prog 12 [.agg [.int .i64 t.epoch,.int .i64 t.turn,.bool t.up,.int .i64 t.in'.last.a0,.int .i64 t.in'.last.a1,.int .i64 t.in'.last.a2,.int .i64 t.in'.last.a3,.int .i64 t.in'.max,.int .i64 t.errs.a0,.int .i64 t.errs.a1,.int .i64 t.errs.a2,.int .i64 t.errs.a3,.int .i64 t.w.c.cap,.slice false (Ja t.w.c.l),.bool t.w.ready,.slice false (Ja t.w.shown),.int .i64 t.p.next',.slice false (Ja t.p.snaps)]] (.val (.bool (JR t))):=w2
   rw[f2.sane] at w2
   have w3:=Jrt cur.2.1 r.out.what r.out.cluster r.out.host c1 c2
   have w3:CallR Tryz.prog 25 [.slice false (Ja cur.2.1),.agg [.int .i64 r.out.what,.str r.out.cluster,.int .i64 r.out.host]] (.val (.bool (YE cur.2.1 r.out))):=w3
   rw[q3,hwi] at w3
   rw[←q3] at key w3
   clear f2 q1 q2 q3 hwi
   (repeat' (first
 | (with_reducible first|assumption|(refine Qw hK _ ?_;clear hK K)|refine Qw ‹_› _ ?_|refine Qx ‹_› ?_|refine Qi fun K hK=>?_|refine Qj T fun K hK=>?_|refine Qk (id:=6) T mixed JbM (by kernel_rfl) fun K hK=>?_|refine Qk (id:=12) T mixed JbN (by kernel_rfl) fun K hK=>?_|refine Qk (id:=22) T mixed JbO (by kernel_rfl) fun K hK=>?_|refine Ql fun A B hA hB=>?_|refine Qm ?_|refine Qn ?_|refine Qp ?_|refine Qr ?_)
 |(with_reducible first|apply Qy|apply Qz|apply QA)<;>intro hb<;>try simp only[nr] at hb
 |simp only[go_sem,↓reduceIte,Qa,Qh,Qb,Qc,Qd,Qe,Qf,Qg,reduceCtorEq, *,-w1,-w2,-w3,-key,-hxs,-c1,-c2]
 |intro(bn:Bool) hbn))
   refine Qs [3,4,7,8,9,10,11] (fun m ts'=>∃(k:Nat),∃(b:Bool),m=s_p_snaps.length-k∧k≤s_p_snaps.length∧(b=false→∀x∈s_p_snaps.take k,x.pins<10000)∧ts'.tmp 21=.bool b∧ts'.tmp 22=.int .i64 k) s_p_snaps.length ?_ ?_
   ·refine⟨0,false,rfl,Nat.zero_le _,fun _=>by simp,?_⟩
    simp only[go_sem,↓reduceIte,Qa,Qh,Qb,Qc,Qd,Qe,Qf,Qg,reduceCtorEq, *,-w1,-w2,-w3,-key,-hxs,-c1,-c2]
   ·clear hM
    rintro m A hM ts' hk ⟨k,b,hm,f1,f2,s1,s2⟩
    simp only[go_sem,↓reduceIte,Qa,Qh,Qb,Qc,Qd,Qe,Qf,Qg,reduceCtorEq, *] at hk
    by_cases hkt:k<s_p_snaps.length
    ·have hn:(b || decide (10000≤s_p_snaps[k].pins))=false→∀x∈s_p_snaps.take (k+1),x.pins<10000:=fun hbb x hx=>by
      rw[Bool.or_eq_false_iff,decide_eq_false_iff_not] at hbb
      rw[List.take_succ_eq_append_getElem hkt] at hx
      rcases List.mem_append.1 hx with hx|hx
      ·exact f2 hbb.1 x hx
      ·rw[List.mem_singleton] at hx
       subst hx
       omega
     cases b
     all_goals
      (repeat' (first
 | (with_reducible first|assumption|(refine Qw hK _ ?_;clear hK K)|refine Qw ‹_› _ ?_|refine Qx ‹_› ?_|refine Qi fun K hK=>?_|refine Qj T fun K hK=>?_|refine Qk (id:=6) T mixed JbM (by kernel_rfl) fun K hK=>?_|refine Qk (id:=12) T mixed JbN (by kernel_rfl) fun K hK=>?_|refine Qk (id:=22) T mixed JbO (by kernel_rfl) fun K hK=>?_|refine Ql fun A B hA hB=>?_|refine Qm ?_|refine Qn ?_|refine Qp ?_|refine Qr ?_)
 |(with_reducible first|apply Qy|apply Qz|apply QA)<;>intro hb<;>try simp only[nr] at hb
 |simp only[go_sem,↓reduceIte,Qa,Qh,Qb,Qc,Qd,Qe,Qf,Qg,reduceCtorEq, *,-w1,-w2,-w3,-key,-hxs,-c1,-c2,-f2,-hn]
 |intro(bn:Bool) hbn))
      all_goals ((repeat clear hK);(repeat clear hA);(repeat clear hB))
      (refine hM.on (s_p_snaps.length-(k+1)) (by omega) (by simp only[go_sem,↓reduceIte,Qa,Qh,Qb,Qc,Qd,Qe,Qf,Qg,reduceCtorEq, *,Jh hkt hl,-w1,-w2,-w3,-key,-hxs,-c1,-c2,-f2,-hn,Bool.false_or,Bool.true_or]) ⟨k+1,_,rfl,by omega,hn,?_⟩;simp only[go_sem,↓reduceIte,Qa,Qh,Qb,Qc,Qd,Qe,Qf,Qg,reduceCtorEq, *,Jh hkt hl,-w1,-w2,-w3,-key,-hxs,-c1,-c2,-f2,-hn,Bool.false_or,Bool.true_or];done)
    ·cases b
     have w4:=key (by rw[←List.take_of_length_le (show s_p_snaps.length≤k by omega)];exact f2 rfl)
     rotate_left
     have w4:=trivial
     all_goals
      clear key f2
      (repeat' (first
 | (with_reducible first|refine callX.by (w1) ?_|refine callX.by (w2) ?_|refine callX.by (w3) ?_|refine callX.by (w4) ?_|assumption|(refine Qw hK _ ?_;clear hK K)|refine Qw ‹_› _ ?_|refine Qx ‹_› ?_|refine Qi fun K hK=>?_|refine Qj T fun K hK=>?_|refine Qk (id:=6) T mixed JbM (by kernel_rfl) fun K hK=>?_|refine Qk (id:=12) T mixed JbN (by kernel_rfl) fun K hK=>?_|refine Qk (id:=22) T mixed JbO (by kernel_rfl) fun K hK=>?_|refine Ql fun A B hA hB=>?_|refine Qm ?_|refine Qn ?_|refine Qp ?_|refine Qr ?_)
 |(with_reducible first|apply Qy|apply Qz|apply QA)<;>intro hb<;>try simp only[nr] at hb
 |simp only[go_sem,↓reduceIte,Qa,Qh,Qb,Qc,Qd,Qe,Qf,Qg,reduceCtorEq, *,-w1,-w2,-w3,-w4,-hxs,-c1,-c2]
 |intro(bn:Bool) hbn))
end Go.Proofs.YthjalhfmpffbjaaGreatDoor.Lg
