/- Parts of the proof, one behind the other. -/
import Derived.Test.YthjalhfmpffbjaaGreatDoorG28
set_option linter.unusedVariables false
set_option linter.unusedSimpArgs false
set_option maxRecDepth 100000
set_option maxHeartbeats 64000000
namespace Go.Proofs.YthjalhfmpffbjaaGreatDoor.Lg
open Go
open Tryz
open Nat renaming reduceEqDiff → Qa, reduceLT → Qb, reduceLeDiff → Qc, reduceAdd → Qd, reduceMul → Qe, reduceSub → Qf, reduceBEq → Qg
open String renaming reduceEq → Qh
open SpecC renaming seqW → Qi, regW → Qj, drawW → Qk, condW → Ql, block → Qm, skip → Qn, exit → Qp, ret → Qr, loopF → Qs
open NxK renaming out → Qw
open Nx renaming out → Qx
open condK renaming split → Qy
open gK renaming split_t → Qz, split_f → QA
theorem Jqu(Lv:Int)(w_c_l:List Res)(Lw:Bool)(w_shown:List Res):CallR prog 40 [.agg [.int .i64 Lv,.slice false (Ja w_c_l),.bool Lw,.slice false (Ja w_shown)]] (.val (.agg [.int .i64 Lv,.slice false (Ja w_c_l),.bool Lw,.slice false (Ja w_shown)])):=by
 refine Jl call40 func40 rfl ntmps40 results40 fun ts hn h0=>?_
 (repeat' (first
 | (with_reducible first|assumption|(refine Qw hK _ ?_;clear hK K)|refine Qw ‹_› _ ?_|refine Qx ‹_› ?_|refine Qi fun K hK=>?_|refine Qj T fun K hK=>?_|refine Ql fun A B hA hB=>?_|refine Qn ?_|refine Qr ?_)
 |(with_reducible first|apply Qy|apply Qz|apply QA)<;>intro hb<;>try simp only[nr] at hb
 |simp only[go_sem,↓reduceIte,Qa,Qh,Qb,Qc,Qd,Qe,Qf,Qg,reduceCtorEq, *]
 |intro(bn:Bool) hbn))
theorem Jqk(next:Int)(xs:List Snap)(hl:Jc xs.length):CallR prog 41 [.agg [.int .i64 next,.slice false (Ja xs)]] (.val (.agg [.int .i64 next,.slice false (Ja xs)])):=by
 refine Jl call41 func41 rfl ntmps41 results41 fun ts hn h0=>?_
 (repeat' (first
 | (with_reducible first|assumption|(refine Qw hK _ ?_;clear hK K)|refine Qw ‹_› _ ?_|refine Qx ‹_› ?_|refine Qi fun K hK=>?_|refine Qj T fun K hK=>?_|refine Ql fun A B hA hB=>?_|refine Qm ?_|refine Qn ?_|refine Qp ?_|refine Qr ?_)
 |(with_reducible first|apply Qy|apply Qz|apply QA)<;>intro hb<;>try simp only[nr] at hb
 |simp only[go_sem,↓reduceIte,Qa,Qh,Qb,Qc,Qd,Qe,Qf,Qg,reduceCtorEq, *]
 |intro(bn:Bool) hbn))
 refine SpecC.ent (Ent.virtB 31 3 1 3 (cs:=[.int .i64 next,.slice true []]) (by simp only[go_sem,↓reduceIte,Qa,Qh,Qb,Qc,Qd,Qe,Qf,Qg,reduceCtorEq, *,Ob.box?]) (by decide) rfl (by decide)) ?_
 refine Qs [1,2] (fun m ts'=>∃(i:Nat),∃(g:Nat),m=xs.length-i∧i≤xs.length∧ts'.tmp 3=.ref 3 (ts.gen 3+1) 0∧ts'.gen 3=ts.gen 3+1∧ts'.obj 3=.box [.int .i64 next,.os 31 g i]∧ts'.gen 31=g∧ts'.obj 31=.arr 3 (Ja (xs.take i))∧ts'.tmp 4=.int .i64 i) xs.length ?_ ?_
 ·refine⟨0,ts.gen 31+1,rfl,Nat.zero_le _,?_⟩
  simp only[go_sem,↓reduceIte,Qa,Qh,Qb,Qc,Qd,Qe,Qf,Qg,reduceCtorEq, *,Vp,List.take_zero,List.set]
 ·rintro m A hM ts' hk ⟨i,g,hm,f1,s1,s2,s3,s4,s5,s6⟩
  simp only[go_sem,↓reduceIte,Qa,Qh,Qb,Qc,Qd,Qe,Qf,Qg,reduceCtorEq, *] at hk
  have hlen:(xs.take i).length=i:=by rw[List.length_take];omega
  have htk:(xs.take i).take i=xs.take i:=by rw[List.take_take,Nat.min_self]
  have hr1:Vt (i+1) 40:=Jbw (by unfold Jc at hl;omega) (by decide)
  by_cases hlt:i<xs.length
  ·have e:=List.take_succ_eq_append_getElem hlt
   (repeat' (first
 | (with_reducible first|assumption|(refine Qw hK _ ?_;clear hK K)|refine Qw ‹_› _ ?_|refine Qx ‹_› ?_|refine Qi fun K hK=>?_|refine Qj T fun K hK=>?_|refine Ql fun A B hA hB=>?_|refine Qm ?_|refine Qn ?_|refine Qp ?_|refine Qr ?_)
 |(with_reducible first|apply Qy|apply Qz|apply QA)<;>intro hb<;>try simp only[nr] at hb
 |simp only[go_sem,↓reduceIte,Qa,Qh,Qb,Qc,Qd,Qe,Qf,Qg,reduceCtorEq, *,-e]
 |intro(bn:Bool) hbn))
   all_goals ((repeat clear hK);(repeat clear hA);(repeat clear hB))
   (refine hM.on (xs.length-(i+1)) (by omega) (by simp only[go_sem,↓reduceIte,Qa,Qh,Qb,Qc,Qd,Qe,Qf,Qg,reduceCtorEq, *,Jg hlt hl,e]) ⟨i+1,ts'.gen 31+1,rfl,by omega,?_⟩;simp only[go_sem,↓reduceIte,Qa,Qh,Qb,Qc,Qd,Qe,Qf,Qg,reduceCtorEq, *,Jg hlt hl,e];done)
  ·have hi2:i=xs.length:=by omega
   (repeat' (first
 | (with_reducible first|assumption|(refine Qw hK _ ?_;clear hK K)|refine Qw ‹_› _ ?_|refine Qx ‹_› ?_|refine Qi fun K hK=>?_|refine Qj T fun K hK=>?_|refine Ql fun A B hA hB=>?_|refine Qm ?_|refine Qn ?_|refine Qp ?_|refine Qr ?_)
 |(with_reducible first|apply Qy|apply Qz|apply QA)<;>intro hb<;>try simp only[nr] at hb
 |simp only[go_sem,↓reduceIte,Qa,Qh,Qb,Qc,Qd,Qe,Qf,Qg,reduceCtorEq, *,Nat.lt_irrefl,List.take_length]
 |intro(bn:Bool) hbn))
theorem Jqm(Kn Ko:Int)(KR:Bool)(Ka Kb:Int)(Kc Kd:Int)(Km Kh:Int)(Ki Kj:Int)(Kk Kf:Int)(s_w_c_l:List Res)(Kg:Bool)(Ke:List Res)(Kl:Int)(s_p_snaps:List Snap)(hl:Jc s_p_snaps.length):CallR prog 13 [.agg [.int .i64 Kn,.int .i64 Ko,.bool KR,.int .i64 Ka,.int .i64 Kb,.int .i64 Kc,.int .i64 Kd,.int .i64 Km,.int .i64 Kh,.int .i64 Ki,.int .i64 Kj,.int .i64 Kk,.int .i64 Kf,.slice false (Ja s_w_c_l),.bool Kg,.slice false (Ja Ke),.int .i64 Kl,.slice false (Ja s_p_snaps)]] (.val (.agg [.int .i64 Kn,.int .i64 Ko,.bool KR,.int .i64 Ka,.int .i64 Kb,.int .i64 Kc,.int .i64 Kd,.int .i64 Km,.int .i64 Kh,.int .i64 Ki,.int .i64 Kj,.int .i64 Kk,.int .i64 Kf,.slice false (Ja s_w_c_l),.bool Kg,.slice false (Ja Ke),.int .i64 Kl,.slice false (Ja s_p_snaps)])):=by
 have w1:=Jqu Kf s_w_c_l Kg Ke
 have w2:=Jqk Kl s_p_snaps hl
 clear hl
 refine Jl call13 func13 rfl ntmps13 results13 fun ts hn h0=>?_
 (repeat' (first
 | (with_reducible first|refine callX.by (w1) ?_|refine callX.by (w2) ?_|assumption|(refine Qw hK _ ?_;clear hK K)|refine Qw ‹_› _ ?_|refine Qx ‹_› ?_|refine Qi fun K hK=>?_|refine Qj T fun K hK=>?_|refine Qk (id:=1) T mixed [([3],[5,6,7,8,9,10,11,12,13,14,15,16,17,18,19,20,21,22,23]),([4],[5,6,7,8,9,10,11,12,13,14,15,16,17,18,19,20,21,22,23]),([5],[3,4,7,8,9,10,11,12,13,14,15,16,17,18,19,20,21,22,23]),([6],[3,4,7,8,9,10,11,12,13,14,15,16,17,18,19,20,21,22,23]),([7],[3,4,5,6,9,10,11,12,13,14,15,16,17,18,19,20,21,22,23]),([8],[3,4,5,6,9,10,11,12,13,14,15,16,17,18,19,20,21,22,23]),([9],[3,4,5,6,7,8,12,13,14,15,16,17,18,19,20,21,22,23]),([10],[3,4,5,6,7,8,12,13,14,16,17,18,19,20,21,22,23]),([11],[3,4,5,6,7,8,12,13,14,16,17,18,19,20,21,22,23]),([12],[3,4,5,6,7,8,9,10,11,15,16,17,18,19,20,21,22,23]),([13],[3,4,5,6,7,8,9,10,11,16,17,18,19,20,21,22,23]),([14],[3,4,5,6,7,8,9,10,11,16,17,18,19,20,21,22,23]),([15],[3,4,5,6,7,8,9,12,16,17,18,19,20,21,22,23]),([16],[3,4,5,6,7,8,9,10,11,12,13,14,15,18,19,20,21,22,23]),([17],[3,4,5,6,7,8,9,10,11,12,13,14,15,18,19,20,21,22,23]),([18],[3,4,5,6,7,8,9,10,11,12,13,14,15,16,17,21,22,23]),([19],[3,4,5,6,7,8,9,10,11,12,13,14,15,16,17,21,22]),([20],[3,4,5,6,7,8,9,10,11,12,13,14,15,16,17,21,22]),([21],[3,4,5,6,7,8,9,10,11,12,13,14,15,16,17,18,19,20]),([22],[3,4,5,6,7,8,9,10,11,12,13,14,15,16,17,18,19,20]),([23],[3,4,5,6,7,8,9,10,11,12,13,14,15,16,17,18])] (by kernel_rfl) fun K hK=>?_|refine Ql fun A B hA hB=>?_|refine Qn ?_|refine Qr ?_)
 |(with_reducible first|apply Qy|apply Qz|apply QA)<;>intro hb<;>try simp only[nr] at hb
 |simp only[go_sem,↓reduceIte,Qa,Qh,Qb,Qc,Qd,Qe,Qf,Qg,reduceCtorEq, *,-w1,-w2]
 |intro(bn:Bool) hbn))
def Zk(r:Req)(s:Side):Bool:=Ja8 s && (decide (r.a.host.length≤100) && decide (r.a.path.length≤100) && decide (r.route.length≤100) && decide (r.cluster.length≤100))
theorem JnO(Lh:Int)(Ld Lf:List UInt8)(K8 K9:Int)(Ll Ly:Int)(Lk La:List UInt8)(KY:Int)(KF:List UInt8)(KX Kn Ko:Int)(KR:Bool)(Ka Kb:Int)(Kc Kd:Int)(Km Kh:Int)(Ki Kj:Int)(Kk Kf:Int)(s_w_c_l:List Res)(Kg:Bool)(Ke:List Res)(Kl:Int)(s_p_snaps:List Snap)(hw:JaY ⟨⟨Kf,s_w_c_l⟩,Kg,Ke⟩)(hl:Jc s_p_snaps.length)(hs:∀x∈s_p_snaps,Yp x):CallR prog 9 [.agg [.int .i64 Lh,.str Ld,.str Lf,.int .i64 K8,.int .i64 K9,.int .i64 Ll,.int .i64 Ly,.str Lk,.str La,.int .i64 KY,.str KF,.int .i64 KX],.agg [.int .i64 Kn,.int .i64 Ko,.bool KR,.int .i64 Ka,.int .i64 Kb,.int .i64 Kc,.int .i64 Kd,.int .i64 Km,.int .i64 Kh,.int .i64 Ki,.int .i64 Kj,.int .i64 Kk,.int .i64 Kf,.slice false (Ja s_w_c_l),.bool Kg,.slice false (Ja Ke),.int .i64 Kl,.slice false (Ja s_p_snaps)]] (.val (.bool (Zk (⟨⟨Lh,Ld,Lf,K8,K9⟩,Ll,Ly,Lk,La,⟨KY,KF,KX⟩⟩:Req) (⟨Kn,Ko,KR,⟨⟨Ka,Kb,Kc,Kd⟩,Km⟩,⟨Kh,Ki,Kj,Kk⟩,⟨⟨Kf,s_w_c_l⟩,Kg,Ke⟩,⟨Kl,s_p_snaps⟩⟩:Side)))):=by
 have w1:=JnN Kn Ko KR Ka Kb Kc Kd Km Kh Ki Kj Kk Kf s_w_c_l Kg Ke Kl s_p_snaps hw hl hs
 clear hw hl hs
 unfold Zk
 generalize Ja8 (⟨Kn,Ko,KR,⟨⟨Ka,Kb,Kc,Kd⟩,Km⟩,⟨Kh,Ki,Kj,Kk⟩,⟨⟨Kf,s_w_c_l⟩,Kg,Ke⟩,⟨Kl,s_p_snaps⟩⟩:Side)=b at *
 refine Jn call9 func9 rfl ntmps9 results9 fun ts hn h0 h1=>?_
 (repeat' (first
 | (with_reducible first|refine callX.by (w1) ?_|assumption|(refine Qw hK _ ?_;clear hK K)|refine Qw ‹_› _ ?_|refine Qx ‹_› ?_|refine Qi fun K hK=>?_|refine Qj T fun K hK=>?_|refine Ql fun A B hA hB=>?_|refine Qn ?_|refine Qr ?_)
 |(with_reducible first|apply Qy|apply Qz|apply QA)<;>intro hb<;>try simp only[nr] at hb
 |simp only[go_sem,↓reduceIte,Qa,Qh,Qb,Qc,Qd,Qe,Qf,Qg,reduceCtorEq, *,-w1]
 |intro(bn:Bool) hbn))
 all_goals (rw[Bool.eq_iff_iff];simp_all)
 all_goals omega
theorem Jm2:Jh (Je ⟨80,[],[],0,0⟩) (Jf 9 9)=⟨⟨⟨80,[],[],0,0⟩,5,0,[],[],⟨0,[],0⟩⟩,Jf 9 9,[]⟩:=by
 unfold Jh YK
 rw[Jdk,Vy (Jep 9 9),if_pos (show(Je ⟨80,[],[],0,0⟩).stage=0 from rfl)]
 unfold Jao
 simp only
 rw[Vy (Jep 9 9)]
 have e:Vn (Jf 9 9).p=(⟨0,[]⟩,0,10):=by
  unfold Vn
  rw[show(Jf 9 9).p=⟨0,[]⟩ from rfl,Jgp]
  rfl
 rw[e,if_neg (by simp)]
 rfl
theorem bdNew:BdS (Jf 9 9) 0:=⟨by simp[Jf],by simp[Jf],by simp[Jf],by simp[Jf],⟨by simp[Jf],by simp[Jf]⟩⟩
theorem Jm3:CallR prog 8 [] (.val (.bool true)):=by
 have w1:=Jf5 9 9
 have w2:=Jf4 80 [] [] 0 0
 have w2:CallR prog 20 [.agg [.int .i64 80,.str [],.str [],.int .i64 0,.int .i64 0]] (.val (.agg [.int .i64 (Je ⟨80,[],[],0,0⟩).a.port,.str (Je ⟨80,[],[],0,0⟩).a.host,.str (Je ⟨80,[],[],0,0⟩).a.path,.int .i64 (Je ⟨80,[],[],0,0⟩).a.first,.int .i64 (Je ⟨80,[],[],0,0⟩).a.other,.int .i64 (Je ⟨80,[],[],0,0⟩).stage,.int .i64 (Je ⟨80,[],[],0,0⟩).id,.str (Je ⟨80,[],[],0,0⟩).route,.str (Je ⟨80,[],[],0,0⟩).cluster,.int .i64 (Je ⟨80,[],[],0,0⟩).out.what,.str (Je ⟨80,[],[],0,0⟩).out.cluster,.int .i64 (Je ⟨80,[],[],0,0⟩).out.host])):=w2
 have hs:=Jep 9 9
 have w3:=JgR (Je ⟨80,[],[],0,0⟩).a.port (Je ⟨80,[],[],0,0⟩).a.host (Je ⟨80,[],[],0,0⟩).a.path (Je ⟨80,[],[],0,0⟩).a.first (Je ⟨80,[],[],0,0⟩).a.other (Je ⟨80,[],[],0,0⟩).stage (Je ⟨80,[],[],0,0⟩).id (Je ⟨80,[],[],0,0⟩).route (Je ⟨80,[],[],0,0⟩).cluster (Je ⟨80,[],[],0,0⟩).out.what (Je ⟨80,[],[],0,0⟩).out.cluster (Je ⟨80,[],[],0,0⟩).out.host (Jf 9 9).epoch (Jf 9 9).turn (Jf 9 9).up (Jf 9 9).in'.last.a0 (Jf 9 9).in'.last.a1 (Jf 9 9).in'.last.a2 (Jf 9 9).in'.last.a3 (Jf 9 9).in'.max (Jf 9 9).errs.a0 (Jf 9 9).errs.a1 (Jf 9 9).errs.a2 (Jf 9 9).errs.a3 (Jf 9 9).w.c.cap (Jf 9 9).w.c.l (Jf 9 9).w.ready (Jf 9 9).w.shown (Jf 9 9).p.next' (Jf 9 9).p.snaps (bdNew.sz (by decide)) (by rw[show JG (Je ⟨80,[],[],0,0⟩)=Je ⟨80,[],[],0,0⟩ from Jdk _];show SzK ⟨Je _,Jr (Jf 9 9),[]⟩;rw[Vy hs];exact bdNew.szk (by decide) hs _ (by simp[Jc,Je]))
 have w3:CallR prog 15 [.agg [.int .i64 (Je ⟨80,[],[],0,0⟩).a.port,.str (Je ⟨80,[],[],0,0⟩).a.host,.str (Je ⟨80,[],[],0,0⟩).a.path,.int .i64 (Je ⟨80,[],[],0,0⟩).a.first,.int .i64 (Je ⟨80,[],[],0,0⟩).a.other,.int .i64 (Je ⟨80,[],[],0,0⟩).stage,.int .i64 (Je ⟨80,[],[],0,0⟩).id,.str (Je ⟨80,[],[],0,0⟩).route,.str (Je ⟨80,[],[],0,0⟩).cluster,.int .i64 (Je ⟨80,[],[],0,0⟩).out.what,.str (Je ⟨80,[],[],0,0⟩).out.cluster,.int .i64 (Je ⟨80,[],[],0,0⟩).out.host],.agg [.int .i64 (Jf 9 9).epoch,.int .i64 (Jf 9 9).turn,.bool (Jf 9 9).up,.int .i64 (Jf 9 9).in'.last.a0,.int .i64 (Jf 9 9).in'.last.a1,.int .i64 (Jf 9 9).in'.last.a2,.int .i64 (Jf 9 9).in'.last.a3,.int .i64 (Jf 9 9).in'.max,.int .i64 (Jf 9 9).errs.a0,.int .i64 (Jf 9 9).errs.a1,.int .i64 (Jf 9 9).errs.a2,.int .i64 (Jf 9 9).errs.a3,.int .i64 (Jf 9 9).w.c.cap,.slice false (Ja (Jf 9 9).w.c.l),.bool (Jf 9 9).w.ready,.slice false (Ja (Jf 9 9).w.shown),.int .i64 (Jf 9 9).p.next',.slice false (Ja (Jf 9 9).p.snaps)]] (.val (.tup [.agg [.int .i64 (Jh (Je ⟨80,[],[],0,0⟩) (Jf 9 9)).req.a.port,.str (Jh (Je ⟨80,[],[],0,0⟩) (Jf 9 9)).req.a.host,.str (Jh (Je ⟨80,[],[],0,0⟩) (Jf 9 9)).req.a.path,.int .i64 (Jh (Je ⟨80,[],[],0,0⟩) (Jf 9 9)).req.a.first,.int .i64 (Jh (Je ⟨80,[],[],0,0⟩) (Jf 9 9)).req.a.other,.int .i64 (Jh (Je ⟨80,[],[],0,0⟩) (Jf 9 9)).req.stage,.int .i64 (Jh (Je ⟨80,[],[],0,0⟩) (Jf 9 9)).req.id,.str (Jh (Je ⟨80,[],[],0,0⟩) (Jf 9 9)).req.route,.str (Jh (Je ⟨80,[],[],0,0⟩) (Jf 9 9)).req.cluster,.int .i64 (Jh (Je ⟨80,[],[],0,0⟩) (Jf 9 9)).req.out.what,.str (Jh (Je ⟨80,[],[],0,0⟩) (Jf 9 9)).req.out.cluster,.int .i64 (Jh (Je ⟨80,[],[],0,0⟩) (Jf 9 9)).req.out.host],.agg [.int .i64 (Jh (Je ⟨80,[],[],0,0⟩) (Jf 9 9)).side.epoch,.int .i64 (Jh (Je ⟨80,[],[],0,0⟩) (Jf 9 9)).side.turn,.bool (Jh (Je ⟨80,[],[],0,0⟩) (Jf 9 9)).side.up,.int .i64 (Jh (Je ⟨80,[],[],0,0⟩) (Jf 9 9)).side.in'.last.a0,.int .i64 (Jh (Je ⟨80,[],[],0,0⟩) (Jf 9 9)).side.in'.last.a1,.int .i64 (Jh (Je ⟨80,[],[],0,0⟩) (Jf 9 9)).side.in'.last.a2,.int .i64 (Jh (Je ⟨80,[],[],0,0⟩) (Jf 9 9)).side.in'.last.a3,.int .i64 (Jh (Je ⟨80,[],[],0,0⟩) (Jf 9 9)).side.in'.max,.int .i64 (Jh (Je ⟨80,[],[],0,0⟩) (Jf 9 9)).side.errs.a0,.int .i64 (Jh (Je ⟨80,[],[],0,0⟩) (Jf 9 9)).side.errs.a1,.int .i64 (Jh (Je ⟨80,[],[],0,0⟩) (Jf 9 9)).side.errs.a2,.int .i64 (Jh (Je ⟨80,[],[],0,0⟩) (Jf 9 9)).side.errs.a3,.int .i64 (Jh (Je ⟨80,[],[],0,0⟩) (Jf 9 9)).side.w.c.cap,.slice false (Ja (Jh (Je ⟨80,[],[],0,0⟩) (Jf 9 9)).side.w.c.l),.bool (Jh (Je ⟨80,[],[],0,0⟩) (Jf 9 9)).side.w.ready,.slice false (Ja (Jh (Je ⟨80,[],[],0,0⟩) (Jf 9 9)).side.w.shown),.int .i64 (Jh (Je ⟨80,[],[],0,0⟩) (Jf 9 9)).side.p.next',.slice false (Ja (Jh (Je ⟨80,[],[],0,0⟩) (Jf 9 9)).side.p.snaps)],.slice false (Ja (Jh (Je ⟨80,[],[],0,0⟩) (Jf 9 9)).told)])):=w3
 rw[Jm2] at w3
 have w4:=Jdo 80 [] [] 0 0 5 0 [] [] 0 [] 0
 rw[show JG ⟨⟨80,[],[],0,0⟩,5,0,[],[],⟨0,[],0⟩⟩=⟨⟨80,[],[],0,0⟩,5,0,[],[],⟨0,[],0⟩⟩ from Jcs rfl (Int.le_refl 0)] at w4
 have w5:=Je1 (Jf 9 9).epoch (Jf 9 9).turn (Jf 9 9).up (Jf 9 9).in'.last.a0 (Jf 9 9).in'.last.a1 (Jf 9 9).in'.last.a2 (Jf 9 9).in'.last.a3 (Jf 9 9).in'.max (Jf 9 9).errs.a0 (Jf 9 9).errs.a1 (Jf 9 9).errs.a2 (Jf 9 9).errs.a3 (Jf 9 9).w.c.cap (Jf 9 9).w.c.l (Jf 9 9).w.ready (Jf 9 9).w.shown (Jf 9 9).p.next' (Jf 9 9).p.snaps (bdNew.sz (by decide))
 have w5:CallR prog 12 [.agg [.int .i64 (Jf 9 9).epoch,.int .i64 (Jf 9 9).turn,.bool (Jf 9 9).up,.int .i64 (Jf 9 9).in'.last.a0,.int .i64 (Jf 9 9).in'.last.a1,.int .i64 (Jf 9 9).in'.last.a2,.int .i64 (Jf 9 9).in'.last.a3,.int .i64 (Jf 9 9).in'.max,.int .i64 (Jf 9 9).errs.a0,.int .i64 (Jf 9 9).errs.a1,.int .i64 (Jf 9 9).errs.a2,.int .i64 (Jf 9 9).errs.a3,.int .i64 (Jf 9 9).w.c.cap,.slice false (Ja (Jf 9 9).w.c.l),.bool (Jf 9 9).w.ready,.slice false (Ja (Jf 9 9).w.shown),.int .i64 (Jf 9 9).p.next',.slice false (Ja (Jf 9 9).p.snaps)]] (.val (.bool (JK (Jf 9 9)))):=w5
 rw[hs] at w5
 have w6:=JjR 80 [] [] 0 0 5 0 [] [] 0 [] 0
 rw[show Jbv ⟨⟨80,[],[],0,0⟩,5,0,[],[],⟨0,[],0⟩⟩=true by decide] at w6
 clear hs
 unfold Je at w2 w3
 generalize Jf 9 9=n9 at *
 refine GO0 call8 func8 rfl ntmps8 results8 fun ts hn=>?_
 (repeat' (first
 | (with_reducible first|refine callX.by (w1) ?_|refine callX.by (w2) ?_|refine callX.by (w3) ?_|refine callX.by (w4) ?_|refine callX.by (w5) ?_|refine callX.by (w6) ?_|assumption|(refine Qw hK _ ?_;clear hK K)|refine Qw ‹_› _ ?_|refine Qx ‹_› ?_|refine Qi fun K hK=>?_|refine Qj T fun K hK=>?_|refine Qk (id:=2) T mixed [([7],[9,6,11,12,13,2,3]),([8],[9,11,12,13,2,3]),([9],[7,8,11,12,13,2,3]),([10],[2,3]),([6],[7,2,3]),([11],[7,8,9,12,13,2,3]),([12],[7,8,9,11,13,2,3]),([13],[7,8,9,11,12,2,3]),([2],[7,8,9,10,6,11,12,13,3]),([3],[7,8,9,10,6,11,12,13,2]),([2],[12,13]),([3],[13])] (by kernel_rfl) fun K hK=>?_|refine Ql fun A B hA hB=>?_|refine Qn ?_|refine Qr ?_)
 |(with_reducible first|apply Qy|apply Qz|apply QA)<;>intro hb<;>try simp only[nr] at hb
 |simp only[go_sem,↓reduceIte,Qa,Qh,Qb,Qc,Qd,Qe,Qf,Qg,reduceCtorEq, *,-w1,-w2,-w3,-w4,-w5,-w6,Vp,List.length_nil]
 |intro(bn:Bool) hbn))
@[go_sem] def Jfs:List (List Nat×List Nat):=[([31],[33,34,35,36,37,38,39,40,41,42,43,44,45,46]),([32],[33,34,35,36,37,38,39,40,41,42,43,44,45,46]),([33],[31,32,35,37,38,39,40,41,42,43,44,45,46,47]),([34],[31,32,35,38,39,40,41,42,43,44,45,46,47]),([35],[31,32,33,34,38,39,40,41,42,43,44,45,46,47]),([36],[31,32,39,40,41,42,43,44,45,46,47]),([37],[31,32,33,39,40,41,42,43,44,46,47]),([38],[31,32,33,34,35,39,40,41,42,43,44,47]),([39],[31,32,33,34,35,36,37,38,41,43,44,45,46,47]),([40],[31,32,33,34,35,36,37,38,41,44,45,46,47]),([41],[31,32,33,34,35,36,37,38,39,40,44,45,46,47]),([42],[31,32,33,34,35,36,37,38,45,46,47]),([43],[31,32,33,34,35,36,37,38,39,46,47]),([44],[31,32,33,34,35,36,37,38,39,40,41,47]),([45],[31,32,33,34,35,36,39,40,41,42]),([46],[31,32,33,34,35,36,37,39,40,41,42,43]),([47],[33,34,35,36,37,38,39,40,41,42,43,44])]
theorem Jqf(KH Kv:Int)(Kw Ku KJ:Int)(f_adds:List Res)(f_gone:List Key)(K4:Int)(f_have:List Mark)(f_held:List Key)(hl:Jc f_have.length):CallR prog 28 [.agg [.int .i64 KH,.int .i64 Kv,.int .i64 Kw,.int .i64 Ku,.int .i64 KJ,.slice false (Ja f_adds),.slice false (Ja f_gone),.int .i64 K4,.slice false (Ja f_have),.slice false (Ja f_held)]] (.val (.agg [.int .i64 KH,.int .i64 Kv,.int .i64 Kw,.int .i64 Ku,.int .i64 KJ,.slice false (Ja f_adds),.slice false (Ja f_gone),.int .i64 K4,.slice false (Ja f_have),.slice false (Ja f_held)])):=by
 refine Jl call28 func28 rfl ntmps28 results28 fun ts hn h0=>?_
 (repeat' (first
 | (with_reducible first|assumption|(refine Qw hK _ ?_;clear hK K)|refine Qw ‹_› _ ?_|refine Qx ‹_› ?_|refine Qi fun K hK=>?_|refine Qj T fun K hK=>?_|refine Qk (id:=5) T mixed Jfs (by kernel_rfl) fun K hK=>?_|refine Ql fun A B hA hB=>?_|refine Qm ?_|refine Qn ?_|refine Qp ?_|refine Qr ?_)
 |(with_reducible first|apply Qy|apply Qz|apply QA)<;>intro hb<;>try simp only[nr] at hb
 |simp only[go_sem,↓reduceIte,Qa,Qh,Qb,Qc,Qd,Qe,Qf,Qg,reduceCtorEq, *]
 |intro(bn:Bool) hbn))
 refine SpecC.ent (Ent.virtB 47 3 8 3 (cs:=[.int .i64 KH,.int .i64 Kv,.int .i64 Kw,.int .i64 Ku,.int .i64 KJ,.slice false (Ja f_adds),.slice false (Ja f_gone),.int .i64 K4,.slice true [],.slice false (Ja f_held)]) (by simp only[go_sem,↓reduceIte,Qa,Qh,Qb,Qc,Qd,Qe,Qf,Qg,reduceCtorEq, *,Ob.box?]) (by decide) rfl (by decide)) ?_
 refine Qs [1,2] (fun m ts'=>∃(i:Nat),∃(g:Nat),m=f_have.length-i∧i≤f_have.length∧ts'.tmp 3=.ref 3 (ts.gen 3+1) 0∧ts'.gen 3=ts.gen 3+1∧ts'.obj 3=.box [.int .i64 KH,.int .i64 Kv,.int .i64 Kw,.int .i64 Ku,.int .i64 KJ,.slice false (Ja f_adds),.slice false (Ja f_gone),.int .i64 K4,.os 47 g i,.slice false (Ja f_held)]∧ts'.gen 47=g∧ts'.obj 47=.arr 3 (Ja (f_have.take i))∧ts'.tmp 4=.int .i64 i) f_have.length ?_ ?_
 ·refine⟨0,ts.gen 47+1,rfl,Nat.zero_le _,?_⟩
  simp only[go_sem,↓reduceIte,Qa,Qh,Qb,Qc,Qd,Qe,Qf,Qg,reduceCtorEq, *,Vp,List.take_zero,List.set]
 ·rintro m A hM ts' hk ⟨i,g,hm,f1,s1,s2,s3,s4,s5,s6⟩
  simp only[go_sem,↓reduceIte,Qa,Qh,Qb,Qc,Qd,Qe,Qf,Qg,reduceCtorEq, *] at hk
  have hlen:(f_have.take i).length=i:=by rw[List.length_take];omega
  have htk:(f_have.take i).take i=f_have.take i:=by rw[List.take_take,Nat.min_self]
  have hr1:Vt (i+1) 32:=Jbw (by unfold Jc at hl;omega) (by decide)
  by_cases hlt:i<f_have.length
  ·have e:=List.take_succ_eq_append_getElem hlt
   (repeat' (first
 | (with_reducible first|assumption|(refine Qw hK _ ?_;clear hK K)|refine Qw ‹_› _ ?_|refine Qx ‹_› ?_|refine Qi fun K hK=>?_|refine Qj T fun K hK=>?_|refine Qk (id:=5) T mixed Jfs (by kernel_rfl) fun K hK=>?_|refine Ql fun A B hA hB=>?_|refine Qm ?_|refine Qn ?_|refine Qp ?_|refine Qr ?_)
 |(with_reducible first|apply Qy|apply Qz|apply QA)<;>intro hb<;>try simp only[nr] at hb
 |simp only[go_sem,↓reduceIte,Qa,Qh,Qb,Qc,Qd,Qe,Qf,Qg,reduceCtorEq, *,-e]
 |intro(bn:Bool) hbn))
   all_goals ((repeat clear hK);(repeat clear hA);(repeat clear hB))
   (refine hM.on (f_have.length-(i+1)) (by omega) (by simp only[go_sem,↓reduceIte,Qa,Qh,Qb,Qc,Qd,Qe,Qf,Qg,reduceCtorEq, *,Jg hlt hl,e,Jko]) ⟨i+1,ts'.gen 47+1,rfl,by omega,?_⟩;simp only[go_sem,↓reduceIte,Qa,Qh,Qb,Qc,Qd,Qe,Qf,Qg,reduceCtorEq, *,Jg hlt hl,e,Jko];done)
  ·have hi2:i=f_have.length:=by omega
   (repeat' (first
 | (with_reducible first|assumption|(refine Qw hK _ ?_;clear hK K)|refine Qw ‹_› _ ?_|refine Qx ‹_› ?_|refine Qi fun K hK=>?_|refine Qj T fun K hK=>?_|refine Qk (id:=5) T mixed Jfs (by kernel_rfl) fun K hK=>?_|refine Ql fun A B hA hB=>?_|refine Qm ?_|refine Qn ?_|refine Qp ?_|refine Qr ?_)
 |(with_reducible first|apply Qy|apply Qz|apply QA)<;>intro hb<;>try simp only[nr] at hb
 |simp only[go_sem,↓reduceIte,Qa,Qh,Qb,Qc,Qd,Qe,Qf,Qg,reduceCtorEq, *,Nat.lt_irrefl,List.take_length]
 |intro(bn:Bool) hbn))
end Go.Proofs.YthjalhfmpffbjaaGreatDoor.Lg
