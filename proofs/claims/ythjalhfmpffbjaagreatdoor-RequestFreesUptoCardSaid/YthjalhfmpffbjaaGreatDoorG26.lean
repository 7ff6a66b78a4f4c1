/- Parts of the proof, one behind the other. -/
import Derived.Test.YthjalhfmpffbjaaGreatDoorG25
namespace Go.Proofs.YthjalhfmpffbjaaGreatDoor.Lg
set_option maxRecDepth 100000
set_option linter.unusedVariables false
set_option linter.unusedSimpArgs false
open Go
open Nat renaming reduceEqDiff → Qa, reduceLT → Qb, reduceLeDiff → Qc, reduceAdd → Qd, reduceMul → Qe, reduceSub → Qf, reduceBEq → Qg
open String renaming reduceEq → Qh
open SpecC renaming seqW → Qi, regW → Qj, drawW → Qk, condW → Ql, block → Qm, skip → Qn, exit → Qp, ret → Qr, loopF → Qs
open NxK renaming out → Qw
open Nx renaming out → Qx
open condK renaming split → Qy
open gK renaming split_t → Qz, split_f → QA
open CallR renaming go1 → QD
@[go_sem] def JeH:List (List Nat×List Nat):=[([20],[21]),([21],[20,2]),([2],[21])]
@[go_sem] def JeI:List (List Nat×List Nat):=[([25],[26,27]),([26],[25,27,4]),([27],[25,26,4,5]),([4],[26,27]),([5],[27])]
@[go_sem] def Jgp:List (List Nat×List Nat):=[([3],[5,6,7,8,9,10,11,12,13,14,15,16,17,18,19,20,21,22,23]),([4],[5,6,7,8,9,10,11,12,13,14,15,16,17,18,19,20,21,22,23]),([5],[3,4,7,8,9,10,11,12,13,14,15,16,17,18,19,20,21,22,23]),([6],[3,4,7,8,9,10,11,12,13,14,15,16,17,18,19,20,21,22,23]),([7],[3,4,5,6,9,10,11,12,13,14,15,16,17,18,19,20,21,22,23]),([8],[3,4,5,6,9,10,11,12,13,14,15,16,17,18,19,20,21,22,23]),([9],[3,4,5,6,7,8,12,13,14,15,16,17,18,19,20,21,22,23]),([10],[3,4,5,6,7,8,12,13,14,16,17,18,19,20,21,22,23]),([11],[3,4,5,6,7,8,12,13,14,16,17,18,19,20,21,22,23]),([12],[3,4,5,6,7,8,9,10,11,15,16,17,18,19,20,21,22,23]),([13],[3,4,5,6,7,8,9,10,11,16,17,18,19,20,21,22,23]),([14],[3,4,5,6,7,8,9,10,11,16,17,18,19,20,21,22,23]),([15],[3,4,5,6,7,8,9,12,16,17,18,19,20,21,22,23]),([16],[3,4,5,6,7,8,9,10,11,12,13,14,15,18,19,20,21,22,23]),([17],[3,4,5,6,7,8,9,10,11,12,13,14,15,18,19,20,21,22,23]),([18],[3,4,5,6,7,8,9,10,11,12,13,14,15,16,17,21,22,23]),([19],[3,4,5,6,7,8,9,10,11,12,13,14,15,16,17,21,22]),([20],[3,4,5,6,7,8,9,10,11,12,13,14,15,16,17,21,22]),([21],[3,4,5,6,7,8,9,10,11,12,13,14,15,16,17,18,19,20]),([22],[3,4,5,6,7,8,9,10,11,12,13,14,15,16,17,18,19,20]),([23],[3,4,5,6,7,8,9,10,11,12,13,14,15,16,17,18])]
set_option maxHeartbeats 16000000 in
theorem Jk8{k:Nat}{r2:Req}{s2:Side}(r:Req)(s:Side)(hf:FinR k r s r2 s2) :
  CallR Tryz.prog 19 [.agg [.int .i64 r.a.port,.str r.a.host,.str r.a.path,.int .i64 r.a.first,.int .i64 r.a.other,.int .i64 r.stage,.int .i64 r.id,.str r.route,.str r.cluster,.int .i64 r.out.what,.str r.out.cluster,.int .i64 r.out.host],.agg [.int .i64 s.epoch,.int .i64 s.turn,.bool s.up,.int .i64 s.in'.last.a0,.int .i64 s.in'.last.a1,.int .i64 s.in'.last.a2,.int .i64 s.in'.last.a3,.int .i64 s.in'.max,.int .i64 s.errs.a0,.int .i64 s.errs.a1,.int .i64 s.errs.a2,.int .i64 s.errs.a3,.int .i64 s.w.c.cap,.slice false (Ja s.w.c.l),.bool s.w.ready,.slice false (Ja s.w.shown),.int .i64 s.p.next',.slice false (Ja s.p.snaps)]] (.val (.tup [.agg [.int .i64 r2.a.port,.str r2.a.host,.str r2.a.path,.int .i64 r2.a.first,.int .i64 r2.a.other,.int .i64 r2.stage,.int .i64 r2.id,.str r2.route,.str r2.cluster,.int .i64 r2.out.what,.str r2.out.cluster,.int .i64 r2.out.host],.agg [.int .i64 s2.epoch,.int .i64 s2.turn,.bool s2.up,.int .i64 s2.in'.last.a0,.int .i64 s2.in'.last.a1,.int .i64 s2.in'.last.a2,.int .i64 s2.in'.last.a3,.int .i64 s2.in'.max,.int .i64 s2.errs.a0,.int .i64 s2.errs.a1,.int .i64 s2.errs.a2,.int .i64 s2.errs.a3,.int .i64 s2.w.c.cap,.slice false (Ja s2.w.c.l),.bool s2.w.ready,.slice false (Ja s2.w.shown),.int .i64 s2.p.next',.slice false (Ja s2.p.snaps)],.slice false []])):=by
 refine CallR.go2 (T:=T) Tryz.call19 Tryz.func19 rfl Tryz.ntmps19 (congrArg Array.toList Tryz.results19) (by decide) fun ts hn h0 h1=>?_
 (repeat' (first
 | (with_reducible first|refine callX.by (Jee _ _ _ _ _ _ _ _ _ _ _ _) ?_|refine callX.by (Jf6 _ _ _ _ _ _ _ _ _ _ _ _ _ _ _ _ _ _ _ _ _ _ _ _ _ _ _ _ _ _ ?_ ?_) ?_|assumption|(refine Qw hK _ ?_;clear hK K)|refine Qw ‹_› _ ?_|refine Qx ‹_› ?_|refine Qi fun K hK=>?_|refine Qj T fun K hK=>?_|refine Qk (id:=4) T mixed JeH (by kernel_rfl) fun K hK=>?_|refine Qk (id:=6) T mixed JeI (by kernel_rfl) fun K hK=>?_|refine Ql fun A B hA hB=>?_|refine Qm ?_|refine Qn ?_|refine Qp ?_|refine Qr ?_)
 | ((with_reducible first|apply Qy|apply Qz|apply QA)<;>intro hb<;>try simp only[nr] at hb)
 |simp only[go_sem,↓reduceIte,reduceIte,Qa,Qh,Qb,Qc,Qd,Qe,Qf,Qg,reduceCtorEq, *,-hf]
 |with_reducible refine fun(bn:Bool) hbn=>?_))
 refine SpecC.virt 7 24 10 (by decide) (by simp only[go_sem,↓reduceIte,reduceIte,Qa,Qh,Qb,Qc,Qd,Qe,Qf,Qg,reduceCtorEq, *,-hf]) ?_
 refine Qs [4,5] (fun m ts'=>∃(k:Nat),∃(r:Req),∃(s:Side),∃(g:Nat),m=k∧FinR k r s r2 s2∧ts'.tmp 2=.ref 2 (ts.gen 2+1) 0∧ts'.gen 2=ts.gen 2+1∧ts'.obj 2=.box [.int .i64 r.a.port,.str r.a.host,.str r.a.path,.int .i64 r.a.first,.int .i64 r.a.other,.int .i64 r.stage,.int .i64 r.id,.str r.route,.str r.cluster,.int .i64 r.out.what,.str r.out.cluster,.int .i64 r.out.host]∧ts'.tmp 3=.ref 3 (ts.gen 3+1) 0∧ts'.gen 3=ts.gen 3+1∧ts'.obj 3=.box [.int .i64 s.epoch,.int .i64 s.turn,.bool s.up,.int .i64 s.in'.last.a0,.int .i64 s.in'.last.a1,.int .i64 s.in'.last.a2,.int .i64 s.in'.last.a3,.int .i64 s.in'.max,.int .i64 s.errs.a0,.int .i64 s.errs.a1,.int .i64 s.errs.a2,.int .i64 s.errs.a3,.int .i64 s.w.c.cap,.slice false (Ja s.w.c.l),.bool s.w.ready,.slice false (Ja s.w.shown),.int .i64 s.p.next',.slice false (Ja s.p.snaps)]∧ts'.tmp 4=.ref 4 (ts.gen 4+1) 0∧ts'.gen 4=ts.gen 4+1∧ts'.obj 4=.box [.int .i64 0,.str [],.str [],.int .i64 0,.int .i64 0,.int .i64 0,.int .i64 0,.str [],.str [],.int .i64 0,.str [],.int .i64 0]∧ts'.tmp 5=.ref 5 (ts.gen 5+1) 0∧ts'.gen 5=ts.gen 5+1∧ts'.obj 5=.box [.int .i64 0,.int .i64 0,.bool false,.int .i64 0,.int .i64 0,.int .i64 0,.int .i64 0,.int .i64 0,.int .i64 0,.int .i64 0,.int .i64 0,.int .i64 0,.int .i64 0,.slice true [],.bool false,.slice true [],.int .i64 0,.slice true []]∧ts'.tmp 7=.os 24 g 0∧ts'.gen 24=g∧ts'.obj 24=.arr 10 []) k ?_ ?_
 ·refine⟨k,r,s,ts.gen 24+1,rfl,hf,?_⟩
  simp only[go_sem,↓reduceIte,reduceIte,Qa,Qh,Qb,Qc,Qd,Qe,Qf,Qg,reduceCtorEq, *,-hf,J6]
 ·clear hf
  rintro m A hM ts' hk ⟨k,r,s,g,hm,f1,s1,s2,s3,s4,s5,s6,s7,s8,s9,s10,s11,s12,s13,s14,s15⟩
  simp only[go_sem,↓reduceIte,reduceIte,Qa,Qh,Qb,Qc,Qd,Qe,Qf,Qg,reduceCtorEq, *] at hk
  have w1:=Jee r.a.port r.a.host r.a.path r.a.first r.a.other r.stage r.id r.route r.cluster r.out.what r.out.cluster r.out.host
  have w1:CallR Tryz.prog 22 [.agg [.int .i64 r.a.port,.str r.a.host,.str r.a.path,.int .i64 r.a.first,.int .i64 r.a.other,.int .i64 r.stage,.int .i64 r.id,.str r.route,.str r.cluster,.int .i64 r.out.what,.str r.out.cluster,.int .i64 r.out.host]] (.val (.bool (!decide ((JF r).stage=5)))):=w1
  cases f1 with
  |done h =>
   rw[h] at w1
   (repeat' (first
 | (with_reducible first|refine callX.by (w1) ?_|assumption|(refine Qw hK _ ?_;clear hK K)|refine Qw ‹_› _ ?_|refine Qx ‹_› ?_|refine Qi fun K hK=>?_|refine Qj T fun K hK=>?_|refine Qk (id:=4) T mixed JeH (by kernel_rfl) fun K hK=>?_|refine Qk (id:=6) T mixed JeI (by kernel_rfl) fun K hK=>?_|refine Ql fun A B hA hB=>?_|refine Qm ?_|refine Qn ?_|refine Qp ?_|refine Qr ?_)
 | ((with_reducible first|apply Qy|apply Qz|apply QA)<;>intro hb<;>try simp only[nr] at hb)
 |simp only[go_sem,↓reduceIte,reduceIte,Qa,Qh,Qb,Qc,Qd,Qe,Qf,Qg,reduceCtorEq, *,-w1,-h]
 |with_reducible refine fun(bn:Bool) hbn=>?_))
   all_goals trace_state
  |step h hz hk0 e hf =>
   rename_i k r' s'
   have w2:=Jf6 r.a.port r.a.host r.a.path r.a.first r.a.other r.stage r.id r.route r.cluster r.out.what r.out.cluster r.out.host s.epoch s.turn s.up s.in'.last.a0 s.in'.last.a1 s.in'.last.a2 s.in'.last.a3 s.in'.max s.errs.a0 s.errs.a1 s.errs.a2 s.errs.a3 s.w.c.cap s.w.c.l s.w.ready s.w.shown s.p.next' s.p.snaps hz hk0
   have w2:CallR Tryz.prog 15 [.agg [.int .i64 r.a.port,.str r.a.host,.str r.a.path,.int .i64 r.a.first,.int .i64 r.a.other,.int .i64 r.stage,.int .i64 r.id,.str r.route,.str r.cluster,.int .i64 r.out.what,.str r.out.cluster,.int .i64 r.out.host],.agg [.int .i64 s.epoch,.int .i64 s.turn,.bool s.up,.int .i64 s.in'.last.a0,.int .i64 s.in'.last.a1,.int .i64 s.in'.last.a2,.int .i64 s.in'.last.a3,.int .i64 s.in'.max,.int .i64 s.errs.a0,.int .i64 s.errs.a1,.int .i64 s.errs.a2,.int .i64 s.errs.a3,.int .i64 s.w.c.cap,.slice false (Ja s.w.c.l),.bool s.w.ready,.slice false (Ja s.w.shown),.int .i64 s.p.next',.slice false (Ja s.p.snaps)]] (.val (.tup [.agg [.int .i64 (Jk r s).req.a.port,.str (Jk r s).req.a.host,.str (Jk r s).req.a.path,.int .i64 (Jk r s).req.a.first,.int .i64 (Jk r s).req.a.other,.int .i64 (Jk r s).req.stage,.int .i64 (Jk r s).req.id,.str (Jk r s).req.route,.str (Jk r s).req.cluster,.int .i64 (Jk r s).req.out.what,.str (Jk r s).req.out.cluster,.int .i64 (Jk r s).req.out.host],.agg [.int .i64 (Jk r s).side.epoch,.int .i64 (Jk r s).side.turn,.bool (Jk r s).side.up,.int .i64 (Jk r s).side.in'.last.a0,.int .i64 (Jk r s).side.in'.last.a1,.int .i64 (Jk r s).side.in'.last.a2,.int .i64 (Jk r s).side.in'.last.a3,.int .i64 (Jk r s).side.in'.max,.int .i64 (Jk r s).side.errs.a0,.int .i64 (Jk r s).side.errs.a1,.int .i64 (Jk r s).side.errs.a2,.int .i64 (Jk r s).side.errs.a3,.int .i64 (Jk r s).side.w.c.cap,.slice false (Ja (Jk r s).side.w.c.l),.bool (Jk r s).side.w.ready,.slice false (Ja (Jk r s).side.w.shown),.int .i64 (Jk r s).side.p.next',.slice false (Ja (Jk r s).side.p.snaps)],.slice false (Ja (Jk r s).told)])):=w2
   rw[e] at w2
   rw[decide_eq_false h] at w1
   clear hz hk0 e h
   have hr1:VQ 0 144:=JcG (by decide) (by decide)
   (repeat' (first
 | (with_reducible first|refine callX.by (w1) ?_|refine callX.by (w2) ?_|assumption|(refine Qw hK _ ?_;clear hK K)|refine Qw ‹_› _ ?_|refine Qx ‹_› ?_|refine Qi fun K hK=>?_|refine Qj T fun K hK=>?_|refine Qk (id:=4) T mixed JeH (by kernel_rfl) fun K hK=>?_|refine Qk (id:=6) T mixed JeI (by kernel_rfl) fun K hK=>?_|refine Ql fun A B hA hB=>?_|refine Qm ?_|refine Qn ?_|refine Qp ?_|refine Qr ?_)
 | ((with_reducible first|apply Qy|apply Qz|apply QA)<;>intro hb<;>try simp only[nr] at hb)
 |simp only[go_sem,↓reduceIte,reduceIte,Qa,Qh,Qb,Qc,Qd,Qe,Qf,Qg,reduceCtorEq, *,-w1,-w2,-hf,J6,List.length_nil,Nat.zero_add,Nat.add_zero,List.append_nil]
 |with_reducible refine fun(bn:Bool) hbn=>?_))
   all_goals ((repeat clear hK);(repeat clear hA);(repeat clear hB))
   (refine hM.on (k) (by omega) (by simp only[go_sem,↓reduceIte,reduceIte,Qa,Qh,Qb,Qc,Qd,Qe,Qf,Qg,reduceCtorEq, *,-hf,J6]) ⟨k,r',s',ts'.gen 24+1,rfl,hf,?_⟩;simp only[go_sem,↓reduceIte,reduceIte,Qa,Qh,Qb,Qc,Qd,Qe,Qf,Qg,reduceCtorEq, *,-hf,J6];done)
theorem JnK(w_c_cap:Int)(w_c_l:List Res)(w_ready:Bool)(w_shown:List Res):CallR Tryz.prog 40 [.agg [.int .i64 w_c_cap,.slice false (Ja w_c_l),.bool w_ready,.slice false (Ja w_shown)]] (.val (.agg [.int .i64 w_c_cap,.slice false (Ja w_c_l),.bool w_ready,.slice false (Ja w_shown)])):=by
 refine QD (T:=T) Tryz.call40 Tryz.func40 rfl Tryz.ntmps40 (congrArg Array.toList Tryz.results40) (by decide) fun ts hn h0=>?_
 (repeat' (first
 | (with_reducible first|assumption|(refine Qw hK _ ?_;clear hK K)|refine Qw ‹_› _ ?_|refine Qx ‹_› ?_|refine Qi fun K hK=>?_|refine Qj T fun K hK=>?_|refine Ql fun A B hA hB=>?_|refine Qn ?_|refine Qr ?_)
 | ((with_reducible first|apply Qy|apply Qz|apply QA)<;>intro hb<;>try simp only[nr] at hb)
 |simp only[go_sem,↓reduceIte,reduceIte,Qa,Qh,Qb,Qc,Qd,Qe,Qf,Qg,reduceCtorEq, *]
 |with_reducible refine fun(bn:Bool) hbn=>?_))
theorem Jm2(w_c_cap:Int)(w_c_l:List Res)(w_ready:Bool)(w_shown:List Res):CallR Tryz.prog 53 [.agg [.int .i64 w_c_cap,.slice false (Ja w_c_l),.bool w_ready,.slice false (Ja w_shown)]] (.val (.agg [.int .i64 w_c_cap,.slice false (Ja w_c_l),.bool w_ready,.slice false (Ja w_shown)])):=by
 refine QD (T:=T) Tryz.call53 Tryz.func53 rfl Tryz.ntmps53 (congrArg Array.toList Tryz.results53) (by decide) fun ts hn h0=>?_
 (repeat' (first
 | (with_reducible first|assumption|(refine Qw hK _ ?_;clear hK K)|refine Qw ‹_› _ ?_|refine Qx ‹_› ?_|refine Qi fun K hK=>?_|refine Qj T fun K hK=>?_|refine Ql fun A B hA hB=>?_|refine Qn ?_|refine Qr ?_)
 | ((with_reducible first|apply Qy|apply Qz|apply QA)<;>intro hb<;>try simp only[nr] at hb)
 |simp only[go_sem,↓reduceIte,reduceIte,Qa,Qh,Qb,Qc,Qd,Qe,Qf,Qg,reduceCtorEq, *]
 |with_reducible refine fun(bn:Bool) hbn=>?_))
theorem Jnz(next:Int)(xs:List Snap)(hl:Jc xs.length):CallR Tryz.prog 41 [.agg [.int .i64 next,.slice false (Ja xs)]] (.val (.agg [.int .i64 next,.slice false (Ja xs)])):=by
 refine QD (T:=T) Tryz.call41 Tryz.func41 rfl Tryz.ntmps41 (congrArg Array.toList Tryz.results41) (by decide) fun ts hn h0=>?_
 (repeat' (first
 | (with_reducible first|assumption|(refine Qw hK _ ?_;clear hK K)|refine Qw ‹_› _ ?_|refine Qx ‹_› ?_|refine Qi fun K hK=>?_|refine Qj T fun K hK=>?_|refine Ql fun A B hA hB=>?_|refine Qm ?_|refine Qn ?_|refine Qp ?_|refine Qr ?_)
 | ((with_reducible first|apply Qy|apply Qz|apply QA)<;>intro hb<;>try simp only[nr] at hb)
 |simp only[go_sem,↓reduceIte,reduceIte,Qa,Qh,Qb,Qc,Qd,Qe,Qf,Qg,reduceCtorEq, *]
 |with_reducible refine fun(bn:Bool) hbn=>?_))
 refine SpecC.ent (Ent.virtB 31 3 1 3 (cs:=[.int .i64 next,.slice true []]) (by simp only[go_sem,↓reduceIte,reduceIte,Qa,Qh,Qb,Qc,Qd,Qe,Qf,Qg,reduceCtorEq, *,Ob.box?]) (by decide) rfl (by decide)) ?_
 refine Qs [1,2] (fun m ts'=>∃(i:Nat),∃(g:Nat),m=xs.length-i∧i≤xs.length∧ts'.tmp 3=.ref 3 (ts.gen 3+1) 0∧ts'.gen 3=ts.gen 3+1∧ts'.obj 3=.box [.int .i64 next,.os 31 g i]∧ts'.gen 31=g∧ts'.obj 31=.arr 3 (Ja (xs.take i))∧ts'.tmp 4=.int .i64 i) xs.length ?_ ?_
 ·refine⟨0,ts.gen 31+1,rfl,Nat.zero_le _,?_⟩
  simp only[go_sem,↓reduceIte,reduceIte,Qa,Qh,Qb,Qc,Qd,Qe,Qf,Qg,reduceCtorEq, *,J6,List.take_zero,List.set]
 ·rintro m A hM ts' hk ⟨i,g,hm,f1,s1,s2,s3,s4,s5,s6⟩
  simp only[go_sem,↓reduceIte,reduceIte,Qa,Qh,Qb,Qc,Qd,Qe,Qf,Qg,reduceCtorEq, *] at hk
  have hlen:(xs.take i).length=i:=by rw[List.length_take];omega
  have htk:(xs.take i).take i=xs.take i:=by rw[List.take_take,Nat.min_self]
  have hr1:VQ (i+1) 40:=JaX (by unfold Jc at hl;omega) (by decide)
  by_cases hlt:i<xs.length
  ·have e:=List.take_succ_eq_append_getElem hlt
   (repeat' (first
 | (with_reducible first|assumption|(refine Qw hK _ ?_;clear hK K)|refine Qw ‹_› _ ?_|refine Qx ‹_› ?_|refine Qi fun K hK=>?_|refine Qj T fun K hK=>?_|refine Ql fun A B hA hB=>?_|refine Qm ?_|refine Qn ?_|refine Qp ?_|refine Qr ?_)
 | ((with_reducible first|apply Qy|apply Qz|apply QA)<;>intro hb<;>try simp only[nr] at hb)
 |simp only[go_sem,↓reduceIte,reduceIte,Qa,Qh,Qb,Qc,Qd,Qe,Qf,Qg,reduceCtorEq, *,-e]
 |with_reducible refine fun(bn:Bool) hbn=>?_))
   all_goals ((repeat clear hK);(repeat clear hA);(repeat clear hB))
   (refine hM.on (xs.length-(i+1)) (by omega) (by simp only[go_sem,↓reduceIte,reduceIte,Qa,Qh,Qb,Qc,Qd,Qe,Qf,Qg,reduceCtorEq, *,Ji hlt hl,e]) ⟨i+1,ts'.gen 31+1,rfl,by omega,?_⟩;simp only[go_sem,↓reduceIte,reduceIte,Qa,Qh,Qb,Qc,Qd,Qe,Qf,Qg,reduceCtorEq, *,Ji hlt hl,e];done)
  ·have hi2:i=xs.length:=by omega
   (repeat' (first
 | (with_reducible first|assumption|(refine Qw hK _ ?_;clear hK K)|refine Qw ‹_› _ ?_|refine Qx ‹_› ?_|refine Qi fun K hK=>?_|refine Qj T fun K hK=>?_|refine Ql fun A B hA hB=>?_|refine Qm ?_|refine Qn ?_|refine Qp ?_|refine Qr ?_)
 | ((with_reducible first|apply Qy|apply Qz|apply QA)<;>intro hb<;>try simp only[nr] at hb)
 |simp only[go_sem,↓reduceIte,reduceIte,Qa,Qh,Qb,Qc,Qd,Qe,Qf,Qg,reduceCtorEq, *,Nat.lt_irrefl,List.take_length]
 |with_reducible refine fun(bn:Bool) hbn=>?_))
theorem Jnx(next:Int)(xs:List Snap)(hl:Jc xs.length):CallR Tryz.prog 54 [.agg [.int .i64 next,.slice false (Ja xs)]] (.val (.agg [.int .i64 next,.slice false (Ja xs)])):=by
 refine QD (T:=T) Tryz.call54 Tryz.func54 rfl Tryz.ntmps54 (congrArg Array.toList Tryz.results54) (by decide) fun ts hn h0=>?_
 (repeat' (first
 | (with_reducible first|assumption|(refine Qw hK _ ?_;clear hK K)|refine Qw ‹_› _ ?_|refine Qx ‹_› ?_|refine Qi fun K hK=>?_|refine Qj T fun K hK=>?_|refine Ql fun A B hA hB=>?_|refine Qm ?_|refine Qn ?_|refine Qp ?_|refine Qr ?_)
 | ((with_reducible first|apply Qy|apply Qz|apply QA)<;>intro hb<;>try simp only[nr] at hb)
 |simp only[go_sem,↓reduceIte,reduceIte,Qa,Qh,Qb,Qc,Qd,Qe,Qf,Qg,reduceCtorEq, *]
 |with_reducible refine fun(bn:Bool) hbn=>?_))
 refine SpecC.ent (Ent.virtB 31 3 1 3 (cs:=[.int .i64 next,.slice true []]) (by simp only[go_sem,↓reduceIte,reduceIte,Qa,Qh,Qb,Qc,Qd,Qe,Qf,Qg,reduceCtorEq, *,Ob.box?]) (by decide) rfl (by decide)) ?_
 refine Qs [1,2] (fun m ts'=>∃(i:Nat),∃(g:Nat),m=xs.length-i∧i≤xs.length∧ts'.tmp 3=.ref 3 (ts.gen 3+1) 0∧ts'.gen 3=ts.gen 3+1∧ts'.obj 3=.box [.int .i64 next,.os 31 g i]∧ts'.gen 31=g∧ts'.obj 31=.arr 3 (Ja (xs.take i))∧ts'.tmp 4=.int .i64 i) xs.length ?_ ?_
 ·refine⟨0,ts.gen 31+1,rfl,Nat.zero_le _,?_⟩
  simp only[go_sem,↓reduceIte,reduceIte,Qa,Qh,Qb,Qc,Qd,Qe,Qf,Qg,reduceCtorEq, *,J6,List.take_zero,List.set]
 ·rintro m A hM ts' hk ⟨i,g,hm,f1,s1,s2,s3,s4,s5,s6⟩
  simp only[go_sem,↓reduceIte,reduceIte,Qa,Qh,Qb,Qc,Qd,Qe,Qf,Qg,reduceCtorEq, *] at hk
  have hlen:(xs.take i).length=i:=by rw[List.length_take];omega
  have htk:(xs.take i).take i=xs.take i:=by rw[List.take_take,Nat.min_self]
  have hr1:VQ (i+1) 40:=JaX (by unfold Jc at hl;omega) (by decide)
  by_cases hlt:i<xs.length
  ·have e:=List.take_succ_eq_append_getElem hlt
   (repeat' (first
 | (with_reducible first|assumption|(refine Qw hK _ ?_;clear hK K)|refine Qw ‹_› _ ?_|refine Qx ‹_› ?_|refine Qi fun K hK=>?_|refine Qj T fun K hK=>?_|refine Ql fun A B hA hB=>?_|refine Qm ?_|refine Qn ?_|refine Qp ?_|refine Qr ?_)
 | ((with_reducible first|apply Qy|apply Qz|apply QA)<;>intro hb<;>try simp only[nr] at hb)
 |simp only[go_sem,↓reduceIte,reduceIte,Qa,Qh,Qb,Qc,Qd,Qe,Qf,Qg,reduceCtorEq, *,-e]
 |with_reducible refine fun(bn:Bool) hbn=>?_))
   all_goals ((repeat clear hK);(repeat clear hA);(repeat clear hB))
   (refine hM.on (xs.length-(i+1)) (by omega) (by simp only[go_sem,↓reduceIte,reduceIte,Qa,Qh,Qb,Qc,Qd,Qe,Qf,Qg,reduceCtorEq, *,Ji hlt hl,e]) ⟨i+1,ts'.gen 31+1,rfl,by omega,?_⟩;simp only[go_sem,↓reduceIte,reduceIte,Qa,Qh,Qb,Qc,Qd,Qe,Qf,Qg,reduceCtorEq, *,Ji hlt hl,e];done)
  ·have hi2:i=xs.length:=by omega
   (repeat' (first
 | (with_reducible first|assumption|(refine Qw hK _ ?_;clear hK K)|refine Qw ‹_› _ ?_|refine Qx ‹_› ?_|refine Qi fun K hK=>?_|refine Qj T fun K hK=>?_|refine Ql fun A B hA hB=>?_|refine Qm ?_|refine Qn ?_|refine Qp ?_|refine Qr ?_)
 | ((with_reducible first|apply Qy|apply Qz|apply QA)<;>intro hb<;>try simp only[nr] at hb)
 |simp only[go_sem,↓reduceIte,reduceIte,Qa,Qh,Qb,Qc,Qd,Qe,Qf,Qg,reduceCtorEq, *,Nat.lt_irrefl,List.take_length]
 |with_reducible refine fun(bn:Bool) hbn=>?_))
set_option maxHeartbeats 4000000 in
theorem JnC(s_epoch:Int)(s_turn:Int)(s_up:Bool)(s_in_last_a0:Int)(s_in_last_a1:Int)(s_in_last_a2:Int)(s_in_last_a3:Int)(s_in_max:Int)(s_errs_a0:Int)(s_errs_a1:Int)(s_errs_a2:Int)(s_errs_a3:Int)(s_w_c_cap:Int)(s_w_c_l:List Res)(s_w_ready:Bool)(s_w_shown:List Res)(s_p_next:Int)(s_p_snaps:List Snap)(hl:Jc s_p_snaps.length):CallR Tryz.prog 13 [.agg [.int .i64 s_epoch,.int .i64 s_turn,.bool s_up,.int .i64 s_in_last_a0,.int .i64 s_in_last_a1,.int .i64 s_in_last_a2,.int .i64 s_in_last_a3,.int .i64 s_in_max,.int .i64 s_errs_a0,.int .i64 s_errs_a1,.int .i64 s_errs_a2,.int .i64 s_errs_a3,.int .i64 s_w_c_cap,.slice false (Ja s_w_c_l),.bool s_w_ready,.slice false (Ja s_w_shown),.int .i64 s_p_next,.slice false (Ja s_p_snaps)]] (.val (.agg [.int .i64 s_epoch,.int .i64 s_turn,.bool s_up,.int .i64 s_in_last_a0,.int .i64 s_in_last_a1,.int .i64 s_in_last_a2,.int .i64 s_in_last_a3,.int .i64 s_in_max,.int .i64 s_errs_a0,.int .i64 s_errs_a1,.int .i64 s_errs_a2,.int .i64 s_errs_a3,.int .i64 s_w_c_cap,.slice false (Ja s_w_c_l),.bool s_w_ready,.slice false (Ja s_w_shown),.int .i64 s_p_next,.slice false (Ja s_p_snaps)])):=by
 have w1:=JnK s_w_c_cap s_w_c_l s_w_ready s_w_shown
 have w2:=Jnz s_p_next s_p_snaps hl
 clear hl
 refine QD (T:=T) Tryz.call13 Tryz.func13 rfl Tryz.ntmps13 (congrArg Array.toList Tryz.results13) (by decide) fun ts hn h0=>?_
 (repeat' (first
 | (with_reducible first|refine callX.by (w1) ?_|refine callX.by (w2) ?_|assumption|(refine Qw hK _ ?_;clear hK K)|refine Qw ‹_› _ ?_|refine Qx ‹_› ?_|refine Qi fun K hK=>?_|refine Qj T fun K hK=>?_|refine Qk (id:=1) T mixed Jgp (by kernel_rfl) fun K hK=>?_|refine Ql fun A B hA hB=>?_|refine Qn ?_|refine Qr ?_)
 | ((with_reducible first|apply Qy|apply Qz|apply QA)<;>intro hb<;>try simp only[nr] at hb)
 |simp only[go_sem,↓reduceIte,reduceIte,Qa,Qh,Qb,Qc,Qd,Qe,Qf,Qg,reduceCtorEq, *,-w1,-w2]
 |with_reducible refine fun(bn:Bool) hbn=>?_))
set_option maxHeartbeats 4000000 in
theorem Jnw(s_epoch:Int)(s_turn:Int)(s_up:Bool)(s_in_last_a0:Int)(s_in_last_a1:Int)(s_in_last_a2:Int)(s_in_last_a3:Int)(s_in_max:Int)(s_errs_a0:Int)(s_errs_a1:Int)(s_errs_a2:Int)(s_errs_a3:Int)(s_w_c_cap:Int)(s_w_c_l:List Res)(s_w_ready:Bool)(s_w_shown:List Res)(s_p_next:Int)(s_p_snaps:List Snap)(hl:Jc s_p_snaps.length):CallR Tryz.prog 18 [.agg [.int .i64 s_epoch,.int .i64 s_turn,.bool s_up,.int .i64 s_in_last_a0,.int .i64 s_in_last_a1,.int .i64 s_in_last_a2,.int .i64 s_in_last_a3,.int .i64 s_in_max,.int .i64 s_errs_a0,.int .i64 s_errs_a1,.int .i64 s_errs_a2,.int .i64 s_errs_a3,.int .i64 s_w_c_cap,.slice false (Ja s_w_c_l),.bool s_w_ready,.slice false (Ja s_w_shown),.int .i64 s_p_next,.slice false (Ja s_p_snaps)]] (.val (.agg [.int .i64 s_epoch,.int .i64 s_turn,.bool s_up,.int .i64 s_in_last_a0,.int .i64 s_in_last_a1,.int .i64 s_in_last_a2,.int .i64 s_in_last_a3,.int .i64 s_in_max,.int .i64 s_errs_a0,.int .i64 s_errs_a1,.int .i64 s_errs_a2,.int .i64 s_errs_a3,.int .i64 s_w_c_cap,.slice false (Ja s_w_c_l),.bool s_w_ready,.slice false (Ja s_w_shown),.int .i64 s_p_next,.slice false (Ja s_p_snaps)])):=by
 have w1:=Jm2 s_w_c_cap s_w_c_l s_w_ready s_w_shown
 have w2:=Jnx s_p_next s_p_snaps hl
 clear hl
 refine QD (T:=T) Tryz.call18 Tryz.func18 rfl Tryz.ntmps18 (congrArg Array.toList Tryz.results18) (by decide) fun ts hn h0=>?_
 (repeat' (first
 | (with_reducible first|refine callX.by (w1) ?_|refine callX.by (w2) ?_|assumption|(refine Qw hK _ ?_;clear hK K)|refine Qw ‹_› _ ?_|refine Qx ‹_› ?_|refine Qi fun K hK=>?_|refine Qj T fun K hK=>?_|refine Qk (id:=1) T mixed Jgp (by kernel_rfl) fun K hK=>?_|refine Ql fun A B hA hB=>?_|refine Qn ?_|refine Qr ?_)
 | ((with_reducible first|apply Qy|apply Qz|apply QA)<;>intro hb<;>try simp only[nr] at hb)
 |simp only[go_sem,↓reduceIte,reduceIte,Qa,Qh,Qb,Qc,Qd,Qe,Qf,Qg,reduceCtorEq, *,-w1,-w2]
 |with_reducible refine fun(bn:Bool) hbn=>?_))
def Jb7(r:Req)(s:Side):Bool:=Jbn s && (decide (r.a.host.length≤100) && decide (r.a.path.length≤100) && decide (r.route.length≤100) && decide (r.cluster.length≤100))
set_option maxHeartbeats 4000000 in
theorem Jk3(r_a_port:Int)(r_a_host:List UInt8)(r_a_path:List UInt8)(r_a_first:Int)(r_a_other:Int)(r_stage:Int)(r_id:Int)(r_route:List UInt8)(r_cluster:List UInt8)(r_out_what:Int)(r_out_cluster:List UInt8)(r_out_host:Int)(s_epoch:Int)(s_turn:Int)(s_up:Bool)(s_in_last_a0:Int)(s_in_last_a1:Int)(s_in_last_a2:Int)(s_in_last_a3:Int)(s_in_max:Int)(s_errs_a0:Int)(s_errs_a1:Int)(s_errs_a2:Int)(s_errs_a3:Int)(s_w_c_cap:Int)(s_w_c_l:List Res)(s_w_ready:Bool)(s_w_shown:List Res)(s_p_next:Int)(s_p_snaps:List Snap)(hw:ZT ⟨⟨s_w_c_cap,s_w_c_l⟩,s_w_ready,s_w_shown⟩)(hl:Jc s_p_snaps.length)(hs:∀x∈s_p_snaps,VR x):CallR Tryz.prog 9 [.agg [.int .i64 r_a_port,.str r_a_host,.str r_a_path,.int .i64 r_a_first,.int .i64 r_a_other,.int .i64 r_stage,.int .i64 r_id,.str r_route,.str r_cluster,.int .i64 r_out_what,.str r_out_cluster,.int .i64 r_out_host],.agg [.int .i64 s_epoch,.int .i64 s_turn,.bool s_up,.int .i64 s_in_last_a0,.int .i64 s_in_last_a1,.int .i64 s_in_last_a2,.int .i64 s_in_last_a3,.int .i64 s_in_max,.int .i64 s_errs_a0,.int .i64 s_errs_a1,.int .i64 s_errs_a2,.int .i64 s_errs_a3,.int .i64 s_w_c_cap,.slice false (Ja s_w_c_l),.bool s_w_ready,.slice false (Ja s_w_shown),.int .i64 s_p_next,.slice false (Ja s_p_snaps)]] (.val (.bool (Jb7 (⟨⟨r_a_port,r_a_host,r_a_path,r_a_first,r_a_other⟩,r_stage,r_id,r_route,r_cluster,⟨r_out_what,r_out_cluster,r_out_host⟩⟩:Req) (⟨s_epoch,s_turn,s_up,⟨⟨s_in_last_a0,s_in_last_a1,s_in_last_a2,s_in_last_a3⟩,s_in_max⟩,⟨s_errs_a0,s_errs_a1,s_errs_a2,s_errs_a3⟩,⟨⟨s_w_c_cap,s_w_c_l⟩,s_w_ready,s_w_shown⟩,⟨s_p_next,s_p_snaps⟩⟩:Side)))):=by
 have w1:=Jk2 s_epoch s_turn s_up s_in_last_a0 s_in_last_a1 s_in_last_a2 s_in_last_a3 s_in_max s_errs_a0 s_errs_a1 s_errs_a2 s_errs_a3 s_w_c_cap s_w_c_l s_w_ready s_w_shown s_p_next s_p_snaps hw hl hs
 clear hw hl hs
 unfold Jb7
 generalize Jbn (⟨s_epoch,s_turn,s_up,⟨⟨s_in_last_a0,s_in_last_a1,s_in_last_a2,s_in_last_a3⟩,s_in_max⟩,⟨s_errs_a0,s_errs_a1,s_errs_a2,s_errs_a3⟩,⟨⟨s_w_c_cap,s_w_c_l⟩,s_w_ready,s_w_shown⟩,⟨s_p_next,s_p_snaps⟩⟩:Side)=b at *
 refine CallR.go2 (T:=T) Tryz.call9 Tryz.func9 rfl Tryz.ntmps9 (congrArg Array.toList Tryz.results9) (by decide) fun ts hn h0 h1=>?_
 (repeat' (first
 | (with_reducible first|refine callX.by (w1) ?_|assumption|(refine Qw hK _ ?_;clear hK K)|refine Qw ‹_› _ ?_|refine Qx ‹_› ?_|refine Qi fun K hK=>?_|refine Qj T fun K hK=>?_|refine Ql fun A B hA hB=>?_|refine Qn ?_|refine Qr ?_)
 | ((with_reducible first|apply Qy|apply Qz|apply QA)<;>intro hb<;>try simp only[nr] at hb)
 |simp only[go_sem,↓reduceIte,reduceIte,Qa,Qh,Qb,Qc,Qd,Qe,Qf,Qg,reduceCtorEq, *,-w1]
 |with_reducible refine fun(bn:Bool) hbn=>?_))
 all_goals (rw[Bool.eq_iff_iff];simp_all)
 all_goals omega
theorem Jke:Jk (Jl ⟨80,[],[],0,0⟩) (Je 9 9)=⟨⟨⟨80,[],[],0,0⟩,5,0,[],[],⟨0,[],0⟩⟩,Je 9 9,[]⟩:=by
 unfold Jk ZO
 rw[JaU,Yy (JdM 9 9),if_pos (show(Jl ⟨80,[],[],0,0⟩).stage=0 from rfl)]
 unfold ZX
 simp only
 rw[Yy (JdM 9 9)]
 have e:Vi (Je 9 9).p=(⟨0,[]⟩,0,10):=by
  unfold Vi
  rw[show(Je 9 9).p=⟨0,[]⟩ from rfl,JfD]
  rfl
 rw[e,if_neg (by simp)]
 rfl
theorem bdNew:BdS (Je 9 9) 0:=⟨by simp[Je],by simp[Je],by simp[Je],by simp[Je],⟨by simp[Je],by simp[Je]⟩⟩
set_option maxHeartbeats 8000000 in
theorem Jkf:CallR Tryz.prog 8 [] (.val (.bool true)):=by
 have w1:=Jfl 9 9
 have w2:=Jfk 80 [] [] 0 0
 have w2:CallR Tryz.prog 20 [.agg [.int .i64 80,.str [],.str [],.int .i64 0,.int .i64 0]] (.val (.agg [.int .i64 (Jl ⟨80,[],[],0,0⟩).a.port,.str (Jl ⟨80,[],[],0,0⟩).a.host,.str (Jl ⟨80,[],[],0,0⟩).a.path,.int .i64 (Jl ⟨80,[],[],0,0⟩).a.first,.int .i64 (Jl ⟨80,[],[],0,0⟩).a.other,.int .i64 (Jl ⟨80,[],[],0,0⟩).stage,.int .i64 (Jl ⟨80,[],[],0,0⟩).id,.str (Jl ⟨80,[],[],0,0⟩).route,.str (Jl ⟨80,[],[],0,0⟩).cluster,.int .i64 (Jl ⟨80,[],[],0,0⟩).out.what,.str (Jl ⟨80,[],[],0,0⟩).out.cluster,.int .i64 (Jl ⟨80,[],[],0,0⟩).out.host])):=w2
 have hs:=JdM 9 9
 have w3:=Jf6 (Jl ⟨80,[],[],0,0⟩).a.port (Jl ⟨80,[],[],0,0⟩).a.host (Jl ⟨80,[],[],0,0⟩).a.path (Jl ⟨80,[],[],0,0⟩).a.first (Jl ⟨80,[],[],0,0⟩).a.other (Jl ⟨80,[],[],0,0⟩).stage (Jl ⟨80,[],[],0,0⟩).id (Jl ⟨80,[],[],0,0⟩).route (Jl ⟨80,[],[],0,0⟩).cluster (Jl ⟨80,[],[],0,0⟩).out.what (Jl ⟨80,[],[],0,0⟩).out.cluster (Jl ⟨80,[],[],0,0⟩).out.host (Je 9 9).epoch (Je 9 9).turn (Je 9 9).up (Je 9 9).in'.last.a0 (Je 9 9).in'.last.a1 (Je 9 9).in'.last.a2 (Je 9 9).in'.last.a3 (Je 9 9).in'.max (Je 9 9).errs.a0 (Je 9 9).errs.a1 (Je 9 9).errs.a2 (Je 9 9).errs.a3 (Je 9 9).w.c.cap (Je 9 9).w.c.l (Je 9 9).w.ready (Je 9 9).w.shown (Je 9 9).p.next' (Je 9 9).p.snaps (bdNew.sz (by decide)) (by rw[show JF (Jl ⟨80,[],[],0,0⟩)=Jl ⟨80,[],[],0,0⟩ from JaU _];show SzK ⟨Jl _,Jw (Je 9 9),[]⟩;rw[Yy hs];exact bdNew.szk (by decide) hs _ (by simp[Jc,Jl]))
 have w3:CallR Tryz.prog 15 [.agg [.int .i64 (Jl ⟨80,[],[],0,0⟩).a.port,.str (Jl ⟨80,[],[],0,0⟩).a.host,.str (Jl ⟨80,[],[],0,0⟩).a.path,.int .i64 (Jl ⟨80,[],[],0,0⟩).a.first,.int .i64 (Jl ⟨80,[],[],0,0⟩).a.other,.int .i64 (Jl ⟨80,[],[],0,0⟩).stage,.int .i64 (Jl ⟨80,[],[],0,0⟩).id,.str (Jl ⟨80,[],[],0,0⟩).route,.str (Jl ⟨80,[],[],0,0⟩).cluster,.int .i64 (Jl ⟨80,[],[],0,0⟩).out.what,.str (Jl ⟨80,[],[],0,0⟩).out.cluster,.int .i64 (Jl ⟨80,[],[],0,0⟩).out.host],.agg [.int .i64 (Je 9 9).epoch,.int .i64 (Je 9 9).turn,.bool (Je 9 9).up,.int .i64 (Je 9 9).in'.last.a0,.int .i64 (Je 9 9).in'.last.a1,.int .i64 (Je 9 9).in'.last.a2,.int .i64 (Je 9 9).in'.last.a3,.int .i64 (Je 9 9).in'.max,.int .i64 (Je 9 9).errs.a0,.int .i64 (Je 9 9).errs.a1,.int .i64 (Je 9 9).errs.a2,.int .i64 (Je 9 9).errs.a3,.int .i64 (Je 9 9).w.c.cap,.slice false (Ja (Je 9 9).w.c.l),.bool (Je 9 9).w.ready,.slice false (Ja (Je 9 9).w.shown),.int .i64 (Je 9 9).p.next',.slice false (Ja (Je 9 9).p.snaps)]] (.val (.tup [.agg [.int .i64 (Jk (Jl ⟨80,[],[],0,0⟩) (Je 9 9)).req.a.port,.str (Jk (Jl ⟨80,[],[],0,0⟩) (Je 9 9)).req.a.host,.str (Jk (Jl ⟨80,[],[],0,0⟩) (Je 9 9)).req.a.path,.int .i64 (Jk (Jl ⟨80,[],[],0,0⟩) (Je 9 9)).req.a.first,.int .i64 (Jk (Jl ⟨80,[],[],0,0⟩) (Je 9 9)).req.a.other,.int .i64 (Jk (Jl ⟨80,[],[],0,0⟩) (Je 9 9)).req.stage,.int .i64 (Jk (Jl ⟨80,[],[],0,0⟩) (Je 9 9)).req.id,.str (Jk (Jl ⟨80,[],[],0,0⟩) (Je 9 9)).req.route,.str (Jk (Jl ⟨80,[],[],0,0⟩) (Je 9 9)).req.cluster,.int .i64 (Jk (Jl ⟨80,[],[],0,0⟩) (Je 9 9)).req.out.what,.str (Jk (Jl ⟨80,[],[],0,0⟩) (Je 9 9)).req.out.cluster,.int .i64 (Jk (Jl ⟨80,[],[],0,0⟩) (Je 9 9)).req.out.host],.agg [.int .i64 (Jk (Jl ⟨80,[],[],0,0⟩) (Je 9 9)).side.epoch,.int .i64 (Jk (Jl ⟨80,[],[],0,0⟩) (Je 9 9)).side.turn,.bool (Jk (Jl ⟨80,[],[],0,0⟩) (Je 9 9)).side.up,.int .i64 (Jk (Jl ⟨80,[],[],0,0⟩) (Je 9 9)).side.in'.last.a0,.int .i64 (Jk (Jl ⟨80,[],[],0,0⟩) (Je 9 9)).side.in'.last.a1,.int .i64 (Jk (Jl ⟨80,[],[],0,0⟩) (Je 9 9)).side.in'.last.a2,.int .i64 (Jk (Jl ⟨80,[],[],0,0⟩) (Je 9 9)).side.in'.last.a3,.int .i64 (Jk (Jl ⟨80,[],[],0,0⟩) (Je 9 9)).side.in'.max,.int .i64 (Jk (Jl ⟨80,[],[],0,0⟩) (Je 9 9)).side.errs.a0,.int .i64 (Jk (Jl ⟨80,[],[],0,0⟩) (Je 9 9)).side.errs.a1,.int .i64 (Jk (Jl ⟨80,[],[],0,0⟩) (Je 9 9)).side.errs.a2,.int .i64 (Jk (Jl ⟨80,[],[],0,0⟩) (Je 9 9)).side.errs.a3,.int .i64 (Jk (Jl ⟨80,[],[],0,0⟩) (Je 9 9)).side.w.c.cap,.slice false (Ja (Jk (Jl ⟨80,[],[],0,0⟩) (Je 9 9)).side.w.c.l),.bool (Jk (Jl ⟨80,[],[],0,0⟩) (Je 9 9)).side.w.ready,.slice false (Ja (Jk (Jl ⟨80,[],[],0,0⟩) (Je 9 9)).side.w.shown),.int .i64 (Jk (Jl ⟨80,[],[],0,0⟩) (Je 9 9)).side.p.next',.slice false (Ja (Jk (Jl ⟨80,[],[],0,0⟩) (Je 9 9)).side.p.snaps)],.slice false (Ja (Jk (Jl ⟨80,[],[],0,0⟩) (Je 9 9)).told)])):=w3
 rw[Jke] at w3
 have w4:=Jee 80 [] [] 0 0 5 0 [] [] 0 [] 0
 rw[show JF ⟨⟨80,[],[],0,0⟩,5,0,[],[],⟨0,[],0⟩⟩=⟨⟨80,[],[],0,0⟩,5,0,[],[],⟨0,[],0⟩⟩ from JcE rfl (Int.le_refl 0)] at w4
 have w5:=Jej (Je 9 9).epoch (Je 9 9).turn (Je 9 9).up (Je 9 9).in'.last.a0 (Je 9 9).in'.last.a1 (Je 9 9).in'.last.a2 (Je 9 9).in'.last.a3 (Je 9 9).in'.max (Je 9 9).errs.a0 (Je 9 9).errs.a1 (Je 9 9).errs.a2 (Je 9 9).errs.a3 (Je 9 9).w.c.cap (Je 9 9).w.c.l (Je 9 9).w.ready (Je 9 9).w.shown (Je 9 9).p.next' (Je 9 9).p.snaps (bdNew.sz (by decide))
 have w5:CallR Tryz.prog 12 [.agg [.int .i64 (Je 9 9).epoch,.int .i64 (Je 9 9).turn,.bool (Je 9 9).up,.int .i64 (Je 9 9).in'.last.a0,.int .i64 (Je 9 9).in'.last.a1,.int .i64 (Je 9 9).in'.last.a2,.int .i64 (Je 9 9).in'.last.a3,.int .i64 (Je 9 9).in'.max,.int .i64 (Je 9 9).errs.a0,.int .i64 (Je 9 9).errs.a1,.int .i64 (Je 9 9).errs.a2,.int .i64 (Je 9 9).errs.a3,.int .i64 (Je 9 9).w.c.cap,.slice false (Ja (Je 9 9).w.c.l),.bool (Je 9 9).w.ready,.slice false (Ja (Je 9 9).w.shown),.int .i64 (Je 9 9).p.next',.slice false (Ja (Je 9 9).p.snaps)]] (.val (.bool (VD (Je 9 9)))):=w5
 rw[hs] at w5
 have w6:=JiR 80 [] [] 0 0 5 0 [] [] 0 [] 0
 rw[show JaT ⟨⟨80,[],[],0,0⟩,5,0,[],[],⟨0,[],0⟩⟩=true by decide] at w6
 clear hs
 unfold Jl at w2 w3
 generalize Je 9 9=n9 at *
 refine CallR.go0 (T:=T) Tryz.call8 Tryz.func8 rfl Tryz.ntmps8 (congrArg Array.toList Tryz.results8) fun ts hn=>?_
 (repeat' (first
 | (with_reducible first|refine callX.by (w1) ?_|refine callX.by (w2) ?_|refine callX.by (w3) ?_|refine callX.by (w4) ?_|refine callX.by (w5) ?_|refine callX.by (w6) ?_|assumption|(refine Qw hK _ ?_;clear hK K)|refine Qw ‹_› _ ?_|refine Qx ‹_› ?_|refine Qi fun K hK=>?_|refine Qj T fun K hK=>?_|refine Qk (id:=2) T mixed [([7],[9,6,11,12,13,2,3]),([8],[9,11,12,13,2,3]),([9],[7,8,11,12,13,2,3]),([10],[2,3]),([6],[7,2,3]),([11],[7,8,9,12,13,2,3]),([12],[7,8,9,11,13,2,3]),([13],[7,8,9,11,12,2,3]),([2],[7,8,9,10,6,11,12,13,3]),([3],[7,8,9,10,6,11,12,13,2]),([2],[12,13]),([3],[13])] (by kernel_rfl) fun K hK=>?_|refine Ql fun A B hA hB=>?_|refine Qn ?_|refine Qr ?_)
 | ((with_reducible first|apply Qy|apply Qz|apply QA)<;>intro hb<;>try simp only[nr] at hb)
 |simp only[go_sem,↓reduceIte,reduceIte,Qa,Qh,Qb,Qc,Qd,Qe,Qf,Qg,reduceCtorEq, *,-w1,-w2,-w3,-w4,-w5,-w6,J6,List.length_nil]
 |with_reducible refine fun(bn:Bool) hbn=>?_))
@[go_sem] def JeJ:List (List Nat×List Nat):=[([27],[29,26,32,33,34,6,7]),([28],[29,32,33,34,6,7]),([29],[27,28,26,32,33,34,6,7]),([30],[32,33,34,6,7]),([31],[6,7]),([26],[27,29,6,7]),([32],[27,28,29,30,33,34,6,7]),([33],[27,28,29,30,32,34,6,7]),([34],[27,28,29,30,32,33,6,7]),([6],[27,28,29,30,31,26,32,33,34,7]),([7],[27,28,29,30,31,26,32,33,34,6]),([6],[33,34]),([7],[34])]
@[go_sem] def JeK:List (List Nat×List Nat):=[([46],[53,54,55,56,57,58,59,60,61,62,63,64,65,66,67,68,69,70,71,72]),([47],[54,55,56,57,58,59,60,61,62,63,64,65,66,67,68,69,70,71,72]),([48],[50,52,53,54,55,56,57,58,59,60,61,62,63,64,65,66,67,68,69,70,71,72]),([49],[50,54,55,56,57,58,59,60,61,62,63,64,65,66,67,68,69,70,71,72]),([50],[48,49,54,55,56,57,58,59,60,61,62,63,64,65,66,67,68,69,70,71,72]),([51],[59,60,61,62,63,64,65,66,67,68,69,70,71,72]),([52],[48,59,60,61,62,63,64,65,66,67,68,69,70,71,72]),([53],[46,48,63,64,65,66,67,68,69,70,71,72]),([54],[46,47,48,49,50,57,58,59,60,61,62,63,64,65,66,67,68,69,70,71,72]),([55],[46,47,48,49,50,58,59,60,61,62,63,64,65,66,67,68,69,70,71,72]),([56],[46,47,48,49,50,59,60,61,62,63,64,65,66,67,68,69,70,71,72]),([57],[46,47,48,49,50,54,63,64,65,66,67,68,69,70,71,72]),([58],[46,47,48,49,50,54,55,64,65,66,67,68,69,70,71,72]),([59],[46,47,48,49,50,51,52,54,55,56,62,64,65,66,67,68,69,70,71,72]),([60],[46,47,48,49,50,51,52,54,55,56,68,69,70,71,72]),([61],[46,47,48,49,50,51,52,54,55,56,64,65,66,67,68,69,70,71,72]),([62],[46,47,48,49,50,51,52,54,55,56,59,68,69,70,71,72]),([63],[46,47,48,49,50,51,52,53,54,55,56,57,69,70,71,72]),([64],[46,47,48,49,50,51,52,53,54,55,56,57,58,59,61,65,69,70,71,72]),([65],[46,47,48,49,50,51,52,53,54,55,56,57,58,59,61,64,69,70,71,72]),([66],[46,47,48,49,50,51,52,53,54,55,56,57,58,59,61]),([67],[46,47,48,49,50,51,52,53,54,55,56,57,58,59,61]),([68],[46,47,48,49,50,51,52,53,54,55,56,57,58,59,60,61,62]),([69],[46,47,48,49,50,51,52,53,54,55,56,57,58,59,60,61,62,63,64,65,70]),([70],[46,47,48,49,50,51,52,53,54,55,56,57,58,59,60,61,62,63,64,65,69]),([71],[46,47,48,49,50,51,52,53,54,55,56,57,58,59,60,61,62,63,64,65]),([72],[46,47,48,49,50,51,52,53,54,55,56,57,58,59,60,61,62,63,64,65])]
set_option maxHeartbeats 16000000 in
theorem Jns(s_epoch:Int)(s_turn:Int)(s_up:Bool)(s_in_last_a0:Int)(s_in_last_a1:Int)(s_in_last_a2:Int)(s_in_last_a3:Int)(s_in_max:Int)(s_errs_a0:Int)(s_errs_a1:Int)(s_errs_a2:Int)(s_errs_a3:Int)(s_w_c_cap:Int)(s_w_c_l:List Res)(s_w_ready:Bool)(s_w_shown:List Res)(s_p_next:Int)(s_p_snaps:List Snap)(a_port:Int)(a_host:List UInt8)(a_path:List UInt8)(a_first:Int)(a_other:Int)(hw:ZT ⟨⟨s_w_c_cap,s_w_c_l⟩,s_w_ready,s_w_shown⟩)(hl:Jc s_p_snaps.length)(hs:∀x∈s_p_snaps,VR x):CallR Tryz.prog 4 [.agg [.int .i64 s_epoch,.int .i64 s_turn,.bool s_up,.int .i64 s_in_last_a0,.int .i64 s_in_last_a1,.int .i64 s_in_last_a2,.int .i64 s_in_last_a3,.int .i64 s_in_max,.int .i64 s_errs_a0,.int .i64 s_errs_a1,.int .i64 s_errs_a2,.int .i64 s_errs_a3,.int .i64 s_w_c_cap,.slice false (Ja s_w_c_l),.bool s_w_ready,.slice false (Ja s_w_shown),.int .i64 s_p_next,.slice false (Ja s_p_snaps)],.agg [.int .i64 a_port,.str a_host,.str a_path,.int .i64 a_first,.int .i64 a_other]] (.val (.bool true)):=by
 have w0:=Jkf
 have w1:=Jk3 a_port a_host a_path a_first a_other 0 0 [] [] 0 [] 0 s_epoch s_turn s_up s_in_last_a0 s_in_last_a1 s_in_last_a2 s_in_last_a3 s_in_max s_errs_a0 s_errs_a1 s_errs_a2 s_errs_a3 s_w_c_cap s_w_c_l s_w_ready s_w_shown s_p_next s_p_snaps hw hl hs
 have w2:=JnC s_epoch s_turn s_up s_in_last_a0 s_in_last_a1 s_in_last_a2 s_in_last_a3 s_in_max s_errs_a0 s_errs_a1 s_errs_a2 s_errs_a3 s_w_c_cap s_w_c_l s_w_ready s_w_shown s_p_next s_p_snaps hl
 by_cases hfew:Jb7 ⟨(⟨a_port,a_host,a_path,a_first,a_other⟩:Ask),0,0,[],[],⟨0,[],0⟩⟩ (⟨s_epoch,s_turn,s_up,⟨⟨s_in_last_a0,s_in_last_a1,s_in_last_a2,s_in_last_a3⟩,s_in_max⟩,⟨s_errs_a0,s_errs_a1,s_errs_a2,s_errs_a3⟩,⟨⟨s_w_c_cap,s_w_c_l⟩,s_w_ready,s_w_shown⟩,⟨s_p_next,s_p_snaps⟩⟩:Side)=true
 rotate_left
 ·rw[show Jb7 ⟨(⟨a_port,a_host,a_path,a_first,a_other⟩:Ask),0,0,[],[],⟨0,[],0⟩⟩ (⟨s_epoch,s_turn,s_up,⟨⟨s_in_last_a0,s_in_last_a1,s_in_last_a2,s_in_last_a3⟩,s_in_max⟩,⟨s_errs_a0,s_errs_a1,s_errs_a2,s_errs_a3⟩,⟨⟨s_w_c_cap,s_w_c_l⟩,s_w_ready,s_w_shown⟩,⟨s_p_next,s_p_snaps⟩⟩:Side)=false by simpa using hfew] at w1
  clear hw hl hs hfew
  refine CallR.go2 (T:=T) Tryz.call4 Tryz.func4 rfl Tryz.ntmps4 (congrArg Array.toList Tryz.results4) (by decide) fun ts hn h0 h1=>?_
  (repeat' (first
 | (with_reducible first|refine callX.by (w0) ?_|refine callX.by (w1) ?_|refine callX.by (w2) ?_|assumption|(refine Qw hK _ ?_;clear hK K)|refine Qw ‹_› _ ?_|refine Qx ‹_› ?_|refine Qi fun K hK=>?_|refine Qj T fun K hK=>?_|refine Qk (id:=4) T mixed JeJ (by kernel_rfl) fun K hK=>?_|refine Qk (id:=7) T mixed JeK (by kernel_rfl) fun K hK=>?_|refine Ql fun A B hA hB=>?_|refine Qn ?_|refine Qr ?_)
 | ((with_reducible first|apply Qy|apply Qz|apply QA)<;>intro hb<;>try simp only[nr] at hb)
 |simp only[go_sem,↓reduceIte,reduceIte,Qa,Qh,Qb,Qc,Qd,Qe,Qf,Qg,reduceCtorEq, *,-w0,-w1,-w2]
 |with_reducible refine fun(bn:Bool) hbn=>?_))
 rw[hfew] at w1
 unfold Jb7 at hfew
 simp only[Bool.and_eq_true,decide_eq_true_eq] at hfew
 have hb:=Jk4 hfew.1 hw hs
 have hh:Jc a_host.length:=by have:=hfew.2.1.1.1;unfold Jc;omega
 clear hfew
 have w3:=Jej s_epoch s_turn s_up s_in_last_a0 s_in_last_a1 s_in_last_a2 s_in_last_a3 s_in_max s_errs_a0 s_errs_a1 s_errs_a2 s_errs_a3 s_w_c_cap s_w_c_l s_w_ready s_w_shown s_p_next s_p_snaps (hb.sz (by decide))
 by_cases hsn:VD (⟨s_epoch,s_turn,s_up,⟨⟨s_in_last_a0,s_in_last_a1,s_in_last_a2,s_in_last_a3⟩,s_in_max⟩,⟨s_errs_a0,s_errs_a1,s_errs_a2,s_errs_a3⟩,⟨⟨s_w_c_cap,s_w_c_l⟩,s_w_ready,s_w_shown⟩,⟨s_p_next,s_p_snaps⟩⟩:Side)=true
 rotate_left
 ·rw[show VD (⟨s_epoch,s_turn,s_up,⟨⟨s_in_last_a0,s_in_last_a1,s_in_last_a2,s_in_last_a3⟩,s_in_max⟩,⟨s_errs_a0,s_errs_a1,s_errs_a2,s_errs_a3⟩,⟨⟨s_w_c_cap,s_w_c_l⟩,s_w_ready,s_w_shown⟩,⟨s_p_next,s_p_snaps⟩⟩:Side)=false by simpa using hsn] at w3
  clear hw hl hs hb hsn
  refine CallR.go2 (T:=T) Tryz.call4 Tryz.func4 rfl Tryz.ntmps4 (congrArg Array.toList Tryz.results4) (by decide) fun ts hn h0 h1=>?_
  (repeat' (first
 | (with_reducible first|refine callX.by (w0) ?_|refine callX.by (w1) ?_|refine callX.by (w2) ?_|refine callX.by (w3) ?_|assumption|(refine Qw hK _ ?_;clear hK K)|refine Qw ‹_› _ ?_|refine Qx ‹_› ?_|refine Qi fun K hK=>?_|refine Qj T fun K hK=>?_|refine Qk (id:=4) T mixed JeJ (by kernel_rfl) fun K hK=>?_|refine Qk (id:=7) T mixed JeK (by kernel_rfl) fun K hK=>?_|refine Ql fun A B hA hB=>?_|refine Qn ?_|refine Qr ?_)
 | ((with_reducible first|apply Qy|apply Qz|apply QA)<;>intro hb<;>try simp only[nr] at hb)
 |simp only[go_sem,↓reduceIte,reduceIte,Qa,Qh,Qb,Qc,Qd,Qe,Qf,Qg,reduceCtorEq, *,-w0,-w1,-w2,-w3]
 |with_reducible refine fun(bn:Bool) hbn=>?_))
 rw[hsn] at w3
 obtain⟨k,r2,hf,q1,q2,q3,q4⟩:=Jk6 hsn hb (by decide) (⟨a_port,a_host,a_path,a_first,a_other⟩:Ask) hh
 have w4:=Jfk a_port a_host a_path a_first a_other
 have w5:=Jk8 (Jl (⟨a_port,a_host,a_path,a_first,a_other⟩:Ask)) (⟨s_epoch,s_turn,s_up,⟨⟨s_in_last_a0,s_in_last_a1,s_in_last_a2,s_in_last_a3⟩,s_in_max⟩,⟨s_errs_a0,s_errs_a1,s_errs_a2,s_errs_a3⟩,⟨⟨s_w_c_cap,s_w_c_l⟩,s_w_ready,s_w_shown⟩,⟨s_p_next,s_p_snaps⟩⟩:Side) hf
 unfold Jl at w4 w5
 simp only at w4 w5
 have w6:=Jn3 s_epoch s_turn s_up s_in_last_a0 s_in_last_a1 s_in_last_a2 s_in_last_a3 s_in_max s_errs_a0 s_errs_a1 s_errs_a2 s_errs_a3 s_w_c_cap s_w_c_l s_w_ready s_w_shown s_p_next s_p_snaps (hb.sz (by decide))
 rw[Yy hsn] at w6
 simp only at w6
 have w7:=Jnw s_epoch s_turn s_up s_in_last_a0 s_in_last_a1 s_in_last_a2 s_in_last_a3 s_in_max s_errs_a0 s_errs_a1 s_errs_a2 s_errs_a3 s_w_c_cap s_w_c_l s_w_ready s_w_shown s_p_next s_p_snaps hl
 have w8:=JnO s_epoch s_turn s_up s_in_last_a0 s_in_last_a1 s_in_last_a2 s_in_last_a3 s_in_max s_errs_a0 s_errs_a1 s_errs_a2 s_errs_a3 s_w_c_cap s_w_c_l s_w_ready s_w_shown s_p_next s_p_snaps hw hl hs
 have w9:=Jee r2.a.port r2.a.host r2.a.path r2.a.first r2.a.other r2.stage r2.id r2.route r2.cluster r2.out.what r2.out.cluster r2.out.host
 have w9:CallR Tryz.prog 22 [.agg [.int .i64 r2.a.port,.str r2.a.host,.str r2.a.path,.int .i64 r2.a.first,.int .i64 r2.a.other,.int .i64 r2.stage,.int .i64 r2.id,.str r2.route,.str r2.cluster,.int .i64 r2.out.what,.str r2.out.cluster,.int .i64 r2.out.host]] (.val (.bool (!decide ((JF r2).stage=5)))):=w9
 have e9:(!decide ((JF r2).stage=5))=false:=by rw[q1,q2];rfl
 rw[e9] at w9
 clear e9
 obtain⟨c1,c2⟩:=Jix (hb.p.sz (by decide))
 simp only at c1 c2
 have w10:=YB _ (JN ⟨s_p_next,s_p_snaps⟩).2.1 c1 c2
 simp only[decide_true] at w10
 clear hw hl hs hb hh hsn hf q1 q2 q3 q4 c1 c2
 generalize JN ⟨s_p_next,s_p_snaps⟩=cur at *
 refine CallR.go2 (T:=T) Tryz.call4 Tryz.func4 rfl Tryz.ntmps4 (congrArg Array.toList Tryz.results4) (by decide) fun ts hn h0 h1=>?_
 (repeat' (first
 | (with_reducible first|refine callX.by (w0) ?_|refine callX.by (w1) ?_|refine callX.by (w2) ?_|refine callX.by (w3) ?_|refine callX.by (w4) ?_|refine callX.by (w5) ?_|refine callX.by (w6) ?_|refine callX.by (w7) ?_|refine callX.by (w8) ?_|refine callX.by (w9) ?_|refine callX.by (w10) ?_|assumption|(refine Qw hK _ ?_;clear hK K)|refine Qw ‹_› _ ?_|refine Qx ‹_› ?_|refine Qi fun K hK=>?_|refine Qj T fun K hK=>?_|refine Qk (id:=4) T mixed JeJ (by kernel_rfl) fun K hK=>?_|refine Qk (id:=7) T mixed JeK (by kernel_rfl) fun K hK=>?_|refine Ql fun A B hA hB=>?_|refine Qn ?_|refine Qr ?_)
 | ((with_reducible first|apply Qy|apply Qz|apply QA)<;>intro hb<;>try simp only[nr] at hb)
 |simp only[go_sem,↓reduceIte,reduceIte,Qa,Qh,Qb,Qc,Qd,Qe,Qf,Qg,reduceCtorEq, *,-w0,-w1,-w2,-w3,-w4,-w5,-w6,-w7,-w8,-w9,-w10,List.length_nil,J6]
 |with_reducible refine fun(bn:Bool) hbn=>?_))
end Go.Proofs.YthjalhfmpffbjaaGreatDoor.Lg
