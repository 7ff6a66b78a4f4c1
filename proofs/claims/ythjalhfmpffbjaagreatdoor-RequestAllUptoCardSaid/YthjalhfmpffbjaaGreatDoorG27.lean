/- Parts of the proof, one behind the other. -/
import Derived.Test.YthjalhfmpffbjaaGreatDoorG26
namespace Go.Proofs.YthjalhfmpffbjaaGreatDoor.Lg
set_option maxRecDepth 100000
set_option linter.unusedVariables false
set_option linter.unusedSimpArgs false
open Go
open Nat renaming reduceEqDiff → Qa, reduceLT → Qb, reduceLeDiff → Qc, reduceAdd → Qd, reduceMul → Qe, reduceSub → Qf, reduceBEq → Qg
open String renaming reduceEq → Qh
open SpecC renaming seqW → Qi, regW → Qj, drawW → Qk, condW → Ql, block → Qm, skip → Qn, exit → Qp, ret → Qr, loopF → Qs
open NxK renaming out → Qw
open Nx renaming out → Qx
open condK renaming split → Qy
open gK renaming split_t → Qz, split_f → QA
@[go_sem] def JeF:List (List Nat×List Nat):=[([20],[21]),([21],[20,2]),([2],[21])]
@[go_sem] def JeG:List (List Nat×List Nat):=[([25],[26,27]),([26],[25,27,4]),([27],[25,26,4,5]),([4],[26,27]),([5],[27])]
set_option maxHeartbeats 16000000 in
theorem Jlf{k:Nat}{r2:Req}{s2:Side}(r:Req)(s:Side)(hf:FinR k r s r2 s2) :
  CallR Tryz.prog 19 [.agg [.int .i64 r.a.port,.str r.a.host,.str r.a.path,.int .i64 r.a.first,.int .i64 r.a.other,.int .i64 r.stage,.int .i64 r.id,.str r.route,.str r.cluster,.int .i64 r.out.what,.str r.out.cluster,.int .i64 r.out.host],.agg [.int .i64 s.epoch,.int .i64 s.turn,.bool s.up,.int .i64 s.in'.last.a0,.int .i64 s.in'.last.a1,.int .i64 s.in'.last.a2,.int .i64 s.in'.last.a3,.int .i64 s.in'.max,.int .i64 s.errs.a0,.int .i64 s.errs.a1,.int .i64 s.errs.a2,.int .i64 s.errs.a3,.int .i64 s.w.c.cap,.slice false (Ja s.w.c.l),.bool s.w.ready,.slice false (Ja s.w.shown),.int .i64 s.p.next',.slice false (Ja s.p.snaps)]] (.val (.tup [.agg [.int .i64 r2.a.port,.str r2.a.host,.str r2.a.path,.int .i64 r2.a.first,.int .i64 r2.a.other,.int .i64 r2.stage,.int .i64 r2.id,.str r2.route,.str r2.cluster,.int .i64 r2.out.what,.str r2.out.cluster,.int .i64 r2.out.host],.agg [.int .i64 s2.epoch,.int .i64 s2.turn,.bool s2.up,.int .i64 s2.in'.last.a0,.int .i64 s2.in'.last.a1,.int .i64 s2.in'.last.a2,.int .i64 s2.in'.last.a3,.int .i64 s2.in'.max,.int .i64 s2.errs.a0,.int .i64 s2.errs.a1,.int .i64 s2.errs.a2,.int .i64 s2.errs.a3,.int .i64 s2.w.c.cap,.slice false (Ja s2.w.c.l),.bool s2.w.ready,.slice false (Ja s2.w.shown),.int .i64 s2.p.next',.slice false (Ja s2.p.snaps)],.slice false []])):=by
 refine CallR.go2 (T:=T) Tryz.call19 Tryz.func19 rfl Tryz.ntmps19 (congrArg Array.toList Tryz.results19) (by decide) fun ts hn h0 h1=>?_
 (repeat' (first
 | (with_reducible first|refine callX.by (Jf4 _ _ _ _ _ _ _ _ _ _ _ _) ?_|refine callX.by (Jgb _ _ _ _ _ _ _ _ _ _ _ _ _ _ _ _ _ _ _ _ _ _ _ _ _ _ _ _ _ _ ?_ ?_) ?_|assumption|(refine Qw hK _ ?_;clear hK K)|refine Qw ‹_› _ ?_|refine Qx ‹_› ?_|refine Qi fun K hK=>?_|refine Qj T fun K hK=>?_|refine Qk (id:=4) T mixed JeF (by kernel_rfl) fun K hK=>?_|refine Qk (id:=6) T mixed JeG (by kernel_rfl) fun K hK=>?_|refine Ql fun A B hA hB=>?_|refine Qm ?_|refine Qn ?_|refine Qp ?_|refine Qr ?_)
 | ((with_reducible first|apply Qy|apply Qz|apply QA)<;>intro hb<;>try simp only[nr] at hb)
 |simp only[go_sem,↓reduceIte,reduceIte,Qa,Qh,Qb,Qc,Qd,Qe,Qf,Qg,reduceCtorEq, *,-hf]
 |with_reducible refine fun(bn:Bool) hbn=>?_))
 refine SpecC.virt 7 24 10 (by decide) (by simp only[go_sem,↓reduceIte,reduceIte,Qa,Qh,Qb,Qc,Qd,Qe,Qf,Qg,reduceCtorEq, *,-hf]) ?_
 refine Qs [4,5] (fun m ts'=>∃(k:Nat),∃(r:Req),∃(s:Side),∃(g:Nat),m=k∧FinR k r s r2 s2∧ts'.tmp 2=.ref 2 (ts.gen 2+1) 0∧ts'.gen 2=ts.gen 2+1∧ts'.obj 2=.box [.int .i64 r.a.port,.str r.a.host,.str r.a.path,.int .i64 r.a.first,.int .i64 r.a.other,.int .i64 r.stage,.int .i64 r.id,.str r.route,.str r.cluster,.int .i64 r.out.what,.str r.out.cluster,.int .i64 r.out.host]∧ts'.tmp 3=.ref 3 (ts.gen 3+1) 0∧ts'.gen 3=ts.gen 3+1∧ts'.obj 3=.box [.int .i64 s.epoch,.int .i64 s.turn,.bool s.up,.int .i64 s.in'.last.a0,.int .i64 s.in'.last.a1,.int .i64 s.in'.last.a2,.int .i64 s.in'.last.a3,.int .i64 s.in'.max,.int .i64 s.errs.a0,.int .i64 s.errs.a1,.int .i64 s.errs.a2,.int .i64 s.errs.a3,.int .i64 s.w.c.cap,.slice false (Ja s.w.c.l),.bool s.w.ready,.slice false (Ja s.w.shown),.int .i64 s.p.next',.slice false (Ja s.p.snaps)]∧ts'.tmp 4=.ref 4 (ts.gen 4+1) 0∧ts'.gen 4=ts.gen 4+1∧ts'.obj 4=.box [.int .i64 0,.str [],.str [],.int .i64 0,.int .i64 0,.int .i64 0,.int .i64 0,.str [],.str [],.int .i64 0,.str [],.int .i64 0]∧ts'.tmp 5=.ref 5 (ts.gen 5+1) 0∧ts'.gen 5=ts.gen 5+1∧ts'.obj 5=.box [.int .i64 0,.int .i64 0,.bool false,.int .i64 0,.int .i64 0,.int .i64 0,.int .i64 0,.int .i64 0,.int .i64 0,.int .i64 0,.int .i64 0,.int .i64 0,.int .i64 0,.slice true [],.bool false,.slice true [],.int .i64 0,.slice true []]∧ts'.tmp 7=.os 24 g 0∧ts'.gen 24=g∧ts'.obj 24=.arr 10 []) k ?_ ?_
 ·refine⟨k,r,s,ts.gen 24+1,rfl,hf,?_⟩
  simp only[go_sem,↓reduceIte,reduceIte,Qa,Qh,Qb,Qc,Qd,Qe,Qf,Qg,reduceCtorEq, *,-hf,JY]
 ·clear hf
  rintro m A hM ts' hk ⟨k,r,s,g,hm,f1,s1,s2,s3,s4,s5,s6,s7,s8,s9,s10,s11,s12,s13,s14,s15⟩
  simp only[go_sem,↓reduceIte,reduceIte,Qa,Qh,Qb,Qc,Qd,Qe,Qf,Qg,reduceCtorEq, *] at hk
  have w1:=Jf4 r.a.port r.a.host r.a.path r.a.first r.a.other r.stage r.id r.route r.cluster r.out.what r.out.cluster r.out.host
  have w1:CallR Tryz.prog 22 [.agg [.int .i64 r.a.port,.str r.a.host,.str r.a.path,.int .i64 r.a.first,.int .i64 r.a.other,.int .i64 r.stage,.int .i64 r.id,.str r.route,.str r.cluster,.int .i64 r.out.what,.str r.out.cluster,.int .i64 r.out.host]] (.val (.bool (!decide ((JF r).stage=5)))):=w1
  cases f1 with
  |done h =>
   rw[h] at w1
   (repeat' (first
 | (with_reducible first|refine callX.by (w1) ?_|assumption|(refine Qw hK _ ?_;clear hK K)|refine Qw ‹_› _ ?_|refine Qx ‹_› ?_|refine Qi fun K hK=>?_|refine Qj T fun K hK=>?_|refine Qk (id:=4) T mixed JeF (by kernel_rfl) fun K hK=>?_|refine Qk (id:=6) T mixed JeG (by kernel_rfl) fun K hK=>?_|refine Ql fun A B hA hB=>?_|refine Qm ?_|refine Qn ?_|refine Qp ?_|refine Qr ?_)
 | ((with_reducible first|apply Qy|apply Qz|apply QA)<;>intro hb<;>try simp only[nr] at hb)
 |simp only[go_sem,↓reduceIte,reduceIte,Qa,Qh,Qb,Qc,Qd,Qe,Qf,Qg,reduceCtorEq, *,-w1,-h]
 |with_reducible refine fun(bn:Bool) hbn=>?_))
   all_goals trace_state
  |step h hz hk0 e hf =>
   rename_i k r' s'
   have w2:=Jgb r.a.port r.a.host r.a.path r.a.first r.a.other r.stage r.id r.route r.cluster r.out.what r.out.cluster r.out.host s.epoch s.turn s.up s.in'.last.a0 s.in'.last.a1 s.in'.last.a2 s.in'.last.a3 s.in'.max s.errs.a0 s.errs.a1 s.errs.a2 s.errs.a3 s.w.c.cap s.w.c.l s.w.ready s.w.shown s.p.next' s.p.snaps hz hk0
   have w2:CallR Tryz.prog 15 [.agg [.int .i64 r.a.port,.str r.a.host,.str r.a.path,.int .i64 r.a.first,.int .i64 r.a.other,.int .i64 r.stage,.int .i64 r.id,.str r.route,.str r.cluster,.int .i64 r.out.what,.str r.out.cluster,.int .i64 r.out.host],.agg [.int .i64 s.epoch,.int .i64 s.turn,.bool s.up,.int .i64 s.in'.last.a0,.int .i64 s.in'.last.a1,.int .i64 s.in'.last.a2,.int .i64 s.in'.last.a3,.int .i64 s.in'.max,.int .i64 s.errs.a0,.int .i64 s.errs.a1,.int .i64 s.errs.a2,.int .i64 s.errs.a3,.int .i64 s.w.c.cap,.slice false (Ja s.w.c.l),.bool s.w.ready,.slice false (Ja s.w.shown),.int .i64 s.p.next',.slice false (Ja s.p.snaps)]] (.val (.tup [.agg [.int .i64 (Jk r s).req.a.port,.str (Jk r s).req.a.host,.str (Jk r s).req.a.path,.int .i64 (Jk r s).req.a.first,.int .i64 (Jk r s).req.a.other,.int .i64 (Jk r s).req.stage,.int .i64 (Jk r s).req.id,.str (Jk r s).req.route,.str (Jk r s).req.cluster,.int .i64 (Jk r s).req.out.what,.str (Jk r s).req.out.cluster,.int .i64 (Jk r s).req.out.host],.agg [.int .i64 (Jk r s).side.epoch,.int .i64 (Jk r s).side.turn,.bool (Jk r s).side.up,.int .i64 (Jk r s).side.in'.last.a0,.int .i64 (Jk r s).side.in'.last.a1,.int .i64 (Jk r s).side.in'.last.a2,.int .i64 (Jk r s).side.in'.last.a3,.int .i64 (Jk r s).side.in'.max,.int .i64 (Jk r s).side.errs.a0,.int .i64 (Jk r s).side.errs.a1,.int .i64 (Jk r s).side.errs.a2,.int .i64 (Jk r s).side.errs.a3,.int .i64 (Jk r s).side.w.c.cap,.slice false (Ja (Jk r s).side.w.c.l),.bool (Jk r s).side.w.ready,.slice false (Ja (Jk r s).side.w.shown),.int .i64 (Jk r s).side.p.next',.slice false (Ja (Jk r s).side.p.snaps)],.slice false (Ja (Jk r s).told)])):=w2
   rw[e] at w2
   rw[decide_eq_false h] at w1
   clear hz hk0 e h
   have hr1:V0 0 144:=JcP (by decide) (by decide)
   (repeat' (first
 | (with_reducible first|refine callX.by (w1) ?_|refine callX.by (w2) ?_|assumption|(refine Qw hK _ ?_;clear hK K)|refine Qw ‹_› _ ?_|refine Qx ‹_› ?_|refine Qi fun K hK=>?_|refine Qj T fun K hK=>?_|refine Qk (id:=4) T mixed JeF (by kernel_rfl) fun K hK=>?_|refine Qk (id:=6) T mixed JeG (by kernel_rfl) fun K hK=>?_|refine Ql fun A B hA hB=>?_|refine Qm ?_|refine Qn ?_|refine Qp ?_|refine Qr ?_)
 | ((with_reducible first|apply Qy|apply Qz|apply QA)<;>intro hb<;>try simp only[nr] at hb)
 |simp only[go_sem,↓reduceIte,reduceIte,Qa,Qh,Qb,Qc,Qd,Qe,Qf,Qg,reduceCtorEq, *,-w1,-w2,-hf,JY,List.length_nil,Nat.zero_add,Nat.add_zero,List.append_nil]
 |with_reducible refine fun(bn:Bool) hbn=>?_))
   all_goals ((repeat clear hK);(repeat clear hA);(repeat clear hB))
   (refine hM.on (k) (by omega) (by simp only[go_sem,↓reduceIte,reduceIte,Qa,Qh,Qb,Qc,Qd,Qe,Qf,Qg,reduceCtorEq, *,-hf,JY]) ⟨k,r',s',ts'.gen 24+1,rfl,hf,?_⟩;simp only[go_sem,↓reduceIte,reduceIte,Qa,Qh,Qb,Qc,Qd,Qe,Qf,Qg,reduceCtorEq, *,-hf,JY];done)
theorem JnI(w_c_cap:Int)(w_c_l:List Res)(w_ready:Bool)(w_shown:List Res):CallR Tryz.prog 40 [.agg [.int .i64 w_c_cap,.slice false (Ja w_c_l),.bool w_ready,.slice false (Ja w_shown)]] (.val (.agg [.int .i64 w_c_cap,.slice false (Ja w_c_l),.bool w_ready,.slice false (Ja w_shown)])):=by
 refine CallR.go1 (T:=T) Tryz.call40 Tryz.func40 rfl Tryz.ntmps40 (congrArg Array.toList Tryz.results40) (by decide) fun ts hn h0=>?_
 (repeat' (first
 | (with_reducible first|assumption|(refine Qw hK _ ?_;clear hK K)|refine Qw ‹_› _ ?_|refine Qx ‹_› ?_|refine Qi fun K hK=>?_|refine Qj T fun K hK=>?_|refine Ql fun A B hA hB=>?_|refine Qn ?_|refine Qr ?_)
 | ((with_reducible first|apply Qy|apply Qz|apply QA)<;>intro hb<;>try simp only[nr] at hb)
 |simp only[go_sem,↓reduceIte,reduceIte,Qa,Qh,Qb,Qc,Qd,Qe,Qf,Qg,reduceCtorEq, *]
 |with_reducible refine fun(bn:Bool) hbn=>?_))
theorem Jny(next:Int)(xs:List Snap)(hl:Jc xs.length):CallR Tryz.prog 41 [.agg [.int .i64 next,.slice false (Ja xs)]] (.val (.agg [.int .i64 next,.slice false (Ja xs)])):=by
 refine CallR.go1 (T:=T) Tryz.call41 Tryz.func41 rfl Tryz.ntmps41 (congrArg Array.toList Tryz.results41) (by decide) fun ts hn h0=>?_
 (repeat' (first
 | (with_reducible first|assumption|(refine Qw hK _ ?_;clear hK K)|refine Qw ‹_› _ ?_|refine Qx ‹_› ?_|refine Qi fun K hK=>?_|refine Qj T fun K hK=>?_|refine Ql fun A B hA hB=>?_|refine Qm ?_|refine Qn ?_|refine Qp ?_|refine Qr ?_)
 | ((with_reducible first|apply Qy|apply Qz|apply QA)<;>intro hb<;>try simp only[nr] at hb)
 |simp only[go_sem,↓reduceIte,reduceIte,Qa,Qh,Qb,Qc,Qd,Qe,Qf,Qg,reduceCtorEq, *]
 |with_reducible refine fun(bn:Bool) hbn=>?_))
 refine SpecC.ent (Ent.virtB 31 3 1 3 (cs:=[.int .i64 next,.slice true []]) (by simp only[go_sem,↓reduceIte,reduceIte,Qa,Qh,Qb,Qc,Qd,Qe,Qf,Qg,reduceCtorEq, *,Ob.box?]) (by decide) rfl (by decide)) ?_
 refine Qs [1,2] (fun m ts'=>∃(i:Nat),∃(g:Nat),m=xs.length-i∧i≤xs.length∧ts'.tmp 3=.ref 3 (ts.gen 3+1) 0∧ts'.gen 3=ts.gen 3+1∧ts'.obj 3=.box [.int .i64 next,.os 31 g i]∧ts'.gen 31=g∧ts'.obj 31=.arr 3 (Ja (xs.take i))∧ts'.tmp 4=.int .i64 i) xs.length ?_ ?_
 ·refine⟨0,ts.gen 31+1,rfl,Nat.zero_le _,?_⟩
  simp only[go_sem,↓reduceIte,reduceIte,Qa,Qh,Qb,Qc,Qd,Qe,Qf,Qg,reduceCtorEq, *,JY,List.take_zero,List.set]
 ·rintro m A hM ts' hk ⟨i,g,hm,f1,s1,s2,s3,s4,s5,s6⟩
  simp only[go_sem,↓reduceIte,reduceIte,Qa,Qh,Qb,Qc,Qd,Qe,Qf,Qg,reduceCtorEq, *] at hk
  have hlen:(xs.take i).length=i:=by rw[List.length_take];omega
  have htk:(xs.take i).take i=xs.take i:=by rw[List.take_take,Nat.min_self]
  have hr1:V0 (i+1) 40:=JbS (by unfold Jc at hl;omega) (by decide)
  by_cases hlt:i<xs.length
  ·have e:=List.take_succ_eq_append_getElem hlt
   (repeat' (first
 | (with_reducible first|assumption|(refine Qw hK _ ?_;clear hK K)|refine Qw ‹_› _ ?_|refine Qx ‹_› ?_|refine Qi fun K hK=>?_|refine Qj T fun K hK=>?_|refine Ql fun A B hA hB=>?_|refine Qm ?_|refine Qn ?_|refine Qp ?_|refine Qr ?_)
 | ((with_reducible first|apply Qy|apply Qz|apply QA)<;>intro hb<;>try simp only[nr] at hb)
 |simp only[go_sem,↓reduceIte,reduceIte,Qa,Qh,Qb,Qc,Qd,Qe,Qf,Qg,reduceCtorEq, *,-e]
 |with_reducible refine fun(bn:Bool) hbn=>?_))
   all_goals ((repeat clear hK);(repeat clear hA);(repeat clear hB))
   (refine hM.on (xs.length-(i+1)) (by omega) (by simp only[go_sem,↓reduceIte,reduceIte,Qa,Qh,Qb,Qc,Qd,Qe,Qf,Qg,reduceCtorEq, *,Jj hlt hl,e]) ⟨i+1,ts'.gen 31+1,rfl,by omega,?_⟩;simp only[go_sem,↓reduceIte,reduceIte,Qa,Qh,Qb,Qc,Qd,Qe,Qf,Qg,reduceCtorEq, *,Jj hlt hl,e];done)
  ·have hi2:i=xs.length:=by omega
   (repeat' (first
 | (with_reducible first|assumption|(refine Qw hK _ ?_;clear hK K)|refine Qw ‹_› _ ?_|refine Qx ‹_› ?_|refine Qi fun K hK=>?_|refine Qj T fun K hK=>?_|refine Ql fun A B hA hB=>?_|refine Qm ?_|refine Qn ?_|refine Qp ?_|refine Qr ?_)
 | ((with_reducible first|apply Qy|apply Qz|apply QA)<;>intro hb<;>try simp only[nr] at hb)
 |simp only[go_sem,↓reduceIte,reduceIte,Qa,Qh,Qb,Qc,Qd,Qe,Qf,Qg,reduceCtorEq, *,Nat.lt_irrefl,List.take_length]
 |with_reducible refine fun(bn:Bool) hbn=>?_))
set_option maxHeartbeats 4000000 in
theorem JfX(s_epoch:Int)(s_turn:Int)(s_up:Bool)(s_in_last_a0:Int)(s_in_last_a1:Int)(s_in_last_a2:Int)(s_in_last_a3:Int)(s_in_max:Int)(s_errs_a0:Int)(s_errs_a1:Int)(s_errs_a2:Int)(s_errs_a3:Int)(s_w_c_cap:Int)(s_w_c_l:List Res)(s_w_ready:Bool)(s_w_shown:List Res)(s_p_next:Int)(s_p_snaps:List Snap)(hl:Jc s_p_snaps.length):CallR Tryz.prog 13 [.agg [.int .i64 s_epoch,.int .i64 s_turn,.bool s_up,.int .i64 s_in_last_a0,.int .i64 s_in_last_a1,.int .i64 s_in_last_a2,.int .i64 s_in_last_a3,.int .i64 s_in_max,.int .i64 s_errs_a0,.int .i64 s_errs_a1,.int .i64 s_errs_a2,.int .i64 s_errs_a3,.int .i64 s_w_c_cap,.slice false (Ja s_w_c_l),.bool s_w_ready,.slice false (Ja s_w_shown),.int .i64 s_p_next,.slice false (Ja s_p_snaps)]] (.val (.agg [.int .i64 s_epoch,.int .i64 s_turn,.bool s_up,.int .i64 s_in_last_a0,.int .i64 s_in_last_a1,.int .i64 s_in_last_a2,.int .i64 s_in_last_a3,.int .i64 s_in_max,.int .i64 s_errs_a0,.int .i64 s_errs_a1,.int .i64 s_errs_a2,.int .i64 s_errs_a3,.int .i64 s_w_c_cap,.slice false (Ja s_w_c_l),.bool s_w_ready,.slice false (Ja s_w_shown),.int .i64 s_p_next,.slice false (Ja s_p_snaps)])):=by
 have w1:=JnI s_w_c_cap s_w_c_l s_w_ready s_w_shown
 have w2:=Jny s_p_next s_p_snaps hl
 clear hl
 refine CallR.go1 (T:=T) Tryz.call13 Tryz.func13 rfl Tryz.ntmps13 (congrArg Array.toList Tryz.results13) (by decide) fun ts hn h0=>?_
 (repeat' (first
 | (with_reducible first|refine callX.by (w1) ?_|refine callX.by (w2) ?_|assumption|(refine Qw hK _ ?_;clear hK K)|refine Qw ‹_› _ ?_|refine Qx ‹_› ?_|refine Qi fun K hK=>?_|refine Qj T fun K hK=>?_|refine Qk (id:=1) T mixed [([3],[5,6,7,8,9,10,11,12,13,14,15,16,17,18,19,20,21,22,23]),([4],[5,6,7,8,9,10,11,12,13,14,15,16,17,18,19,20,21,22,23]),([5],[3,4,7,8,9,10,11,12,13,14,15,16,17,18,19,20,21,22,23]),([6],[3,4,7,8,9,10,11,12,13,14,15,16,17,18,19,20,21,22,23]),([7],[3,4,5,6,9,10,11,12,13,14,15,16,17,18,19,20,21,22,23]),([8],[3,4,5,6,9,10,11,12,13,14,15,16,17,18,19,20,21,22,23]),([9],[3,4,5,6,7,8,12,13,14,15,16,17,18,19,20,21,22,23]),([10],[3,4,5,6,7,8,12,13,14,16,17,18,19,20,21,22,23]),([11],[3,4,5,6,7,8,12,13,14,16,17,18,19,20,21,22,23]),([12],[3,4,5,6,7,8,9,10,11,15,16,17,18,19,20,21,22,23]),([13],[3,4,5,6,7,8,9,10,11,16,17,18,19,20,21,22,23]),([14],[3,4,5,6,7,8,9,10,11,16,17,18,19,20,21,22,23]),([15],[3,4,5,6,7,8,9,12,16,17,18,19,20,21,22,23]),([16],[3,4,5,6,7,8,9,10,11,12,13,14,15,18,19,20,21,22,23]),([17],[3,4,5,6,7,8,9,10,11,12,13,14,15,18,19,20,21,22,23]),([18],[3,4,5,6,7,8,9,10,11,12,13,14,15,16,17,21,22,23]),([19],[3,4,5,6,7,8,9,10,11,12,13,14,15,16,17,21,22]),([20],[3,4,5,6,7,8,9,10,11,12,13,14,15,16,17,21,22]),([21],[3,4,5,6,7,8,9,10,11,12,13,14,15,16,17,18,19,20]),([22],[3,4,5,6,7,8,9,10,11,12,13,14,15,16,17,18,19,20]),([23],[3,4,5,6,7,8,9,10,11,12,13,14,15,16,17,18])] (by kernel_rfl) fun K hK=>?_|refine Ql fun A B hA hB=>?_|refine Qn ?_|refine Qr ?_)
 | ((with_reducible first|apply Qy|apply Qz|apply QA)<;>intro hb<;>try simp only[nr] at hb)
 |simp only[go_sem,↓reduceIte,reduceIte,Qa,Qh,Qb,Qc,Qd,Qe,Qf,Qg,reduceCtorEq, *,-w1,-w2]
 |with_reducible refine fun(bn:Bool) hbn=>?_))
def Jcf(r:Req)(s:Side):Bool:=Jbq s && (decide (r.a.host.length≤100) && decide (r.a.path.length≤100) && decide (r.route.length≤100) && decide (r.cluster.length≤100))
set_option maxHeartbeats 4000000 in
theorem Je1(r_a_port:Int)(r_a_host:List UInt8)(r_a_path:List UInt8)(r_a_first:Int)(r_a_other:Int)(r_stage:Int)(r_id:Int)(r_route:List UInt8)(r_cluster:List UInt8)(r_out_what:Int)(r_out_cluster:List UInt8)(r_out_host:Int)(s_epoch:Int)(s_turn:Int)(s_up:Bool)(s_in_last_a0:Int)(s_in_last_a1:Int)(s_in_last_a2:Int)(s_in_last_a3:Int)(s_in_max:Int)(s_errs_a0:Int)(s_errs_a1:Int)(s_errs_a2:Int)(s_errs_a3:Int)(s_w_c_cap:Int)(s_w_c_l:List Res)(s_w_ready:Bool)(s_w_shown:List Res)(s_p_next:Int)(s_p_snaps:List Snap)(hw:Jaw ⟨⟨s_w_c_cap,s_w_c_l⟩,s_w_ready,s_w_shown⟩)(hl:Jc s_p_snaps.length)(hs:∀x∈s_p_snaps,Ye x):CallR Tryz.prog 9 [.agg [.int .i64 r_a_port,.str r_a_host,.str r_a_path,.int .i64 r_a_first,.int .i64 r_a_other,.int .i64 r_stage,.int .i64 r_id,.str r_route,.str r_cluster,.int .i64 r_out_what,.str r_out_cluster,.int .i64 r_out_host],.agg [.int .i64 s_epoch,.int .i64 s_turn,.bool s_up,.int .i64 s_in_last_a0,.int .i64 s_in_last_a1,.int .i64 s_in_last_a2,.int .i64 s_in_last_a3,.int .i64 s_in_max,.int .i64 s_errs_a0,.int .i64 s_errs_a1,.int .i64 s_errs_a2,.int .i64 s_errs_a3,.int .i64 s_w_c_cap,.slice false (Ja s_w_c_l),.bool s_w_ready,.slice false (Ja s_w_shown),.int .i64 s_p_next,.slice false (Ja s_p_snaps)]] (.val (.bool (Jcf (⟨⟨r_a_port,r_a_host,r_a_path,r_a_first,r_a_other⟩,r_stage,r_id,r_route,r_cluster,⟨r_out_what,r_out_cluster,r_out_host⟩⟩:Req) (⟨s_epoch,s_turn,s_up,⟨⟨s_in_last_a0,s_in_last_a1,s_in_last_a2,s_in_last_a3⟩,s_in_max⟩,⟨s_errs_a0,s_errs_a1,s_errs_a2,s_errs_a3⟩,⟨⟨s_w_c_cap,s_w_c_l⟩,s_w_ready,s_w_shown⟩,⟨s_p_next,s_p_snaps⟩⟩:Side)))):=by
 have w1:=Jla s_epoch s_turn s_up s_in_last_a0 s_in_last_a1 s_in_last_a2 s_in_last_a3 s_in_max s_errs_a0 s_errs_a1 s_errs_a2 s_errs_a3 s_w_c_cap s_w_c_l s_w_ready s_w_shown s_p_next s_p_snaps hw hl hs
 clear hw hl hs
 unfold Jcf
 generalize Jbq (⟨s_epoch,s_turn,s_up,⟨⟨s_in_last_a0,s_in_last_a1,s_in_last_a2,s_in_last_a3⟩,s_in_max⟩,⟨s_errs_a0,s_errs_a1,s_errs_a2,s_errs_a3⟩,⟨⟨s_w_c_cap,s_w_c_l⟩,s_w_ready,s_w_shown⟩,⟨s_p_next,s_p_snaps⟩⟩:Side)=b at *
 refine CallR.go2 (T:=T) Tryz.call9 Tryz.func9 rfl Tryz.ntmps9 (congrArg Array.toList Tryz.results9) (by decide) fun ts hn h0 h1=>?_
 (repeat' (first
 | (with_reducible first|refine callX.by (w1) ?_|assumption|(refine Qw hK _ ?_;clear hK K)|refine Qw ‹_› _ ?_|refine Qx ‹_› ?_|refine Qi fun K hK=>?_|refine Qj T fun K hK=>?_|refine Ql fun A B hA hB=>?_|refine Qn ?_|refine Qr ?_)
 | ((with_reducible first|apply Qy|apply Qz|apply QA)<;>intro hb<;>try simp only[nr] at hb)
 |simp only[go_sem,↓reduceIte,reduceIte,Qa,Qh,Qb,Qc,Qd,Qe,Qf,Qg,reduceCtorEq, *,-w1]
 |with_reducible refine fun(bn:Bool) hbn=>?_))
 all_goals (rw[Bool.eq_iff_iff];simp_all)
 all_goals omega
theorem Jko:Jk (Jn ⟨80,[],[],0,0⟩) (Je 9 9)=⟨⟨⟨80,[],[],0,0⟩,5,0,[],[],⟨0,[],0⟩⟩,Je 9 9,[]⟩:=by
 unfold Jk ZR
 rw[JaZ,YC (JdS 9 9),if_pos (show(Jn ⟨80,[],[],0,0⟩).stage=0 from rfl)]
 unfold ZY
 simp only
 rw[YC (JdS 9 9)]
 have e:Vl (Je 9 9).p=(⟨0,[]⟩,0,10):=by
  unfold Vl
  rw[show(Je 9 9).p=⟨0,[]⟩ from rfl,JfF]
  rfl
 rw[e,if_neg (by simp)]
 rfl
theorem bdNew:BdS (Je 9 9) 0:=⟨by simp[Je],by simp[Je],by simp[Je],by simp[Je],⟨by simp[Je],by simp[Je]⟩⟩
set_option maxHeartbeats 8000000 in
theorem JeR:CallR Tryz.prog 8 [] (.val (.bool true)):=by
 have w1:=Jfn 9 9
 have w2:=Jcz 80 [] [] 0 0
 have w2:CallR Tryz.prog 20 [.agg [.int .i64 80,.str [],.str [],.int .i64 0,.int .i64 0]] (.val (.agg [.int .i64 (Jn ⟨80,[],[],0,0⟩).a.port,.str (Jn ⟨80,[],[],0,0⟩).a.host,.str (Jn ⟨80,[],[],0,0⟩).a.path,.int .i64 (Jn ⟨80,[],[],0,0⟩).a.first,.int .i64 (Jn ⟨80,[],[],0,0⟩).a.other,.int .i64 (Jn ⟨80,[],[],0,0⟩).stage,.int .i64 (Jn ⟨80,[],[],0,0⟩).id,.str (Jn ⟨80,[],[],0,0⟩).route,.str (Jn ⟨80,[],[],0,0⟩).cluster,.int .i64 (Jn ⟨80,[],[],0,0⟩).out.what,.str (Jn ⟨80,[],[],0,0⟩).out.cluster,.int .i64 (Jn ⟨80,[],[],0,0⟩).out.host])):=w2
 have hs:=JdS 9 9
 have w3:=Jgb (Jn ⟨80,[],[],0,0⟩).a.port (Jn ⟨80,[],[],0,0⟩).a.host (Jn ⟨80,[],[],0,0⟩).a.path (Jn ⟨80,[],[],0,0⟩).a.first (Jn ⟨80,[],[],0,0⟩).a.other (Jn ⟨80,[],[],0,0⟩).stage (Jn ⟨80,[],[],0,0⟩).id (Jn ⟨80,[],[],0,0⟩).route (Jn ⟨80,[],[],0,0⟩).cluster (Jn ⟨80,[],[],0,0⟩).out.what (Jn ⟨80,[],[],0,0⟩).out.cluster (Jn ⟨80,[],[],0,0⟩).out.host (Je 9 9).epoch (Je 9 9).turn (Je 9 9).up (Je 9 9).in'.last.a0 (Je 9 9).in'.last.a1 (Je 9 9).in'.last.a2 (Je 9 9).in'.last.a3 (Je 9 9).in'.max (Je 9 9).errs.a0 (Je 9 9).errs.a1 (Je 9 9).errs.a2 (Je 9 9).errs.a3 (Je 9 9).w.c.cap (Je 9 9).w.c.l (Je 9 9).w.ready (Je 9 9).w.shown (Je 9 9).p.next' (Je 9 9).p.snaps (bdNew.sz (by decide)) (by rw[show JF (Jn ⟨80,[],[],0,0⟩)=Jn ⟨80,[],[],0,0⟩ from JaZ _];show SzK ⟨Jn _,Jw (Je 9 9),[]⟩;rw[YC hs];exact bdNew.szk (by decide) hs _ (by simp[Jc,Jn]))
 have w3:CallR Tryz.prog 15 [.agg [.int .i64 (Jn ⟨80,[],[],0,0⟩).a.port,.str (Jn ⟨80,[],[],0,0⟩).a.host,.str (Jn ⟨80,[],[],0,0⟩).a.path,.int .i64 (Jn ⟨80,[],[],0,0⟩).a.first,.int .i64 (Jn ⟨80,[],[],0,0⟩).a.other,.int .i64 (Jn ⟨80,[],[],0,0⟩).stage,.int .i64 (Jn ⟨80,[],[],0,0⟩).id,.str (Jn ⟨80,[],[],0,0⟩).route,.str (Jn ⟨80,[],[],0,0⟩).cluster,.int .i64 (Jn ⟨80,[],[],0,0⟩).out.what,.str (Jn ⟨80,[],[],0,0⟩).out.cluster,.int .i64 (Jn ⟨80,[],[],0,0⟩).out.host],.agg [.int .i64 (Je 9 9).epoch,.int .i64 (Je 9 9).turn,.bool (Je 9 9).up,.int .i64 (Je 9 9).in'.last.a0,.int .i64 (Je 9 9).in'.last.a1,.int .i64 (Je 9 9).in'.last.a2,.int .i64 (Je 9 9).in'.last.a3,.int .i64 (Je 9 9).in'.max,.int .i64 (Je 9 9).errs.a0,.int .i64 (Je 9 9).errs.a1,.int .i64 (Je 9 9).errs.a2,.int .i64 (Je 9 9).errs.a3,.int .i64 (Je 9 9).w.c.cap,.slice false (Ja (Je 9 9).w.c.l),.bool (Je 9 9).w.ready,.slice false (Ja (Je 9 9).w.shown),.int .i64 (Je 9 9).p.next',.slice false (Ja (Je 9 9).p.snaps)]] (.val (.tup [.agg [.int .i64 (Jk (Jn ⟨80,[],[],0,0⟩) (Je 9 9)).req.a.port,.str (Jk (Jn ⟨80,[],[],0,0⟩) (Je 9 9)).req.a.host,.str (Jk (Jn ⟨80,[],[],0,0⟩) (Je 9 9)).req.a.path,.int .i64 (Jk (Jn ⟨80,[],[],0,0⟩) (Je 9 9)).req.a.first,.int .i64 (Jk (Jn ⟨80,[],[],0,0⟩) (Je 9 9)).req.a.other,.int .i64 (Jk (Jn ⟨80,[],[],0,0⟩) (Je 9 9)).req.stage,.int .i64 (Jk (Jn ⟨80,[],[],0,0⟩) (Je 9 9)).req.id,.str (Jk (Jn ⟨80,[],[],0,0⟩) (Je 9 9)).req.route,.str (Jk (Jn ⟨80,[],[],0,0⟩) (Je 9 9)).req.cluster,.int .i64 (Jk (Jn ⟨80,[],[],0,0⟩) (Je 9 9)).req.out.what,.str (Jk (Jn ⟨80,[],[],0,0⟩) (Je 9 9)).req.out.cluster,.int .i64 (Jk (Jn ⟨80,[],[],0,0⟩) (Je 9 9)).req.out.host],.agg [.int .i64 (Jk (Jn ⟨80,[],[],0,0⟩) (Je 9 9)).side.epoch,.int .i64 (Jk (Jn ⟨80,[],[],0,0⟩) (Je 9 9)).side.turn,.bool (Jk (Jn ⟨80,[],[],0,0⟩) (Je 9 9)).side.up,.int .i64 (Jk (Jn ⟨80,[],[],0,0⟩) (Je 9 9)).side.in'.last.a0,.int .i64 (Jk (Jn ⟨80,[],[],0,0⟩) (Je 9 9)).side.in'.last.a1,.int .i64 (Jk (Jn ⟨80,[],[],0,0⟩) (Je 9 9)).side.in'.last.a2,.int .i64 (Jk (Jn ⟨80,[],[],0,0⟩) (Je 9 9)).side.in'.last.a3,.int .i64 (Jk (Jn ⟨80,[],[],0,0⟩) (Je 9 9)).side.in'.max,.int .i64 (Jk (Jn ⟨80,[],[],0,0⟩) (Je 9 9)).side.errs.a0,.int .i64 (Jk (Jn ⟨80,[],[],0,0⟩) (Je 9 9)).side.errs.a1,.int .i64 (Jk (Jn ⟨80,[],[],0,0⟩) (Je 9 9)).side.errs.a2,.int .i64 (Jk (Jn ⟨80,[],[],0,0⟩) (Je 9 9)).side.errs.a3,.int .i64 (Jk (Jn ⟨80,[],[],0,0⟩) (Je 9 9)).side.w.c.cap,.slice false (Ja (Jk (Jn ⟨80,[],[],0,0⟩) (Je 9 9)).side.w.c.l),.bool (Jk (Jn ⟨80,[],[],0,0⟩) (Je 9 9)).side.w.ready,.slice false (Ja (Jk (Jn ⟨80,[],[],0,0⟩) (Je 9 9)).side.w.shown),.int .i64 (Jk (Jn ⟨80,[],[],0,0⟩) (Je 9 9)).side.p.next',.slice false (Ja (Jk (Jn ⟨80,[],[],0,0⟩) (Je 9 9)).side.p.snaps)],.slice false (Ja (Jk (Jn ⟨80,[],[],0,0⟩) (Je 9 9)).told)])):=w3
 rw[Jko] at w3
 have w4:=Jf4 80 [] [] 0 0 5 0 [] [] 0 [] 0
 rw[show JF ⟨⟨80,[],[],0,0⟩,5,0,[],[],⟨0,[],0⟩⟩=⟨⟨80,[],[],0,0⟩,5,0,[],[],⟨0,[],0⟩⟩ from JcN rfl (Int.le_refl 0)] at w4
 have w5:=JbU (Je 9 9).epoch (Je 9 9).turn (Je 9 9).up (Je 9 9).in'.last.a0 (Je 9 9).in'.last.a1 (Je 9 9).in'.last.a2 (Je 9 9).in'.last.a3 (Je 9 9).in'.max (Je 9 9).errs.a0 (Je 9 9).errs.a1 (Je 9 9).errs.a2 (Je 9 9).errs.a3 (Je 9 9).w.c.cap (Je 9 9).w.c.l (Je 9 9).w.ready (Je 9 9).w.shown (Je 9 9).p.next' (Je 9 9).p.snaps (bdNew.sz (by decide))
 have w5:CallR Tryz.prog 12 [.agg [.int .i64 (Je 9 9).epoch,.int .i64 (Je 9 9).turn,.bool (Je 9 9).up,.int .i64 (Je 9 9).in'.last.a0,.int .i64 (Je 9 9).in'.last.a1,.int .i64 (Je 9 9).in'.last.a2,.int .i64 (Je 9 9).in'.last.a3,.int .i64 (Je 9 9).in'.max,.int .i64 (Je 9 9).errs.a0,.int .i64 (Je 9 9).errs.a1,.int .i64 (Je 9 9).errs.a2,.int .i64 (Je 9 9).errs.a3,.int .i64 (Je 9 9).w.c.cap,.slice false (Ja (Je 9 9).w.c.l),.bool (Je 9 9).w.ready,.slice false (Ja (Je 9 9).w.shown),.int .i64 (Je 9 9).p.next',.slice false (Ja (Je 9 9).p.snaps)]] (.val (.bool (VF (Je 9 9)))):=w5
 rw[hs] at w5
 have w6:=Ji1 80 [] [] 0 0 5 0 [] [] 0 [] 0
 rw[show JaY ⟨⟨80,[],[],0,0⟩,5,0,[],[],⟨0,[],0⟩⟩=true by decide] at w6
 clear hs
 unfold Jn at w2 w3
 generalize Je 9 9=n9 at *
 refine CallR.go0 (T:=T) Tryz.call8 Tryz.func8 rfl Tryz.ntmps8 (congrArg Array.toList Tryz.results8) fun ts hn=>?_
 (repeat' (first
 | (with_reducible first|refine callX.by (w1) ?_|refine callX.by (w2) ?_|refine callX.by (w3) ?_|refine callX.by (w4) ?_|refine callX.by (w5) ?_|refine callX.by (w6) ?_|assumption|(refine Qw hK _ ?_;clear hK K)|refine Qw ‹_› _ ?_|refine Qx ‹_› ?_|refine Qi fun K hK=>?_|refine Qj T fun K hK=>?_|refine Qk (id:=2) T mixed [([7],[9,6,11,12,13,2,3]),([8],[9,11,12,13,2,3]),([9],[7,8,11,12,13,2,3]),([10],[2,3]),([6],[7,2,3]),([11],[7,8,9,12,13,2,3]),([12],[7,8,9,11,13,2,3]),([13],[7,8,9,11,12,2,3]),([2],[7,8,9,10,6,11,12,13,3]),([3],[7,8,9,10,6,11,12,13,2]),([2],[12,13]),([3],[13])] (by kernel_rfl) fun K hK=>?_|refine Ql fun A B hA hB=>?_|refine Qn ?_|refine Qr ?_)
 | ((with_reducible first|apply Qy|apply Qz|apply QA)<;>intro hb<;>try simp only[nr] at hb)
 |simp only[go_sem,↓reduceIte,reduceIte,Qa,Qh,Qb,Qc,Qd,Qe,Qf,Qg,reduceCtorEq, *,-w1,-w2,-w3,-w4,-w5,-w6,JY,List.length_nil]
 |with_reducible refine fun(bn:Bool) hbn=>?_))
@[go_sem] def Jbd:List (List Nat×List Nat):=[([49],[51,48,54,55,56,9,10]),([50],[51,54,55,56,9,10]),([51],[49,50,48,54,55,56,9,10]),([52],[54,55,56,9,10]),([53],[9,10]),([48],[49,51,9,10]),([54],[49,50,51,52,55,56,9,10]),([55],[49,50,51,52,54,56,9,10]),([56],[49,50,51,52,54,55,9,10]),([9],[49,50,51,52,53,48,54,55,56,10]),([10],[49,50,51,52,53,48,54,55,56,9]),([9],[55,56]),([10],[56])]
@[go_sem] def Jbe:List (List Nat×List Nat):=[([57],[67,68,69,70,71,72,73,74,75,76,77,78]),([58],[68,69,70,71,72,73,74,75,76,77,78]),([59],[61,62,63,64,66,67,68,69,70,71,72,73,74,75,76,77,78]),([60],[61,62,63,64,67,68,69,70,71,72,73,74,75,76,77,78]),([61],[59,60,62,63,66,68,69,70,71,72,73,74,75,76,77,78]),([62],[59,60,61,63,66,68,69,70,71,72,73,74,75,76,77,78]),([63],[59,60,61,62,66,68,69,70,71,72,73,74,75,76,77,78]),([64],[59,60,73,74,75,76,77,78]),([65],[68,69,70,71,72,73,74,75,76,77,78]),([66],[59,61,62,63,73,74,75,76,77,78]),([67],[57,59,60,74,75,76,77,78]),([68],[57,58,59,60,61,62,63,65,69,70,74,75,76,77,78]),([69],[57,58,59,60,61,62,63,65,68,72,73,74,75,76,77,78]),([70],[57,58,59,60,61,62,63,65,68,74,75,76,77,78]),([71],[57,58,59,60,61,62,63,65]),([72],[57,58,59,60,61,62,63,65,69]),([73],[57,58,59,60,61,62,63,64,65,66,69]),([74],[57,58,59,60,61,62,63,64,65,66,67,68,69,70,76,78]),([75],[57,58,59,60,61,62,63,64,65,66,67,68,69,70,76]),([76],[57,58,59,60,61,62,63,64,65,66,67,68,69,70,74,75]),([77],[57,58,59,60,61,62,63,64,65,66,67,68,69,70]),([78],[57,58,59,60,61,62,63,64,65,66,67,68,69,70,74])]
theorem JrO(l:List Res)(a:Ask):Yn l (Vm l a)=true:=by
 unfold Vm
 cases Zo l a.port with
 |none=>simp[Yn]
 |some x =>
  simp only
  cases Yl l x.to' a.host a.path with
  |none=>simp[Yn]
  |some r =>
   simp only
   cases YL r.split a.first with
   |none=>simp[Yn]
   |some c =>
    simp only
    cases e:V8 (Vj l c).1 a.other with
    |none=>simp[Yn]
    |some h =>
     have hm:h∈(Vj l c).1:=List.mem_of_getElem? e
     have h2:(Vj l c).2=true:=by
      revert hm
      unfold Vj
      cases JL l ⟨2,c⟩ with
      |none=>simp
      |some x =>
       simp only
       cases JL l ⟨3,x.to'⟩<;>simp
     unfold Yn
     rw[if_neg (by simp),if_pos rfl,h2,Bool.true_and,List.any_eq_true]
     exact⟨h,hm,by simp⟩
set_option maxHeartbeats 16000000 in
theorem Jnt(s_epoch:Int)(s_turn:Int)(s_up:Bool)(s_in_last_a0:Int)(s_in_last_a1:Int)(s_in_last_a2:Int)(s_in_last_a3:Int)(s_in_max:Int)(s_errs_a0:Int)(s_errs_a1:Int)(s_errs_a2:Int)(s_errs_a3:Int)(s_w_c_cap:Int)(s_w_c_l:List Res)(s_w_ready:Bool)(s_w_shown:List Res)(s_p_next:Int)(s_p_snaps:List Snap)(a_port:Int)(a_host:List UInt8)(a_path:List UInt8)(a_first:Int)(a_other:Int)(hw:Jaw ⟨⟨s_w_c_cap,s_w_c_l⟩,s_w_ready,s_w_shown⟩)(hl:Jc s_p_snaps.length)(hs:∀x∈s_p_snaps,Ye x):CallR Tryz.prog 5 [.agg [.int .i64 s_epoch,.int .i64 s_turn,.bool s_up,.int .i64 s_in_last_a0,.int .i64 s_in_last_a1,.int .i64 s_in_last_a2,.int .i64 s_in_last_a3,.int .i64 s_in_max,.int .i64 s_errs_a0,.int .i64 s_errs_a1,.int .i64 s_errs_a2,.int .i64 s_errs_a3,.int .i64 s_w_c_cap,.slice false (Ja s_w_c_l),.bool s_w_ready,.slice false (Ja s_w_shown),.int .i64 s_p_next,.slice false (Ja s_p_snaps)],.agg [.int .i64 a_port,.str a_host,.str a_path,.int .i64 a_first,.int .i64 a_other]] (.val (.bool true)):=by
 have w0:=JeR
 have w1:=Je1 a_port a_host a_path a_first a_other 0 0 [] [] 0 [] 0 s_epoch s_turn s_up s_in_last_a0 s_in_last_a1 s_in_last_a2 s_in_last_a3 s_in_max s_errs_a0 s_errs_a1 s_errs_a2 s_errs_a3 s_w_c_cap s_w_c_l s_w_ready s_w_shown s_p_next s_p_snaps hw hl hs
 have w2:=JfX s_epoch s_turn s_up s_in_last_a0 s_in_last_a1 s_in_last_a2 s_in_last_a3 s_in_max s_errs_a0 s_errs_a1 s_errs_a2 s_errs_a3 s_w_c_cap s_w_c_l s_w_ready s_w_shown s_p_next s_p_snaps hl
 by_cases hfew:Jcf ⟨(⟨a_port,a_host,a_path,a_first,a_other⟩:Ask),0,0,[],[],⟨0,[],0⟩⟩ (⟨s_epoch,s_turn,s_up,⟨⟨s_in_last_a0,s_in_last_a1,s_in_last_a2,s_in_last_a3⟩,s_in_max⟩,⟨s_errs_a0,s_errs_a1,s_errs_a2,s_errs_a3⟩,⟨⟨s_w_c_cap,s_w_c_l⟩,s_w_ready,s_w_shown⟩,⟨s_p_next,s_p_snaps⟩⟩:Side)=true
 rotate_left
 ·rw[show Jcf ⟨(⟨a_port,a_host,a_path,a_first,a_other⟩:Ask),0,0,[],[],⟨0,[],0⟩⟩ (⟨s_epoch,s_turn,s_up,⟨⟨s_in_last_a0,s_in_last_a1,s_in_last_a2,s_in_last_a3⟩,s_in_max⟩,⟨s_errs_a0,s_errs_a1,s_errs_a2,s_errs_a3⟩,⟨⟨s_w_c_cap,s_w_c_l⟩,s_w_ready,s_w_shown⟩,⟨s_p_next,s_p_snaps⟩⟩:Side)=false by simpa using hfew] at w1
  clear hw hl hs hfew
  refine CallR.go2 (T:=T) Tryz.call5 Tryz.func5 rfl Tryz.ntmps5 (congrArg Array.toList Tryz.results5) (by decide) fun ts hn h0 h1=>?_
  (repeat' (first
 | (with_reducible first|refine callX.by (w0) ?_|refine callX.by (w1) ?_|refine callX.by (w2) ?_|assumption|(refine Qw hK _ ?_;clear hK K)|refine Qw ‹_› _ ?_|refine Qx ‹_› ?_|refine Qi fun K hK=>?_|refine Qj T fun K hK=>?_|refine Qk (id:=10) T mixed Jbd (by kernel_rfl) fun K hK=>?_|refine Qk (id:=11) T mixed Jbe (by kernel_rfl) fun K hK=>?_|refine Ql fun A B hA hB=>?_|refine Qm ?_|refine Qn ?_|refine Qp ?_|refine Qr ?_)
 | ((with_reducible first|apply Qy|apply Qz|apply QA)<;>intro hb<;>try simp only[nr] at hb)
 |simp only[go_sem,↓reduceIte,reduceIte,Qa,Qh,Qb,Qc,Qd,Qe,Qf,Qg,reduceCtorEq, *,-w0,-w1,-w2]
 |with_reducible refine fun(bn:Bool) hbn=>?_))
 rw[hfew] at w1
 unfold Jcf at hfew
 simp only[Bool.and_eq_true,decide_eq_true_eq] at hfew
 have hb:=Jlb hfew.1 hw hs
 have hh:Jc a_host.length:=by have:=hfew.2.1.1.1;unfold Jc;omega
 clear hfew
 have w3:=JbU s_epoch s_turn s_up s_in_last_a0 s_in_last_a1 s_in_last_a2 s_in_last_a3 s_in_max s_errs_a0 s_errs_a1 s_errs_a2 s_errs_a3 s_w_c_cap s_w_c_l s_w_ready s_w_shown s_p_next s_p_snaps (hb.sz (by decide))
 by_cases hsn:VF (⟨s_epoch,s_turn,s_up,⟨⟨s_in_last_a0,s_in_last_a1,s_in_last_a2,s_in_last_a3⟩,s_in_max⟩,⟨s_errs_a0,s_errs_a1,s_errs_a2,s_errs_a3⟩,⟨⟨s_w_c_cap,s_w_c_l⟩,s_w_ready,s_w_shown⟩,⟨s_p_next,s_p_snaps⟩⟩:Side)=true
 rotate_left
 ·rw[show VF (⟨s_epoch,s_turn,s_up,⟨⟨s_in_last_a0,s_in_last_a1,s_in_last_a2,s_in_last_a3⟩,s_in_max⟩,⟨s_errs_a0,s_errs_a1,s_errs_a2,s_errs_a3⟩,⟨⟨s_w_c_cap,s_w_c_l⟩,s_w_ready,s_w_shown⟩,⟨s_p_next,s_p_snaps⟩⟩:Side)=false by simpa using hsn] at w3
  clear hw hl hs hb hsn
  refine CallR.go2 (T:=T) Tryz.call5 Tryz.func5 rfl Tryz.ntmps5 (congrArg Array.toList Tryz.results5) (by decide) fun ts hn h0 h1=>?_
  (repeat' (first
 | (with_reducible first|refine callX.by (w0) ?_|refine callX.by (w1) ?_|refine callX.by (w2) ?_|refine callX.by (w3) ?_|assumption|(refine Qw hK _ ?_;clear hK K)|refine Qw ‹_› _ ?_|refine Qx ‹_› ?_|refine Qi fun K hK=>?_|refine Qj T fun K hK=>?_|refine Qk (id:=10) T mixed Jbd (by kernel_rfl) fun K hK=>?_|refine Qk (id:=11) T mixed Jbe (by kernel_rfl) fun K hK=>?_|refine Ql fun A B hA hB=>?_|refine Qm ?_|refine Qn ?_|refine Qp ?_|refine Qr ?_)
 | ((with_reducible first|apply Qy|apply Qz|apply QA)<;>intro hb<;>try simp only[nr] at hb)
 |simp only[go_sem,↓reduceIte,reduceIte,Qa,Qh,Qb,Qc,Qd,Qe,Qf,Qg,reduceCtorEq, *,-w0,-w1,-w2,-w3]
 |with_reducible refine fun(bn:Bool) hbn=>?_))
 rw[hsn] at w3
 obtain⟨k,r2,hf,q1,q2,q3,q4⟩:=Jld hsn hb (by decide) (⟨a_port,a_host,a_path,a_first,a_other⟩:Ask) hh
 have w4:=Jcz a_port a_host a_path a_first a_other
 have w5:=Jlf (Jn (⟨a_port,a_host,a_path,a_first,a_other⟩:Ask)) (⟨s_epoch,s_turn,s_up,⟨⟨s_in_last_a0,s_in_last_a1,s_in_last_a2,s_in_last_a3⟩,s_in_max⟩,⟨s_errs_a0,s_errs_a1,s_errs_a2,s_errs_a3⟩,⟨⟨s_w_c_cap,s_w_c_l⟩,s_w_ready,s_w_shown⟩,⟨s_p_next,s_p_snaps⟩⟩:Side) hf
 unfold Jn at w4 w5
 simp only at w4 w5
 have w6:=Jf9 s_epoch s_turn s_up s_in_last_a0 s_in_last_a1 s_in_last_a2 s_in_last_a3 s_in_max s_errs_a0 s_errs_a1 s_errs_a2 s_errs_a3 s_w_c_cap s_w_c_l s_w_ready s_w_shown s_p_next s_p_snaps (hb.sz (by decide))
 rw[YC hsn] at w6
 simp only at w6
 obtain⟨ra,rst,rid,rro,rcl,ro⟩:=r2
 simp only at q2 q3 q4 w5
 subst q2 q3
 obtain⟨c1,c2⟩:=JiG (hb.p.sz (by decide))
 simp only at c1 c2
 have key:(∀x∈s_p_snaps,x.pins<10000)→CallR Tryz.prog 24 [.slice false (Ja (JI ⟨s_p_next,s_p_snaps⟩).2.1),.bool (JI ⟨s_p_next,s_p_snaps⟩).2.2,.agg [.int .i64 a_port,.str a_host,.str a_path,.int .i64 a_first,.int .i64 a_other]] (.val (.agg [.int .i64 ro.what,.str ro.cluster,.int .i64 ro.host]))∧Yn (JI ⟨s_p_next,s_p_snaps⟩).2.1 ro=true:=fun hp=>by
  rcases q4 with ⟨c,e1,rfl,e2⟩|⟨e1,e2⟩
  ·have w7:=JeL (JI ⟨s_p_next,s_p_snaps⟩).2.1 a_port a_host a_path a_first a_other c1 c2 hh
   rw[←e1] at w7
   rw[e2]
   exact⟨w7,by rw[e1];exact JrO _ _⟩
  ·have e2:=e2 hp
   rw[e2,e1]
   exact⟨JeM [] a_port a_host a_path a_first a_other,by simp[Yn]⟩
 have w8:=Jgl (JI ⟨s_p_next,s_p_snaps⟩).2.1 ro.what ro.cluster ro.host c1 c2
 have w8:CallR Tryz.prog 25 [.slice false (Ja (JI ⟨s_p_next,s_p_snaps⟩).2.1),.agg [.int .i64 ro.what,.str ro.cluster,.int .i64 ro.host]] (.val (.bool (Yn (JI ⟨s_p_next,s_p_snaps⟩).2.1 ro))):=w8
 clear hw hs hb hh hsn hf q1 q4 c1 c2
 generalize JI ⟨s_p_next,s_p_snaps⟩=cur at *
 refine CallR.go2 (T:=T) Tryz.call5 Tryz.func5 rfl Tryz.ntmps5 (congrArg Array.toList Tryz.results5) (by decide) fun ts hn h0 h1=>?_
 (repeat' (first
 | (with_reducible first|refine callX.by (w0) ?_|refine callX.by (w1) ?_|refine callX.by (w2) ?_|refine callX.by (w3) ?_|assumption|(refine Qw hK _ ?_;clear hK K)|refine Qw ‹_› _ ?_|refine Qx ‹_› ?_|refine Qi fun K hK=>?_|refine Qj T fun K hK=>?_|refine Qk (id:=10) T mixed Jbd (by kernel_rfl) fun K hK=>?_|refine Qk (id:=11) T mixed Jbe (by kernel_rfl) fun K hK=>?_|refine Ql fun A B hA hB=>?_|refine Qm ?_|refine Qn ?_|refine Qp ?_|refine Qr ?_)
 | ((with_reducible first|apply Qy|apply Qz|apply QA)<;>intro hb<;>try simp only[nr] at hb)
 |simp only[go_sem,↓reduceIte,reduceIte,Qa,Qh,Qb,Qc,Qd,Qe,Qf,Qg,reduceCtorEq, *,-w0,-w1,-w2,-w3,-w4,-w5,-w6,-w8,-key]
 |with_reducible refine fun(bn:Bool) hbn=>?_))
 refine Qs [2,3,5] (fun m ts'=>∃(i:Nat),m=s_p_snaps.length-i∧i≤s_p_snaps.length∧(∀x∈s_p_snaps.take i,x.pins<10000)∧ts'.tmp 2=.ref 2 (ts.gen 2+1) 0∧ts'.gen 2=ts.gen 2+1∧ts'.obj 2=.box [.int .i64 s_epoch,.int .i64 s_turn,.bool s_up,.int .i64 s_in_last_a0,.int .i64 s_in_last_a1,.int .i64 s_in_last_a2,.int .i64 s_in_last_a3,.int .i64 s_in_max,.int .i64 s_errs_a0,.int .i64 s_errs_a1,.int .i64 s_errs_a2,.int .i64 s_errs_a3,.int .i64 s_w_c_cap,.slice false (Ja s_w_c_l),.bool s_w_ready,.slice false (Ja s_w_shown),.int .i64 s_p_next,.slice false (Ja s_p_snaps)]∧ts'.tmp 3=.ref 3 (ts.gen 3+1) 0∧ts'.gen 3=ts.gen 3+1∧ts'.obj 3=.box [.int .i64 a_port,.str a_host,.str a_path,.int .i64 a_first,.int .i64 a_other]∧ts'.tmp 6=.int .i64 i) s_p_snaps.length ?_ ?_
 ·refine⟨0,rfl,Nat.zero_le _,by simp,?_⟩
  simp only[go_sem,↓reduceIte,reduceIte,Qa,Qh,Qb,Qc,Qd,Qe,Qf,Qg,reduceCtorEq, *,-w0,-w1,-w2,-w3,-w4,-w5,-w6,-w8,-key]
 ·rintro m A hM ts' hk ⟨i,hm,f1,f2,s1,s2,s3,s4,s5,s6,s7⟩
  simp only[go_sem,↓reduceIte,reduceIte,Qa,Qh,Qb,Qc,Qd,Qe,Qf,Qg,reduceCtorEq, *] at hk
  by_cases hlt:i<s_p_snaps.length
  ·by_cases hpi:(10000:Int)≤s_p_snaps[i].pins
   ·(repeat' (first
 | (with_reducible first|refine callX.by JeR ?_|refine callX.by (Je1 _ _ _ _ _ _ _ _ _ _ _ _ _ _ _ _ _ _ _ _ _ _ _ _ _ _ _ _ _ _ ?_ ?_ ?_) ?_|refine callX.by (JfX _ _ _ _ _ _ _ _ _ _ _ _ _ _ _ _ _ _ ?_) ?_|refine callX.by (JbU _ _ _ _ _ _ _ _ _ _ _ _ _ _ _ _ _ _ ?_) ?_|refine callX.by (Jf9 _ _ _ _ _ _ _ _ _ _ _ _ _ _ _ _ _ _ ?_) ?_|refine callX.by (Jcz _ _ _ _ _) ?_|refine callX.by (JeM _ _ _ _ _ _) ?_|refine callX.by (JeL _ _ _ _ _ _ ?_ ?_ ?_) ?_|refine callX.by sm8ac ?_|refine callX.by sm8nc ?_|refine callX.by (Jgl _ _ _ _ ?_ ?_) ?_|refine callX.by sm8wc ?_|refine callX.by nilW1_c ?_|refine callX.by nilW3_c ?_|assumption|(refine Qw hK _ ?_;clear hK K)|refine Qw ‹_› _ ?_|refine Qx ‹_› ?_|refine Qi fun K hK=>?_|refine Qj T fun K hK=>?_|refine Qk (id:=10) T mixed Jbd (by kernel_rfl) fun K hK=>?_|refine Qk (id:=11) T mixed Jbe (by kernel_rfl) fun K hK=>?_|refine Ql fun A B hA hB=>?_|refine Qm ?_|refine Qn ?_|refine Qp ?_|refine Qr ?_)
 | ((with_reducible first|apply Qy|apply Qz|apply QA)<;>intro hb<;>try simp only[nr] at hb)
 |simp only[go_sem,↓reduceIte,reduceIte,Qa,Qh,Qb,Qc,Qd,Qe,Qf,Qg,reduceCtorEq, *,-f2,-w0,-w1,-w2,-w3,-w4,-w5,-w6,-w8,-key]
 |with_reducible refine fun(bn:Bool) hbn=>?_))
   ·(repeat' (first
 | (with_reducible first|refine callX.by JeR ?_|refine callX.by (Je1 _ _ _ _ _ _ _ _ _ _ _ _ _ _ _ _ _ _ _ _ _ _ _ _ _ _ _ _ _ _ ?_ ?_ ?_) ?_|refine callX.by (JfX _ _ _ _ _ _ _ _ _ _ _ _ _ _ _ _ _ _ ?_) ?_|refine callX.by (JbU _ _ _ _ _ _ _ _ _ _ _ _ _ _ _ _ _ _ ?_) ?_|refine callX.by (Jf9 _ _ _ _ _ _ _ _ _ _ _ _ _ _ _ _ _ _ ?_) ?_|refine callX.by (Jcz _ _ _ _ _) ?_|refine callX.by (JeM _ _ _ _ _ _) ?_|refine callX.by (JeL _ _ _ _ _ _ ?_ ?_ ?_) ?_|refine callX.by sm8ac ?_|refine callX.by sm8nc ?_|refine callX.by (Jgl _ _ _ _ ?_ ?_) ?_|refine callX.by sm8wc ?_|refine callX.by nilW1_c ?_|refine callX.by nilW3_c ?_|assumption|(refine Qw hK _ ?_;clear hK K)|refine Qw ‹_› _ ?_|refine Qx ‹_› ?_|refine Qi fun K hK=>?_|refine Qj T fun K hK=>?_|refine Qk (id:=10) T mixed Jbd (by kernel_rfl) fun K hK=>?_|refine Qk (id:=11) T mixed Jbe (by kernel_rfl) fun K hK=>?_|refine Ql fun A B hA hB=>?_|refine Qm ?_|refine Qn ?_|refine Qp ?_|refine Qr ?_)
 | ((with_reducible first|apply Qy|apply Qz|apply QA)<;>intro hb<;>try simp only[nr] at hb)
 |simp only[go_sem,↓reduceIte,reduceIte,Qa,Qh,Qb,Qc,Qd,Qe,Qf,Qg,reduceCtorEq, *,-f2,-w0,-w1,-w2,-w3,-w4,-w5,-w6,-w8,-key]
 |with_reducible refine fun(bn:Bool) hbn=>?_))
    all_goals ((repeat clear hK);(repeat clear hA);(repeat clear hB))
    have hn:∀x∈s_p_snaps.take (i+1),x.pins<10000:=fun x hx=>by
     rw[List.take_succ_eq_append_getElem hlt] at hx
     rcases List.mem_append.1 hx with hx|hx
     ·exact f2 x hx
     ·rw[List.mem_singleton] at hx
      subst hx
      omega
    (refine hM.on (s_p_snaps.length-(i+1)) (by omega) (by simp only[go_sem,↓reduceIte,reduceIte,Qa,Qh,Qb,Qc,Qd,Qe,Qf,Qg,reduceCtorEq, *,Jj hlt hl,-hn,-f2,-w0,-w1,-w2,-w3,-w4,-w5,-w6,-w8,-key]) ⟨i+1,rfl,by omega,hn,?_⟩;simp only[go_sem,↓reduceIte,reduceIte,Qa,Qh,Qb,Qc,Qd,Qe,Qf,Qg,reduceCtorEq, *,Jj hlt hl,-hn,-f2,-w0,-w1,-w2,-w3,-w4,-w5,-w6,-w8,-key];done)
  ·obtain⟨w7,e7⟩:=key (by rw[←List.take_of_length_le (show s_p_snaps.length≤i by omega)];exact f2)
   clear key f2
   rw[e7] at w8
   clear e7
   (repeat' (first
 | (with_reducible first|refine callX.by (w2) ?_|refine callX.by (w4) ?_|refine callX.by (w5) ?_|refine callX.by (w6) ?_|refine callX.by (w7) ?_|refine callX.by (w8) ?_|assumption|(refine Qw hK _ ?_;clear hK K)|refine Qw ‹_› _ ?_|refine Qx ‹_› ?_|refine Qi fun K hK=>?_|refine Qj T fun K hK=>?_|refine Qk (id:=10) T mixed Jbd (by kernel_rfl) fun K hK=>?_|refine Qk (id:=11) T mixed Jbe (by kernel_rfl) fun K hK=>?_|refine Ql fun A B hA hB=>?_|refine Qm ?_|refine Qn ?_|refine Qp ?_|refine Qr ?_)
 | ((with_reducible first|apply Qy|apply Qz|apply QA)<;>intro hb<;>try simp only[nr] at hb)
 |simp only[go_sem,↓reduceIte,reduceIte,Qa,Qh,Qb,Qc,Qd,Qe,Qf,Qg,reduceCtorEq, *,-w0,-w1,-w2,-w3,-w4,-w5,-w6,-w7,-w8]
 |with_reducible refine fun(bn:Bool) hbn=>?_))
end Go.Proofs.YthjalhfmpffbjaaGreatDoor.Lg
