/- Parts of the proof, one behind the other. -/
import Derived.Test.YthjalhfmpffbjaaGreatDoorG25
namespace Go.Proofs.YthjalhfmpffbjaaGreatDoor.Lg
set_option maxRecDepth 100000
set_option linter.unusedVariables false
set_option linter.unusedSimpArgs false
open Go
open Nat renaming reduceEqDiff → Qa, reduceLT → Qb, reduceLeDiff → Qc, reduceAdd → Qd, reduceMul → Qe, reduceSub → Qf, reduceBEq → Qg
open String renaming reduceEq → Qh
open SpecC renaming seqW → Qi, regW → Qj, drawW → Qk, condW → Ql, block → Qm, skip → Qn, exit → Qp, ret → Qr, loopF → Qs
open NxK renaming out → Qw
open Nx renaming out → Qx
open condK renaming split → Qy
open gK renaming split_t → Qz, split_f → QA
open CallR renaming go1 → QD
@[go_sem] def Jf8:List (List Nat×List Nat):=[([3],[5,6,7,8,9,10,11,12,13,14,15,16,17,18,19,20,21,22,23]),([4],[5,6,7,8,9,10,11,12,13,14,15,16,17,18,19,20,21,22,23]),([5],[3,4,7,8,9,10,11,12,13,14,15,16,17,18,19,20,21,22,23]),([6],[3,4,7,8,9,10,11,12,13,14,15,16,17,18,19,20,21,22,23]),([7],[3,4,5,6,9,10,11,12,13,14,15,16,17,18,19,20,21,22,23]),([8],[3,4,5,6,9,10,11,12,13,14,15,16,17,18,19,20,21,22,23]),([9],[3,4,5,6,7,8,12,13,14,15,16,17,18,19,20,21,22,23]),([10],[3,4,5,6,7,8,12,13,14,16,17,18,19,20,21,22,23]),([11],[3,4,5,6,7,8,12,13,14,16,17,18,19,20,21,22,23]),([12],[3,4,5,6,7,8,9,10,11,15,16,17,18,19,20,21,22,23]),([13],[3,4,5,6,7,8,9,10,11,16,17,18,19,20,21,22,23]),([14],[3,4,5,6,7,8,9,10,11,16,17,18,19,20,21,22,23]),([15],[3,4,5,6,7,8,9,12,16,17,18,19,20,21,22,23]),([16],[3,4,5,6,7,8,9,10,11,12,13,14,15,18,19,20,21,22,23]),([17],[3,4,5,6,7,8,9,10,11,12,13,14,15,18,19,20,21,22,23]),([18],[3,4,5,6,7,8,9,10,11,12,13,14,15,16,17,21,22,23]),([19],[3,4,5,6,7,8,9,10,11,12,13,14,15,16,17,21,22]),([20],[3,4,5,6,7,8,9,10,11,12,13,14,15,16,17,21,22]),([21],[3,4,5,6,7,8,9,10,11,12,13,14,15,16,17,18,19,20]),([22],[3,4,5,6,7,8,9,10,11,12,13,14,15,16,17,18,19,20]),([23],[3,4,5,6,7,8,9,10,11,12,13,14,15,16,17,18])]
theorem Jm5(r_a_port:Int)(r_a_host:List UInt8)(r_a_path:List UInt8)(r_a_first:Int)(r_a_other:Int)(r_stage:Int)(r_id:Int)(r_route:List UInt8)(r_cluster:List UInt8)(r_out_what:Int)(r_out_cluster:List UInt8)(r_out_host:Int):CallR Tryz.prog 11 [.agg [.int .i64 r_a_port,.str r_a_host,.str r_a_path,.int .i64 r_a_first,.int .i64 r_a_other,.int .i64 r_stage,.int .i64 r_id,.str r_route,.str r_cluster,.int .i64 r_out_what,.str r_out_cluster,.int .i64 r_out_host]] (.val (.agg [.int .i64 r_a_port,.str r_a_host,.str r_a_path,.int .i64 r_a_first,.int .i64 r_a_other,.int .i64 r_stage,.int .i64 r_id,.str r_route,.str r_cluster,.int .i64 r_out_what,.str r_out_cluster,.int .i64 r_out_host])):=by
 refine QD (T:=T) Tryz.call11 Tryz.func11 rfl Tryz.ntmps11 (congrArg Array.toList Tryz.results11) (by decide) fun ts hn h0=>?_
 (repeat' (first
 | (with_reducible first|assumption|(refine Qw hK _ ?_;clear hK K)|refine Qw ‹_› _ ?_|refine Qx ‹_› ?_|refine Qi fun K hK=>?_|refine Qj T fun K hK=>?_|refine Ql fun A B hA hB=>?_|refine Qn ?_|refine Qr ?_)
 | ((with_reducible first|apply Qy|apply Qz|apply QA)<;>intro hb<;>try simp only[nr] at hb)
 |simp only[go_sem,↓reduceIte,reduceIte,Qa,Qh,Qb,Qc,Qd,Qe,Qf,Qg,reduceCtorEq, *]
 |with_reducible refine fun(bn:Bool) hbn=>?_))
theorem Jjz(r_a_port:Int)(r_a_host:List UInt8)(r_a_path:List UInt8)(r_a_first:Int)(r_a_other:Int)(r_stage:Int)(r_id:Int)(r_route:List UInt8)(r_cluster:List UInt8)(r_out_what:Int)(r_out_cluster:List UInt8)(r_out_host:Int):CallR Tryz.prog 16 [.agg [.int .i64 r_a_port,.str r_a_host,.str r_a_path,.int .i64 r_a_first,.int .i64 r_a_other,.int .i64 r_stage,.int .i64 r_id,.str r_route,.str r_cluster,.int .i64 r_out_what,.str r_out_cluster,.int .i64 r_out_host]] (.val (.agg [.int .i64 r_a_port,.str r_a_host,.str r_a_path,.int .i64 r_a_first,.int .i64 r_a_other,.int .i64 r_stage,.int .i64 r_id,.str r_route,.str r_cluster,.int .i64 r_out_what,.str r_out_cluster,.int .i64 r_out_host])):=by
 refine QD (T:=T) Tryz.call16 Tryz.func16 rfl Tryz.ntmps16 (congrArg Array.toList Tryz.results16) (by decide) fun ts hn h0=>?_
 (repeat' (first
 | (with_reducible first|assumption|(refine Qw hK _ ?_;clear hK K)|refine Qw ‹_› _ ?_|refine Qx ‹_› ?_|refine Qi fun K hK=>?_|refine Qj T fun K hK=>?_|refine Ql fun A B hA hB=>?_|refine Qn ?_|refine Qr ?_)
 | ((with_reducible first|apply Qy|apply Qz|apply QA)<;>intro hb<;>try simp only[nr] at hb)
 |simp only[go_sem,↓reduceIte,reduceIte,Qa,Qh,Qb,Qc,Qd,Qe,Qf,Qg,reduceCtorEq, *]
 |with_reducible refine fun(bn:Bool) hbn=>?_))
theorem Jno(w_c_cap:Int)(w_c_l:List Res)(w_ready:Bool)(w_shown:List Res):CallR Tryz.prog 40 [.agg [.int .i64 w_c_cap,.slice false (Ja w_c_l),.bool w_ready,.slice false (Ja w_shown)]] (.val (.agg [.int .i64 w_c_cap,.slice false (Ja w_c_l),.bool w_ready,.slice false (Ja w_shown)])):=by
 refine QD (T:=T) Tryz.call40 Tryz.func40 rfl Tryz.ntmps40 (congrArg Array.toList Tryz.results40) (by decide) fun ts hn h0=>?_
 (repeat' (first
 | (with_reducible first|assumption|(refine Qw hK _ ?_;clear hK K)|refine Qw ‹_› _ ?_|refine Qx ‹_› ?_|refine Qi fun K hK=>?_|refine Qj T fun K hK=>?_|refine Ql fun A B hA hB=>?_|refine Qn ?_|refine Qr ?_)
 | ((with_reducible first|apply Qy|apply Qz|apply QA)<;>intro hb<;>try simp only[nr] at hb)
 |simp only[go_sem,↓reduceIte,reduceIte,Qa,Qh,Qb,Qc,Qd,Qe,Qf,Qg,reduceCtorEq, *]
 |with_reducible refine fun(bn:Bool) hbn=>?_))
theorem JmC(w_c_cap:Int)(w_c_l:List Res)(w_ready:Bool)(w_shown:List Res):CallR Tryz.prog 53 [.agg [.int .i64 w_c_cap,.slice false (Ja w_c_l),.bool w_ready,.slice false (Ja w_shown)]] (.val (.agg [.int .i64 w_c_cap,.slice false (Ja w_c_l),.bool w_ready,.slice false (Ja w_shown)])):=by
 refine QD (T:=T) Tryz.call53 Tryz.func53 rfl Tryz.ntmps53 (congrArg Array.toList Tryz.results53) (by decide) fun ts hn h0=>?_
 (repeat' (first
 | (with_reducible first|assumption|(refine Qw hK _ ?_;clear hK K)|refine Qw ‹_› _ ?_|refine Qx ‹_› ?_|refine Qi fun K hK=>?_|refine Qj T fun K hK=>?_|refine Ql fun A B hA hB=>?_|refine Qn ?_|refine Qr ?_)
 | ((with_reducible first|apply Qy|apply Qz|apply QA)<;>intro hb<;>try simp only[nr] at hb)
 |simp only[go_sem,↓reduceIte,reduceIte,Qa,Qh,Qb,Qc,Qd,Qe,Qf,Qg,reduceCtorEq, *]
 |with_reducible refine fun(bn:Bool) hbn=>?_))
theorem Jnc(next:Int)(xs:List Snap)(hl:Jc xs.length):CallR Tryz.prog 41 [.agg [.int .i64 next,.slice false (Ja xs)]] (.val (.agg [.int .i64 next,.slice false (Ja xs)])):=by
 refine QD (T:=T) Tryz.call41 Tryz.func41 rfl Tryz.ntmps41 (congrArg Array.toList Tryz.results41) (by decide) fun ts hn h0=>?_
 (repeat' (first
 | (with_reducible first|assumption|(refine Qw hK _ ?_;clear hK K)|refine Qw ‹_› _ ?_|refine Qx ‹_› ?_|refine Qi fun K hK=>?_|refine Qj T fun K hK=>?_|refine Ql fun A B hA hB=>?_|refine Qm ?_|refine Qn ?_|refine Qp ?_|refine Qr ?_)
 | ((with_reducible first|apply Qy|apply Qz|apply QA)<;>intro hb<;>try simp only[nr] at hb)
 |simp only[go_sem,↓reduceIte,reduceIte,Qa,Qh,Qb,Qc,Qd,Qe,Qf,Qg,reduceCtorEq, *]
 |with_reducible refine fun(bn:Bool) hbn=>?_))
 refine SpecC.ent (Ent.virtB 31 3 1 3 (cs:=[.int .i64 next,.slice true []]) (by simp only[go_sem,↓reduceIte,reduceIte,Qa,Qh,Qb,Qc,Qd,Qe,Qf,Qg,reduceCtorEq, *,Ob.box?]) (by decide) rfl (by decide)) ?_
 refine Qs [1,2] (fun m ts'=>∃(i:Nat),∃(g:Nat),m=xs.length-i∧i≤xs.length∧ts'.tmp 3=.ref 3 (ts.gen 3+1) 0∧ts'.gen 3=ts.gen 3+1∧ts'.obj 3=.box [.int .i64 next,.os 31 g i]∧ts'.gen 31=g∧ts'.obj 31=.arr 3 (Ja (xs.take i))∧ts'.tmp 4=.int .i64 i) xs.length ?_ ?_
 ·refine⟨0,ts.gen 31+1,rfl,Nat.zero_le _,?_⟩
  simp only[go_sem,↓reduceIte,reduceIte,Qa,Qh,Qb,Qc,Qd,Qe,Qf,Qg,reduceCtorEq, *,Vc,List.take_zero,List.set]
 ·rintro m A hM ts' hk ⟨i,g,hm,f1,s1,s2,s3,s4,s5,s6⟩
  simp only[go_sem,↓reduceIte,reduceIte,Qa,Qh,Qb,Qc,Qd,Qe,Qf,Qg,reduceCtorEq, *] at hk
  have hlen:(xs.take i).length=i:=by rw[List.length_take];omega
  have htk:(xs.take i).take i=xs.take i:=by rw[List.take_take,Nat.min_self]
  have hr1:V0 (i+1) 40:=JaV (by unfold Jc at hl;omega) (by decide)
  by_cases hlt:i<xs.length
  ·have e:=List.take_succ_eq_append_getElem hlt
   (repeat' (first
 | (with_reducible first|assumption|(refine Qw hK _ ?_;clear hK K)|refine Qw ‹_› _ ?_|refine Qx ‹_› ?_|refine Qi fun K hK=>?_|refine Qj T fun K hK=>?_|refine Ql fun A B hA hB=>?_|refine Qm ?_|refine Qn ?_|refine Qp ?_|refine Qr ?_)
 | ((with_reducible first|apply Qy|apply Qz|apply QA)<;>intro hb<;>try simp only[nr] at hb)
 |simp only[go_sem,↓reduceIte,reduceIte,Qa,Qh,Qb,Qc,Qd,Qe,Qf,Qg,reduceCtorEq, *,-e]
 |with_reducible refine fun(bn:Bool) hbn=>?_))
   all_goals ((repeat clear hK);(repeat clear hA);(repeat clear hB))
   (refine hM.on (xs.length-(i+1)) (by omega) (by simp only[go_sem,↓reduceIte,reduceIte,Qa,Qh,Qb,Qc,Qd,Qe,Qf,Qg,reduceCtorEq, *,Ji hlt hl,e]) ⟨i+1,ts'.gen 31+1,rfl,by omega,?_⟩;simp only[go_sem,↓reduceIte,reduceIte,Qa,Qh,Qb,Qc,Qd,Qe,Qf,Qg,reduceCtorEq, *,Ji hlt hl,e];done)
  ·have hi2:i=xs.length:=by omega
   (repeat' (first
 | (with_reducible first|assumption|(refine Qw hK _ ?_;clear hK K)|refine Qw ‹_› _ ?_|refine Qx ‹_› ?_|refine Qi fun K hK=>?_|refine Qj T fun K hK=>?_|refine Ql fun A B hA hB=>?_|refine Qm ?_|refine Qn ?_|refine Qp ?_|refine Qr ?_)
 | ((with_reducible first|apply Qy|apply Qz|apply QA)<;>intro hb<;>try simp only[nr] at hb)
 |simp only[go_sem,↓reduceIte,reduceIte,Qa,Qh,Qb,Qc,Qd,Qe,Qf,Qg,reduceCtorEq, *,Nat.lt_irrefl,List.take_length]
 |with_reducible refine fun(bn:Bool) hbn=>?_))
theorem Jna(next:Int)(xs:List Snap)(hl:Jc xs.length):CallR Tryz.prog 54 [.agg [.int .i64 next,.slice false (Ja xs)]] (.val (.agg [.int .i64 next,.slice false (Ja xs)])):=by
 refine QD (T:=T) Tryz.call54 Tryz.func54 rfl Tryz.ntmps54 (congrArg Array.toList Tryz.results54) (by decide) fun ts hn h0=>?_
 (repeat' (first
 | (with_reducible first|assumption|(refine Qw hK _ ?_;clear hK K)|refine Qw ‹_› _ ?_|refine Qx ‹_› ?_|refine Qi fun K hK=>?_|refine Qj T fun K hK=>?_|refine Ql fun A B hA hB=>?_|refine Qm ?_|refine Qn ?_|refine Qp ?_|refine Qr ?_)
 | ((with_reducible first|apply Qy|apply Qz|apply QA)<;>intro hb<;>try simp only[nr] at hb)
 |simp only[go_sem,↓reduceIte,reduceIte,Qa,Qh,Qb,Qc,Qd,Qe,Qf,Qg,reduceCtorEq, *]
 |with_reducible refine fun(bn:Bool) hbn=>?_))
 refine SpecC.ent (Ent.virtB 31 3 1 3 (cs:=[.int .i64 next,.slice true []]) (by simp only[go_sem,↓reduceIte,reduceIte,Qa,Qh,Qb,Qc,Qd,Qe,Qf,Qg,reduceCtorEq, *,Ob.box?]) (by decide) rfl (by decide)) ?_
 refine Qs [1,2] (fun m ts'=>∃(i:Nat),∃(g:Nat),m=xs.length-i∧i≤xs.length∧ts'.tmp 3=.ref 3 (ts.gen 3+1) 0∧ts'.gen 3=ts.gen 3+1∧ts'.obj 3=.box [.int .i64 next,.os 31 g i]∧ts'.gen 31=g∧ts'.obj 31=.arr 3 (Ja (xs.take i))∧ts'.tmp 4=.int .i64 i) xs.length ?_ ?_
 ·refine⟨0,ts.gen 31+1,rfl,Nat.zero_le _,?_⟩
  simp only[go_sem,↓reduceIte,reduceIte,Qa,Qh,Qb,Qc,Qd,Qe,Qf,Qg,reduceCtorEq, *,Vc,List.take_zero,List.set]
 ·rintro m A hM ts' hk ⟨i,g,hm,f1,s1,s2,s3,s4,s5,s6⟩
  simp only[go_sem,↓reduceIte,reduceIte,Qa,Qh,Qb,Qc,Qd,Qe,Qf,Qg,reduceCtorEq, *] at hk
  have hlen:(xs.take i).length=i:=by rw[List.length_take];omega
  have htk:(xs.take i).take i=xs.take i:=by rw[List.take_take,Nat.min_self]
  have hr1:V0 (i+1) 40:=JaV (by unfold Jc at hl;omega) (by decide)
  by_cases hlt:i<xs.length
  ·have e:=List.take_succ_eq_append_getElem hlt
   (repeat' (first
 | (with_reducible first|assumption|(refine Qw hK _ ?_;clear hK K)|refine Qw ‹_› _ ?_|refine Qx ‹_› ?_|refine Qi fun K hK=>?_|refine Qj T fun K hK=>?_|refine Ql fun A B hA hB=>?_|refine Qm ?_|refine Qn ?_|refine Qp ?_|refine Qr ?_)
 | ((with_reducible first|apply Qy|apply Qz|apply QA)<;>intro hb<;>try simp only[nr] at hb)
 |simp only[go_sem,↓reduceIte,reduceIte,Qa,Qh,Qb,Qc,Qd,Qe,Qf,Qg,reduceCtorEq, *,-e]
 |with_reducible refine fun(bn:Bool) hbn=>?_))
   all_goals ((repeat clear hK);(repeat clear hA);(repeat clear hB))
   (refine hM.on (xs.length-(i+1)) (by omega) (by simp only[go_sem,↓reduceIte,reduceIte,Qa,Qh,Qb,Qc,Qd,Qe,Qf,Qg,reduceCtorEq, *,Ji hlt hl,e]) ⟨i+1,ts'.gen 31+1,rfl,by omega,?_⟩;simp only[go_sem,↓reduceIte,reduceIte,Qa,Qh,Qb,Qc,Qd,Qe,Qf,Qg,reduceCtorEq, *,Ji hlt hl,e];done)
  ·have hi2:i=xs.length:=by omega
   (repeat' (first
 | (with_reducible first|assumption|(refine Qw hK _ ?_;clear hK K)|refine Qw ‹_› _ ?_|refine Qx ‹_› ?_|refine Qi fun K hK=>?_|refine Qj T fun K hK=>?_|refine Ql fun A B hA hB=>?_|refine Qm ?_|refine Qn ?_|refine Qp ?_|refine Qr ?_)
 | ((with_reducible first|apply Qy|apply Qz|apply QA)<;>intro hb<;>try simp only[nr] at hb)
 |simp only[go_sem,↓reduceIte,reduceIte,Qa,Qh,Qb,Qc,Qd,Qe,Qf,Qg,reduceCtorEq, *,Nat.lt_irrefl,List.take_length]
 |with_reducible refine fun(bn:Bool) hbn=>?_))
set_option maxHeartbeats 4000000 in
theorem Jnf(s_epoch:Int)(s_turn:Int)(s_up:Bool)(s_in_last_a0:Int)(s_in_last_a1:Int)(s_in_last_a2:Int)(s_in_last_a3:Int)(s_in_max:Int)(s_errs_a0:Int)(s_errs_a1:Int)(s_errs_a2:Int)(s_errs_a3:Int)(s_w_c_cap:Int)(s_w_c_l:List Res)(s_w_ready:Bool)(s_w_shown:List Res)(s_p_next:Int)(s_p_snaps:List Snap)(hl:Jc s_p_snaps.length):CallR Tryz.prog 13 [.agg [.int .i64 s_epoch,.int .i64 s_turn,.bool s_up,.int .i64 s_in_last_a0,.int .i64 s_in_last_a1,.int .i64 s_in_last_a2,.int .i64 s_in_last_a3,.int .i64 s_in_max,.int .i64 s_errs_a0,.int .i64 s_errs_a1,.int .i64 s_errs_a2,.int .i64 s_errs_a3,.int .i64 s_w_c_cap,.slice false (Ja s_w_c_l),.bool s_w_ready,.slice false (Ja s_w_shown),.int .i64 s_p_next,.slice false (Ja s_p_snaps)]] (.val (.agg [.int .i64 s_epoch,.int .i64 s_turn,.bool s_up,.int .i64 s_in_last_a0,.int .i64 s_in_last_a1,.int .i64 s_in_last_a2,.int .i64 s_in_last_a3,.int .i64 s_in_max,.int .i64 s_errs_a0,.int .i64 s_errs_a1,.int .i64 s_errs_a2,.int .i64 s_errs_a3,.int .i64 s_w_c_cap,.slice false (Ja s_w_c_l),.bool s_w_ready,.slice false (Ja s_w_shown),.int .i64 s_p_next,.slice false (Ja s_p_snaps)])):=by
 have w1:=Jno s_w_c_cap s_w_c_l s_w_ready s_w_shown
 have w2:=Jnc s_p_next s_p_snaps hl
 clear hl
 refine QD (T:=T) Tryz.call13 Tryz.func13 rfl Tryz.ntmps13 (congrArg Array.toList Tryz.results13) (by decide) fun ts hn h0=>?_
 (repeat' (first
 | (with_reducible first|refine callX.by (w1) ?_|refine callX.by (w2) ?_|assumption|(refine Qw hK _ ?_;clear hK K)|refine Qw ‹_› _ ?_|refine Qx ‹_› ?_|refine Qi fun K hK=>?_|refine Qj T fun K hK=>?_|refine Qk (id:=1) T mixed Jf8 (by kernel_rfl) fun K hK=>?_|refine Ql fun A B hA hB=>?_|refine Qn ?_|refine Qr ?_)
 | ((with_reducible first|apply Qy|apply Qz|apply QA)<;>intro hb<;>try simp only[nr] at hb)
 |simp only[go_sem,↓reduceIte,reduceIte,Qa,Qh,Qb,Qc,Qd,Qe,Qf,Qg,reduceCtorEq, *,-w1,-w2]
 |with_reducible refine fun(bn:Bool) hbn=>?_))
set_option maxHeartbeats 4000000 in
theorem Jm9(s_epoch:Int)(s_turn:Int)(s_up:Bool)(s_in_last_a0:Int)(s_in_last_a1:Int)(s_in_last_a2:Int)(s_in_last_a3:Int)(s_in_max:Int)(s_errs_a0:Int)(s_errs_a1:Int)(s_errs_a2:Int)(s_errs_a3:Int)(s_w_c_cap:Int)(s_w_c_l:List Res)(s_w_ready:Bool)(s_w_shown:List Res)(s_p_next:Int)(s_p_snaps:List Snap)(hl:Jc s_p_snaps.length):CallR Tryz.prog 18 [.agg [.int .i64 s_epoch,.int .i64 s_turn,.bool s_up,.int .i64 s_in_last_a0,.int .i64 s_in_last_a1,.int .i64 s_in_last_a2,.int .i64 s_in_last_a3,.int .i64 s_in_max,.int .i64 s_errs_a0,.int .i64 s_errs_a1,.int .i64 s_errs_a2,.int .i64 s_errs_a3,.int .i64 s_w_c_cap,.slice false (Ja s_w_c_l),.bool s_w_ready,.slice false (Ja s_w_shown),.int .i64 s_p_next,.slice false (Ja s_p_snaps)]] (.val (.agg [.int .i64 s_epoch,.int .i64 s_turn,.bool s_up,.int .i64 s_in_last_a0,.int .i64 s_in_last_a1,.int .i64 s_in_last_a2,.int .i64 s_in_last_a3,.int .i64 s_in_max,.int .i64 s_errs_a0,.int .i64 s_errs_a1,.int .i64 s_errs_a2,.int .i64 s_errs_a3,.int .i64 s_w_c_cap,.slice false (Ja s_w_c_l),.bool s_w_ready,.slice false (Ja s_w_shown),.int .i64 s_p_next,.slice false (Ja s_p_snaps)])):=by
 have w1:=JmC s_w_c_cap s_w_c_l s_w_ready s_w_shown
 have w2:=Jna s_p_next s_p_snaps hl
 clear hl
 refine QD (T:=T) Tryz.call18 Tryz.func18 rfl Tryz.ntmps18 (congrArg Array.toList Tryz.results18) (by decide) fun ts hn h0=>?_
 (repeat' (first
 | (with_reducible first|refine callX.by (w1) ?_|refine callX.by (w2) ?_|assumption|(refine Qw hK _ ?_;clear hK K)|refine Qw ‹_› _ ?_|refine Qx ‹_› ?_|refine Qi fun K hK=>?_|refine Qj T fun K hK=>?_|refine Qk (id:=1) T mixed Jf8 (by kernel_rfl) fun K hK=>?_|refine Ql fun A B hA hB=>?_|refine Qn ?_|refine Qr ?_)
 | ((with_reducible first|apply Qy|apply Qz|apply QA)<;>intro hb<;>try simp only[nr] at hb)
 |simp only[go_sem,↓reduceIte,reduceIte,Qa,Qh,Qb,Qc,Qd,Qe,Qf,Qg,reduceCtorEq, *,-w1,-w2]
 |with_reducible refine fun(bn:Bool) hbn=>?_))
def Jb7(r:Req)(s:Side):Bool:=Jbk s && (decide (r.a.host.length≤100) && decide (r.a.path.length≤100) && decide (r.route.length≤100) && decide (r.cluster.length≤100))
set_option maxHeartbeats 4000000 in
theorem JkI(r_a_port:Int)(r_a_host:List UInt8)(r_a_path:List UInt8)(r_a_first:Int)(r_a_other:Int)(r_stage:Int)(r_id:Int)(r_route:List UInt8)(r_cluster:List UInt8)(r_out_what:Int)(r_out_cluster:List UInt8)(r_out_host:Int)(s_epoch:Int)(s_turn:Int)(s_up:Bool)(s_in_last_a0:Int)(s_in_last_a1:Int)(s_in_last_a2:Int)(s_in_last_a3:Int)(s_in_max:Int)(s_errs_a0:Int)(s_errs_a1:Int)(s_errs_a2:Int)(s_errs_a3:Int)(s_w_c_cap:Int)(s_w_c_l:List Res)(s_w_ready:Bool)(s_w_shown:List Res)(s_p_next:Int)(s_p_snaps:List Snap)(hw:ZW ⟨⟨s_w_c_cap,s_w_c_l⟩,s_w_ready,s_w_shown⟩)(hl:Jc s_p_snaps.length)(hs:∀x∈s_p_snaps,V1 x):CallR Tryz.prog 9 [.agg [.int .i64 r_a_port,.str r_a_host,.str r_a_path,.int .i64 r_a_first,.int .i64 r_a_other,.int .i64 r_stage,.int .i64 r_id,.str r_route,.str r_cluster,.int .i64 r_out_what,.str r_out_cluster,.int .i64 r_out_host],.agg [.int .i64 s_epoch,.int .i64 s_turn,.bool s_up,.int .i64 s_in_last_a0,.int .i64 s_in_last_a1,.int .i64 s_in_last_a2,.int .i64 s_in_last_a3,.int .i64 s_in_max,.int .i64 s_errs_a0,.int .i64 s_errs_a1,.int .i64 s_errs_a2,.int .i64 s_errs_a3,.int .i64 s_w_c_cap,.slice false (Ja s_w_c_l),.bool s_w_ready,.slice false (Ja s_w_shown),.int .i64 s_p_next,.slice false (Ja s_p_snaps)]] (.val (.bool (Jb7 (⟨⟨r_a_port,r_a_host,r_a_path,r_a_first,r_a_other⟩,r_stage,r_id,r_route,r_cluster,⟨r_out_what,r_out_cluster,r_out_host⟩⟩:Req) (⟨s_epoch,s_turn,s_up,⟨⟨s_in_last_a0,s_in_last_a1,s_in_last_a2,s_in_last_a3⟩,s_in_max⟩,⟨s_errs_a0,s_errs_a1,s_errs_a2,s_errs_a3⟩,⟨⟨s_w_c_cap,s_w_c_l⟩,s_w_ready,s_w_shown⟩,⟨s_p_next,s_p_snaps⟩⟩:Side)))):=by
 have w1:=JkH s_epoch s_turn s_up s_in_last_a0 s_in_last_a1 s_in_last_a2 s_in_last_a3 s_in_max s_errs_a0 s_errs_a1 s_errs_a2 s_errs_a3 s_w_c_cap s_w_c_l s_w_ready s_w_shown s_p_next s_p_snaps hw hl hs
 clear hw hl hs
 unfold Jb7
 generalize Jbk (⟨s_epoch,s_turn,s_up,⟨⟨s_in_last_a0,s_in_last_a1,s_in_last_a2,s_in_last_a3⟩,s_in_max⟩,⟨s_errs_a0,s_errs_a1,s_errs_a2,s_errs_a3⟩,⟨⟨s_w_c_cap,s_w_c_l⟩,s_w_ready,s_w_shown⟩,⟨s_p_next,s_p_snaps⟩⟩:Side)=b at *
 refine CallR.go2 (T:=T) Tryz.call9 Tryz.func9 rfl Tryz.ntmps9 (congrArg Array.toList Tryz.results9) (by decide) fun ts hn h0 h1=>?_
 (repeat' (first
 | (with_reducible first|refine callX.by (w1) ?_|assumption|(refine Qw hK _ ?_;clear hK K)|refine Qw ‹_› _ ?_|refine Qx ‹_› ?_|refine Qi fun K hK=>?_|refine Qj T fun K hK=>?_|refine Ql fun A B hA hB=>?_|refine Qn ?_|refine Qr ?_)
 | ((with_reducible first|apply Qy|apply Qz|apply QA)<;>intro hb<;>try simp only[nr] at hb)
 |simp only[go_sem,↓reduceIte,reduceIte,Qa,Qh,Qb,Qc,Qd,Qe,Qf,Qg,reduceCtorEq, *,-w1]
 |with_reducible refine fun(bn:Bool) hbn=>?_))
 all_goals (rw[Bool.eq_iff_iff];simp_all)
 all_goals omega
theorem JjR:Js (Jo ⟨80,[],[],0,0⟩) (Je 9 9)=⟨⟨⟨80,[],[],0,0⟩,5,0,[],[],⟨0,[],0⟩⟩,Je 9 9,[]⟩:=by
 unfold Js YL
 rw[Jiu,JbO (JdL 9 9),if_pos (show(Jo ⟨80,[],[],0,0⟩).stage=0 from rfl)]
 unfold Jbc
 simp only
 rw[JbO (JdL 9 9)]
 have e:Yh (Je 9 9).p=(⟨0,[]⟩,0,10):=by
  unfold Yh
  rw[show(Je 9 9).p=⟨0,[]⟩ from rfl,Jfq]
  rfl
 rw[e,if_neg (by simp)]
 rfl
theorem bdNew:BdS (Je 9 9) 0:=⟨by simp[Je],by simp[Je],by simp[Je],by simp[Je],⟨by simp[Je],by simp[Je]⟩⟩
set_option maxHeartbeats 8000000 in
theorem JjS:CallR Tryz.prog 8 [] (.val (.bool true)):=by
 have w1:=Je9 9 9
 have w2:=JhP 80 [] [] 0 0
 have w2:CallR Tryz.prog 20 [.agg [.int .i64 80,.str [],.str [],.int .i64 0,.int .i64 0]] (.val (.agg [.int .i64 (Jo ⟨80,[],[],0,0⟩).a.port,.str (Jo ⟨80,[],[],0,0⟩).a.host,.str (Jo ⟨80,[],[],0,0⟩).a.path,.int .i64 (Jo ⟨80,[],[],0,0⟩).a.first,.int .i64 (Jo ⟨80,[],[],0,0⟩).a.other,.int .i64 (Jo ⟨80,[],[],0,0⟩).stage,.int .i64 (Jo ⟨80,[],[],0,0⟩).id,.str (Jo ⟨80,[],[],0,0⟩).route,.str (Jo ⟨80,[],[],0,0⟩).cluster,.int .i64 (Jo ⟨80,[],[],0,0⟩).out.what,.str (Jo ⟨80,[],[],0,0⟩).out.cluster,.int .i64 (Jo ⟨80,[],[],0,0⟩).out.host])):=w2
 have hs:=JdL 9 9
 have w3:=Ji1 (Jo ⟨80,[],[],0,0⟩).a.port (Jo ⟨80,[],[],0,0⟩).a.host (Jo ⟨80,[],[],0,0⟩).a.path (Jo ⟨80,[],[],0,0⟩).a.first (Jo ⟨80,[],[],0,0⟩).a.other (Jo ⟨80,[],[],0,0⟩).stage (Jo ⟨80,[],[],0,0⟩).id (Jo ⟨80,[],[],0,0⟩).route (Jo ⟨80,[],[],0,0⟩).cluster (Jo ⟨80,[],[],0,0⟩).out.what (Jo ⟨80,[],[],0,0⟩).out.cluster (Jo ⟨80,[],[],0,0⟩).out.host (Je 9 9).epoch (Je 9 9).turn (Je 9 9).up (Je 9 9).in'.last.a0 (Je 9 9).in'.last.a1 (Je 9 9).in'.last.a2 (Je 9 9).in'.last.a3 (Je 9 9).in'.max (Je 9 9).errs.a0 (Je 9 9).errs.a1 (Je 9 9).errs.a2 (Je 9 9).errs.a3 (Je 9 9).w.c.cap (Je 9 9).w.c.l (Je 9 9).w.ready (Je 9 9).w.shown (Je 9 9).p.next' (Je 9 9).p.snaps (bdNew.sz (by decide)) (by rw[show JS (Jo ⟨80,[],[],0,0⟩)=Jo ⟨80,[],[],0,0⟩ from Jiu _];show SzK ⟨Jo _,Jw (Je 9 9),[]⟩;rw[JbO hs];exact bdNew.szk (by decide) hs _ (by simp[Jc,Jo]))
 have w3:CallR Tryz.prog 15 [.agg [.int .i64 (Jo ⟨80,[],[],0,0⟩).a.port,.str (Jo ⟨80,[],[],0,0⟩).a.host,.str (Jo ⟨80,[],[],0,0⟩).a.path,.int .i64 (Jo ⟨80,[],[],0,0⟩).a.first,.int .i64 (Jo ⟨80,[],[],0,0⟩).a.other,.int .i64 (Jo ⟨80,[],[],0,0⟩).stage,.int .i64 (Jo ⟨80,[],[],0,0⟩).id,.str (Jo ⟨80,[],[],0,0⟩).route,.str (Jo ⟨80,[],[],0,0⟩).cluster,.int .i64 (Jo ⟨80,[],[],0,0⟩).out.what,.str (Jo ⟨80,[],[],0,0⟩).out.cluster,.int .i64 (Jo ⟨80,[],[],0,0⟩).out.host],.agg [.int .i64 (Je 9 9).epoch,.int .i64 (Je 9 9).turn,.bool (Je 9 9).up,.int .i64 (Je 9 9).in'.last.a0,.int .i64 (Je 9 9).in'.last.a1,.int .i64 (Je 9 9).in'.last.a2,.int .i64 (Je 9 9).in'.last.a3,.int .i64 (Je 9 9).in'.max,.int .i64 (Je 9 9).errs.a0,.int .i64 (Je 9 9).errs.a1,.int .i64 (Je 9 9).errs.a2,.int .i64 (Je 9 9).errs.a3,.int .i64 (Je 9 9).w.c.cap,.slice false (Ja (Je 9 9).w.c.l),.bool (Je 9 9).w.ready,.slice false (Ja (Je 9 9).w.shown),.int .i64 (Je 9 9).p.next',.slice false (Ja (Je 9 9).p.snaps)]] (.val (.tup [.agg [.int .i64 (Js (Jo ⟨80,[],[],0,0⟩) (Je 9 9)).req.a.port,.str (Js (Jo ⟨80,[],[],0,0⟩) (Je 9 9)).req.a.host,.str (Js (Jo ⟨80,[],[],0,0⟩) (Je 9 9)).req.a.path,.int .i64 (Js (Jo ⟨80,[],[],0,0⟩) (Je 9 9)).req.a.first,.int .i64 (Js (Jo ⟨80,[],[],0,0⟩) (Je 9 9)).req.a.other,.int .i64 (Js (Jo ⟨80,[],[],0,0⟩) (Je 9 9)).req.stage,.int .i64 (Js (Jo ⟨80,[],[],0,0⟩) (Je 9 9)).req.id,.str (Js (Jo ⟨80,[],[],0,0⟩) (Je 9 9)).req.route,.str (Js (Jo ⟨80,[],[],0,0⟩) (Je 9 9)).req.cluster,.int .i64 (Js (Jo ⟨80,[],[],0,0⟩) (Je 9 9)).req.out.what,.str (Js (Jo ⟨80,[],[],0,0⟩) (Je 9 9)).req.out.cluster,.int .i64 (Js (Jo ⟨80,[],[],0,0⟩) (Je 9 9)).req.out.host],.agg [.int .i64 (Js (Jo ⟨80,[],[],0,0⟩) (Je 9 9)).side.epoch,.int .i64 (Js (Jo ⟨80,[],[],0,0⟩) (Je 9 9)).side.turn,.bool (Js (Jo ⟨80,[],[],0,0⟩) (Je 9 9)).side.up,.int .i64 (Js (Jo ⟨80,[],[],0,0⟩) (Je 9 9)).side.in'.last.a0,.int .i64 (Js (Jo ⟨80,[],[],0,0⟩) (Je 9 9)).side.in'.last.a1,.int .i64 (Js (Jo ⟨80,[],[],0,0⟩) (Je 9 9)).side.in'.last.a2,.int .i64 (Js (Jo ⟨80,[],[],0,0⟩) (Je 9 9)).side.in'.last.a3,.int .i64 (Js (Jo ⟨80,[],[],0,0⟩) (Je 9 9)).side.in'.max,.int .i64 (Js (Jo ⟨80,[],[],0,0⟩) (Je 9 9)).side.errs.a0,.int .i64 (Js (Jo ⟨80,[],[],0,0⟩) (Je 9 9)).side.errs.a1,.int .i64 (Js (Jo ⟨80,[],[],0,0⟩) (Je 9 9)).side.errs.a2,.int .i64 (Js (Jo ⟨80,[],[],0,0⟩) (Je 9 9)).side.errs.a3,.int .i64 (Js (Jo ⟨80,[],[],0,0⟩) (Je 9 9)).side.w.c.cap,.slice false (Ja (Js (Jo ⟨80,[],[],0,0⟩) (Je 9 9)).side.w.c.l),.bool (Js (Jo ⟨80,[],[],0,0⟩) (Je 9 9)).side.w.ready,.slice false (Ja (Js (Jo ⟨80,[],[],0,0⟩) (Je 9 9)).side.w.shown),.int .i64 (Js (Jo ⟨80,[],[],0,0⟩) (Je 9 9)).side.p.next',.slice false (Ja (Js (Jo ⟨80,[],[],0,0⟩) (Je 9 9)).side.p.snaps)],.slice false (Ja (Js (Jo ⟨80,[],[],0,0⟩) (Je 9 9)).told)])):=w3
 rw[JjR] at w3
 have w4:=Jnn 80 [] [] 0 0 5 0 [] [] 0 [] 0
 rw[show JS ⟨⟨80,[],[],0,0⟩,5,0,[],[],⟨0,[],0⟩⟩=⟨⟨80,[],[],0,0⟩,5,0,[],[],⟨0,[],0⟩⟩ from Jm4 rfl (Int.le_refl 0)] at w4
 have w5:=Jee (Je 9 9).epoch (Je 9 9).turn (Je 9 9).up (Je 9 9).in'.last.a0 (Je 9 9).in'.last.a1 (Je 9 9).in'.last.a2 (Je 9 9).in'.last.a3 (Je 9 9).in'.max (Je 9 9).errs.a0 (Je 9 9).errs.a1 (Je 9 9).errs.a2 (Je 9 9).errs.a3 (Je 9 9).w.c.cap (Je 9 9).w.c.l (Je 9 9).w.ready (Je 9 9).w.shown (Je 9 9).p.next' (Je 9 9).p.snaps (bdNew.sz (by decide))
 have w5:CallR Tryz.prog 12 [.agg [.int .i64 (Je 9 9).epoch,.int .i64 (Je 9 9).turn,.bool (Je 9 9).up,.int .i64 (Je 9 9).in'.last.a0,.int .i64 (Je 9 9).in'.last.a1,.int .i64 (Je 9 9).in'.last.a2,.int .i64 (Je 9 9).in'.last.a3,.int .i64 (Je 9 9).in'.max,.int .i64 (Je 9 9).errs.a0,.int .i64 (Je 9 9).errs.a1,.int .i64 (Je 9 9).errs.a2,.int .i64 (Je 9 9).errs.a3,.int .i64 (Je 9 9).w.c.cap,.slice false (Ja (Je 9 9).w.c.l),.bool (Je 9 9).w.ready,.slice false (Ja (Je 9 9).w.shown),.int .i64 (Je 9 9).p.next',.slice false (Ja (Je 9 9).p.snaps)]] (.val (.bool (VX (Je 9 9)))):=w5
 rw[hs] at w5
 have w6:=JcE 80 [] [] 0 0 5 0 [] [] 0 [] 0
 rw[show Vm ⟨⟨80,[],[],0,0⟩,5,0,[],[],⟨0,[],0⟩⟩=true by decide] at w6
 clear hs
 unfold Jo at w2 w3
 generalize Je 9 9=n9 at *
 refine CallR.go0 (T:=T) Tryz.call8 Tryz.func8 rfl Tryz.ntmps8 (congrArg Array.toList Tryz.results8) fun ts hn=>?_
 (repeat' (first
 | (with_reducible first|refine callX.by (w1) ?_|refine callX.by (w2) ?_|refine callX.by (w3) ?_|refine callX.by (w4) ?_|refine callX.by (w5) ?_|refine callX.by (w6) ?_|assumption|(refine Qw hK _ ?_;clear hK K)|refine Qw ‹_› _ ?_|refine Qx ‹_› ?_|refine Qi fun K hK=>?_|refine Qj T fun K hK=>?_|refine Qk (id:=2) T mixed [([7],[9,6,11,12,13,2,3]),([8],[9,11,12,13,2,3]),([9],[7,8,11,12,13,2,3]),([10],[2,3]),([6],[7,2,3]),([11],[7,8,9,12,13,2,3]),([12],[7,8,9,11,13,2,3]),([13],[7,8,9,11,12,2,3]),([2],[7,8,9,10,6,11,12,13,3]),([3],[7,8,9,10,6,11,12,13,2]),([2],[12,13]),([3],[13])] (by kernel_rfl) fun K hK=>?_|refine Ql fun A B hA hB=>?_|refine Qn ?_|refine Qr ?_)
 | ((with_reducible first|apply Qy|apply Qz|apply QA)<;>intro hb<;>try simp only[nr] at hb)
 |simp only[go_sem,↓reduceIte,reduceIte,Qa,Qh,Qb,Qc,Qd,Qe,Qf,Qg,reduceCtorEq, *,-w1,-w2,-w3,-w4,-w5,-w6,Vc,List.length_nil]
 |with_reducible refine fun(bn:Bool) hbn=>?_))
@[go_sem] def Zy:List (List Nat×List Nat):=[([35],[38,39,34,41,42]),([36],[38,39,41,42]),([37],[38,39,41,42]),([38],[35,36,37,34,41,42]),([39],[35,36,37,41,42]),([40],[]),([34],[35,38]),([41],[35,36,37,38,39,42]),([42],[35,36,37,38,39,41,6]),([6],[42])]
@[go_sem] def Zz:List (List Nat×List Nat):=[([44],[46,43,49,50,51,8,9]),([45],[46,49,50,51,8,9]),([46],[44,45,43,49,50,51,8,9]),([47],[49,50,51,8,9]),([48],[8,9]),([43],[44,46,8,9]),([49],[44,45,46,47,50,51,8,9]),([50],[44,45,46,47,49,51,8,9]),([51],[44,45,46,47,49,50,8,9]),([8],[44,45,46,47,48,43,49,50,51,9]),([9],[44,45,46,47,48,43,49,50,51,8]),([8],[50,51]),([9],[51])]
@[go_sem] def ZA:List (List Nat×List Nat):=[([55],[]),([56],[]),([57],[59]),([58],[59]),([59],[57,58])]
@[go_sem] def ZB:List (List Nat×List Nat):=[([93],[99,100,101,102,103,104,105,106,107,108,109,110,111,112,113,114,117,118,119,120]),([94],[104,105,106,109,110,111,112,113,118,119,120]),([95],[98,99,100,101,102,103,104,105,106,107,108,109,110,111,112,113,114,115,116,117,118,119,120]),([96],[99,100,101,102,103,104,105,106,107,108,109,110,111,112,113,114,115,116,117,118,119,120]),([97],[104,105,106,109,110,111,112,113,116,117,118,119,120]),([98],[95,118,119,120]),([99],[93,95,96,101,103,104,105,106,107,108,109,110,111,112,113,114,115,116,117,118,119,120]),([100],[93,95,96,101,104,105,106,107,108,109,110,111,112,113,114,115,116,117,118,119,120]),([101],[93,95,96,99,100,104,105,106,107,108,109,110,111,112,113,114,115,116,117,118,119,120]),([102],[93,95,96,109,110,111,112,113,114,115,116,117,118,119,120]),([103],[93,95,96,99,115,116,118,119,120]),([104],[93,94,95,96,97,99,100,101,107,108,109,110,111,112,113,114,115,116,117,118,119,120]),([105],[93,94,95,96,97,99,100,101,108,109,110,111,112,113,114,115,116,117,118,119,120]),([106],[93,94,95,96,97,99,100,101,109,110,111,112,113,114,115,116,117,118,119,120]),([107],[93,95,96,99,100,101,104,115,116,118,119,120]),([108],[93,95,96,99,100,101,104,105,116]),([109],[93,94,95,96,97,99,100,101,102,104,105,106,111,112,114,115,116,117,118,119,120]),([110],[93,94,95,96,97,99,100,101,102,104,105,106,111,112,115,116,117,118,119,120]),([111],[93,94,95,96,97,99,100,101,102,104,105,106,109,110,114,115,116,117,118,119,120]),([112],[93,94,95,96,97,99,100,101,102,104,105,106,109,110,115,116,117,118,119,120]),([113],[93,94,95,96,97,99,100,101,102,104,105,106,116,117,118,119,120]),([114],[93,95,96,99,100,101,102,104,105,106,109,111,117,118,119,120]),([115],[95,96,99,100,101,102,103,104,105,106,107,109,110,111,112,118,119,120]),([116],[95,96,97,99,100,101,102,103,104,105,106,107,108,109,110,111,112,113]),([117],[93,95,96,97,99,100,101,102,104,105,106,109,110,111,112,113,114]),([118],[93,94,95,96,97,98,99,100,101,102,103,104,105,106,107,109,110,111,112,113,114,115]),([119],[93,94,95,96,97,98,99,100,101,102,103,104,105,106,107,109,110,111,112,113,114,115]),([120],[93,94,95,96,97,98,99,100,101,102,103,104,105,106,107,109,110,111,112,113,114,115])]
theorem ZF:((5:Int)=0)=False∧((4:Int)<4)=False∧((4:Int)=5)=False:=by simp
@[go_sem] theorem Jw7:Tryz.prog.eqGuardType Tryz.prog.depth 27=false:=by kernel_rfl
@[go_sem] theorem JIB:Tryz.prog.stoodInHeld 27=false:=by kernel_rfl
theorem Jfo{p:Pins}{id:Int}(h:¬(J2 p id).2=true):(J2 p id).1=[]:=by
 unfold J2 at h ⊢
 simp only at h ⊢
 split
 ·rfl
 ·rename_i h1;rw[if_neg h1] at h;simp at h
theorem Jkt(w:Work)(x:Answer):(VO w x).req=⟨w.req.a,5,w.req.id,w.req.route,w.req.cluster,x⟩:=by
 unfold VO
 split<;>rfl
theorem JnU{r:Req}{s:Side}(hr:Vm r=true)(hs:VX s=true)(hst:¬r.stage=0) :
  (r.stage=5∧Js r s=⟨r,s,[]⟩)∨(∃r',Js r s=⟨r',s,[]⟩∧r'.stage=r.stage+1∧¬r.stage=5∧¬r'.stage=5∧r'.id=r.id∧(J2 s.p r.id).2=true∧Vm r'=true) ∨
  ((Js r s).req.stage=5∧¬r.stage=5∧Vm (Js r s).req=true∧((J2 s.p r.id).2=true∨¬(Js r s).req.out.what=3∨r.stage=4)):=by
 have hk:1≤r.stage∧r.stage≤5∧0≤r.id∧(0<r.id∨r.stage=5):=by
  simp only[Vm,Bool.and_eq_true,Bool.or_eq_true,decide_eq_true_eq] at hr
  omega
 have hrs:JS r=r:=by unfold JS;rw[if_pos hr]
 have ok5:∀x:Answer,Vm ⟨r.a,5,r.id,r.route,r.cluster,x⟩=true:=fun x=>by
  simp[Vm]
  omega
 have dn:∀x:Answer,¬r.stage=5→Js r s=VO ⟨r,s,[]⟩ x→((J2 s.p r.id).2=true∨¬x.what=3∨r.stage=4)→(Js r s).req.stage=5∧¬r.stage=5∧Vm (Js r s).req=true∧((J2 s.p r.id).2=true∨¬(Js r s).req.out.what=3∨r.stage=4):=fun x h5 e h=>by
  rw[e,Jkt]
  exact⟨rfl,h5,ok5 x,h⟩
 have hsnap:Vs ⟨r,s,[]⟩=(J2 s.p r.id).1:=rfl
 unfold Js at dn ⊢
 rw[hrs,JbO hs] at dn ⊢
 rcases(show r.stage=1∨r.stage=2∨r.stage=3∨r.stage=4∨r.stage=5 by omega) with h|h|h|h|h
 ·have e:YL ⟨r,s,[]⟩=JaN ⟨r,s,[]⟩:=by unfold YL;simp[h]
  have dn:=dn ⟨1,[],0⟩ (by omega)
  rw[e] at dn ⊢
  unfold JaN at dn ⊢
  rw[hsnap] at dn ⊢
  cases c:Jad (J2 s.p r.id).1 r.a.port with
  |none =>
   rw[c] at dn
   exact .inr (.inr (dn rfl (.inr (.inl (by simp)))))
  |some x =>
   refine .inr (.inl ⟨_,rfl,by simp only;omega,by omega,by simp,rfl,?_,?_⟩)
   ·by_cases hp:(J2 s.p r.id).2=true
    ·exact hp
    ·rw[Jfo hp] at c
     simp[Jad] at c
   ·simp only[Vm,Bool.and_eq_true,Bool.or_eq_true,decide_eq_true_eq]
    omega
 ·have e:YL ⟨r,s,[]⟩=JaW ⟨r,s,[]⟩:=by unfold YL;simp[h]
  have dn2:=dn ⟨2,[],0⟩ (by omega)
  have dn0:=dn ⟨0,[],0⟩ (by omega)
  clear dn
  rw[e] at dn2 dn0 ⊢
  unfold JaW at dn2 dn0 ⊢
  rw[hsnap] at dn2 dn0 ⊢
  simp only at dn2 dn0 ⊢
  cases c:JcH (J2 s.p r.id).1 r.route r.a.host r.a.path with
  |none =>
   rw[c] at dn2
   exact .inr (.inr (dn2 rfl (.inr (.inl (by simp)))))
  |some x =>
   rw[c] at dn0
   simp only at dn0 ⊢
   cases c2:ZJ x.split r.a.first with
   |none =>
    rw[c2] at dn0
    exact .inr (.inr (dn0 rfl (.inr (.inl (by simp)))))
   |some y =>
    refine .inr (.inl ⟨_,rfl,by simp only;omega,by omega,by simp,rfl,?_,?_⟩)
    ·by_cases hp:(J2 s.p r.id).2=true
     ·exact hp
     ·rw[Jfo hp] at c
      simp[JcH,JP] at c
    ·simp only[Vm,Bool.and_eq_true,Bool.or_eq_true,decide_eq_true_eq]
     omega
 ·have e:YL ⟨r,s,[]⟩=JaB ⟨r,s,[]⟩:=by unfold YL;simp[h]
  have dn:=dn ⟨0,[],0⟩ (by omega)
  rw[e] at dn ⊢
  unfold JaB at dn ⊢
  rw[hsnap] at dn ⊢
  simp only at dn ⊢
  cases c:Yo (Jb5 (J2 s.p r.id).1 r.cluster).1 r.a.other with
  |none =>
   rw[c] at dn
   exact .inr (.inr (dn rfl (.inr (.inl (by simp)))))
  |some x =>
   refine .inr (.inl ⟨_,rfl,by simp only;omega,by omega,by simp,rfl,?_,?_⟩)
   ·by_cases hp:(J2 s.p r.id).2=true
    ·exact hp
    ·rw[Jfo hp] at c
     simp[Jb5,JP,Yo] at c
   ·simp only[Vm,Bool.and_eq_true,Bool.or_eq_true,decide_eq_true_eq]
    omega
 ·have e:YL ⟨r,s,[]⟩=VO ⟨r,s,[]⟩ r.out:=by unfold YL;simp[h]
  exact .inr (.inr (dn r.out (by omega) e (.inr (.inr h))))
 ·refine .inl ⟨h,?_⟩
  unfold YL
  simp[h]
set_option maxHeartbeats 16000000 in
theorem Jm6(r_a_port:Int)(r_a_host:List UInt8)(r_a_path:List UInt8)(r_a_first:Int)(r_a_other:Int)(r_stage:Int)(r_id:Int)(r_route:List UInt8)(r_cluster:List UInt8)(r_out_what:Int)(r_out_cluster:List UInt8)(r_out_host:Int)(s_epoch:Int)(s_turn:Int)(s_up:Bool)(s_in_last_a0:Int)(s_in_last_a1:Int)(s_in_last_a2:Int)(s_in_last_a3:Int)(s_in_max:Int)(s_errs_a0:Int)(s_errs_a1:Int)(s_errs_a2:Int)(s_errs_a3:Int)(s_w_c_cap:Int)(s_w_c_l:List Res)(s_w_ready:Bool)(s_w_shown:List Res)(s_p_next:Int)(s_p_snaps:List Snap)(hw:ZW ⟨⟨s_w_c_cap,s_w_c_l⟩,s_w_ready,s_w_shown⟩)(hl:Jc s_p_snaps.length)(hs:∀x∈s_p_snaps,V1 x):CallR Tryz.prog 3 [.agg [.int .i64 r_a_port,.str r_a_host,.str r_a_path,.int .i64 r_a_first,.int .i64 r_a_other,.int .i64 r_stage,.int .i64 r_id,.str r_route,.str r_cluster,.int .i64 r_out_what,.str r_out_cluster,.int .i64 r_out_host],.agg [.int .i64 s_epoch,.int .i64 s_turn,.bool s_up,.int .i64 s_in_last_a0,.int .i64 s_in_last_a1,.int .i64 s_in_last_a2,.int .i64 s_in_last_a3,.int .i64 s_in_max,.int .i64 s_errs_a0,.int .i64 s_errs_a1,.int .i64 s_errs_a2,.int .i64 s_errs_a3,.int .i64 s_w_c_cap,.slice false (Ja s_w_c_l),.bool s_w_ready,.slice false (Ja s_w_shown),.int .i64 s_p_next,.slice false (Ja s_p_snaps)]] (.val (.bool true)):=by
 have w0:=JjS
 have w1:=JkI r_a_port r_a_host r_a_path r_a_first r_a_other r_stage r_id r_route r_cluster r_out_what r_out_cluster r_out_host s_epoch s_turn s_up s_in_last_a0 s_in_last_a1 s_in_last_a2 s_in_last_a3 s_in_max s_errs_a0 s_errs_a1 s_errs_a2 s_errs_a3 s_w_c_cap s_w_c_l s_w_ready s_w_shown s_p_next s_p_snaps hw hl hs
 have w2:=Jnf s_epoch s_turn s_up s_in_last_a0 s_in_last_a1 s_in_last_a2 s_in_last_a3 s_in_max s_errs_a0 s_errs_a1 s_errs_a2 s_errs_a3 s_w_c_cap s_w_c_l s_w_ready s_w_shown s_p_next s_p_snaps hl
 have v1:=Jm5 r_a_port r_a_host r_a_path r_a_first r_a_other r_stage r_id r_route r_cluster r_out_what r_out_cluster r_out_host
 have v2:=JcE r_a_port r_a_host r_a_path r_a_first r_a_other r_stage r_id r_route r_cluster r_out_what r_out_cluster r_out_host
 by_cases hfew:Jb7 (⟨⟨r_a_port,r_a_host,r_a_path,r_a_first,r_a_other⟩,r_stage,r_id,r_route,r_cluster,⟨r_out_what,r_out_cluster,r_out_host⟩⟩:Req) (⟨s_epoch,s_turn,s_up,⟨⟨s_in_last_a0,s_in_last_a1,s_in_last_a2,s_in_last_a3⟩,s_in_max⟩,⟨s_errs_a0,s_errs_a1,s_errs_a2,s_errs_a3⟩,⟨⟨s_w_c_cap,s_w_c_l⟩,s_w_ready,s_w_shown⟩,⟨s_p_next,s_p_snaps⟩⟩:Side)=true
 rotate_left
 ·rw[show Jb7 (⟨⟨r_a_port,r_a_host,r_a_path,r_a_first,r_a_other⟩,r_stage,r_id,r_route,r_cluster,⟨r_out_what,r_out_cluster,r_out_host⟩⟩:Req) (⟨s_epoch,s_turn,s_up,⟨⟨s_in_last_a0,s_in_last_a1,s_in_last_a2,s_in_last_a3⟩,s_in_max⟩,⟨s_errs_a0,s_errs_a1,s_errs_a2,s_errs_a3⟩,⟨⟨s_w_c_cap,s_w_c_l⟩,s_w_ready,s_w_shown⟩,⟨s_p_next,s_p_snaps⟩⟩:Side)=false by simpa using hfew] at w1
  clear hw hl hs hfew
  refine CallR.go2 (T:=T) Tryz.call3 Tryz.func3 rfl Tryz.ntmps3 (congrArg Array.toList Tryz.results3) (by decide) fun ts hn h0 h1=>?_
  (repeat' (first
 | (with_reducible first|refine callX.by (w0) ?_|refine callX.by (w1) ?_|refine callX.by (w2) ?_|assumption|(refine Qw hK _ ?_;clear hK K)|refine Qw ‹_› _ ?_|refine Qx ‹_› ?_|refine Qi fun K hK=>?_|refine Qj T fun K hK=>?_|refine Qk (id:=4) T mixed Zy (by kernel_rfl) fun K hK=>?_|refine Qk (id:=5) T mixed Zz (by kernel_rfl) fun K hK=>?_|refine Qk (id:=7) T mixed ZA (by kernel_rfl) fun K hK=>?_|refine Qk (id:=10) T mixed ZB (by kernel_rfl) fun K hK=>?_|refine Ql fun A B hA hB=>?_|refine Qn ?_|refine Qr ?_)
 | ((with_reducible first|apply Qy|apply Qz|apply QA)<;>intro hb<;>try simp only[nr] at hb)
 |simp only[go_sem,↓reduceIte,reduceIte,Qa,Qh,Qb,Qc,Qd,Qe,Qf,Qg,reduceCtorEq, *,YD,ZF,-w0,-w1,-w2,-v1,-v2]
 |with_reducible refine fun(bn:Bool) hbn=>?_))
 rw[hfew] at w1
 unfold Jb7 at hfew
 simp only[Bool.and_eq_true,decide_eq_true_eq] at hfew
 have hb:=JkJ hfew.1 hw hs
 have hh:Jc r_a_host.length:=by have:=hfew.2.1.1.1;unfold Jc;omega
 clear hfew
 by_cases hok:Vm (⟨⟨r_a_port,r_a_host,r_a_path,r_a_first,r_a_other⟩,r_stage,r_id,r_route,r_cluster,⟨r_out_what,r_out_cluster,r_out_host⟩⟩:Req)=true
 rotate_left
 ·rw[show Vm (⟨⟨r_a_port,r_a_host,r_a_path,r_a_first,r_a_other⟩,r_stage,r_id,r_route,r_cluster,⟨r_out_what,r_out_cluster,r_out_host⟩⟩:Req)=false by simpa using hok] at v2
  clear hw hl hs hb hok
  refine CallR.go2 (T:=T) Tryz.call3 Tryz.func3 rfl Tryz.ntmps3 (congrArg Array.toList Tryz.results3) (by decide) fun ts hn h0 h1=>?_
  (repeat' (first
 | (with_reducible first|refine callX.by (w0) ?_|refine callX.by (w1) ?_|refine callX.by (w2) ?_|refine callX.by (v1) ?_|refine callX.by (v2) ?_|assumption|(refine Qw hK _ ?_;clear hK K)|refine Qw ‹_› _ ?_|refine Qx ‹_› ?_|refine Qi fun K hK=>?_|refine Qj T fun K hK=>?_|refine Qk (id:=4) T mixed Zy (by kernel_rfl) fun K hK=>?_|refine Qk (id:=5) T mixed Zz (by kernel_rfl) fun K hK=>?_|refine Qk (id:=7) T mixed ZA (by kernel_rfl) fun K hK=>?_|refine Qk (id:=10) T mixed ZB (by kernel_rfl) fun K hK=>?_|refine Ql fun A B hA hB=>?_|refine Qn ?_|refine Qr ?_)
 | ((with_reducible first|apply Qy|apply Qz|apply QA)<;>intro hb<;>try simp only[nr] at hb)
 |simp only[go_sem,↓reduceIte,reduceIte,Qa,Qh,Qb,Qc,Qd,Qe,Qf,Qg,reduceCtorEq, *,YD,ZF,-w0,-w1,-w2,-v1,-v2]
 |with_reducible refine fun(bn:Bool) hbn=>?_))
 rw[hok] at v2
 have w3:=Jee s_epoch s_turn s_up s_in_last_a0 s_in_last_a1 s_in_last_a2 s_in_last_a3 s_in_max s_errs_a0 s_errs_a1 s_errs_a2 s_errs_a3 s_w_c_cap s_w_c_l s_w_ready s_w_shown s_p_next s_p_snaps (hb.sz (by decide))
 by_cases hsn:VX (⟨s_epoch,s_turn,s_up,⟨⟨s_in_last_a0,s_in_last_a1,s_in_last_a2,s_in_last_a3⟩,s_in_max⟩,⟨s_errs_a0,s_errs_a1,s_errs_a2,s_errs_a3⟩,⟨⟨s_w_c_cap,s_w_c_l⟩,s_w_ready,s_w_shown⟩,⟨s_p_next,s_p_snaps⟩⟩:Side)=true
 rotate_left
 ·rw[show VX (⟨s_epoch,s_turn,s_up,⟨⟨s_in_last_a0,s_in_last_a1,s_in_last_a2,s_in_last_a3⟩,s_in_max⟩,⟨s_errs_a0,s_errs_a1,s_errs_a2,s_errs_a3⟩,⟨⟨s_w_c_cap,s_w_c_l⟩,s_w_ready,s_w_shown⟩,⟨s_p_next,s_p_snaps⟩⟩:Side)=false by simpa using hsn] at w3
  clear hw hl hs hb hok hsn
  refine CallR.go2 (T:=T) Tryz.call3 Tryz.func3 rfl Tryz.ntmps3 (congrArg Array.toList Tryz.results3) (by decide) fun ts hn h0 h1=>?_
  (repeat' (first
 | (with_reducible first|refine callX.by (w0) ?_|refine callX.by (w1) ?_|refine callX.by (w2) ?_|refine callX.by (w3) ?_|refine callX.by (v1) ?_|refine callX.by (v2) ?_|assumption|(refine Qw hK _ ?_;clear hK K)|refine Qw ‹_› _ ?_|refine Qx ‹_› ?_|refine Qi fun K hK=>?_|refine Qj T fun K hK=>?_|refine Qk (id:=4) T mixed Zy (by kernel_rfl) fun K hK=>?_|refine Qk (id:=5) T mixed Zz (by kernel_rfl) fun K hK=>?_|refine Qk (id:=7) T mixed ZA (by kernel_rfl) fun K hK=>?_|refine Qk (id:=10) T mixed ZB (by kernel_rfl) fun K hK=>?_|refine Ql fun A B hA hB=>?_|refine Qn ?_|refine Qr ?_)
 | ((with_reducible first|apply Qy|apply Qz|apply QA)<;>intro hb<;>try simp only[nr] at hb)
 |simp only[go_sem,↓reduceIte,reduceIte,Qa,Qh,Qb,Qc,Qd,Qe,Qf,Qg,reduceCtorEq, *,YD,ZF,-w0,-w1,-w2,-w3,-v1,-v2]
 |with_reducible refine fun(bn:Bool) hbn=>?_))
 rw[hsn] at w3
 by_cases hst:r_stage=0
 ·subst hst
  clear hw hl hs hb hok hsn
  refine CallR.go2 (T:=T) Tryz.call3 Tryz.func3 rfl Tryz.ntmps3 (congrArg Array.toList Tryz.results3) (by decide) fun ts hn h0 h1=>?_
  (repeat' (first
 | (with_reducible first|refine callX.by (w0) ?_|refine callX.by (w1) ?_|refine callX.by (w2) ?_|refine callX.by (w3) ?_|refine callX.by (v1) ?_|refine callX.by (v2) ?_|assumption|(refine Qw hK _ ?_;clear hK K)|refine Qw ‹_› _ ?_|refine Qx ‹_› ?_|refine Qi fun K hK=>?_|refine Qj T fun K hK=>?_|refine Qk (id:=4) T mixed Zy (by kernel_rfl) fun K hK=>?_|refine Qk (id:=5) T mixed Zz (by kernel_rfl) fun K hK=>?_|refine Qk (id:=7) T mixed ZA (by kernel_rfl) fun K hK=>?_|refine Qk (id:=10) T mixed ZB (by kernel_rfl) fun K hK=>?_|refine Ql fun A B hA hB=>?_|refine Qn ?_|refine Qr ?_)
 | ((with_reducible first|apply Qy|apply Qz|apply QA)<;>intro hb<;>try simp only[nr] at hb)
 |simp only[go_sem,↓reduceIte,reduceIte,Qa,Qh,Qb,Qc,Qd,Qe,Qf,Qg,reduceCtorEq, *,YD,ZF,-w0,-w1,-w2,-w3,-v1,-v2]
 |with_reducible refine fun(bn:Bool) hbn=>?_))
 have hro:JS (⟨⟨r_a_port,r_a_host,r_a_path,r_a_first,r_a_other⟩,r_stage,r_id,r_route,r_cluster,⟨r_out_what,r_out_cluster,r_out_host⟩⟩:Req)=(⟨⟨r_a_port,r_a_host,r_a_path,r_a_first,r_a_other⟩,r_stage,r_id,r_route,r_cluster,⟨r_out_what,r_out_cluster,r_out_host⟩⟩:Req):=by unfold JS;rw[if_pos hok]
 have w4:=Jia s_p_next r_id s_p_snaps hl
 have w5:=Ji1 r_a_port r_a_host r_a_path r_a_first r_a_other r_stage r_id r_route r_cluster r_out_what r_out_cluster r_out_host s_epoch s_turn s_up s_in_last_a0 s_in_last_a1 s_in_last_a2 s_in_last_a3 s_in_max s_errs_a0 s_errs_a1 s_errs_a2 s_errs_a3 s_w_c_cap s_w_c_l s_w_ready s_w_shown s_p_next s_p_snaps (hb.sz (by decide)) (by rw[hro,JbO hsn];exact hb.szk (by decide) hsn _ hh)
 have w6:=Jm9 s_epoch s_turn s_up s_in_last_a0 s_in_last_a1 s_in_last_a2 s_in_last_a3 s_in_max s_errs_a0 s_errs_a1 s_errs_a2 s_errs_a3 s_w_c_cap s_w_c_l s_w_ready s_w_shown s_p_next s_p_snaps hl
 have w7:=Jnr s_epoch s_turn s_up s_in_last_a0 s_in_last_a1 s_in_last_a2 s_in_last_a3 s_in_max s_errs_a0 s_errs_a1 s_errs_a2 s_errs_a3 s_w_c_cap s_w_c_l s_w_ready s_w_shown s_p_next s_p_snaps hw hl hs
 have hst5:0≤r_stage∧r_stage≤5:=by
  simp only[Vm,Bool.and_eq_true,Bool.or_eq_true,decide_eq_true_eq] at hok
  omega
 have hwr:IntKind.i64.wrap (r_stage+1)=r_stage+1:=IntWalk.i64_in _ (by omega)
 clear hw hl hs hb hh hro
 rcases JnU hok hsn hst with ⟨e5,e⟩|⟨r',e,q1,q2,q3,q4,q5,q6⟩|⟨q1,q2,q3,q4⟩
 ·rw[e] at w5
  simp only at e5 w5
  subst e5
  have v3:=Jjz r_a_port r_a_host r_a_path r_a_first r_a_other 5 r_id r_route r_cluster r_out_what r_out_cluster r_out_host
  clear hok hsn hst hst5 hwr e w6 w7
  generalize J2 ⟨s_p_next,s_p_snaps⟩ r_id=g at *
  refine CallR.go2 (T:=T) Tryz.call3 Tryz.func3 rfl Tryz.ntmps3 (congrArg Array.toList Tryz.results3) (by decide) fun ts hn h0 h1=>?_
  (repeat' (first
 | (with_reducible first|refine callX.by (w0) ?_|refine callX.by (w1) ?_|refine callX.by (w2) ?_|refine callX.by (w3) ?_|refine callX.by (w4) ?_|refine callX.by (w5) ?_|refine callX.by (v1) ?_|refine callX.by (v2) ?_|refine callX.by (v3) ?_|assumption|(refine Qw hK _ ?_;clear hK K)|refine Qw ‹_› _ ?_|refine Qx ‹_› ?_|refine Qi fun K hK=>?_|refine Qj T fun K hK=>?_|refine Qk (id:=4) T mixed Zy (by kernel_rfl) fun K hK=>?_|refine Qk (id:=5) T mixed Zz (by kernel_rfl) fun K hK=>?_|refine Qk (id:=7) T mixed ZA (by kernel_rfl) fun K hK=>?_|refine Qk (id:=10) T mixed ZB (by kernel_rfl) fun K hK=>?_|refine Ql fun A B hA hB=>?_|refine Qn ?_|refine Qr ?_)
 | ((with_reducible first|apply Qy|apply Qz|apply QA)<;>intro hb<;>try simp only[nr] at hb)
 |simp only[go_sem,↓reduceIte,reduceIte,Qa,Qh,Qb,Qc,Qd,Qe,Qf,Qg,reduceCtorEq, *,YD,ZF,-w0,-w1,-w2,-w3,-w4,-w5,-v1,-v2,-v3,Vc,List.length_nil]
 |with_reducible refine fun(bn:Bool) hbn=>?_))
 ·rw[e] at w5
  simp only at q1 q2 q4 q5 w5
  have v3:=JcE r'.a.port r'.a.host r'.a.path r'.a.first r'.a.other r'.stage r'.id r'.route r'.cluster r'.out.what r'.out.cluster r'.out.host
  have v3:CallR Tryz.prog 10 [.agg [.int .i64 r'.a.port,.str r'.a.host,.str r'.a.path,.int .i64 r'.a.first,.int .i64 r'.a.other,.int .i64 r'.stage,.int .i64 r'.id,.str r'.route,.str r'.cluster,.int .i64 r'.out.what,.str r'.out.cluster,.int .i64 r'.out.host]] (.val (.bool (Vm r'))):=v3
  rw[q6] at v3
  rw[q5] at w4
  obtain⟨ra,rst,rid,rro,rcl,ro⟩:=r'
  simp only at q1 q2 q3 q4 w5 v3
  subst q1 q4
  clear hok hsn hst5 e q5 q6
  generalize J2 ⟨s_p_next,s_p_snaps⟩ rid=g at *
  refine CallR.go2 (T:=T) Tryz.call3 Tryz.func3 rfl Tryz.ntmps3 (congrArg Array.toList Tryz.results3) (by decide) fun ts hn h0 h1=>?_
  (repeat' (first
 | (with_reducible first|refine callX.by (w0) ?_|refine callX.by (w1) ?_|refine callX.by (w2) ?_|refine callX.by (w3) ?_|refine callX.by (w4) ?_|refine callX.by (w5) ?_|refine callX.by (w6) ?_|refine callX.by (w7) ?_|refine callX.by (v1) ?_|refine callX.by (v2) ?_|refine callX.by (v3) ?_|assumption|(refine Qw hK _ ?_;clear hK K)|refine Qw ‹_› _ ?_|refine Qx ‹_› ?_|refine Qi fun K hK=>?_|refine Qj T fun K hK=>?_|refine Qk (id:=4) T mixed Zy (by kernel_rfl) fun K hK=>?_|refine Qk (id:=5) T mixed Zz (by kernel_rfl) fun K hK=>?_|refine Qk (id:=7) T mixed ZA (by kernel_rfl) fun K hK=>?_|refine Qk (id:=10) T mixed ZB (by kernel_rfl) fun K hK=>?_|refine Ql fun A B hA hB=>?_|refine Qn ?_|refine Qr ?_)
 | ((with_reducible first|apply Qy|apply Qz|apply QA)<;>intro hb<;>try simp only[nr] at hb)
 |simp only[go_sem,↓reduceIte,reduceIte,Qa,Qh,Qb,Qc,Qd,Qe,Qf,Qg,reduceCtorEq, *,YD,ZF,-w0,-w1,-w2,-w3,-w4,-w5,-w6,-w7,-v1,-v2,-v3,Vc,List.length_nil]
 |with_reducible refine fun(bn:Bool) hbn=>?_))
 ·generalize Js (⟨⟨r_a_port,r_a_host,r_a_path,r_a_first,r_a_other⟩,r_stage,r_id,r_route,r_cluster,⟨r_out_what,r_out_cluster,r_out_host⟩⟩:Req) (⟨s_epoch,s_turn,s_up,⟨⟨s_in_last_a0,s_in_last_a1,s_in_last_a2,s_in_last_a3⟩,s_in_max⟩,⟨s_errs_a0,s_errs_a1,s_errs_a2,s_errs_a3⟩,⟨⟨s_w_c_cap,s_w_c_l⟩,s_w_ready,s_w_shown⟩,⟨s_p_next,s_p_snaps⟩⟩:Side)=X at *
  obtain⟨⟨ra,rst,rid,rro,rcl,ro⟩,xs,xt⟩:=X
  simp only at q1 q2 q3 q4 w5
  subst q1
  have v3:=JcE ra.port ra.host ra.path ra.first ra.other 5 rid rro rcl ro.what ro.cluster ro.host
  have v3:CallR Tryz.prog 10 [.agg [.int .i64 ra.port,.str ra.host,.str ra.path,.int .i64 ra.first,.int .i64 ra.other,.int .i64 5,.int .i64 rid,.str rro,.str rcl,.int .i64 ro.what,.str ro.cluster,.int .i64 ro.host]] (.val (.bool (Vm ⟨ra,5,rid,rro,rcl,ro⟩))):=v3
  rw[q3] at v3
  clear hok hsn hst5 q3 w6 w7
  generalize J2 ⟨s_p_next,s_p_snaps⟩ r_id=g at *
  rcases q4 with hg|hg|hg
  ·rw[hg] at w4
   refine CallR.go2 (T:=T) Tryz.call3 Tryz.func3 rfl Tryz.ntmps3 (congrArg Array.toList Tryz.results3) (by decide) fun ts hn h0 h1=>?_
   (repeat' (first
 | (with_reducible first|refine callX.by (w0) ?_|refine callX.by (w1) ?_|refine callX.by (w2) ?_|refine callX.by (w3) ?_|refine callX.by (w4) ?_|refine callX.by (w5) ?_|refine callX.by (v1) ?_|refine callX.by (v2) ?_|refine callX.by (v3) ?_|assumption|(refine Qw hK _ ?_;clear hK K)|refine Qw ‹_› _ ?_|refine Qx ‹_› ?_|refine Qi fun K hK=>?_|refine Qj T fun K hK=>?_|refine Qk (id:=4) T mixed Zy (by kernel_rfl) fun K hK=>?_|refine Qk (id:=5) T mixed Zz (by kernel_rfl) fun K hK=>?_|refine Qk (id:=7) T mixed ZA (by kernel_rfl) fun K hK=>?_|refine Qk (id:=10) T mixed ZB (by kernel_rfl) fun K hK=>?_|refine Ql fun A B hA hB=>?_|refine Qn ?_|refine Qr ?_)
 | ((with_reducible first|apply Qy|apply Qz|apply QA)<;>intro hb<;>try simp only[nr] at hb)
 |simp only[go_sem,↓reduceIte,reduceIte,Qa,Qh,Qb,Qc,Qd,Qe,Qf,Qg,reduceCtorEq, *,YD,ZF,-w0,-w1,-w2,-w3,-w4,-w5,-v1,-v2,-v3]
 |with_reducible refine fun(bn:Bool) hbn=>?_))
  ·refine CallR.go2 (T:=T) Tryz.call3 Tryz.func3 rfl Tryz.ntmps3 (congrArg Array.toList Tryz.results3) (by decide) fun ts hn h0 h1=>?_
   (repeat' (first
 | (with_reducible first|refine callX.by (w0) ?_|refine callX.by (w1) ?_|refine callX.by (w2) ?_|refine callX.by (w3) ?_|refine callX.by (w4) ?_|refine callX.by (w5) ?_|refine callX.by (v1) ?_|refine callX.by (v2) ?_|refine callX.by (v3) ?_|assumption|(refine Qw hK _ ?_;clear hK K)|refine Qw ‹_› _ ?_|refine Qx ‹_› ?_|refine Qi fun K hK=>?_|refine Qj T fun K hK=>?_|refine Qk (id:=4) T mixed Zy (by kernel_rfl) fun K hK=>?_|refine Qk (id:=5) T mixed Zz (by kernel_rfl) fun K hK=>?_|refine Qk (id:=7) T mixed ZA (by kernel_rfl) fun K hK=>?_|refine Qk (id:=10) T mixed ZB (by kernel_rfl) fun K hK=>?_|refine Ql fun A B hA hB=>?_|refine Qn ?_|refine Qr ?_)
 | ((with_reducible first|apply Qy|apply Qz|apply QA)<;>intro hb<;>try simp only[nr] at hb)
 |simp only[go_sem,↓reduceIte,reduceIte,Qa,Qh,Qb,Qc,Qd,Qe,Qf,Qg,reduceCtorEq, *,YD,ZF,-w0,-w1,-w2,-w3,-w4,-w5,-v1,-v2,-v3]
 |with_reducible refine fun(bn:Bool) hbn=>?_))
  ·try simp only at hg
   subst hg
   refine CallR.go2 (T:=T) Tryz.call3 Tryz.func3 rfl Tryz.ntmps3 (congrArg Array.toList Tryz.results3) (by decide) fun ts hn h0 h1=>?_
   (repeat' (first
 | (with_reducible first|refine callX.by (w0) ?_|refine callX.by (w1) ?_|refine callX.by (w2) ?_|refine callX.by (w3) ?_|refine callX.by (w4) ?_|refine callX.by (w5) ?_|refine callX.by (v1) ?_|refine callX.by (v2) ?_|refine callX.by (v3) ?_|assumption|(refine Qw hK _ ?_;clear hK K)|refine Qw ‹_› _ ?_|refine Qx ‹_› ?_|refine Qi fun K hK=>?_|refine Qj T fun K hK=>?_|refine Qk (id:=4) T mixed Zy (by kernel_rfl) fun K hK=>?_|refine Qk (id:=5) T mixed Zz (by kernel_rfl) fun K hK=>?_|refine Qk (id:=7) T mixed ZA (by kernel_rfl) fun K hK=>?_|refine Qk (id:=10) T mixed ZB (by kernel_rfl) fun K hK=>?_|refine Ql fun A B hA hB=>?_|refine Qn ?_|refine Qr ?_)
 | ((with_reducible first|apply Qy|apply Qz|apply QA)<;>intro hb<;>try simp only[nr] at hb)
 |simp only[go_sem,↓reduceIte,reduceIte,Qa,Qh,Qb,Qc,Qd,Qe,Qf,Qg,reduceCtorEq, *,YD,ZF,-w0,-w1,-w2,-w3,-w4,-w5,-v1,-v2,-v3]
 |with_reducible refine fun(bn:Bool) hbn=>?_))
end Go.Proofs.YthjalhfmpffbjaaGreatDoor.Lg
