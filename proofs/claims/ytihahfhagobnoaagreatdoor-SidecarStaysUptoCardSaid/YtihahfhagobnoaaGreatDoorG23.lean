/- Parts of the proof, one behind the other. -/
import Derived.Test.YtihahfhagobnoaaGreatDoorG22
namespace Go.Proofs.YtihahfhagobnoaaGreatDoor.Lg
set_option maxRecDepth 100000
set_option linter.unusedVariables false
set_option linter.unusedSimpArgs false
open Go
open Nat renaming reduceEqDiff → Qa, reduceLT → Qb, reduceLeDiff → Qc, reduceAdd → Qd, reduceMul → Qe, reduceSub → Qf, reduceBEq → Qg
open String renaming reduceEq → Qh
open SpecC renaming seqW → Qi, regW → Qj, drawW → Qk, condW → Ql, block → Qm, skip → Qn, exit → Qp, ret → Qr, loopF → Qs
open NxK renaming out → Qw
open Nx renaming out → Qx
open condK renaming split → Qy
open gK renaming split_t → Qz, split_f → QA
open CallR renaming go1 → QD
@[go_sem] def Jf5:List (List Nat×List Nat):=[([3],[5,6,7,8,9,10,11,12,13,14,15,16,17,18,19,20,21,22,23]),([4],[5,6,7,8,9,10,11,12,13,14,15,16,17,18,19,20,21,22,23]),([5],[3,4,7,8,9,10,11,12,13,14,15,16,17,18,19,20,21,22,23]),([6],[3,4,7,8,9,10,11,12,13,14,15,16,17,18,19,20,21,22,23]),([7],[3,4,5,6,9,10,11,12,13,14,15,16,17,18,19,20,21,22,23]),([8],[3,4,5,6,9,10,11,12,13,14,15,16,17,18,19,20,21,22,23]),([9],[3,4,5,6,7,8,12,13,14,15,16,17,18,19,20,21,22,23]),([10],[3,4,5,6,7,8,12,13,14,16,17,18,19,20,21,22,23]),([11],[3,4,5,6,7,8,12,13,14,16,17,18,19,20,21,22,23]),([12],[3,4,5,6,7,8,9,10,11,15,16,17,18,19,20,21,22,23]),([13],[3,4,5,6,7,8,9,10,11,16,17,18,19,20,21,22,23]),([14],[3,4,5,6,7,8,9,10,11,16,17,18,19,20,21,22,23]),([15],[3,4,5,6,7,8,9,12,16,17,18,19,20,21,22,23]),([16],[3,4,5,6,7,8,9,10,11,12,13,14,15,18,19,20,21,22,23]),([17],[3,4,5,6,7,8,9,10,11,12,13,14,15,18,19,20,21,22,23]),([18],[3,4,5,6,7,8,9,10,11,12,13,14,15,16,17,21,22,23]),([19],[3,4,5,6,7,8,9,10,11,12,13,14,15,16,17,21,22]),([20],[3,4,5,6,7,8,9,10,11,12,13,14,15,16,17,21,22]),([21],[3,4,5,6,7,8,9,10,11,12,13,14,15,16,17,18,19,20]),([22],[3,4,5,6,7,8,9,10,11,12,13,14,15,16,17,18,19,20]),([23],[3,4,5,6,7,8,9,10,11,12,13,14,15,16,17,18])]
theorem Jjs(w_c_cap:Int)(w_c_l:List Res)(w_ready:Bool)(w_shown:List Res):CallR Tryz.prog 37 [.agg [.int .i64 w_c_cap,.slice false (Ja w_c_l),.bool w_ready,.slice false (Ja w_shown)]] (.val (.agg [.int .i64 w_c_cap,.slice false (Ja w_c_l),.bool w_ready,.slice false (Ja w_shown)])):=by
 refine QD (T:=T) Tryz.call37 Tryz.func37 rfl Tryz.ntmps37 (congrArg Array.toList Tryz.results37) (by decide) fun ts hn h0=>?_
 (repeat' (first
 | (with_reducible first|assumption|(refine Qw hK _ ?_;clear hK K)|refine Qw ‹_› _ ?_|refine Qx ‹_› ?_|refine Qi fun K hK=>?_|refine Qj T fun K hK=>?_|refine Ql fun A B hA hB=>?_|refine Qn ?_|refine Qr ?_)
 | ((with_reducible first|apply Qy|apply Qz|apply QA)<;>intro hb<;>try simp only[nr] at hb)
 |simp only[go_sem,↓reduceIte,reduceIte,Qa,Qh,Qb,Qc,Qd,Qe,Qf,Qg,reduceCtorEq, *]
 |with_reducible refine fun(bn:Bool) hbn=>?_))
theorem Jjb(w_c_cap:Int)(w_c_l:List Res)(w_ready:Bool)(w_shown:List Res):CallR Tryz.prog 45 [.agg [.int .i64 w_c_cap,.slice false (Ja w_c_l),.bool w_ready,.slice false (Ja w_shown)]] (.val (.agg [.int .i64 w_c_cap,.slice false (Ja w_c_l),.bool w_ready,.slice false (Ja w_shown)])):=by
 refine QD (T:=T) Tryz.call45 Tryz.func45 rfl Tryz.ntmps45 (congrArg Array.toList Tryz.results45) (by decide) fun ts hn h0=>?_
 (repeat' (first
 | (with_reducible first|assumption|(refine Qw hK _ ?_;clear hK K)|refine Qw ‹_› _ ?_|refine Qx ‹_› ?_|refine Qi fun K hK=>?_|refine Qj T fun K hK=>?_|refine Ql fun A B hA hB=>?_|refine Qn ?_|refine Qr ?_)
 | ((with_reducible first|apply Qy|apply Qz|apply QA)<;>intro hb<;>try simp only[nr] at hb)
 |simp only[go_sem,↓reduceIte,reduceIte,Qa,Qh,Qb,Qc,Qd,Qe,Qf,Qg,reduceCtorEq, *]
 |with_reducible refine fun(bn:Bool) hbn=>?_))
theorem Jjl(next:Int)(xs:List Snap)(hl:Jc xs.length):CallR Tryz.prog 38 [.agg [.int .i64 next,.slice false (Ja xs)]] (.val (.agg [.int .i64 next,.slice false (Ja xs)])):=by
 refine QD (T:=T) Tryz.call38 Tryz.func38 rfl Tryz.ntmps38 (congrArg Array.toList Tryz.results38) (by decide) fun ts hn h0=>?_
 (repeat' (first
 | (with_reducible first|assumption|(refine Qw hK _ ?_;clear hK K)|refine Qw ‹_› _ ?_|refine Qx ‹_› ?_|refine Qi fun K hK=>?_|refine Qj T fun K hK=>?_|refine Ql fun A B hA hB=>?_|refine Qm ?_|refine Qn ?_|refine Qp ?_|refine Qr ?_)
 | ((with_reducible first|apply Qy|apply Qz|apply QA)<;>intro hb<;>try simp only[nr] at hb)
 |simp only[go_sem,↓reduceIte,reduceIte,Qa,Qh,Qb,Qc,Qd,Qe,Qf,Qg,reduceCtorEq, *]
 |with_reducible refine fun(bn:Bool) hbn=>?_))
 refine SpecC.ent (Ent.virtB 31 3 1 3 (cs:=[.int .i64 next,.slice true []]) (by simp only[go_sem,↓reduceIte,reduceIte,Qa,Qh,Qb,Qc,Qd,Qe,Qf,Qg,reduceCtorEq, *,Ob.box?]) (by decide) rfl (by decide)) ?_
 refine Qs [1,2] (fun m ts'=>∃(i:Nat),∃(g:Nat),m=xs.length-i∧i≤xs.length∧ts'.tmp 3=.ref 3 (ts.gen 3+1) 0∧ts'.gen 3=ts.gen 3+1∧ts'.obj 3=.box [.int .i64 next,.os 31 g i]∧ts'.gen 31=g∧ts'.obj 31=.arr 3 (Ja (xs.take i))∧ts'.tmp 4=.int .i64 i) xs.length ?_ ?_
 ·refine⟨0,ts.gen 31+1,rfl,Nat.zero_le _,?_⟩
  simp only[go_sem,↓reduceIte,reduceIte,Qa,Qh,Qb,Qc,Qd,Qe,Qf,Qg,reduceCtorEq, *,YM,List.take_zero,List.set]
 ·rintro m A hM ts' hk ⟨i,g,hm,f1,s1,s2,s3,s4,s5,s6⟩
  simp only[go_sem,↓reduceIte,reduceIte,Qa,Qh,Qb,Qc,Qd,Qe,Qf,Qg,reduceCtorEq, *] at hk
  have hlen:(xs.take i).length=i:=by rw[List.length_take];omega
  have htk:(xs.take i).take i=xs.take i:=by rw[List.take_take,Nat.min_self]
  have hr1:Vm (i+1) 40:=JaU (by unfold Jc at hl;omega) (by decide)
  by_cases hlt:i<xs.length
  ·have e:=List.take_succ_eq_append_getElem hlt
   (repeat' (first
 | (with_reducible first|assumption|(refine Qw hK _ ?_;clear hK K)|refine Qw ‹_› _ ?_|refine Qx ‹_› ?_|refine Qi fun K hK=>?_|refine Qj T fun K hK=>?_|refine Ql fun A B hA hB=>?_|refine Qm ?_|refine Qn ?_|refine Qp ?_|refine Qr ?_)
 | ((with_reducible first|apply Qy|apply Qz|apply QA)<;>intro hb<;>try simp only[nr] at hb)
 |simp only[go_sem,↓reduceIte,reduceIte,Qa,Qh,Qb,Qc,Qd,Qe,Qf,Qg,reduceCtorEq, *,-e]
 |with_reducible refine fun(bn:Bool) hbn=>?_))
   all_goals ((repeat clear hK);(repeat clear hA);(repeat clear hB))
   (refine hM.on (xs.length-(i+1)) (by omega) (by simp only[go_sem,↓reduceIte,reduceIte,Qa,Qh,Qb,Qc,Qd,Qe,Qf,Qg,reduceCtorEq, *,Jg hlt hl,e]) ⟨i+1,ts'.gen 31+1,rfl,by omega,?_⟩;simp only[go_sem,↓reduceIte,reduceIte,Qa,Qh,Qb,Qc,Qd,Qe,Qf,Qg,reduceCtorEq, *,Jg hlt hl,e];done)
  ·have hi2:i=xs.length:=by omega
   (repeat' (first
 | (with_reducible first|assumption|(refine Qw hK _ ?_;clear hK K)|refine Qw ‹_› _ ?_|refine Qx ‹_› ?_|refine Qi fun K hK=>?_|refine Qj T fun K hK=>?_|refine Ql fun A B hA hB=>?_|refine Qm ?_|refine Qn ?_|refine Qp ?_|refine Qr ?_)
 | ((with_reducible first|apply Qy|apply Qz|apply QA)<;>intro hb<;>try simp only[nr] at hb)
 |simp only[go_sem,↓reduceIte,reduceIte,Qa,Qh,Qb,Qc,Qd,Qe,Qf,Qg,reduceCtorEq, *,Nat.lt_irrefl,List.take_length]
 |with_reducible refine fun(bn:Bool) hbn=>?_))
theorem Jjg(next:Int)(xs:List Snap)(hl:Jc xs.length):CallR Tryz.prog 46 [.agg [.int .i64 next,.slice false (Ja xs)]] (.val (.agg [.int .i64 next,.slice false (Ja xs)])):=by
 refine QD (T:=T) Tryz.call46 Tryz.func46 rfl Tryz.ntmps46 (congrArg Array.toList Tryz.results46) (by decide) fun ts hn h0=>?_
 (repeat' (first
 | (with_reducible first|assumption|(refine Qw hK _ ?_;clear hK K)|refine Qw ‹_› _ ?_|refine Qx ‹_› ?_|refine Qi fun K hK=>?_|refine Qj T fun K hK=>?_|refine Ql fun A B hA hB=>?_|refine Qm ?_|refine Qn ?_|refine Qp ?_|refine Qr ?_)
 | ((with_reducible first|apply Qy|apply Qz|apply QA)<;>intro hb<;>try simp only[nr] at hb)
 |simp only[go_sem,↓reduceIte,reduceIte,Qa,Qh,Qb,Qc,Qd,Qe,Qf,Qg,reduceCtorEq, *]
 |with_reducible refine fun(bn:Bool) hbn=>?_))
 refine SpecC.ent (Ent.virtB 31 3 1 3 (cs:=[.int .i64 next,.slice true []]) (by simp only[go_sem,↓reduceIte,reduceIte,Qa,Qh,Qb,Qc,Qd,Qe,Qf,Qg,reduceCtorEq, *,Ob.box?]) (by decide) rfl (by decide)) ?_
 refine Qs [1,2] (fun m ts'=>∃(i:Nat),∃(g:Nat),m=xs.length-i∧i≤xs.length∧ts'.tmp 3=.ref 3 (ts.gen 3+1) 0∧ts'.gen 3=ts.gen 3+1∧ts'.obj 3=.box [.int .i64 next,.os 31 g i]∧ts'.gen 31=g∧ts'.obj 31=.arr 3 (Ja (xs.take i))∧ts'.tmp 4=.int .i64 i) xs.length ?_ ?_
 ·refine⟨0,ts.gen 31+1,rfl,Nat.zero_le _,?_⟩
  simp only[go_sem,↓reduceIte,reduceIte,Qa,Qh,Qb,Qc,Qd,Qe,Qf,Qg,reduceCtorEq, *,YM,List.take_zero,List.set]
 ·rintro m A hM ts' hk ⟨i,g,hm,f1,s1,s2,s3,s4,s5,s6⟩
  simp only[go_sem,↓reduceIte,reduceIte,Qa,Qh,Qb,Qc,Qd,Qe,Qf,Qg,reduceCtorEq, *] at hk
  have hlen:(xs.take i).length=i:=by rw[List.length_take];omega
  have htk:(xs.take i).take i=xs.take i:=by rw[List.take_take,Nat.min_self]
  have hr1:Vm (i+1) 40:=JaU (by unfold Jc at hl;omega) (by decide)
  by_cases hlt:i<xs.length
  ·have e:=List.take_succ_eq_append_getElem hlt
   (repeat' (first
 | (with_reducible first|assumption|(refine Qw hK _ ?_;clear hK K)|refine Qw ‹_› _ ?_|refine Qx ‹_› ?_|refine Qi fun K hK=>?_|refine Qj T fun K hK=>?_|refine Ql fun A B hA hB=>?_|refine Qm ?_|refine Qn ?_|refine Qp ?_|refine Qr ?_)
 | ((with_reducible first|apply Qy|apply Qz|apply QA)<;>intro hb<;>try simp only[nr] at hb)
 |simp only[go_sem,↓reduceIte,reduceIte,Qa,Qh,Qb,Qc,Qd,Qe,Qf,Qg,reduceCtorEq, *,-e]
 |with_reducible refine fun(bn:Bool) hbn=>?_))
   all_goals ((repeat clear hK);(repeat clear hA);(repeat clear hB))
   (refine hM.on (xs.length-(i+1)) (by omega) (by simp only[go_sem,↓reduceIte,reduceIte,Qa,Qh,Qb,Qc,Qd,Qe,Qf,Qg,reduceCtorEq, *,Jg hlt hl,e]) ⟨i+1,ts'.gen 31+1,rfl,by omega,?_⟩;simp only[go_sem,↓reduceIte,reduceIte,Qa,Qh,Qb,Qc,Qd,Qe,Qf,Qg,reduceCtorEq, *,Jg hlt hl,e];done)
  ·have hi2:i=xs.length:=by omega
   (repeat' (first
 | (with_reducible first|assumption|(refine Qw hK _ ?_;clear hK K)|refine Qw ‹_› _ ?_|refine Qx ‹_› ?_|refine Qi fun K hK=>?_|refine Qj T fun K hK=>?_|refine Ql fun A B hA hB=>?_|refine Qm ?_|refine Qn ?_|refine Qp ?_|refine Qr ?_)
 | ((with_reducible first|apply Qy|apply Qz|apply QA)<;>intro hb<;>try simp only[nr] at hb)
 |simp only[go_sem,↓reduceIte,reduceIte,Qa,Qh,Qb,Qc,Qd,Qe,Qf,Qg,reduceCtorEq, *,Nat.lt_irrefl,List.take_length]
 |with_reducible refine fun(bn:Bool) hbn=>?_))
set_option maxHeartbeats 4000000 in
theorem Ja1(s_epoch:Int)(s_turn:Int)(s_up:Bool)(s_in_last_a0:Int)(s_in_last_a1:Int)(s_in_last_a2:Int)(s_in_last_a3:Int)(s_in_max:Int)(s_errs_a0:Int)(s_errs_a1:Int)(s_errs_a2:Int)(s_errs_a3:Int)(s_w_c_cap:Int)(s_w_c_l:List Res)(s_w_ready:Bool)(s_w_shown:List Res)(s_p_next:Int)(s_p_snaps:List Snap)(hl:Jc s_p_snaps.length):CallR Tryz.prog 11 [.agg [.int .i64 s_epoch,.int .i64 s_turn,.bool s_up,.int .i64 s_in_last_a0,.int .i64 s_in_last_a1,.int .i64 s_in_last_a2,.int .i64 s_in_last_a3,.int .i64 s_in_max,.int .i64 s_errs_a0,.int .i64 s_errs_a1,.int .i64 s_errs_a2,.int .i64 s_errs_a3,.int .i64 s_w_c_cap,.slice false (Ja s_w_c_l),.bool s_w_ready,.slice false (Ja s_w_shown),.int .i64 s_p_next,.slice false (Ja s_p_snaps)]] (.val (.agg [.int .i64 s_epoch,.int .i64 s_turn,.bool s_up,.int .i64 s_in_last_a0,.int .i64 s_in_last_a1,.int .i64 s_in_last_a2,.int .i64 s_in_last_a3,.int .i64 s_in_max,.int .i64 s_errs_a0,.int .i64 s_errs_a1,.int .i64 s_errs_a2,.int .i64 s_errs_a3,.int .i64 s_w_c_cap,.slice false (Ja s_w_c_l),.bool s_w_ready,.slice false (Ja s_w_shown),.int .i64 s_p_next,.slice false (Ja s_p_snaps)])):=by
 have w1:=Jjs s_w_c_cap s_w_c_l s_w_ready s_w_shown
 have w2:=Jjl s_p_next s_p_snaps hl
 clear hl
 refine QD (T:=T) Tryz.call11 Tryz.func11 rfl Tryz.ntmps11 (congrArg Array.toList Tryz.results11) (by decide) fun ts hn h0=>?_
 (repeat' (first
 | (with_reducible first|refine callX.by (w1) ?_|refine callX.by (w2) ?_|refine callX.by (Jjs _ _ _ _) ?_|refine callX.by (Jjl _ _ ?_) ?_|assumption|(refine Qw hK _ ?_;clear hK K)|refine Qw ‹_› _ ?_|refine Qx ‹_› ?_|refine Qi fun K hK=>?_|refine Qj T fun K hK=>?_|refine Qk (id:=1) T mixed Jf5 (by kernel_rfl) fun K hK=>?_|refine Ql fun A B hA hB=>?_|refine Qn ?_|refine Qr ?_)
 | ((with_reducible first|apply Qy|apply Qz|apply QA)<;>intro hb<;>try simp only[nr] at hb)
 |simp only[go_sem,↓reduceIte,reduceIte,Qa,Qh,Qb,Qc,Qd,Qe,Qf,Qg,reduceCtorEq, *,-w1,-w2]
 |with_reducible refine fun(bn:Bool) hbn=>?_))
set_option maxHeartbeats 4000000 in
theorem JaE(s_epoch:Int)(s_turn:Int)(s_up:Bool)(s_in_last_a0:Int)(s_in_last_a1:Int)(s_in_last_a2:Int)(s_in_last_a3:Int)(s_in_max:Int)(s_errs_a0:Int)(s_errs_a1:Int)(s_errs_a2:Int)(s_errs_a3:Int)(s_w_c_cap:Int)(s_w_c_l:List Res)(s_w_ready:Bool)(s_w_shown:List Res)(s_p_next:Int)(s_p_snaps:List Snap)(hl:Jc s_p_snaps.length):CallR Tryz.prog 14 [.agg [.int .i64 s_epoch,.int .i64 s_turn,.bool s_up,.int .i64 s_in_last_a0,.int .i64 s_in_last_a1,.int .i64 s_in_last_a2,.int .i64 s_in_last_a3,.int .i64 s_in_max,.int .i64 s_errs_a0,.int .i64 s_errs_a1,.int .i64 s_errs_a2,.int .i64 s_errs_a3,.int .i64 s_w_c_cap,.slice false (Ja s_w_c_l),.bool s_w_ready,.slice false (Ja s_w_shown),.int .i64 s_p_next,.slice false (Ja s_p_snaps)]] (.val (.agg [.int .i64 s_epoch,.int .i64 s_turn,.bool s_up,.int .i64 s_in_last_a0,.int .i64 s_in_last_a1,.int .i64 s_in_last_a2,.int .i64 s_in_last_a3,.int .i64 s_in_max,.int .i64 s_errs_a0,.int .i64 s_errs_a1,.int .i64 s_errs_a2,.int .i64 s_errs_a3,.int .i64 s_w_c_cap,.slice false (Ja s_w_c_l),.bool s_w_ready,.slice false (Ja s_w_shown),.int .i64 s_p_next,.slice false (Ja s_p_snaps)])):=by
 have w1:=Jjb s_w_c_cap s_w_c_l s_w_ready s_w_shown
 have w2:=Jjg s_p_next s_p_snaps hl
 clear hl
 refine QD (T:=T) Tryz.call14 Tryz.func14 rfl Tryz.ntmps14 (congrArg Array.toList Tryz.results14) (by decide) fun ts hn h0=>?_
 (repeat' (first
 | (with_reducible first|refine callX.by (w1) ?_|refine callX.by (w2) ?_|refine callX.by (Jjb _ _ _ _) ?_|refine callX.by (Jjg _ _ ?_) ?_|assumption|(refine Qw hK _ ?_;clear hK K)|refine Qw ‹_› _ ?_|refine Qx ‹_› ?_|refine Qi fun K hK=>?_|refine Qj T fun K hK=>?_|refine Qk (id:=1) T mixed Jf5 (by kernel_rfl) fun K hK=>?_|refine Ql fun A B hA hB=>?_|refine Qn ?_|refine Qr ?_)
 | ((with_reducible first|apply Qy|apply Qz|apply QA)<;>intro hb<;>try simp only[nr] at hb)
 |simp only[go_sem,↓reduceIte,reduceIte,Qa,Qh,Qb,Qc,Qd,Qe,Qf,Qg,reduceCtorEq, *,-w1,-w2]
 |with_reducible refine fun(bn:Bool) hbn=>?_))
def Jbn(s:Side):Bool:=YA s.w.c.l && YA s.w.shown && JaA s.p
set_option maxHeartbeats 4000000 in
theorem Jaz(s_epoch:Int)(s_turn:Int)(s_up:Bool)(s_in_last_a0:Int)(s_in_last_a1:Int)(s_in_last_a2:Int)(s_in_last_a3:Int)(s_in_max:Int)(s_errs_a0:Int)(s_errs_a1:Int)(s_errs_a2:Int)(s_errs_a3:Int)(s_w_c_cap:Int)(s_w_c_l:List Res)(s_w_ready:Bool)(s_w_shown:List Res)(s_p_next:Int)(s_p_snaps:List Snap)(hw:Jas ⟨⟨s_w_c_cap,s_w_c_l⟩,s_w_ready,s_w_shown⟩)(hl:Jc s_p_snaps.length)(hs:∀x∈s_p_snaps,Yw x):CallR Tryz.prog 8 [.agg [.int .i64 s_epoch,.int .i64 s_turn,.bool s_up,.int .i64 s_in_last_a0,.int .i64 s_in_last_a1,.int .i64 s_in_last_a2,.int .i64 s_in_last_a3,.int .i64 s_in_max,.int .i64 s_errs_a0,.int .i64 s_errs_a1,.int .i64 s_errs_a2,.int .i64 s_errs_a3,.int .i64 s_w_c_cap,.slice false (Ja s_w_c_l),.bool s_w_ready,.slice false (Ja s_w_shown),.int .i64 s_p_next,.slice false (Ja s_p_snaps)]] (.val (.bool (Jbn (⟨s_epoch,s_turn,s_up,⟨⟨s_in_last_a0,s_in_last_a1,s_in_last_a2,s_in_last_a3⟩,s_in_max⟩,⟨s_errs_a0,s_errs_a1,s_errs_a2,s_errs_a3⟩,⟨⟨s_w_c_cap,s_w_c_l⟩,s_w_ready,s_w_shown⟩,⟨s_p_next,s_p_snaps⟩⟩:Side)))):=by
 have w1:=Jbo s_w_c_l hw.1.1 hw.1.2
 have w2:=Jbo s_w_shown hw.2.1 hw.2.2
 have w3:=Jg5 s_p_next s_p_snaps hl hs
 have e:Jbn (⟨s_epoch,s_turn,s_up,⟨⟨s_in_last_a0,s_in_last_a1,s_in_last_a2,s_in_last_a3⟩,s_in_max⟩,⟨s_errs_a0,s_errs_a1,s_errs_a2,s_errs_a3⟩,⟨⟨s_w_c_cap,s_w_c_l⟩,s_w_ready,s_w_shown⟩,⟨s_p_next,s_p_snaps⟩⟩:Side)=(YA s_w_c_l && YA s_w_shown && JaA ⟨s_p_next,s_p_snaps⟩):=rfl
 rw[e]
 clear hw hl hs e
 generalize YA s_w_c_l=a at *
 generalize YA s_w_shown=b at *
 generalize JaA ⟨s_p_next,s_p_snaps⟩=c at *
 refine QD (T:=T) Tryz.call8 Tryz.func8 rfl Tryz.ntmps8 (congrArg Array.toList Tryz.results8) (by decide) fun ts hn h0=>?_
 (repeat' (first
 | (with_reducible first|refine callX.by (w1) ?_|refine callX.by (w2) ?_|refine callX.by (w3) ?_|refine callX.by (Jbo _ ?_ ?_) ?_|refine callX.by (Jg5 _ _ ?_ ?_) ?_|assumption|(refine Qw hK _ ?_;clear hK K)|refine Qw ‹_› _ ?_|refine Qx ‹_› ?_|refine Qi fun K hK=>?_|refine Qj T fun K hK=>?_|refine Ql fun A B hA hB=>?_|refine Qn ?_|refine Qr ?_)
 | ((with_reducible first|apply Qy|apply Qz|apply QA)<;>intro hb<;>try simp only[nr] at hb)
 |simp only[go_sem,↓reduceIte,reduceIte,Qa,Qh,Qb,Qc,Qd,Qe,Qf,Qg,reduceCtorEq, *,-w1,-w2,-w3]
 |with_reducible refine fun(bn:Bool) hbn=>?_))
 all_goals simp_all
set_option maxHeartbeats 4000000 in
theorem JaY(s_epoch:Int)(s_turn:Int)(s_up:Bool)(s_in_last_a0:Int)(s_in_last_a1:Int)(s_in_last_a2:Int)(s_in_last_a3:Int)(s_in_max:Int)(s_errs_a0:Int)(s_errs_a1:Int)(s_errs_a2:Int)(s_errs_a3:Int)(s_w_c_cap:Int)(s_w_c_l:List Res)(s_w_ready:Bool)(s_w_shown:List Res)(s_p_next:Int)(s_p_snaps:List Snap)(hw:Jas ⟨⟨s_w_c_cap,s_w_c_l⟩,s_w_ready,s_w_shown⟩)(hl:Jc s_p_snaps.length)(hs:∀x∈s_p_snaps,Yw x):CallR Tryz.prog 15 [.agg [.int .i64 s_epoch,.int .i64 s_turn,.bool s_up,.int .i64 s_in_last_a0,.int .i64 s_in_last_a1,.int .i64 s_in_last_a2,.int .i64 s_in_last_a3,.int .i64 s_in_max,.int .i64 s_errs_a0,.int .i64 s_errs_a1,.int .i64 s_errs_a2,.int .i64 s_errs_a3,.int .i64 s_w_c_cap,.slice false (Ja s_w_c_l),.bool s_w_ready,.slice false (Ja s_w_shown),.int .i64 s_p_next,.slice false (Ja s_p_snaps)],.agg [.int .i64 s_epoch,.int .i64 s_turn,.bool s_up,.int .i64 s_in_last_a0,.int .i64 s_in_last_a1,.int .i64 s_in_last_a2,.int .i64 s_in_last_a3,.int .i64 s_in_max,.int .i64 s_errs_a0,.int .i64 s_errs_a1,.int .i64 s_errs_a2,.int .i64 s_errs_a3,.int .i64 s_w_c_cap,.slice false (Ja s_w_c_l),.bool s_w_ready,.slice false (Ja s_w_shown),.int .i64 s_p_next,.slice false (Ja s_p_snaps)]] (.val (.bool true)):=by
 have w1:=Ji4 s_w_c_cap s_w_c_l s_w_ready s_w_shown s_w_c_cap s_w_c_l s_w_ready s_w_shown hw.1.1 hw.1.2 hw.2.1 hw.2.2
 rw[show Jef (⟨⟨s_w_c_cap,s_w_c_l⟩,s_w_ready,s_w_shown⟩:Warm) ⟨⟨s_w_c_cap,s_w_c_l⟩,s_w_ready,s_w_shown⟩=true by simp[Jef,JbX]] at w1
 have w2:=JiR s_p_next s_p_next s_p_snaps s_p_snaps hl hs
 rw[decide_eq_true (show s_p_next=s_p_next∧s_p_snaps=s_p_snaps from⟨rfl,rfl⟩)] at w2
 clear hw hl hs
 refine CallR.go2 (T:=T) Tryz.call15 Tryz.func15 rfl Tryz.ntmps15 (congrArg Array.toList Tryz.results15) (by decide) fun ts hn h0 h1=>?_
 (repeat' (first
 | (with_reducible first|refine callX.by (w1) ?_|refine callX.by (w2) ?_|refine callX.by (Ji4 _ _ _ _ _ _ _ _ ?_ ?_ ?_ ?_) ?_|refine callX.by (JiR _ _ _ _ ?_ ?_) ?_|assumption|(refine Qw hK _ ?_;clear hK K)|refine Qw ‹_› _ ?_|refine Qx ‹_› ?_|refine Qi fun K hK=>?_|refine Qj T fun K hK=>?_|refine Ql fun A B hA hB=>?_|refine Qn ?_|refine Qr ?_)
 | ((with_reducible first|apply Qy|apply Qz|apply QA)<;>intro hb<;>try simp only[nr] at hb)
 |simp only[go_sem,↓reduceIte,reduceIte,Qa,Qh,Qb,Qc,Qd,Qe,Qf,Qg,reduceCtorEq, *,-w1,-w2,Bool.and_self,decide_true]
 |with_reducible refine fun(bn:Bool) hbn=>?_))
theorem JqY{l:List Snap}{q:Snap→Bool}(h:l.Pairwise (fun x y=>x.id<y.id)):(l.filter q).Pairwise (fun x y=>x.id<y.id):=h.sublist List.filter_sublist
theorem Jmb(p:Pins)(l:List Res):OkP (Jea p l).1:=by
 have h:=Jh8 p
 unfold Jea
 simp only
 generalize Zz p=q at *
 split
 ·exact h
 ·rename_i h1
  split
  ·exact h
  ·rename_i h2
   have hw:IntKind.i64.wrap (q.next'+1)=q.next'+1:=IntWalk.i64_in _ (by have:=h.lo;have:=h.hi;omega)
   rw[hw]
   have h3:=h.hi;have h4:=h.lo
   refine⟨by simp only;omega,by simp only;omega,by simp only[List.length_append,List.length_cons,List.length_nil];omega,?_,?_,?_⟩
   ·rw[List.pairwise_append]
    refine⟨JqY h.up,by simp,fun x hx y hy=>?_⟩
    simp only[List.mem_singleton] at hy
    subst hy
    have:=h.mem x ((List.mem_filter.1 hx).1)
    simp only;omega
   ·intro x hx
    rcases List.mem_append.1 hx with hx|hx
    ·have:=h.mem x ((List.mem_filter.1 hx).1)
     simp only;omega
    ·simp only[List.mem_singleton] at hx
     subst hx
     simp only;omega
   ·intro x hx
    simp only[List.dropLast_concat] at hx
    simpa using(List.mem_filter.1 hx).2
def YL(e:Int):Prop:=0≤e∧e≤15∧e≠9
theorem Jnb(r:Res):YL (Vd r):=by unfold Vd YL;repeat' split;all_goals omega
theorem Jhb:∀l:List Res,YL (YP l)
 | []=>by simp[YP,YL]
 |r :: l=>by
  rw[YP]
  split
  ·exact Jhb l
  ·exact Jnb r
theorem JnW(l:List Res):YL (J2 l):=by
 have:=Jhb l
 unfold J2
 repeat' split
 all_goals first|exact this|simp[YL]
theorem JlU(c:Int)(l:List Res):YL (JU c l):=by
 have:=JnW l
 unfold JU Ys
 repeat' split
 all_goals first|exact this|simp[YL]
theorem JjX(c:Cache)(a:List Res)(g:List Key):YL (JZ c a g).2:=by
 have:=JlU (Vh c).cap (Ye (Vh c).l a g)
 unfold JZ
 simp only
 split
 ·simp[YL]
 ·exact this
theorem JnF(w:Warm)(a:List Res)(g:List Key):YL (JT w a g).2.2:=by
 have:=JjX (Yg w).c a g
 unfold JT
 simp only
 repeat' split
 all_goals first|exact this|simp[YL]
theorem Jiw(p:Pins)(l:List Res):OkP (Vv p l).1:=by rw[Jmq];exact Jmb p l
theorem Jmp{p:Pins}{l:List Res}(h:(Vv p l).2.2=0):(Vb (Vv p l).1).2=(l,true):=by
 have h0:=Jmr (Jiw p l)
 unfold Vb
 rw[h0]
 unfold Vv at h ⊢
 simp only at h ⊢
 by_cases h1:(Jw p).next'=2147483647
 ·rw[if_pos h1] at h;simp at h
 ·rw[if_neg h1] at h ⊢
  by_cases h2:1000≤((Jw p).snaps.filter fun x=>!decide (x.pins=0)).length
  ·rw[if_pos h2] at h;simp at h
  ·rw[if_neg h2]
   simp
theorem JeM{e:Four}(h:Zq e=true){k n:Int}(hn:0≤n∧n≤15):Zq (JaZ e k n)=true:=by
 have hn2:=fin_iff.2 hn
 unfold Zq at h ⊢
 simp only[Bool.and_eq_true] at h ⊢
 obtain⟨⟨⟨g0,g1⟩,g2⟩,g3⟩:=h
 unfold JaZ
 repeat' split
 all_goals simp only[hn2,g0,g1,g2,g3,and_self]
theorem JnD{s:Side}(h:Vi s=true)(f:Frame):Vi (Jy s f).1=true:=by
 obtain⟨h1,h2,h3,h4,h5,h6,h7,h8⟩:=saneS_iff.1 h
 have k1:=Jjq h5 f.adds f.gone
 have k2:=JnI h5 f.adds f.gone
 have k3:=JnH h5 f.adds f.gone
 have k4:=JnF s.w f.adds f.gone
 unfold Jy
 generalize JT s.w f.adds f.gone=r at *
 obtain⟨w,ch,why⟩:=r
 simp only at k1 k2 k3 k4 ⊢
 cases ch
 ·simp only[Bool.false_eq_true,↓reduceIte,h7]
  have hs:s.w.shown=w.shown:=by simpa using k2.symm
  rw[Bool.or_false] at k3
  refine saneS_iff.2 ⟨h1,h2,JeM h3 ⟨k4.1,k4.2.1⟩,h4,k1,h6,h7,?_⟩
  unfold Jat at h8 ⊢
  simp only[k3,←hs]
  exact h8
 ·simp only[↓reduceIte]
  by_cases he:(Vv s.p w.shown).2.2=0
  ·rw[if_pos he]
   by_cases hr:Ze (Vv s.p w.shown).1=true
   ·rw[if_pos hr]
    refine saneS_iff.2 ⟨h1,h2,JeM h3 ⟨k4.1,k4.2.1⟩,h4,k1,(Jmk _).2 (Jiw _ _),hr,?_⟩
    have hc:=Jmp he
    unfold Jat
    simp only[hc,k3,Bool.or_true]
    simp
   ·rw[if_neg hr]
    exact saneS_iff.2 ⟨h1,h2,JeM h3 (by omega),h4,h5,h6,h7,h8⟩
  ·rw[if_neg he];exact h
theorem JlW(i:In)(k n:Int):Yd (Vu i k n).1=true:=by
 have h:=Jh1 i
 have hr:=Jfb h
 unfold Vu
 by_cases hk4:0≤k∧k<4
 ·rw[if_neg (by simpa using hk4)]
  split
  ·exact h
  ·split
   ·exact h
   ·rename_i h2
    simp only[not_or,Decidable.not_not] at h2
    obtain⟨h2,h3⟩:=h2
    obtain⟨⟨r0,q0⟩,⟨r1,q1⟩,⟨r2,q2⟩,⟨r3,q3⟩,rm,qm⟩:=hr
    simp only[Yd,Bool.and_eq_true,decide_eq_true_eq]
    have hn:0≤n∧n≤(Vl i).max:=by
     unfold ZL at h2
     refine⟨?_,by omega⟩
     split at h2
     ·omega
     ·split at h2
      ·omega
      ·split at h2<;>omega
    have e1:∀x:Int,0≤x∧x≤(Vl i).max→VE (Vl i).max x=x:=fun x hx=>by unfold VE;omega
    have e2:(Vl i).max=JI (Vl i).max:=by unfold JI;omega
    refine⟨?_,e2⟩
    unfold JaZ
    repeat' split
    all_goals exact⟨e1 _ (by first|exact hn|exact⟨r0,q0⟩),e1 _ (by first|exact hn|exact⟨r1,q1⟩),e1 _ (by first|exact hn|exact⟨r2,q2⟩),e1 _ (by first|exact hn|exact⟨r3,q3⟩)⟩
 ·rw[if_pos (by simpa using hk4)];exact h
theorem JbY{s:Side}(h:Vi s=true):JG s=s:=by unfold JG;rw[if_pos h]
theorem Ji7{s:Side}(h:Vi s=true)(h1:s.turn≠2147483647):Vi { s with turn:=s.turn+1 }=true:=by
 obtain⟨g1,g2,g⟩:=saneS_iff.1 h
 exact saneS_iff.2 ⟨g1,⟨by simp only;omega,by simp only;omega⟩,g⟩
theorem Jnc{s:Side}(h:Vi s=true){i:In}(h1:Yd i=true):Vi { s with in':=i }=true:=by
 obtain⟨g1,g2,g3,g4,g⟩:=saneS_iff.1 h
 exact saneS_iff.2 ⟨g1,g2,g3,h1,g⟩
theorem Jhq(s:Side)(f:Frame):Vi (JX s f).1=true:=by
 have h:=JbZ s
 unfold JX
 generalize JG s=b at *
 simp only
 have k:=Jjo b f
 have k1:=JnD h f
 have k2:=JlW b.in' f.kind f.nonce
 generalize Jy b f=r at *
 generalize Vu b.in' f.kind f.nonce=t at *
 split
 ·split
  ·split
   ·exact h
   ·rename_i h2
    split
    ·exact Ji7 (s:={ r.1 with in':=t.1 }) (Jnc k1 k2) (by simp only;rw[k.1];exact h2)
    ·exact h
  ·split
   ·split
    ·exact h
    ·rename_i h2;exact Ji7 h h2
   ·exact h
 ·exact h
theorem JgK(s:Side)(n:Int):Vi (JW s n).1=true:=by
 have h:=JbZ s
 unfold JW
 generalize JG s=b at *
 simp only
 split
 ·exact h
 ·rename_i h1
  split
  ·exact h
  ·rename_i h2
   obtain⟨g1,g2,g3,g4,g⟩:=saneS_iff.1 h
   refine saneS_iff.2 ⟨⟨by simp only;omega,by simp only;omega⟩,⟨by simp only;omega,by simp only;omega⟩,(by decide:Zq z4=true),?_,g⟩
   have h4:=Jfb g4
   have e1:JI (JI b.in'.max)=JI b.in'.max:=by unfold JI;omega
   have e2:VE (JI b.in'.max) 0=0:=by unfold VE JI;omega
   simp only[Yd,Jes,JfS,JfT,JfU,e1,e2,decide_true,Bool.and_self]
structure Bd(p:Pins)(n:Nat):Prop where
 len:p.snaps.length≤n
 all:∀x∈p.snaps,x.l.length≤80∧Yw x
theorem Jht:∀(l:List Snap),(∀x∈l,x.l.length≤80)→(J6 l).length≤l.length*80
 | [],_=>by simp[J6]
 |x :: l,h=>by
  have:=Jht l fun y hy=>h y (by simp[hy])
  have h1:=h x (by simp)
  rw[Jhs,List.length_append,List.length_map,List.length_cons]
  omega
theorem Bd.sz{p:Pins}{n:Nat}(h:Bd p n)(hn:n≤1000000):SzP p:=by
 have h1:=Jht p.snaps fun x hx=>(h.all x hx).1
 have h2:=h.len
 exact⟨by unfold Jc;omega,fun x hx=>(h.all x hx).2,by unfold Jc;omega⟩
theorem Bd.sane{p:Pins}{n:Nat}(h:Bd p n):Bd (Jw p) n:=by
 rcases Jfm p with e|e<;>rw[e]
 ·exact h
 ·exact⟨by simp,by simp⟩
theorem Bd.publish{p:Pins}{n:Nat}(h:Bd p n){l:List Res}(h1:l.length≤80)(h2:∀r∈l,Ju r):Bd (Vv p l).1 (n+1):=by
 have h0:=h.sane
 unfold Vv
 simp only
 generalize Jw p=q at *
 have hf:=List.length_filter_le (fun x:Snap=>!decide (x.pins=0)) q.snaps
 have hl:=h0.len
 split
 ·exact⟨Nat.le_succ_of_le hl,h0.all⟩
 ·split
  ·exact⟨Nat.le_succ_of_le hl,h0.all⟩
  ·refine⟨by simp only[List.length_append,List.length_cons,List.length_nil];omega,fun x hx=>?_⟩
   rcases List.mem_append.1 hx with hx|hx
   ·exact h0.all x (List.mem_filter.1 hx).1
   ·rw[List.mem_singleton] at hx
    subst hx
    exact⟨h1,by unfold Jc;simp only;omega,h2⟩
structure BdS(s:Side)(n:Nat):Prop where
 c:s.w.c.l.length≤80
 w:s.w.shown.length≤80
 sc:∀r∈s.w.c.l,Ju r
 sw:∀r∈s.w.shown,Ju r
 p:Bd s.p n
theorem BdS.sz{s:Side}{n:Nat}(h:BdS s n)(hn:n≤1000000):SzS s:=by
 have h1:=h.c
 have h2:=h.w
 exact⟨by omega,⟨⟨by unfold Jc;omega,h.sc⟩,by unfold Jc;omega,h.sw⟩,h.p.sz hn⟩
theorem BdS.sane{s:Side}{n:Nat}(h:BdS s n):BdS (JG s) n:=by
 unfold JG
 split
 ·exact h
 ·exact⟨by simp[JD],by simp[JD],by simp[JD],by simp[JD],⟨by simp[JD],by simp[JD]⟩⟩
theorem Jjp{w:Warm}(h:Vr w=true){a:List Res}(g:List Key)(h1:∀r∈w.c.l,Ju r)(h2:∀r∈a,Ju r) :
  (JT w a g).1.c.l.length≤80∧(JT w a g).1.shown.length≤80∧(∀r∈(JT w a g).1.c.l,Ju r)∧∀r∈(JT w a g).1.shown,Ju r:=by
 have k:=Jjq h a g
 have k1:=Ji8 k
 have k2:=Jnd k
 have k3:∀r∈(JT w a g).1.c.l,Ju r:=fun r hr=>(JnG h hr).elim (h1 r) (h2 r)
 exact⟨by omega,by omega,k3,fun r hr=>k3 r (Jne k hr)⟩
theorem BdS.step{s:Side}{n:Nat}(h:BdS s n)(hs:Vi s=true){f:Frame}(hf:∀r∈f.adds,Ju r):BdS (Jy s f).1 (n+1):=by
 obtain⟨k1,k2,k3,k4⟩:=Jjp (saneS_iff.1 hs).2.2.2.2.1 f.gone h.sc hf
 have hp:=h.p.publish k2 k4
 have hn:Bd s.p (n+1):=⟨by have:=h.p.len;omega,h.p.all⟩
 unfold Jy
 generalize JT s.w f.adds f.gone=r at *
 obtain⟨w,ch,why⟩:=r
 simp only at k1 k2 k3 k4 hp ⊢
 cases ch<;>simp only[Bool.false_eq_true,↓reduceIte]
 ·split
  ·exact⟨k1,k2,k3,k4,hn⟩
  ·exact⟨h.c,h.w,h.sc,h.sw,hn⟩
 ·split
  ·split
   ·exact⟨k1,k2,k3,k4,hp⟩
   ·exact⟨h.c,h.w,h.sc,h.sw,hn⟩
  ·exact⟨h.c,h.w,h.sc,h.sw,hn⟩
theorem BdS.handle{s:Side}{n:Nat}(h:BdS s n){f:Frame}(hf:∀r∈f.adds,Ju r):BdS (JX s f).1 (n+1):=by
 have hb:=h.sane
 have hr:=hb.step (JbZ s) hf
 have hn:BdS (JG s) (n+1):=⟨hb.c,hb.w,hb.sc,hb.sw,by have:=hb.p.len;omega,hb.p.all⟩
 unfold JX
 generalize JG s=b at *
 simp only
 generalize Jy b f=r at *
 repeat' split
 all_goals first|exact hn|exact⟨hr.c,hr.w,hr.sc,hr.sw,hr.p⟩|exact⟨hn.c,hn.w,hn.sc,hn.sw,hn.p⟩
theorem JkR{s:Side}(h:Jbn s=true)(hw:Jas s.w)(hs:∀x∈s.p.snaps,Yw x):BdS s 20:=by
 unfold Jbn JaA YA at h
 simp only[Bool.and_eq_true,decide_eq_true_eq,List.all_eq_true] at h
 obtain⟨⟨⟨-,h1⟩,-,h2⟩,h3,h4⟩:=h
 exact⟨h1,h2,hw.1.2,hw.2.2,h4,fun x hx=>⟨(h3 x hx).2,hs x hx⟩⟩
def sA:Side:=⟨1,1,true,⟨z4,9⟩,z4,⟨⟨9,[]⟩,false,[]⟩,⟨0,[]⟩⟩
def sB:Side:=⟨1,2,true,⟨⟨0,0,0,1⟩,9⟩,z4,⟨⟨9,[eR]⟩,false,[]⟩,⟨0,[]⟩⟩
def sC:Side:=⟨1,3,true,⟨⟨0,0,0,1⟩,9⟩,z4,⟨⟨9,[eR]⟩,false,[]⟩,⟨0,[]⟩⟩
def fA:Frame:=⟨1,1,3,1,0,[eR],[],0,[],[]⟩
def aA(t:Int):Frame:=⟨2,1,3,1,t,[],[],0,[],[]⟩
theorem c01:(0:Int)<((1:Nat):Int):=by decide
theorem c02:(0:Int)<((2:Nat):Int):=by decide
theorem Jl1:JD 9 9=⟨0,0,false,⟨z4,9⟩,z4,⟨⟨9,[]⟩,false,[]⟩,⟨0,[]⟩⟩:=rfl
theorem JgG:JW (JD 9 9) 1=(sA,[⟨0,1,0,0,0,[],[],0,[],[]⟩,⟨3,1,0,0,1,[],[],0,[],[]⟩],0):=by
 unfold JW
 rw[JbY (Jh5 9 9),Jl1]
 simp[JdF,YD,sA]
 decide
theorem Ji2:Vi sA=true:=by
 have:=JgK (JD 9 9) 1
 rwa [JgG] at this
theorem JmW:Ze ⟨0,[]⟩=true:=(saneS_iff.1 Ji2).2.2.2.2.2.2.1
theorem JnJ:JT ⟨⟨9,[]⟩,false,[]⟩ [eR] []=(⟨⟨9,[eR]⟩,false,[]⟩,false,0):=by
 have h9:Vr ⟨⟨9,[]⟩,false,[]⟩=true:=Jh6 9
 rw[Jc2 h9]
 simp only[Jj0,JfK Jl4,JgV,if_true]
theorem Jhj:Yl fA=0:=by decide
theorem JnB:Jy sA fA=(⟨1,1,true,⟨z4,9⟩,z4,⟨⟨9,[eR]⟩,false,[]⟩,⟨0,[]⟩⟩,0):=by
 unfold Jy
 rw[show JT sA.w fA.adds fA.gone=_ from JnJ]
 simp only[Bool.false_eq_true,↓reduceIte]
 rw[if_pos (show Ze sA.p=true from JmW)]
 rfl
theorem JeW:JX sA fA=(sB,[aA 2],0):=by
 unfold JX
 rw[JbY Ji2]
 simp only
 rw[if_pos (refusesS_iff.2 ⟨rfl,Jhj,rfl,rfl⟩),show Vu sA.in' fA.kind fA.nonce=(⟨⟨0,0,0,1⟩,9⟩,0) by decide,JnB]
 simp only[↓reduceIte]
 rw[if_neg (by decide)]
 simp only[Jdi,JdF]
 rfl
theorem Ji3:Vi sB=true:=by
 have:=Jhq sA fA
 rwa [JeW] at this
theorem JeX:JX sB fA=(sC,[aA 3],9):=by
 unfold JX
 rw[JbY Ji3]
 simp only
 rw[if_pos (refusesS_iff.2 ⟨rfl,Jhj,rfl,rfl⟩),show Vu sB.in' fA.kind fA.nonce=(⟨⟨0,0,0,1⟩,9⟩,9) by decide]
 rw[if_neg (by decide),if_pos rfl,if_neg (by decide)]
 simp only[Jdi]
 rw[show Vg sB.p=[] from JdF]
 rfl
theorem Jm5:Vi sC=true:=by
 have:=Jhq sB fA
 rwa [JeX] at this
theorem bdA:BdS sA 0:=⟨by simp[sA],by simp[sA],by simp[sA],by simp[sA],⟨by simp[sA],by simp[sA]⟩⟩
theorem bdB:BdS sB 1:=by
 have:=bdA.handle (f:=fA) Jcj
 rwa [JeW] at this
theorem bdC:BdS sC 2:=by
 have:=bdB.handle (f:=fA) Jcj
 rwa [JeX] at this
theorem Jg2:Yv fA:=⟨by simp[Jc,fA],Jcj,by simp[Jc,fA],by simp[fA],by simp[Jc,fA],by simp[fA],by simp[Jc,fA],by simp[fA]⟩
theorem Jhr{s:Side}{n:Nat}(h:BdS s n)(hn:n<1000000){f:Frame}(hf:∀r∈f.adds,Ju r)(hl:f.adds.length≤80) :
  (JG s).w.c.l.length+f.adds.length≤65536∧SzP (Vv (JG s).p (JT (JG s).w f.adds f.gone).1.shown).1:=by
 have hb:=h.sane
 have h1:=hb.c
 obtain⟨k1,k2,k3,k4⟩:=Jjp (saneS_iff.1 (JbZ s)).2.2.2.2.1 f.gone hb.sc hf
 exact⟨by omega,(hb.p.publish k2 k4).sz (by omega)⟩
set_option maxHeartbeats 4000000 in
theorem Jau:CallR Tryz.prog 7 [] (.val (.bool true)):=by
 have w0:CallR Tryz.prog 21 [.int .i64 9,.int .i64 9] (.val (.agg [.int .i64 (0),.int .i64 (0),.bool (false),.int .i64 (0),.int .i64 (0),.int .i64 (0),.int .i64 (0),.int .i64 (9),.int .i64 (0),.int .i64 (0),.int .i64 (0),.int .i64 (0),.int .i64 (9),.slice false (Ja ([]:List Res)),.bool (false),.slice false (Ja ([]:List Res)),.int .i64 (0),.slice false (Ja ([]:List Snap))])):=JcD 9 9
 have w1:CallR Tryz.prog 17 [.agg [.int .i64 (0),.int .i64 (0),.bool (false),.int .i64 (0),.int .i64 (0),.int .i64 (0),.int .i64 (0),.int .i64 (9),.int .i64 (0),.int .i64 (0),.int .i64 (0),.int .i64 (0),.int .i64 (9),.slice false (Ja ([]:List Res)),.bool (false),.slice false (Ja ([]:List Res)),.int .i64 (0),.slice false (Ja ([]:List Snap))],.int .i64 1] (.val (.tup [.agg [.int .i64 (1),.int .i64 (1),.bool (true),.int .i64 (0),.int .i64 (0),.int .i64 (0),.int .i64 (0),.int .i64 (9),.int .i64 (0),.int .i64 (0),.int .i64 (0),.int .i64 (0),.int .i64 (9),.slice false (Ja ([]:List Res)),.bool (false),.slice false (Ja ([]:List Res)),.int .i64 (0),.slice false (Ja ([]:List Snap))],.slice false [.agg [.int .i64 0,.int .i64 1,.int .i64 0,.int .i64 0,.int .i64 0,.slice false [],.slice false [],.int .i64 0,.slice false [],.slice false []],.agg [.int .i64 3,.int .i64 1,.int .i64 0,.int .i64 0,.int .i64 1,.slice false [],.slice false [],.int .i64 0,.slice false [],.slice false []]],.int .i64 0])):=by
  have hb:BdS (JD 9 9) 0:=⟨by simp[JD],by simp[JD],by simp[JD],by simp[JD],⟨by simp[JD],by simp[JD]⟩⟩
  have h:=ZH (0) (0) (false) (0) (0) (0) (0) (9) (0) (0) (0) (0) (9) ([]:List Res) (false) ([]:List Res) (0) ([]:List Snap) 1 (hb.sz (by decide))
  rw[show(⟨0,0,false,⟨⟨0,0,0,0⟩,9⟩,⟨0,0,0,0⟩,⟨⟨9,[]⟩,false,[]⟩,⟨0,[]⟩⟩:Side)=JD 9 9 from rfl,JgG] at h
  exact h
 have w2:CallR Tryz.prog 12 [.agg [.int .i64 (1),.int .i64 (1),.bool (true),.int .i64 (0),.int .i64 (0),.int .i64 (0),.int .i64 (0),.int .i64 (9),.int .i64 (0),.int .i64 (0),.int .i64 (0),.int .i64 (0),.int .i64 (9),.slice false (Ja ([]:List Res)),.bool (false),.slice false (Ja ([]:List Res)),.int .i64 (0),.slice false (Ja ([]:List Snap))],.agg [.int .i64 1,.int .i64 1,.int .i64 3,.int .i64 1,.int .i64 0,.slice false [.agg [.int .i64 3,.str [101],.int .i64 0,.int .i64 0,.str [],.slice false [],.slice false []]],.slice false [],.int .i64 0,.slice false [],.slice false []]] (.val (.tup [.agg [.int .i64 (1),.int .i64 (2),.bool (true),.int .i64 (0),.int .i64 (0),.int .i64 (0),.int .i64 (1),.int .i64 (9),.int .i64 (0),.int .i64 (0),.int .i64 (0),.int .i64 (0),.int .i64 (9),.slice false (Ja ([eR])),.bool (false),.slice false (Ja ([]:List Res)),.int .i64 (0),.slice false (Ja ([]:List Snap))],.slice false [.agg [.int .i64 2,.int .i64 1,.int .i64 3,.int .i64 1,.int .i64 2,.slice false [],.slice false [],.int .i64 0,.slice false [],.slice false []]],.int .i64 0])):=by
  obtain⟨p1,p2⟩:=Jhr bdA (by decide) (f:=fA) Jcj (by decide)
  have h:=Jhp (1) (1) (true) (0) (0) (0) (0) (9) (0) (0) (0) (0) (9) ([]:List Res) (false) ([]:List Res) (0) ([]:List Snap) 1 1 3 1 0 [eR] [] 0 [] [] (bdA.sz (by decide)) Jg2 p1 p2
  rw[show(⟨1,1,true,⟨⟨0,0,0,0⟩,9⟩,⟨0,0,0,0⟩,⟨⟨9,[]⟩,false,[]⟩,⟨0,[]⟩⟩:Side)=sA from rfl,show(⟨1,1,3,1,0,[eR],[],0,[],[]⟩:Frame)=fA from rfl,JeW] at h
  exact h
 have w3:CallR Tryz.prog 12 [.agg [.int .i64 (1),.int .i64 (2),.bool (true),.int .i64 (0),.int .i64 (0),.int .i64 (0),.int .i64 (1),.int .i64 (9),.int .i64 (0),.int .i64 (0),.int .i64 (0),.int .i64 (0),.int .i64 (9),.slice false (Ja ([eR])),.bool (false),.slice false (Ja ([]:List Res)),.int .i64 (0),.slice false (Ja ([]:List Snap))],.agg [.int .i64 1,.int .i64 1,.int .i64 3,.int .i64 1,.int .i64 0,.slice false [.agg [.int .i64 3,.str [101],.int .i64 0,.int .i64 0,.str [],.slice false [],.slice false []]],.slice false [],.int .i64 0,.slice false [],.slice false []]] (.val (.tup [.agg [.int .i64 (1),.int .i64 (3),.bool (true),.int .i64 (0),.int .i64 (0),.int .i64 (0),.int .i64 (1),.int .i64 (9),.int .i64 (0),.int .i64 (0),.int .i64 (0),.int .i64 (0),.int .i64 (9),.slice false (Ja ([eR])),.bool (false),.slice false (Ja ([]:List Res)),.int .i64 (0),.slice false (Ja ([]:List Snap))],.slice false [.agg [.int .i64 2,.int .i64 1,.int .i64 3,.int .i64 1,.int .i64 3,.slice false [],.slice false [],.int .i64 0,.slice false [],.slice false []]],.int .i64 9])):=by
  obtain⟨p1,p2⟩:=Jhr bdB (by decide) (f:=fA) Jcj (by decide)
  have h:=Jhp (1) (2) (true) (0) (0) (0) (1) (9) (0) (0) (0) (0) (9) ([eR]) (false) ([]:List Res) (0) ([]:List Snap) 1 1 3 1 0 [eR] [] 0 [] [] (bdB.sz (by decide)) Jg2 p1 p2
  rw[show(⟨1,2,true,⟨⟨0,0,0,1⟩,9⟩,⟨0,0,0,0⟩,⟨⟨9,[eR]⟩,false,[]⟩,⟨0,[]⟩⟩:Side)=sB from rfl,show(⟨1,1,3,1,0,[eR],[],0,[],[]⟩:Frame)=fA from rfl,JeX] at h
  exact h
 have w4:CallR Tryz.prog 18 [.agg [.int .i64 (1),.int .i64 (2),.bool (true),.int .i64 (0),.int .i64 (0),.int .i64 (0),.int .i64 (1),.int .i64 (9),.int .i64 (0),.int .i64 (0),.int .i64 (0),.int .i64 (0),.int .i64 (9),.slice false (Ja ([eR])),.bool (false),.slice false (Ja ([]:List Res)),.int .i64 (0),.slice false (Ja ([]:List Snap))]] (.val (.tup [.slice false [],.bool false])):=by
  have h:=ZA (1) (2) (true) (0) (0) (0) (1) (9) (0) (0) (0) (0) (9) ([eR]) (false) ([]:List Res) (0) ([]:List Snap) (bdB.sz (by decide))
  rw[show(⟨1,2,true,⟨⟨0,0,0,1⟩,9⟩,⟨0,0,0,0⟩,⟨⟨9,[eR]⟩,false,[]⟩,⟨0,[]⟩⟩:Side)=sB from rfl,JbY Ji3,show Vb sB.p=(0,[],false) by unfold Vb;rw[show Jw sB.p=⟨0,[]⟩ from Jfl];rfl] at h
  exact h
 have w5:CallR Tryz.prog 10 [.agg [.int .i64 (1),.int .i64 (3),.bool (true),.int .i64 (0),.int .i64 (0),.int .i64 (0),.int .i64 (1),.int .i64 (9),.int .i64 (0),.int .i64 (0),.int .i64 (0),.int .i64 (0),.int .i64 (9),.slice false (Ja ([eR])),.bool (false),.slice false (Ja ([]:List Res)),.int .i64 (0),.slice false (Ja ([]:List Snap))]] (.val (.bool true)):=by
  have h:=YV (1) (3) (true) (0) (0) (0) (1) (9) (0) (0) (0) (0) (9) ([eR]) (false) ([]:List Res) (0) ([]:List Snap) (bdC.sz (by decide))
  rw[show(⟨1,3,true,⟨⟨0,0,0,1⟩,9⟩,⟨0,0,0,0⟩,⟨⟨9,[eR]⟩,false,[]⟩,⟨0,[]⟩⟩:Side)=sC from rfl,Jm5] at h
  exact h
 refine CallR.go0 (T:=T.withF [20]) Tryz.call7 Tryz.func7 rfl Tryz.ntmps7 (congrArg Array.toList Tryz.results7) fun ts hn=>?_
 (repeat' (first
 | (with_reducible first|refine callX.by (w0) ?_|refine callX.by (w1) ?_|refine callX.by (w2) ?_|refine callX.by (w3) ?_|refine callX.by (w4) ?_|refine callX.by (w5) ?_|refine callX.by (JcD _ _) ?_|refine callX.by (ZH _ _ _ _ _ _ _ _ _ _ _ _ _ _ _ _ _ _ _ ?_) ?_|refine callX.by (ZA _ _ _ _ _ _ _ _ _ _ _ _ _ _ _ _ _ _ ?_) ?_|refine callX.by (YV _ _ _ _ _ _ _ _ _ _ _ _ _ _ _ _ _ _ ?_) ?_|assumption|(refine Qw hK _ ?_;clear hK K)|refine Qw ‹_› _ ?_|refine Qx ‹_› ?_|refine Qi fun K hK=>?_|refine Qj (T.withF [20]) fun K hK=>?_|refine Ql fun A B hA hB=>?_|refine Qn ?_|refine Qr ?_)
 | ((with_reducible first|apply Qy|apply Qz|apply QA)<;>intro hb<;>try simp only[nr] at hb)
 |simp only[go_sem,↓reduceIte,reduceIte,Qa,Qh,Qb,Qc,Qd,Qe,Qf,Qg,reduceCtorEq, *,-w0,-w1,-w2,-w3,-w4,-w5,Int.le_refl,List.length_nil,List.length_cons,decide_true,Int.toNat_zero,List.drop_zero,List.getD_cons_zero,c01,ZX]
 |with_reducible refine fun(bn:Bool) hbn=>?_))
 all_goals trace_state
end Go.Proofs.YtihahfhagobnoaaGreatDoor.Lg
