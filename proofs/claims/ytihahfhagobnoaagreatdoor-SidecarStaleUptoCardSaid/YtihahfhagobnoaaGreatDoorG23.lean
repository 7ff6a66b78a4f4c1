/- Parts of the proof, one behind the other. -/
import Derived.Test.YtihahfhagobnoaaGreatDoorG22
namespace Go.Proofs.YtihahfhagobnoaaGreatDoor.Lg
set_option maxRecDepth 100000
set_option linter.unusedVariables false
set_option linter.unusedSimpArgs false
open Go
open Nat renaming reduceEqDiff → Qa, reduceLT → Qb, reduceLeDiff → Qc, reduceAdd → Qd, reduceMul → Qe, reduceSub → Qf, reduceBEq → Qg
open String renaming reduceEq → Qh
open SpecC renaming seqW → Qi, regW → Qj, drawW → Qk, condW → Ql, block → Qm, skip → Qn, exit → Qp, ret → Qr, loopF → Qs
open NxK renaming out → Qw
open Nx renaming out → Qx
open condK renaming split → Qy
open gK renaming split_t → Qz, split_f → QA
open CallR renaming go1 → QD
@[go_sem] def Jgk:List (List Nat×List Nat):=[([3],[5,6,7,8,9,10,11,12,13,14,15,16,17,18,19,20,21,22,23]),([4],[5,6,7,8,9,10,11,12,13,14,15,16,17,18,19,20,21,22,23]),([5],[3,4,7,8,9,10,11,12,13,14,15,16,17,18,19,20,21,22,23]),([6],[3,4,7,8,9,10,11,12,13,14,15,16,17,18,19,20,21,22,23]),([7],[3,4,5,6,9,10,11,12,13,14,15,16,17,18,19,20,21,22,23]),([8],[3,4,5,6,9,10,11,12,13,14,15,16,17,18,19,20,21,22,23]),([9],[3,4,5,6,7,8,12,13,14,15,16,17,18,19,20,21,22,23]),([10],[3,4,5,6,7,8,12,13,14,16,17,18,19,20,21,22,23]),([11],[3,4,5,6,7,8,12,13,14,16,17,18,19,20,21,22,23]),([12],[3,4,5,6,7,8,9,10,11,15,16,17,18,19,20,21,22,23]),([13],[3,4,5,6,7,8,9,10,11,16,17,18,19,20,21,22,23]),([14],[3,4,5,6,7,8,9,10,11,16,17,18,19,20,21,22,23]),([15],[3,4,5,6,7,8,9,12,16,17,18,19,20,21,22,23]),([16],[3,4,5,6,7,8,9,10,11,12,13,14,15,18,19,20,21,22,23]),([17],[3,4,5,6,7,8,9,10,11,12,13,14,15,18,19,20,21,22,23]),([18],[3,4,5,6,7,8,9,10,11,12,13,14,15,16,17,21,22,23]),([19],[3,4,5,6,7,8,9,10,11,12,13,14,15,16,17,21,22]),([20],[3,4,5,6,7,8,9,10,11,12,13,14,15,16,17,21,22]),([21],[3,4,5,6,7,8,9,10,11,12,13,14,15,16,17,18,19,20]),([22],[3,4,5,6,7,8,9,10,11,12,13,14,15,16,17,18,19,20]),([23],[3,4,5,6,7,8,9,10,11,12,13,14,15,16,17,18])]
@[go_sem] def JeO:List (List Nat×List Nat):=[([31],[33,34,35,36,37,38,39,40,41,42,43,44,45,46]),([32],[33,34,35,36,37,38,39,40,41,42,43,44,45,46]),([33],[31,32,35,37,38,39,40,41,42,43,44,45,46,47]),([34],[31,32,35,38,39,40,41,42,43,44,45,46,47]),([35],[31,32,33,34,38,39,40,41,42,43,44,45,46,47]),([36],[31,32,39,40,41,42,43,44,45,46,47]),([37],[31,32,33,39,40,41,42,43,44,46,47]),([38],[31,32,33,34,35,39,40,41,42,43,44,47]),([39],[31,32,33,34,35,36,37,38,41,43,44,45,46,47]),([40],[31,32,33,34,35,36,37,38,41,44,45,46,47]),([41],[31,32,33,34,35,36,37,38,39,40,44,45,46,47]),([42],[31,32,33,34,35,36,37,38,45,46,47]),([43],[31,32,33,34,35,36,37,38,39,46,47]),([44],[31,32,33,34,35,36,37,38,39,40,41,47]),([45],[31,32,33,34,35,36,39,40,41,42]),([46],[31,32,33,34,35,36,37,39,40,41,42,43]),([47],[33,34,35,36,37,38,39,40,41,42,43,44])]
theorem JjL(w_c_cap:Int)(w_c_l:List Res)(w_ready:Bool)(w_shown:List Res):CallR Tryz.prog 37 [.agg [.int .i64 w_c_cap,.slice false (Ja w_c_l),.bool w_ready,.slice false (Ja w_shown)]] (.val (.agg [.int .i64 w_c_cap,.slice false (Ja w_c_l),.bool w_ready,.slice false (Ja w_shown)])):=by
 refine QD (T:=T) Tryz.call37 Tryz.func37 rfl Tryz.ntmps37 (congrArg Array.toList Tryz.results37) (by decide) fun ts hn h0=>?_
 (repeat' (first
 | (with_reducible first|assumption|(refine Qw hK _ ?_;clear hK K)|refine Qw ‹_› _ ?_|refine Qx ‹_› ?_|refine Qi fun K hK=>?_|refine Qj T fun K hK=>?_|refine Ql fun A B hA hB=>?_|refine Qn ?_|refine Qr ?_)
 | ((with_reducible first|apply Qy|apply Qz|apply QA)<;>intro hb<;>try simp only[nr] at hb)
 |simp only[go_sem,↓reduceIte,reduceIte,Qa,Qh,Qb,Qc,Qd,Qe,Qf,Qg,reduceCtorEq, *]
 |with_reducible refine fun(bn:Bool) hbn=>?_))
theorem Jjv(w_c_cap:Int)(w_c_l:List Res)(w_ready:Bool)(w_shown:List Res):CallR Tryz.prog 45 [.agg [.int .i64 w_c_cap,.slice false (Ja w_c_l),.bool w_ready,.slice false (Ja w_shown)]] (.val (.agg [.int .i64 w_c_cap,.slice false (Ja w_c_l),.bool w_ready,.slice false (Ja w_shown)])):=by
 refine QD (T:=T) Tryz.call45 Tryz.func45 rfl Tryz.ntmps45 (congrArg Array.toList Tryz.results45) (by decide) fun ts hn h0=>?_
 (repeat' (first
 | (with_reducible first|assumption|(refine Qw hK _ ?_;clear hK K)|refine Qw ‹_› _ ?_|refine Qx ‹_› ?_|refine Qi fun K hK=>?_|refine Qj T fun K hK=>?_|refine Ql fun A B hA hB=>?_|refine Qn ?_|refine Qr ?_)
 | ((with_reducible first|apply Qy|apply Qz|apply QA)<;>intro hb<;>try simp only[nr] at hb)
 |simp only[go_sem,↓reduceIte,reduceIte,Qa,Qh,Qb,Qc,Qd,Qe,Qf,Qg,reduceCtorEq, *]
 |with_reducible refine fun(bn:Bool) hbn=>?_))
theorem JjF(next:Int)(xs:List Snap)(hl:Jc xs.length):CallR Tryz.prog 38 [.agg [.int .i64 next,.slice false (Ja xs)]] (.val (.agg [.int .i64 next,.slice false (Ja xs)])):=by
 refine QD (T:=T) Tryz.call38 Tryz.func38 rfl Tryz.ntmps38 (congrArg Array.toList Tryz.results38) (by decide) fun ts hn h0=>?_
 (repeat' (first
 | (with_reducible first|assumption|(refine Qw hK _ ?_;clear hK K)|refine Qw ‹_› _ ?_|refine Qx ‹_› ?_|refine Qi fun K hK=>?_|refine Qj T fun K hK=>?_|refine Ql fun A B hA hB=>?_|refine Qm ?_|refine Qn ?_|refine Qp ?_|refine Qr ?_)
 | ((with_reducible first|apply Qy|apply Qz|apply QA)<;>intro hb<;>try simp only[nr] at hb)
 |simp only[go_sem,↓reduceIte,reduceIte,Qa,Qh,Qb,Qc,Qd,Qe,Qf,Qg,reduceCtorEq, *]
 |with_reducible refine fun(bn:Bool) hbn=>?_))
 refine SpecC.ent (Ent.virtB 31 3 1 3 (cs:=[.int .i64 next,.slice true []]) (by simp only[go_sem,↓reduceIte,reduceIte,Qa,Qh,Qb,Qc,Qd,Qe,Qf,Qg,reduceCtorEq, *,Ob.box?]) (by decide) rfl (by decide)) ?_
 refine Qs [1,2] (fun m ts'=>∃(i:Nat),∃(g:Nat),m=xs.length-i∧i≤xs.length∧ts'.tmp 3=.ref 3 (ts.gen 3+1) 0∧ts'.gen 3=ts.gen 3+1∧ts'.obj 3=.box [.int .i64 next,.os 31 g i]∧ts'.gen 31=g∧ts'.obj 31=.arr 3 (Ja (xs.take i))∧ts'.tmp 4=.int .i64 i) xs.length ?_ ?_
 ·refine⟨0,ts.gen 31+1,rfl,Nat.zero_le _,?_⟩
  simp only[go_sem,↓reduceIte,reduceIte,Qa,Qh,Qb,Qc,Qd,Qe,Qf,Qg,reduceCtorEq, *,YF,List.take_zero,List.set]
 ·rintro m A hM ts' hk ⟨i,g,hm,f1,s1,s2,s3,s4,s5,s6⟩
  simp only[go_sem,↓reduceIte,reduceIte,Qa,Qh,Qb,Qc,Qd,Qe,Qf,Qg,reduceCtorEq, *] at hk
  have hlen:(xs.take i).length=i:=by rw[List.length_take];omega
  have htk:(xs.take i).take i=xs.take i:=by rw[List.take_take,Nat.min_self]
  have hr1:Vn (i+1) 40:=Jao (by unfold Jc at hl;omega) (by decide)
  by_cases hlt:i<xs.length
  ·have e:=List.take_succ_eq_append_getElem hlt
   (repeat' (first
 | (with_reducible first|assumption|(refine Qw hK _ ?_;clear hK K)|refine Qw ‹_› _ ?_|refine Qx ‹_› ?_|refine Qi fun K hK=>?_|refine Qj T fun K hK=>?_|refine Ql fun A B hA hB=>?_|refine Qm ?_|refine Qn ?_|refine Qp ?_|refine Qr ?_)
 | ((with_reducible first|apply Qy|apply Qz|apply QA)<;>intro hb<;>try simp only[nr] at hb)
 |simp only[go_sem,↓reduceIte,reduceIte,Qa,Qh,Qb,Qc,Qd,Qe,Qf,Qg,reduceCtorEq, *,-e]
 |with_reducible refine fun(bn:Bool) hbn=>?_))
   all_goals ((repeat clear hK);(repeat clear hA);(repeat clear hB))
   (refine hM.on (xs.length-(i+1)) (by omega) (by simp only[go_sem,↓reduceIte,reduceIte,Qa,Qh,Qb,Qc,Qd,Qe,Qf,Qg,reduceCtorEq, *,Jf hlt hl,e]) ⟨i+1,ts'.gen 31+1,rfl,by omega,?_⟩;simp only[go_sem,↓reduceIte,reduceIte,Qa,Qh,Qb,Qc,Qd,Qe,Qf,Qg,reduceCtorEq, *,Jf hlt hl,e];done)
  ·have hi2:i=xs.length:=by omega
   (repeat' (first
 | (with_reducible first|assumption|(refine Qw hK _ ?_;clear hK K)|refine Qw ‹_› _ ?_|refine Qx ‹_› ?_|refine Qi fun K hK=>?_|refine Qj T fun K hK=>?_|refine Ql fun A B hA hB=>?_|refine Qm ?_|refine Qn ?_|refine Qp ?_|refine Qr ?_)
 | ((with_reducible first|apply Qy|apply Qz|apply QA)<;>intro hb<;>try simp only[nr] at hb)
 |simp only[go_sem,↓reduceIte,reduceIte,Qa,Qh,Qb,Qc,Qd,Qe,Qf,Qg,reduceCtorEq, *,Nat.lt_irrefl,List.take_length]
 |with_reducible refine fun(bn:Bool) hbn=>?_))
theorem JjB(next:Int)(xs:List Snap)(hl:Jc xs.length):CallR Tryz.prog 46 [.agg [.int .i64 next,.slice false (Ja xs)]] (.val (.agg [.int .i64 next,.slice false (Ja xs)])):=by
 refine QD (T:=T) Tryz.call46 Tryz.func46 rfl Tryz.ntmps46 (congrArg Array.toList Tryz.results46) (by decide) fun ts hn h0=>?_
 (repeat' (first
 | (with_reducible first|assumption|(refine Qw hK _ ?_;clear hK K)|refine Qw ‹_› _ ?_|refine Qx ‹_› ?_|refine Qi fun K hK=>?_|refine Qj T fun K hK=>?_|refine Ql fun A B hA hB=>?_|refine Qm ?_|refine Qn ?_|refine Qp ?_|refine Qr ?_)
 | ((with_reducible first|apply Qy|apply Qz|apply QA)<;>intro hb<;>try simp only[nr] at hb)
 |simp only[go_sem,↓reduceIte,reduceIte,Qa,Qh,Qb,Qc,Qd,Qe,Qf,Qg,reduceCtorEq, *]
 |with_reducible refine fun(bn:Bool) hbn=>?_))
 refine SpecC.ent (Ent.virtB 31 3 1 3 (cs:=[.int .i64 next,.slice true []]) (by simp only[go_sem,↓reduceIte,reduceIte,Qa,Qh,Qb,Qc,Qd,Qe,Qf,Qg,reduceCtorEq, *,Ob.box?]) (by decide) rfl (by decide)) ?_
 refine Qs [1,2] (fun m ts'=>∃(i:Nat),∃(g:Nat),m=xs.length-i∧i≤xs.length∧ts'.tmp 3=.ref 3 (ts.gen 3+1) 0∧ts'.gen 3=ts.gen 3+1∧ts'.obj 3=.box [.int .i64 next,.os 31 g i]∧ts'.gen 31=g∧ts'.obj 31=.arr 3 (Ja (xs.take i))∧ts'.tmp 4=.int .i64 i) xs.length ?_ ?_
 ·refine⟨0,ts.gen 31+1,rfl,Nat.zero_le _,?_⟩
  simp only[go_sem,↓reduceIte,reduceIte,Qa,Qh,Qb,Qc,Qd,Qe,Qf,Qg,reduceCtorEq, *,YF,List.take_zero,List.set]
 ·rintro m A hM ts' hk ⟨i,g,hm,f1,s1,s2,s3,s4,s5,s6⟩
  simp only[go_sem,↓reduceIte,reduceIte,Qa,Qh,Qb,Qc,Qd,Qe,Qf,Qg,reduceCtorEq, *] at hk
  have hlen:(xs.take i).length=i:=by rw[List.length_take];omega
  have htk:(xs.take i).take i=xs.take i:=by rw[List.take_take,Nat.min_self]
  have hr1:Vn (i+1) 40:=Jao (by unfold Jc at hl;omega) (by decide)
  by_cases hlt:i<xs.length
  ·have e:=List.take_succ_eq_append_getElem hlt
   (repeat' (first
 | (with_reducible first|assumption|(refine Qw hK _ ?_;clear hK K)|refine Qw ‹_› _ ?_|refine Qx ‹_› ?_|refine Qi fun K hK=>?_|refine Qj T fun K hK=>?_|refine Ql fun A B hA hB=>?_|refine Qm ?_|refine Qn ?_|refine Qp ?_|refine Qr ?_)
 | ((with_reducible first|apply Qy|apply Qz|apply QA)<;>intro hb<;>try simp only[nr] at hb)
 |simp only[go_sem,↓reduceIte,reduceIte,Qa,Qh,Qb,Qc,Qd,Qe,Qf,Qg,reduceCtorEq, *,-e]
 |with_reducible refine fun(bn:Bool) hbn=>?_))
   all_goals ((repeat clear hK);(repeat clear hA);(repeat clear hB))
   (refine hM.on (xs.length-(i+1)) (by omega) (by simp only[go_sem,↓reduceIte,reduceIte,Qa,Qh,Qb,Qc,Qd,Qe,Qf,Qg,reduceCtorEq, *,Jf hlt hl,e]) ⟨i+1,ts'.gen 31+1,rfl,by omega,?_⟩;simp only[go_sem,↓reduceIte,reduceIte,Qa,Qh,Qb,Qc,Qd,Qe,Qf,Qg,reduceCtorEq, *,Jf hlt hl,e];done)
  ·have hi2:i=xs.length:=by omega
   (repeat' (first
 | (with_reducible first|assumption|(refine Qw hK _ ?_;clear hK K)|refine Qw ‹_› _ ?_|refine Qx ‹_› ?_|refine Qi fun K hK=>?_|refine Qj T fun K hK=>?_|refine Ql fun A B hA hB=>?_|refine Qm ?_|refine Qn ?_|refine Qp ?_|refine Qr ?_)
 | ((with_reducible first|apply Qy|apply Qz|apply QA)<;>intro hb<;>try simp only[nr] at hb)
 |simp only[go_sem,↓reduceIte,reduceIte,Qa,Qh,Qb,Qc,Qd,Qe,Qf,Qg,reduceCtorEq, *,Nat.lt_irrefl,List.take_length]
 |with_reducible refine fun(bn:Bool) hbn=>?_))
set_option maxHeartbeats 4000000 in
theorem Zp(s_epoch:Int)(s_turn:Int)(s_up:Bool)(s_in_last_a0:Int)(s_in_last_a1:Int)(s_in_last_a2:Int)(s_in_last_a3:Int)(s_in_max:Int)(s_errs_a0:Int)(s_errs_a1:Int)(s_errs_a2:Int)(s_errs_a3:Int)(s_w_c_cap:Int)(s_w_c_l:List Res)(s_w_ready:Bool)(s_w_shown:List Res)(s_p_next:Int)(s_p_snaps:List Snap)(hl:Jc s_p_snaps.length):CallR Tryz.prog 11 [.agg [.int .i64 s_epoch,.int .i64 s_turn,.bool s_up,.int .i64 s_in_last_a0,.int .i64 s_in_last_a1,.int .i64 s_in_last_a2,.int .i64 s_in_last_a3,.int .i64 s_in_max,.int .i64 s_errs_a0,.int .i64 s_errs_a1,.int .i64 s_errs_a2,.int .i64 s_errs_a3,.int .i64 s_w_c_cap,.slice false (Ja s_w_c_l),.bool s_w_ready,.slice false (Ja s_w_shown),.int .i64 s_p_next,.slice false (Ja s_p_snaps)]] (.val (.agg [.int .i64 s_epoch,.int .i64 s_turn,.bool s_up,.int .i64 s_in_last_a0,.int .i64 s_in_last_a1,.int .i64 s_in_last_a2,.int .i64 s_in_last_a3,.int .i64 s_in_max,.int .i64 s_errs_a0,.int .i64 s_errs_a1,.int .i64 s_errs_a2,.int .i64 s_errs_a3,.int .i64 s_w_c_cap,.slice false (Ja s_w_c_l),.bool s_w_ready,.slice false (Ja s_w_shown),.int .i64 s_p_next,.slice false (Ja s_p_snaps)])):=by
 have w1:=JjL s_w_c_cap s_w_c_l s_w_ready s_w_shown
 have w2:=JjF s_p_next s_p_snaps hl
 clear hl
 refine QD (T:=T) Tryz.call11 Tryz.func11 rfl Tryz.ntmps11 (congrArg Array.toList Tryz.results11) (by decide) fun ts hn h0=>?_
 (repeat' (first
 | (with_reducible first|refine callX.by (w1) ?_|refine callX.by (w2) ?_|refine callX.by (JjL _ _ _ _) ?_|refine callX.by (JjF _ _ ?_) ?_|assumption|(refine Qw hK _ ?_;clear hK K)|refine Qw ‹_› _ ?_|refine Qx ‹_› ?_|refine Qi fun K hK=>?_|refine Qj T fun K hK=>?_|refine Qk (id:=1) T mixed Jgk (by kernel_rfl) fun K hK=>?_|refine Ql fun A B hA hB=>?_|refine Qn ?_|refine Qr ?_)
 | ((with_reducible first|apply Qy|apply Qz|apply QA)<;>intro hb<;>try simp only[nr] at hb)
 |simp only[go_sem,↓reduceIte,reduceIte,Qa,Qh,Qb,Qc,Qd,Qe,Qf,Qg,reduceCtorEq, *,-w1,-w2]
 |with_reducible refine fun(bn:Bool) hbn=>?_))
set_option maxHeartbeats 4000000 in
theorem YV(s_epoch:Int)(s_turn:Int)(s_up:Bool)(s_in_last_a0:Int)(s_in_last_a1:Int)(s_in_last_a2:Int)(s_in_last_a3:Int)(s_in_max:Int)(s_errs_a0:Int)(s_errs_a1:Int)(s_errs_a2:Int)(s_errs_a3:Int)(s_w_c_cap:Int)(s_w_c_l:List Res)(s_w_ready:Bool)(s_w_shown:List Res)(s_p_next:Int)(s_p_snaps:List Snap)(hl:Jc s_p_snaps.length):CallR Tryz.prog 14 [.agg [.int .i64 s_epoch,.int .i64 s_turn,.bool s_up,.int .i64 s_in_last_a0,.int .i64 s_in_last_a1,.int .i64 s_in_last_a2,.int .i64 s_in_last_a3,.int .i64 s_in_max,.int .i64 s_errs_a0,.int .i64 s_errs_a1,.int .i64 s_errs_a2,.int .i64 s_errs_a3,.int .i64 s_w_c_cap,.slice false (Ja s_w_c_l),.bool s_w_ready,.slice false (Ja s_w_shown),.int .i64 s_p_next,.slice false (Ja s_p_snaps)]] (.val (.agg [.int .i64 s_epoch,.int .i64 s_turn,.bool s_up,.int .i64 s_in_last_a0,.int .i64 s_in_last_a1,.int .i64 s_in_last_a2,.int .i64 s_in_last_a3,.int .i64 s_in_max,.int .i64 s_errs_a0,.int .i64 s_errs_a1,.int .i64 s_errs_a2,.int .i64 s_errs_a3,.int .i64 s_w_c_cap,.slice false (Ja s_w_c_l),.bool s_w_ready,.slice false (Ja s_w_shown),.int .i64 s_p_next,.slice false (Ja s_p_snaps)])):=by
 have w1:=Jjv s_w_c_cap s_w_c_l s_w_ready s_w_shown
 have w2:=JjB s_p_next s_p_snaps hl
 clear hl
 refine QD (T:=T) Tryz.call14 Tryz.func14 rfl Tryz.ntmps14 (congrArg Array.toList Tryz.results14) (by decide) fun ts hn h0=>?_
 (repeat' (first
 | (with_reducible first|refine callX.by (w1) ?_|refine callX.by (w2) ?_|refine callX.by (Jjv _ _ _ _) ?_|refine callX.by (JjB _ _ ?_) ?_|assumption|(refine Qw hK _ ?_;clear hK K)|refine Qw ‹_› _ ?_|refine Qx ‹_› ?_|refine Qi fun K hK=>?_|refine Qj T fun K hK=>?_|refine Qk (id:=1) T mixed Jgk (by kernel_rfl) fun K hK=>?_|refine Ql fun A B hA hB=>?_|refine Qn ?_|refine Qr ?_)
 | ((with_reducible first|apply Qy|apply Qz|apply QA)<;>intro hb<;>try simp only[nr] at hb)
 |simp only[go_sem,↓reduceIte,reduceIte,Qa,Qh,Qb,Qc,Qd,Qe,Qf,Qg,reduceCtorEq, *,-w1,-w2]
 |with_reducible refine fun(bn:Bool) hbn=>?_))
set_option maxHeartbeats 8000000 in
theorem Za(f_type:Int)(f_epoch:Int)(f_kind:Int)(f_nonce:Int)(f_turn:Int)(f_adds:List Res)(f_gone:List Key)(f_err:Int)(f_have:List Mark)(f_held:List Key)(hl:Jc f_have.length):CallR Tryz.prog 13 [.agg [.int .i64 f_type,.int .i64 f_epoch,.int .i64 f_kind,.int .i64 f_nonce,.int .i64 f_turn,.slice false (Ja f_adds),.slice false (Ja f_gone),.int .i64 f_err,.slice false (Ja f_have),.slice false (Ja f_held)]] (.val (.agg [.int .i64 f_type,.int .i64 f_epoch,.int .i64 f_kind,.int .i64 f_nonce,.int .i64 f_turn,.slice false (Ja f_adds),.slice false (Ja f_gone),.int .i64 f_err,.slice false (Ja f_have),.slice false (Ja f_held)])):=by
 refine QD (T:=T) Tryz.call13 Tryz.func13 rfl Tryz.ntmps13 (congrArg Array.toList Tryz.results13) (by decide) fun ts hn h0=>?_
 (repeat' (first
 | (with_reducible first|assumption|(refine Qw hK _ ?_;clear hK K)|refine Qw ‹_› _ ?_|refine Qx ‹_› ?_|refine Qi fun K hK=>?_|refine Qj T fun K hK=>?_|refine Qk (id:=5) T mixed JeO (by kernel_rfl) fun K hK=>?_|refine Ql fun A B hA hB=>?_|refine Qm ?_|refine Qn ?_|refine Qp ?_|refine Qr ?_)
 | ((with_reducible first|apply Qy|apply Qz|apply QA)<;>intro hb<;>try simp only[nr] at hb)
 |simp only[go_sem,↓reduceIte,reduceIte,Qa,Qh,Qb,Qc,Qd,Qe,Qf,Qg,reduceCtorEq, *]
 |with_reducible refine fun(bn:Bool) hbn=>?_))
 refine SpecC.ent (Ent.virtB 47 3 8 3 (cs:=[.int .i64 f_type,.int .i64 f_epoch,.int .i64 f_kind,.int .i64 f_nonce,.int .i64 f_turn,.slice false (Ja f_adds),.slice false (Ja f_gone),.int .i64 f_err,.slice true [],.slice false (Ja f_held)]) (by simp only[go_sem,↓reduceIte,reduceIte,Qa,Qh,Qb,Qc,Qd,Qe,Qf,Qg,reduceCtorEq, *,Ob.box?]) (by decide) rfl (by decide)) ?_
 refine Qs [1,2] (fun m ts'=>∃(i:Nat),∃(g:Nat),m=f_have.length-i∧i≤f_have.length∧ts'.tmp 3=.ref 3 (ts.gen 3+1) 0∧ts'.gen 3=ts.gen 3+1∧ts'.obj 3=.box [.int .i64 f_type,.int .i64 f_epoch,.int .i64 f_kind,.int .i64 f_nonce,.int .i64 f_turn,.slice false (Ja f_adds),.slice false (Ja f_gone),.int .i64 f_err,.os 47 g i,.slice false (Ja f_held)]∧ts'.gen 47=g∧ts'.obj 47=.arr 3 (Ja (f_have.take i))∧ts'.tmp 4=.int .i64 i) f_have.length ?_ ?_
 ·refine⟨0,ts.gen 47+1,rfl,Nat.zero_le _,?_⟩
  simp only[go_sem,↓reduceIte,reduceIte,Qa,Qh,Qb,Qc,Qd,Qe,Qf,Qg,reduceCtorEq, *,YF,List.take_zero,List.set]
 ·rintro m A hM ts' hk ⟨i,g,hm,f1,s1,s2,s3,s4,s5,s6⟩
  simp only[go_sem,↓reduceIte,reduceIte,Qa,Qh,Qb,Qc,Qd,Qe,Qf,Qg,reduceCtorEq, *] at hk
  have hlen:(f_have.take i).length=i:=by rw[List.length_take];omega
  have htk:(f_have.take i).take i=f_have.take i:=by rw[List.take_take,Nat.min_self]
  have hr1:Vn (i+1) 32:=Jao (by unfold Jc at hl;omega) (by decide)
  by_cases hlt:i<f_have.length
  ·have e:=List.take_succ_eq_append_getElem hlt
   (repeat' (first
 | (with_reducible first|assumption|(refine Qw hK _ ?_;clear hK K)|refine Qw ‹_› _ ?_|refine Qx ‹_› ?_|refine Qi fun K hK=>?_|refine Qj T fun K hK=>?_|refine Qk (id:=5) T mixed JeO (by kernel_rfl) fun K hK=>?_|refine Ql fun A B hA hB=>?_|refine Qm ?_|refine Qn ?_|refine Qp ?_|refine Qr ?_)
 | ((with_reducible first|apply Qy|apply Qz|apply QA)<;>intro hb<;>try simp only[nr] at hb)
 |simp only[go_sem,↓reduceIte,reduceIte,Qa,Qh,Qb,Qc,Qd,Qe,Qf,Qg,reduceCtorEq, *,-e]
 |with_reducible refine fun(bn:Bool) hbn=>?_))
   all_goals ((repeat clear hK);(repeat clear hA);(repeat clear hB))
   (refine hM.on (f_have.length-(i+1)) (by omega) (by simp only[go_sem,↓reduceIte,reduceIte,Qa,Qh,Qb,Qc,Qd,Qe,Qf,Qg,reduceCtorEq, *,Jf hlt hl,e,Jew]) ⟨i+1,ts'.gen 47+1,rfl,by omega,?_⟩;simp only[go_sem,↓reduceIte,reduceIte,Qa,Qh,Qb,Qc,Qd,Qe,Qf,Qg,reduceCtorEq, *,Jf hlt hl,e,Jew];done)
  ·have hi2:i=f_have.length:=by omega
   (repeat' (first
 | (with_reducible first|assumption|(refine Qw hK _ ?_;clear hK K)|refine Qw ‹_› _ ?_|refine Qx ‹_› ?_|refine Qi fun K hK=>?_|refine Qj T fun K hK=>?_|refine Qk (id:=5) T mixed JeO (by kernel_rfl) fun K hK=>?_|refine Ql fun A B hA hB=>?_|refine Qm ?_|refine Qn ?_|refine Qp ?_|refine Qr ?_)
 | ((with_reducible first|apply Qy|apply Qz|apply QA)<;>intro hb<;>try simp only[nr] at hb)
 |simp only[go_sem,↓reduceIte,reduceIte,Qa,Qh,Qb,Qc,Qd,Qe,Qf,Qg,reduceCtorEq, *,Nat.lt_irrefl,List.take_length]
 |with_reducible refine fun(bn:Bool) hbn=>?_))
def Jbn(f:Frame):Bool:=(f.have'.all fun m=>decide (m.k.name.length≤100)) && (VP f.adds && decide (f.gone.length≤80) && decide (f.have'.length≤80) && decide (f.held.length≤80))
set_option maxHeartbeats 4000000 in
theorem Y7(f_type:Int)(f_epoch:Int)(f_kind:Int)(f_nonce:Int)(f_turn:Int)(f_adds:List Res)(f_gone:List Key)(f_err:Int)(f_have:List Mark)(f_held:List Key)(h:VW (⟨f_type,f_epoch,f_kind,f_nonce,f_turn,f_adds,f_gone,f_err,f_have,f_held⟩:Frame)):CallR Tryz.prog 9 [.agg [.int .i64 f_type,.int .i64 f_epoch,.int .i64 f_kind,.int .i64 f_nonce,.int .i64 f_turn,.slice false (Ja f_adds),.slice false (Ja f_gone),.int .i64 f_err,.slice false (Ja f_have),.slice false (Ja f_held)]] (.val (.bool (Jbn (⟨f_type,f_epoch,f_kind,f_nonce,f_turn,f_adds,f_gone,f_err,f_have,f_held⟩:Frame)))):=by
 have w1:=Zz f_adds h.1 h.2.1
 have hl:=h.2.2.2.2.1
 have hn:=h.2.2.2.2.2.1
 simp only at hl hn
 have e:Jbn (⟨f_type,f_epoch,f_kind,f_nonce,f_turn,f_adds,f_gone,f_err,f_have,f_held⟩:Frame)=((f_have.all fun m=>decide (m.k.name.length≤100)) && (VP f_adds && decide (f_gone.length≤80) && decide (f_have.length≤80) && decide (f_held.length≤80))):=rfl
 rw[e]
 clear h e
 generalize VP f_adds=fa at *
 refine QD (T:=T) Tryz.call9 Tryz.func9 rfl Tryz.ntmps9 (congrArg Array.toList Tryz.results9) (by decide) fun ts hn h0=>?_
 (repeat' (first
 | (with_reducible first|refine callX.by (w1) ?_|refine callX.by (Zz _ ?_ ?_) ?_|assumption|(refine Qw hK _ ?_;clear hK K)|refine Qw ‹_› _ ?_|refine Qx ‹_› ?_|refine Qi fun K hK=>?_|refine Qj T fun K hK=>?_|refine Ql fun A B hA hB=>?_|refine Qm ?_|refine Qn ?_|refine Qp ?_|refine Qr ?_)
 | ((with_reducible first|apply Qy|apply Qz|apply QA)<;>intro hb<;>try simp only[nr] at hb)
 |simp only[go_sem,↓reduceIte,reduceIte,Qa,Qh,Qb,Qc,Qd,Qe,Qf,Qg,reduceCtorEq, *,-w1]
 |with_reducible refine fun(bn:Bool) hbn=>?_))
 refine Qs [1] (fun m ts'=>∃(i:Nat),m=f_have.length-i∧i≤f_have.length∧(f_have.all fun m=>decide (m.k.name.length≤100))=((f_have.drop i).all fun m=>decide (m.k.name.length≤100))∧ts'.tmp 3=.int .i64 i) f_have.length ?_ ?_
 ·refine⟨0,?_⟩
  simp only[go_sem,↓reduceIte,reduceIte,Qa,Qh,Qb,Qc,Qd,Qe,Qf,Qg,reduceCtorEq, *,-w1]
 ·rintro m A hM ts' hk ⟨i,hm,f1,f2,s1⟩
  simp only[go_sem,↓reduceIte,reduceIte,Qa,Qh,Qb,Qc,Qd,Qe,Qf,Qg,reduceCtorEq, *] at hk
  by_cases hlt:i<f_have.length
  ·rw[List.drop_eq_getElem_cons hlt,List.all_cons] at f2
   (repeat' (first
 | (with_reducible first|refine callX.by (w1) ?_|refine callX.by (Zz _ ?_ ?_) ?_|assumption|(refine Qw hK _ ?_;clear hK K)|refine Qw ‹_› _ ?_|refine Qx ‹_› ?_|refine Qi fun K hK=>?_|refine Qj T fun K hK=>?_|refine Ql fun A B hA hB=>?_|refine Qm ?_|refine Qn ?_|refine Qp ?_|refine Qr ?_)
 | ((with_reducible first|apply Qy|apply Qz|apply QA)<;>intro hb<;>try simp only[nr] at hb)
 |simp only[go_sem,↓reduceIte,reduceIte,Qa,Qh,Qb,Qc,Qd,Qe,Qf,Qg,reduceCtorEq, *,-f2,-w1]
 |with_reducible refine fun(bn:Bool) hbn=>?_))
   all_goals ((repeat clear hK);(repeat clear hA);(repeat clear hB))
   ·rw[f2,decide_eq_false (by omega)];simp
   ·rw[decide_eq_true (by omega),Bool.true_and] at f2
    (refine hM.on (f_have.length-(i+1)) (by omega) (by simp only[go_sem,↓reduceIte,reduceIte,Qa,Qh,Qb,Qc,Qd,Qe,Qf,Qg,reduceCtorEq, *,Jf hlt hl,-f2,-w1]) ⟨i+1,rfl,by omega,f2,?_⟩;simp only[go_sem,↓reduceIte,reduceIte,Qa,Qh,Qb,Qc,Qd,Qe,Qf,Qg,reduceCtorEq, *,Jf hlt hl,-f2,-w1];done)
  ·rw[List.drop_eq_nil_of_le (by omega),List.all_nil] at f2
   (repeat' (first
 | (with_reducible first|refine callX.by (w1) ?_|refine callX.by (Zz _ ?_ ?_) ?_|assumption|(refine Qw hK _ ?_;clear hK K)|refine Qw ‹_› _ ?_|refine Qx ‹_› ?_|refine Qi fun K hK=>?_|refine Qj T fun K hK=>?_|refine Ql fun A B hA hB=>?_|refine Qm ?_|refine Qn ?_|refine Qp ?_|refine Qr ?_)
 | ((with_reducible first|apply Qy|apply Qz|apply QA)<;>intro hb<;>try simp only[nr] at hb)
 |simp only[go_sem,↓reduceIte,reduceIte,Qa,Qh,Qb,Qc,Qd,Qe,Qf,Qg,reduceCtorEq, *,-f2,-w1]
 |with_reducible refine fun(bn:Bool) hbn=>?_))
   all_goals ((repeat clear hK);(repeat clear hA);(repeat clear hB))
   all_goals (rw[f2];simp_all)
def Jab(s:Side):Bool:=VP s.w.c.l && VP s.w.shown && JaG s.p
set_option maxHeartbeats 4000000 in
theorem Y8(s_epoch:Int)(s_turn:Int)(s_up:Bool)(s_in_last_a0:Int)(s_in_last_a1:Int)(s_in_last_a2:Int)(s_in_last_a3:Int)(s_in_max:Int)(s_errs_a0:Int)(s_errs_a1:Int)(s_errs_a2:Int)(s_errs_a3:Int)(s_w_c_cap:Int)(s_w_c_l:List Res)(s_w_ready:Bool)(s_w_shown:List Res)(s_p_next:Int)(s_p_snaps:List Snap)(hw:ZN ⟨⟨s_w_c_cap,s_w_c_l⟩,s_w_ready,s_w_shown⟩)(hl:Jc s_p_snaps.length)(hs:∀x∈s_p_snaps,Yq x):CallR Tryz.prog 8 [.agg [.int .i64 s_epoch,.int .i64 s_turn,.bool s_up,.int .i64 s_in_last_a0,.int .i64 s_in_last_a1,.int .i64 s_in_last_a2,.int .i64 s_in_last_a3,.int .i64 s_in_max,.int .i64 s_errs_a0,.int .i64 s_errs_a1,.int .i64 s_errs_a2,.int .i64 s_errs_a3,.int .i64 s_w_c_cap,.slice false (Ja s_w_c_l),.bool s_w_ready,.slice false (Ja s_w_shown),.int .i64 s_p_next,.slice false (Ja s_p_snaps)]] (.val (.bool (Jab (⟨s_epoch,s_turn,s_up,⟨⟨s_in_last_a0,s_in_last_a1,s_in_last_a2,s_in_last_a3⟩,s_in_max⟩,⟨s_errs_a0,s_errs_a1,s_errs_a2,s_errs_a3⟩,⟨⟨s_w_c_cap,s_w_c_l⟩,s_w_ready,s_w_shown⟩,⟨s_p_next,s_p_snaps⟩⟩:Side)))):=by
 have w1:=Zz s_w_c_l hw.1.1 hw.1.2
 have w2:=Zz s_w_shown hw.2.1 hw.2.2
 have w3:=Jhl s_p_next s_p_snaps hl hs
 have e:Jab (⟨s_epoch,s_turn,s_up,⟨⟨s_in_last_a0,s_in_last_a1,s_in_last_a2,s_in_last_a3⟩,s_in_max⟩,⟨s_errs_a0,s_errs_a1,s_errs_a2,s_errs_a3⟩,⟨⟨s_w_c_cap,s_w_c_l⟩,s_w_ready,s_w_shown⟩,⟨s_p_next,s_p_snaps⟩⟩:Side)=(VP s_w_c_l && VP s_w_shown && JaG ⟨s_p_next,s_p_snaps⟩):=rfl
 rw[e]
 clear hw hl hs e
 generalize VP s_w_c_l=a at *
 generalize VP s_w_shown=b at *
 generalize JaG ⟨s_p_next,s_p_snaps⟩=c at *
 refine QD (T:=T) Tryz.call8 Tryz.func8 rfl Tryz.ntmps8 (congrArg Array.toList Tryz.results8) (by decide) fun ts hn h0=>?_
 (repeat' (first
 | (with_reducible first|refine callX.by (w1) ?_|refine callX.by (w2) ?_|refine callX.by (w3) ?_|refine callX.by (Zz _ ?_ ?_) ?_|refine callX.by (Jhl _ _ ?_ ?_) ?_|assumption|(refine Qw hK _ ?_;clear hK K)|refine Qw ‹_› _ ?_|refine Qx ‹_› ?_|refine Qi fun K hK=>?_|refine Qj T fun K hK=>?_|refine Ql fun A B hA hB=>?_|refine Qn ?_|refine Qr ?_)
 | ((with_reducible first|apply Qy|apply Qz|apply QA)<;>intro hb<;>try simp only[nr] at hb)
 |simp only[go_sem,↓reduceIte,reduceIte,Qa,Qh,Qb,Qc,Qd,Qe,Qf,Qg,reduceCtorEq, *,-w1,-w2,-w3]
 |with_reducible refine fun(bn:Bool) hbn=>?_))
 all_goals simp_all
set_option maxHeartbeats 4000000 in
theorem Zn(s_epoch:Int)(s_turn:Int)(s_up:Bool)(s_in_last_a0:Int)(s_in_last_a1:Int)(s_in_last_a2:Int)(s_in_last_a3:Int)(s_in_max:Int)(s_errs_a0:Int)(s_errs_a1:Int)(s_errs_a2:Int)(s_errs_a3:Int)(s_w_c_cap:Int)(s_w_c_l:List Res)(s_w_ready:Bool)(s_w_shown:List Res)(s_p_next:Int)(s_p_snaps:List Snap)(hw:ZN ⟨⟨s_w_c_cap,s_w_c_l⟩,s_w_ready,s_w_shown⟩)(hl:Jc s_p_snaps.length)(hs:∀x∈s_p_snaps,Yq x):CallR Tryz.prog 15 [.agg [.int .i64 s_epoch,.int .i64 s_turn,.bool s_up,.int .i64 s_in_last_a0,.int .i64 s_in_last_a1,.int .i64 s_in_last_a2,.int .i64 s_in_last_a3,.int .i64 s_in_max,.int .i64 s_errs_a0,.int .i64 s_errs_a1,.int .i64 s_errs_a2,.int .i64 s_errs_a3,.int .i64 s_w_c_cap,.slice false (Ja s_w_c_l),.bool s_w_ready,.slice false (Ja s_w_shown),.int .i64 s_p_next,.slice false (Ja s_p_snaps)],.agg [.int .i64 s_epoch,.int .i64 s_turn,.bool s_up,.int .i64 s_in_last_a0,.int .i64 s_in_last_a1,.int .i64 s_in_last_a2,.int .i64 s_in_last_a3,.int .i64 s_in_max,.int .i64 s_errs_a0,.int .i64 s_errs_a1,.int .i64 s_errs_a2,.int .i64 s_errs_a3,.int .i64 s_w_c_cap,.slice false (Ja s_w_c_l),.bool s_w_ready,.slice false (Ja s_w_shown),.int .i64 s_p_next,.slice false (Ja s_p_snaps)]] (.val (.bool true)):=by
 have w1:=Jjn s_w_c_cap s_w_c_l s_w_ready s_w_shown s_w_c_cap s_w_c_l s_w_ready s_w_shown hw.1.1 hw.1.2 hw.2.1 hw.2.2
 rw[show Jeq (⟨⟨s_w_c_cap,s_w_c_l⟩,s_w_ready,s_w_shown⟩:Warm) ⟨⟨s_w_c_cap,s_w_c_l⟩,s_w_ready,s_w_shown⟩=true by simp[Jeq,JbW]] at w1
 have w2:=Jja s_p_next s_p_next s_p_snaps s_p_snaps hl hs
 rw[decide_eq_true (show s_p_next=s_p_next∧s_p_snaps=s_p_snaps from⟨rfl,rfl⟩)] at w2
 clear hw hl hs
 refine CallR.go2 (T:=T) Tryz.call15 Tryz.func15 rfl Tryz.ntmps15 (congrArg Array.toList Tryz.results15) (by decide) fun ts hn h0 h1=>?_
 (repeat' (first
 | (with_reducible first|refine callX.by (w1) ?_|refine callX.by (w2) ?_|refine callX.by (Jjn _ _ _ _ _ _ _ _ ?_ ?_ ?_ ?_) ?_|refine callX.by (Jja _ _ _ _ ?_ ?_) ?_|assumption|(refine Qw hK _ ?_;clear hK K)|refine Qw ‹_› _ ?_|refine Qx ‹_› ?_|refine Qi fun K hK=>?_|refine Qj T fun K hK=>?_|refine Ql fun A B hA hB=>?_|refine Qn ?_|refine Qr ?_)
 | ((with_reducible first|apply Qy|apply Qz|apply QA)<;>intro hb<;>try simp only[nr] at hb)
 |simp only[go_sem,↓reduceIte,reduceIte,Qa,Qh,Qb,Qc,Qd,Qe,Qf,Qg,reduceCtorEq, *,-w1,-w2,Bool.and_self,decide_true]
 |with_reducible refine fun(bn:Bool) hbn=>?_))
theorem JrB{l:List Snap}{q:Snap→Bool}(h:l.Pairwise (fun x y=>x.id<y.id)):(l.filter q).Pairwise (fun x y=>x.id<y.id):=h.sublist List.filter_sublist
theorem JmC(p:Pins)(l:List Res):OkP (Jel p l).1:=by
 have h:=Jio p
 unfold Jel
 simp only
 generalize ZI p=q at *
 split
 ·exact h
 ·rename_i h1
  split
  ·exact h
  ·rename_i h2
   have hw:IntKind.i64.wrap (q.next'+1)=q.next'+1:=IntWalk.i64_in _ (by have:=h.lo;have:=h.hi;omega)
   rw[hw]
   have h3:=h.hi;have h4:=h.lo
   refine⟨by simp only;omega,by simp only;omega,by simp only[List.length_append,List.length_cons,List.length_nil];omega,?_,?_,?_⟩
   ·rw[List.pairwise_append]
    refine⟨JrB h.up,by simp,fun x hx y hy=>?_⟩
    simp only[List.mem_singleton] at hy
    subst hy
    have:=h.mem x ((List.mem_filter.1 hx).1)
    simp only;omega
   ·intro x hx
    rcases List.mem_append.1 hx with hx|hx
    ·have:=h.mem x ((List.mem_filter.1 hx).1)
     simp only;omega
    ·simp only[List.mem_singleton] at hx
     subst hx
     simp only;omega
   ·intro x hx
    simp only[List.dropLast_concat] at hx
    simpa using(List.mem_filter.1 hx).2
def Ve(e:Int):Prop:=0≤e∧e≤15∧e≠9
theorem Jjp(r:Res):Ve (Vi r):=by unfold Vi Ve;repeat' split;all_goals omega
theorem Jhr:∀l:List Res,Ve (YT l)
 | []=>by simp[YT,Ve]
 |r :: l=>by
  rw[YT]
  split
  ·exact Jhr l
  ·exact Jjp r
theorem Jgo:∀l:List Res,Ve (YD l)
 | []=>by simp[YD,Ve]
 |r :: l=>by
  rw[YD]
  split
  ·exact Jgo l
  ·exact Jjp r
theorem JrA(b:Bool){e:Int}(h:Ve e):Ve (YB b e):=by
 unfold YB;split
 ·simp[Ve]
 ·exact h
theorem Jhs:∀ {l:List Int},(∀e∈l,Ve e)→Ve (YU l)
 | [],_=>by simp[YU,Ve]
 |e :: l,h=>by
  rw[YU]
  split
  ·exact Jhs fun x hx=>h x (by simp[hx])
  ·exact h e (by simp)
theorem Jlu(f:Frame):Ve (V6 f):=by
 unfold V6
 refine Jhs fun e he=>?_
 simp only[List.mem_cons,List.not_mem_nil,or_false] at he
 rcases he with rfl|rfl|rfl|rfl|rfl|rfl
 all_goals first|exact Jgo _|exact JrA _ (by simp[Ve])
theorem Jow(l:List Res):Ve (J2 l):=by
 have:=Jhr l
 unfold J2
 repeat' split
 all_goals first|exact this|simp[Ve]
theorem Jmj(c:Int)(l:List Res):Ve (JV c l):=by
 have:=Jow l
 unfold JV Yz
 repeat' split
 all_goals first|exact this|simp[Ve]
theorem Jki(c:Cache)(a:List Res)(g:List Key):Ve (JY c a g).2:=by
 have:=Jmj (Vl c).cap (Yk (Vl c).l a g)
 unfold JY
 simp only
 split
 ·simp[Ve]
 ·exact this
theorem Jof(w:Warm)(a:List Res)(g:List Key):Ve (JQ w a g).2.2:=by
 have:=Jki (Yn w).c a g
 unfold JQ
 simp only
 repeat' split
 all_goals first|exact this|simp[Ve]
theorem JmS(p:Pins)(l:List Res):Ve (Vp p l).2.2:=by
 unfold Vp
 simp only
 repeat' split
 all_goals simp[Ve]
theorem JiM(p:Pins)(l:List Res):OkP (Vp p l).1:=by rw[JmR];exact JmC p l
theorem JmQ{p:Pins}{l:List Res}(h:(Vp p l).2.2=0):(Vk (Vp p l).1).2=(l,true):=by
 have h0:=JmT (JiM p l)
 unfold Vk
 rw[h0]
 unfold Vp at h ⊢
 simp only at h ⊢
 by_cases h1:(Jy p).next'=2147483647
 ·rw[if_pos h1] at h;simp at h
 ·rw[if_neg h1] at h ⊢
  by_cases h2:1000≤((Jy p).snaps.filter fun x=>!decide (x.pins=0)).length
  ·rw[if_pos h2] at h;simp at h
  ·rw[if_neg h2]
   simp
theorem JeZ{e:Four}(h:Zy e=true){k n:Int}(hn:0≤n∧n≤15):Zy (ZJ e k n)=true:=by
 have hn2:=fin_iff.2 hn
 unfold Zy at h ⊢
 simp only[Bool.and_eq_true] at h ⊢
 obtain⟨⟨⟨g0,g1⟩,g2⟩,g3⟩:=h
 unfold ZJ
 repeat' split
 all_goals simp only[hn2,g0,g1,g2,g3,and_self]
theorem Jod{s:Side}(h:J1 s=true)(f:Frame):J1 (Ju s f).1=true:=by
 obtain⟨h1,h2,h3,h4,h5,h6,h7,h8⟩:=saneS_iff.1 h
 have k1:=JjJ h5 f.adds f.gone
 have k2:=Joi h5 f.adds f.gone
 have k3:=Joh h5 f.adds f.gone
 have k4:=Jof s.w f.adds f.gone
 unfold Ju
 generalize JQ s.w f.adds f.gone=r at *
 obtain⟨w,ch,why⟩:=r
 simp only at k1 k2 k3 k4 ⊢
 cases ch
 ·simp only[Bool.false_eq_true,↓reduceIte,h7]
  have hs:s.w.shown=w.shown:=by simpa using k2.symm
  rw[Bool.or_false] at k3
  refine saneS_iff.2 ⟨h1,h2,JeZ h3 ⟨k4.1,k4.2.1⟩,h4,k1,h6,h7,?_⟩
  unfold JaB at h8 ⊢
  simp only[k3,←hs]
  exact h8
 ·simp only[↓reduceIte]
  by_cases he:(Vp s.p w.shown).2.2=0
  ·rw[if_pos he]
   by_cases hr:Zl (Vp s.p w.shown).1=true
   ·rw[if_pos hr]
    refine saneS_iff.2 ⟨h1,h2,JeZ h3 ⟨k4.1,k4.2.1⟩,h4,k1,(JmL _).2 (JiM _ _),hr,?_⟩
    have hc:=JmQ he
    unfold JaB
    simp only[hc,k3,Bool.or_true]
    simp
   ·rw[if_neg hr]
    exact saneS_iff.2 ⟨h1,h2,JeZ h3 (by omega),h4,h5,h6,h7,h8⟩
  ·rw[if_neg he];exact h
theorem Jmn(i:In)(k n:Int):VH (J5 i k n).1=true:=by
 have h:=Jih i
 have hr:=JcM h
 unfold J5
 by_cases hk4:0≤k∧k<4
 ·rw[if_neg (by simpa using hk4)]
  split
  ·exact h
  ·split
   ·exact h
   ·rename_i h2
    simp only[not_or,Decidable.not_not] at h2
    obtain⟨h2,h3⟩:=h2
    obtain⟨⟨r0,q0⟩,⟨r1,q1⟩,⟨r2,q2⟩,⟨r3,q3⟩,rm,qm⟩:=hr
    simp only[VH,Bool.and_eq_true,decide_eq_true_eq]
    have hn:0≤n∧n≤(Vg i).max:=by
     unfold J9 at h2
     refine⟨?_,by omega⟩
     split at h2
     ·omega
     ·split at h2
      ·omega
      ·split at h2<;>omega
    have e1:∀x:Int,0≤x∧x≤(Vg i).max→VF (Vg i).max x=x:=fun x hx=>by unfold VF;omega
    have e2:(Vg i).max=JN (Vg i).max:=by unfold JN;omega
    refine⟨?_,e2⟩
    unfold ZJ
    repeat' split
    all_goals exact⟨e1 _ (by first|exact hn|exact⟨r0,q0⟩),e1 _ (by first|exact hn|exact⟨r1,q1⟩),e1 _ (by first|exact hn|exact⟨r2,q2⟩),e1 _ (by first|exact hn|exact⟨r3,q3⟩)⟩
 ·rw[if_pos (by simpa using hk4)];exact h
theorem JbX{s:Side}(h:J1 s=true):JG s=s:=by unfold JG;rw[if_pos h]
theorem Jjr{s:Side}(h:J1 s=true)(h1:s.turn≠2147483647):J1 { s with turn:=s.turn+1 }=true:=by
 obtain⟨g1,g2,g⟩:=saneS_iff.1 h
 exact saneS_iff.2 ⟨g1,⟨by simp only;omega,by simp only;omega⟩,g⟩
theorem JnG{s:Side}(h:J1 s=true){i:In}(h1:VH i=true):J1 { s with in':=i }=true:=by
 obtain⟨g1,g2,g3,g4,g⟩:=saneS_iff.1 h
 exact saneS_iff.2 ⟨g1,g2,g3,h1,g⟩
theorem Jfb(s:Side)(f:Frame):J1 (JP s f).1=true:=by
 have h:=JbY s
 unfold JP
 generalize JG s=b at *
 simp only
 have k:=JfX b f
 have k1:=Jod h f
 have k2:=Jmn b.in' f.kind f.nonce
 generalize Ju b f=r at *
 generalize J5 b.in' f.kind f.nonce=t at *
 split
 ·split
  ·split
   ·exact h
   ·rename_i h2
    split
    ·exact Jjr (s:={ r.1 with in':=t.1 }) (JnG k1 k2) (by simp only;rw[k.1];exact h2)
    ·exact h
  ·split
   ·split
    ·exact h
    ·rename_i h2;exact Jjr h h2
   ·exact h
 ·exact h
theorem Jk1(s:Side)(n:Int):J1 (J8 s n).1=true:=by
 have h:=JbY s
 unfold J8
 generalize JG s=b at *
 simp only
 split
 ·exact h
 ·rename_i h1
  split
  ·exact h
  ·rename_i h2
   obtain⟨g1,g2,g3,g4,g⟩:=saneS_iff.1 h
   refine saneS_iff.2 ⟨⟨by simp only;omega,by simp only;omega⟩,⟨by simp only;omega,by simp only;omega⟩,(by decide:Zy z4=true),?_,g⟩
   have h4:=JcM g4
   have e1:JN (JN b.in'.max)=JN b.in'.max:=by unfold JN;omega
   have e2:VF (JN b.in'.max) 0=0:=by unfold VF JN;omega
   simp only[VH,Jf7,Jf8,Jf9,Jga,e1,e2,decide_true,Bool.and_self]
structure Bd(p:Pins)(n:Nat):Prop where
 len:p.snaps.length≤n
 all:∀x∈p.snaps,x.l.length≤80∧Yq x
theorem JhI:∀(l:List Snap),(∀x∈l,x.l.length≤80)→(Va l).length≤l.length*80
 | [],_=>by simp[Va]
 |x :: l,h=>by
  have:=JhI l fun y hy=>h y (by simp[hy])
  have h1:=h x (by simp)
  rw[JhH,List.length_append,List.length_map,List.length_cons]
  omega
theorem Bd.sz{p:Pins}{n:Nat}(h:Bd p n)(hn:n≤1000000):SzP p:=by
 have h1:=JhI p.snaps fun x hx=>(h.all x hx).1
 have h2:=h.len
 exact⟨by unfold Jc;omega,fun x hx=>(h.all x hx).2,by unfold Jc;omega⟩
theorem Bd.sane{p:Pins}{n:Nat}(h:Bd p n):Bd (Jy p) n:=by
 rcases Jfz p with e|e<;>rw[e]
 ·exact h
 ·exact⟨by simp,by simp⟩
theorem Bd.publish{p:Pins}{n:Nat}(h:Bd p n){l:List Res}(h1:l.length≤80)(h2:∀r∈l,Jv r):Bd (Vp p l).1 (n+1):=by
 have h0:=h.sane
 unfold Vp
 simp only
 generalize Jy p=q at *
 have hf:=List.length_filter_le (fun x:Snap=>!decide (x.pins=0)) q.snaps
 have hl:=h0.len
 split
 ·exact⟨Nat.le_succ_of_le hl,h0.all⟩
 ·split
  ·exact⟨Nat.le_succ_of_le hl,h0.all⟩
  ·refine⟨by simp only[List.length_append,List.length_cons,List.length_nil];omega,fun x hx=>?_⟩
   rcases List.mem_append.1 hx with hx|hx
   ·exact h0.all x (List.mem_filter.1 hx).1
   ·rw[List.mem_singleton] at hx
    subst hx
    exact⟨h1,by unfold Jc;simp only;omega,h2⟩
structure BdS(s:Side)(n:Nat):Prop where
 c:s.w.c.l.length≤80
 w:s.w.shown.length≤80
 sc:∀r∈s.w.c.l,Jv r
 sw:∀r∈s.w.shown,Jv r
 p:Bd s.p n
theorem BdS.sz{s:Side}{n:Nat}(h:BdS s n)(hn:n≤1000000):SzS s:=by
 have h1:=h.c
 have h2:=h.w
 exact⟨by omega,⟨⟨by unfold Jc;omega,h.sc⟩,by unfold Jc;omega,h.sw⟩,h.p.sz hn⟩
theorem BdS.sane{s:Side}{n:Nat}(h:BdS s n):BdS (JG s) n:=by
 unfold JG
 split
 ·exact h
 ·exact⟨by simp[JD],by simp[JD],by simp[JD],by simp[JD],⟨by simp[JD],by simp[JD]⟩⟩
theorem JjI{w:Warm}(h:Vv w=true){a:List Res}(g:List Key)(h1:∀r∈w.c.l,Jv r)(h2:∀r∈a,Jv r) :
  (JQ w a g).1.c.l.length≤80∧(JQ w a g).1.shown.length≤80∧(∀r∈(JQ w a g).1.c.l,Jv r)∧∀r∈(JQ w a g).1.shown,Jv r:=by
 have k:=JjJ h a g
 have k1:=Jjs k
 have k2:=JnH k
 have k3:∀r∈(JQ w a g).1.c.l,Jv r:=fun r hr=>(Jog h hr).elim (h1 r) (h2 r)
 exact⟨by omega,by omega,k3,fun r hr=>k3 r (JnI k hr)⟩
theorem BdS.step{s:Side}{n:Nat}(h:BdS s n)(hs:J1 s=true){f:Frame}(hf:∀r∈f.adds,Jv r):BdS (Ju s f).1 (n+1):=by
 obtain⟨k1,k2,k3,k4⟩:=JjI (saneS_iff.1 hs).2.2.2.2.1 f.gone h.sc hf
 have hp:=h.p.publish k2 k4
 have hn:Bd s.p (n+1):=⟨by have:=h.p.len;omega,h.p.all⟩
 unfold Ju
 generalize JQ s.w f.adds f.gone=r at *
 obtain⟨w,ch,why⟩:=r
 simp only at k1 k2 k3 k4 hp ⊢
 cases ch<;>simp only[Bool.false_eq_true,↓reduceIte]
 ·split
  ·exact⟨k1,k2,k3,k4,hn⟩
  ·exact⟨h.c,h.w,h.sc,h.sw,hn⟩
 ·split
  ·split
   ·exact⟨k1,k2,k3,k4,hp⟩
   ·exact⟨h.c,h.w,h.sc,h.sw,hn⟩
  ·exact⟨h.c,h.w,h.sc,h.sw,hn⟩
theorem BdS.handle{s:Side}{n:Nat}(h:BdS s n){f:Frame}(hf:∀r∈f.adds,Jv r):BdS (JP s f).1 (n+1):=by
 have hb:=h.sane
 have hr:=hb.step (JbY s) hf
 have hn:BdS (JG s) (n+1):=⟨hb.c,hb.w,hb.sc,hb.sw,by have:=hb.p.len;omega,hb.p.all⟩
 unfold JP
 generalize JG s=b at *
 simp only
 generalize Ju b f=r at *
 repeat' split
 all_goals first|exact hn|exact⟨hr.c,hr.w,hr.sc,hr.sw,hr.p⟩|exact⟨hn.c,hn.w,hn.sc,hn.sw,hn.p⟩
theorem JdF{s:Side}(h:Jab s=true)(hw:ZN s.w)(hs:∀x∈s.p.snaps,Yq x):BdS s 20:=by
 unfold Jab JaG VP at h
 simp only[Bool.and_eq_true,decide_eq_true_eq,List.all_eq_true] at h
 obtain⟨⟨⟨-,h1⟩,-,h2⟩,h3,h4⟩:=h
 exact⟨h1,h2,hw.1.2,hw.2.2,h4,fun x hx=>⟨(h3 x hx).2,hs x hx⟩⟩
def sA:Side:=⟨1,1,true,⟨z4,9⟩,z4,⟨⟨9,[]⟩,false,[]⟩,⟨0,[]⟩⟩
def sB:Side:=⟨1,2,true,⟨⟨0,0,0,1⟩,9⟩,z4,⟨⟨9,[eR]⟩,false,[]⟩,⟨0,[]⟩⟩
def sC:Side:=⟨1,3,true,⟨⟨0,0,0,1⟩,9⟩,z4,⟨⟨9,[eR]⟩,false,[]⟩,⟨0,[]⟩⟩
def fA:Frame:=⟨1,1,3,1,0,[eR],[],0,[],[]⟩
def aA(t:Int):Frame:=⟨2,1,3,1,t,[],[],0,[],[]⟩
theorem c01:(0:Int)<((1:Nat):Int):=by decide
theorem Jms:JD 9 9=⟨0,0,false,⟨z4,9⟩,z4,⟨⟨9,[]⟩,false,[]⟩,⟨0,[]⟩⟩:=rfl
theorem JgW:J8 (JD 9 9) 1=(sA,[⟨0,1,0,0,0,[],[],0,[],[]⟩,⟨3,1,0,0,1,[],[],0,[],[]⟩],0):=by
 unfold J8
 rw[JbX (Jil 9 9),Jms]
 simp[JdN,JdY,sA]
 decide
theorem Jjl:J1 sA=true:=by
 have:=Jk1 (JD 9 9) 1
 rwa [JgW] at this
theorem Jnr:Zl ⟨0,[]⟩=true:=(saneS_iff.1 Jjl).2.2.2.2.2.2.1
theorem Joj:JQ ⟨⟨9,[]⟩,false,[]⟩ [eR] []=(⟨⟨9,[eR]⟩,false,[]⟩,false,0):=by
 have h9:Vv ⟨⟨9,[]⟩,false,[]⟩=true:=Jim 9
 rw[Jc6 h9]
 simp only[Jkl,JfW Jmv,Jhb,if_true]
theorem JhA:V6 fA=0:=by decide
theorem Joa:Ju sA fA=(⟨1,1,true,⟨z4,9⟩,z4,⟨⟨9,[eR]⟩,false,[]⟩,⟨0,[]⟩⟩,0):=by
 unfold Ju
 rw[show JQ sA.w fA.adds fA.gone=_ from Joj]
 simp only[Bool.false_eq_true,↓reduceIte]
 rw[if_pos (show Zl sA.p=true from Jnr)]
 rfl
theorem Je9:JP sA fA=(sB,[aA 2],0):=by
 unfold JP
 rw[JbX Jjl]
 simp only
 rw[if_pos (refusesS_iff.2 ⟨rfl,JhA,rfl,rfl⟩),show J5 sA.in' fA.kind fA.nonce=(⟨⟨0,0,0,1⟩,9⟩,0) by decide,Joa]
 simp only[↓reduceIte]
 rw[if_neg (by decide)]
 simp only[JaA,JdN]
 rfl
theorem Jjm:J1 sB=true:=by
 have:=Jfb sA fA
 rwa [Je9] at this
theorem Jfa:JP sB fA=(sC,[aA 3],9):=by
 unfold JP
 rw[JbX Jjm]
 simp only
 rw[if_pos (refusesS_iff.2 ⟨rfl,JhA,rfl,rfl⟩),show J5 sB.in' fA.kind fA.nonce=(⟨⟨0,0,0,1⟩,9⟩,9) by decide]
 rw[if_neg (by decide),if_pos rfl,if_neg (by decide)]
 simp only[JaA]
 rw[show J6 sB.p=[] from JdN]
 rfl
theorem JnA:J1 sC=true:=by
 have:=Jfb sB fA
 rwa [Jfa] at this
theorem bdA:BdS sA 0:=⟨by simp[sA],by simp[sA],by simp[sA],by simp[sA],⟨by simp[sA],by simp[sA]⟩⟩
theorem bdB:BdS sB 1:=by
 have:=bdA.handle (f:=fA) Jck
 rwa [Je9] at this
theorem bdC:BdS sC 2:=by
 have:=bdB.handle (f:=fA) Jck
 rwa [Jfa] at this
theorem Jhi:VW fA:=⟨by simp[Jc,fA],Jck,by simp[Jc,fA],by simp[fA],by simp[Jc,fA],by simp[fA],by simp[Jc,fA],by simp[fA]⟩
theorem Jcp{s:Side}{n:Nat}(h:BdS s n)(hn:n<1000000){f:Frame}(hf:∀r∈f.adds,Jv r)(hl:f.adds.length≤80) :
  (JG s).w.c.l.length+f.adds.length≤65536∧SzP (Vp (JG s).p (JQ (JG s).w f.adds f.gone).1.shown).1:=by
 have hb:=h.sane
 have h1:=hb.c
 obtain⟨k1,k2,k3,k4⟩:=JjI (saneS_iff.1 (JbY s)).2.2.2.2.1 f.gone hb.sc hf
 exact⟨by omega,(hb.p.publish k2 k4).sz (by omega)⟩
set_option maxHeartbeats 4000000 in
theorem V2:CallR Tryz.prog 7 [] (.val (.bool true)):=by
 have w0:CallR Tryz.prog 21 [.int .i64 9,.int .i64 9] (.val (.agg [.int .i64 (0),.int .i64 (0),.bool (false),.int .i64 (0),.int .i64 (0),.int .i64 (0),.int .i64 (0),.int .i64 (9),.int .i64 (0),.int .i64 (0),.int .i64 (0),.int .i64 (0),.int .i64 (9),.slice false (Ja ([]:List Res)),.bool (false),.slice false (Ja ([]:List Res)),.int .i64 (0),.slice false (Ja ([]:List Snap))])):=JcG 9 9
 have w1:CallR Tryz.prog 17 [.agg [.int .i64 (0),.int .i64 (0),.bool (false),.int .i64 (0),.int .i64 (0),.int .i64 (0),.int .i64 (0),.int .i64 (9),.int .i64 (0),.int .i64 (0),.int .i64 (0),.int .i64 (0),.int .i64 (9),.slice false (Ja ([]:List Res)),.bool (false),.slice false (Ja ([]:List Res)),.int .i64 (0),.slice false (Ja ([]:List Snap))],.int .i64 1] (.val (.tup [.agg [.int .i64 (1),.int .i64 (1),.bool (true),.int .i64 (0),.int .i64 (0),.int .i64 (0),.int .i64 (0),.int .i64 (9),.int .i64 (0),.int .i64 (0),.int .i64 (0),.int .i64 (0),.int .i64 (9),.slice false (Ja ([]:List Res)),.bool (false),.slice false (Ja ([]:List Res)),.int .i64 (0),.slice false (Ja ([]:List Snap))],.slice false [.agg [.int .i64 0,.int .i64 1,.int .i64 0,.int .i64 0,.int .i64 0,.slice false [],.slice false [],.int .i64 0,.slice false [],.slice false []],.agg [.int .i64 3,.int .i64 1,.int .i64 0,.int .i64 0,.int .i64 1,.slice false [],.slice false [],.int .i64 0,.slice false [],.slice false []]],.int .i64 0])):=by
  have hb:BdS (JD 9 9) 0:=⟨by simp[JD],by simp[JD],by simp[JD],by simp[JD],⟨by simp[JD],by simp[JD]⟩⟩
  have h:=Jg0 (0) (0) (false) (0) (0) (0) (0) (9) (0) (0) (0) (0) (9) ([]:List Res) (false) ([]:List Res) (0) ([]:List Snap) 1 (hb.sz (by decide))
  rw[show(⟨0,0,false,⟨⟨0,0,0,0⟩,9⟩,⟨0,0,0,0⟩,⟨⟨9,[]⟩,false,[]⟩,⟨0,[]⟩⟩:Side)=JD 9 9 from rfl,JgW] at h
  exact h
 have w2:CallR Tryz.prog 12 [.agg [.int .i64 (1),.int .i64 (1),.bool (true),.int .i64 (0),.int .i64 (0),.int .i64 (0),.int .i64 (0),.int .i64 (9),.int .i64 (0),.int .i64 (0),.int .i64 (0),.int .i64 (0),.int .i64 (9),.slice false (Ja ([]:List Res)),.bool (false),.slice false (Ja ([]:List Res)),.int .i64 (0),.slice false (Ja ([]:List Snap))],.agg [.int .i64 1,.int .i64 1,.int .i64 3,.int .i64 1,.int .i64 0,.slice false [.agg [.int .i64 3,.str [101],.int .i64 0,.int .i64 0,.str [],.slice false [],.slice false []]],.slice false [],.int .i64 0,.slice false [],.slice false []]] (.val (.tup [.agg [.int .i64 (1),.int .i64 (2),.bool (true),.int .i64 (0),.int .i64 (0),.int .i64 (0),.int .i64 (1),.int .i64 (9),.int .i64 (0),.int .i64 (0),.int .i64 (0),.int .i64 (0),.int .i64 (9),.slice false (Ja ([eR])),.bool (false),.slice false (Ja ([]:List Res)),.int .i64 (0),.slice false (Ja ([]:List Snap))],.slice false [.agg [.int .i64 2,.int .i64 1,.int .i64 3,.int .i64 1,.int .i64 2,.slice false [],.slice false [],.int .i64 0,.slice false [],.slice false []]],.int .i64 0])):=by
  obtain⟨p1,p2⟩:=Jcp bdA (by decide) (f:=fA) Jck (by decide)
  have h:=Jco (1) (1) (true) (0) (0) (0) (0) (9) (0) (0) (0) (0) (9) ([]:List Res) (false) ([]:List Res) (0) ([]:List Snap) 1 1 3 1 0 [eR] [] 0 [] [] (bdA.sz (by decide)) Jhi p1 p2
  rw[show(⟨1,1,true,⟨⟨0,0,0,0⟩,9⟩,⟨0,0,0,0⟩,⟨⟨9,[]⟩,false,[]⟩,⟨0,[]⟩⟩:Side)=sA from rfl,show(⟨1,1,3,1,0,[eR],[],0,[],[]⟩:Frame)=fA from rfl,Je9] at h
  exact h
 have w3:CallR Tryz.prog 12 [.agg [.int .i64 (1),.int .i64 (2),.bool (true),.int .i64 (0),.int .i64 (0),.int .i64 (0),.int .i64 (1),.int .i64 (9),.int .i64 (0),.int .i64 (0),.int .i64 (0),.int .i64 (0),.int .i64 (9),.slice false (Ja ([eR])),.bool (false),.slice false (Ja ([]:List Res)),.int .i64 (0),.slice false (Ja ([]:List Snap))],.agg [.int .i64 1,.int .i64 1,.int .i64 3,.int .i64 1,.int .i64 0,.slice false [.agg [.int .i64 3,.str [101],.int .i64 0,.int .i64 0,.str [],.slice false [],.slice false []]],.slice false [],.int .i64 0,.slice false [],.slice false []]] (.val (.tup [.agg [.int .i64 (1),.int .i64 (3),.bool (true),.int .i64 (0),.int .i64 (0),.int .i64 (0),.int .i64 (1),.int .i64 (9),.int .i64 (0),.int .i64 (0),.int .i64 (0),.int .i64 (0),.int .i64 (9),.slice false (Ja ([eR])),.bool (false),.slice false (Ja ([]:List Res)),.int .i64 (0),.slice false (Ja ([]:List Snap))],.slice false [.agg [.int .i64 2,.int .i64 1,.int .i64 3,.int .i64 1,.int .i64 3,.slice false [],.slice false [],.int .i64 0,.slice false [],.slice false []]],.int .i64 9])):=by
  obtain⟨p1,p2⟩:=Jcp bdB (by decide) (f:=fA) Jck (by decide)
  have h:=Jco (1) (2) (true) (0) (0) (0) (1) (9) (0) (0) (0) (0) (9) ([eR]) (false) ([]:List Res) (0) ([]:List Snap) 1 1 3 1 0 [eR] [] 0 [] [] (bdB.sz (by decide)) Jhi p1 p2
  rw[show(⟨1,2,true,⟨⟨0,0,0,1⟩,9⟩,⟨0,0,0,0⟩,⟨⟨9,[eR]⟩,false,[]⟩,⟨0,[]⟩⟩:Side)=sB from rfl,show(⟨1,1,3,1,0,[eR],[],0,[],[]⟩:Frame)=fA from rfl,Jfa] at h
  exact h
 have w4:CallR Tryz.prog 18 [.agg [.int .i64 (1),.int .i64 (2),.bool (true),.int .i64 (0),.int .i64 (0),.int .i64 (0),.int .i64 (1),.int .i64 (9),.int .i64 (0),.int .i64 (0),.int .i64 (0),.int .i64 (0),.int .i64 (9),.slice false (Ja ([eR])),.bool (false),.slice false (Ja ([]:List Res)),.int .i64 (0),.slice false (Ja ([]:List Snap))]] (.val (.tup [.slice false [],.bool false])):=by
  have h:=JjA (1) (2) (true) (0) (0) (0) (1) (9) (0) (0) (0) (0) (9) ([eR]) (false) ([]:List Res) (0) ([]:List Snap) (bdB.sz (by decide))
  rw[show(⟨1,2,true,⟨⟨0,0,0,1⟩,9⟩,⟨0,0,0,0⟩,⟨⟨9,[eR]⟩,false,[]⟩,⟨0,[]⟩⟩:Side)=sB from rfl,JbX Jjm,show Vk sB.p=(0,[],false) by unfold Vk;rw[show Jy sB.p=⟨0,[]⟩ from Jfy];rfl] at h
  exact h
 have w5:CallR Tryz.prog 10 [.agg [.int .i64 (1),.int .i64 (3),.bool (true),.int .i64 (0),.int .i64 (0),.int .i64 (0),.int .i64 (1),.int .i64 (9),.int .i64 (0),.int .i64 (0),.int .i64 (0),.int .i64 (0),.int .i64 (9),.slice false (Ja ([eR])),.bool (false),.slice false (Ja ([]:List Res)),.int .i64 (0),.slice false (Ja ([]:List Snap))]] (.val (.bool true)):=by
  have h:=Yc (1) (3) (true) (0) (0) (0) (1) (9) (0) (0) (0) (0) (9) ([eR]) (false) ([]:List Res) (0) ([]:List Snap) (bdC.sz (by decide))
  rw[show(⟨1,3,true,⟨⟨0,0,0,1⟩,9⟩,⟨0,0,0,0⟩,⟨⟨9,[eR]⟩,false,[]⟩,⟨0,[]⟩⟩:Side)=sC from rfl,JnA] at h
  exact h
 refine CallR.go0 (T:=T.withF [20]) Tryz.call7 Tryz.func7 rfl Tryz.ntmps7 (congrArg Array.toList Tryz.results7) fun ts hn=>?_
 (repeat' (first
 | (with_reducible first|refine callX.by (w0) ?_|refine callX.by (w1) ?_|refine callX.by (w2) ?_|refine callX.by (w3) ?_|refine callX.by (w4) ?_|refine callX.by (w5) ?_|refine callX.by (JcG _ _) ?_|refine callX.by (Jg0 _ _ _ _ _ _ _ _ _ _ _ _ _ _ _ _ _ _ _ ?_) ?_|refine callX.by (JjA _ _ _ _ _ _ _ _ _ _ _ _ _ _ _ _ _ _ ?_) ?_|refine callX.by (Yc _ _ _ _ _ _ _ _ _ _ _ _ _ _ _ _ _ _ ?_) ?_|assumption|(refine Qw hK _ ?_;clear hK K)|refine Qw ‹_› _ ?_|refine Qx ‹_› ?_|refine Qi fun K hK=>?_|refine Qj (T.withF [20]) fun K hK=>?_|refine Ql fun A B hA hB=>?_|refine Qn ?_|refine Qr ?_)
 | ((with_reducible first|apply Qy|apply Qz|apply QA)<;>intro hb<;>try simp only[nr] at hb)
 |simp only[go_sem,↓reduceIte,reduceIte,Qa,Qh,Qb,Qc,Qd,Qe,Qf,Qg,reduceCtorEq, *,-w0,-w1,-w2,-w3,-w4,-w5,Int.le_refl,List.length_nil,List.length_cons,decide_true,Int.toNat_zero,List.drop_zero,List.getD_cons_zero,c01,Z2]
 |with_reducible refine fun(bn:Bool) hbn=>?_))
 all_goals trace_state
theorem Jly(f:Four)(k n:Int):J9 (ZJ f k n) k=n:=by
 unfold J9 ZJ
 repeat' split
 all_goals first|rfl|omega
theorem Jig{i:In}(h:VH i=true):Vg i=i:=by unfold Vg;rw[if_pos h]
theorem Jmm{i:In}(h:VH i=true){k n:Int}(h0:(J5 i k n).2=0):n=J9 i.last k+1∧J5 i k n=(⟨ZJ i.last k n,i.max⟩,0):=by
 unfold J5 at h0 ⊢
 rw[Jig h] at h0 ⊢
 by_cases a:¬(0≤k∧k<4)
 ·rw[if_pos a] at h0;simp at h0
 ·rw[if_neg a] at h0 ⊢
  by_cases b:n≠0∧n=J9 i.last k
  ·rw[if_pos b] at h0;simp at h0
  ·rw[if_neg b] at h0 ⊢
   by_cases c:n≠J9 i.last k+1∨i.max<n
   ·rw[if_pos c] at h0;simp at h0
   ·rw[if_neg c];exact⟨by omega,rfl⟩
theorem Jml{i:In}(h:VH i=true){k n:Int}(hk:0≤k∧k<4)(hn:n≠0)(hg:n=J9 i.last k):J5 i k n=(i,9):=by
 unfold J5
 rw[Jig h,if_neg (by simpa using hk),if_pos ⟨hn,hg⟩]
theorem Ji0{s:Side}{f:Frame}(h:Yl s f=0):0≤f.kind∧f.kind<4:=by
 have:=fin_iff.1 ((frameE_iff.1 (refusesS_iff.1 h).2.1).1.2)
 omega
theorem Jlx{i:In}(h:VH i=true)(k:Int):0≤J9 i.last k:=by
 have:=JcM h
 unfold J9
 repeat' split
 all_goals omega
theorem Jnj(s:Side)(f:Frame):Yl s f≠9:=by
 have h:=(Jlu f).2.2
 unfold Yl
 repeat' split
 all_goals first|exact h|simp
theorem Joc(s:Side)(f:Frame):(Ju s f).2≠9:=by
 unfold Ju
 simp only
 have h:=(JmS s.p (JQ s.w f.adds f.gone).1.shown).2.2
 generalize JQ s.w f.adds f.gone=r at *
 obtain⟨w,ch,why⟩:=r
 cases ch<;>simp only[Bool.false_eq_true,↓reduceIte]
 ·split<;>simp
 ·repeat' split
  all_goals first|exact h|simp
theorem JhG{s:Side}(h:J1 s=true)(f:Frame) :
  (∃e,JP s f=(s,[],e)∧e≠0∧e≠9)∨(s.turn≠2147483647∧JP s f=({ s with turn:=s.turn+1 },[JaA s f],9)) ∨
  (∃t y,JP s f=(t,[⟨2,f.epoch,f.kind,f.nonce,t.turn,[],[],y,[],J6 t.p⟩],0)∧t.turn=s.turn+1∧s.turn≠2147483647∧f.epoch=s.epoch∧(0≤f.kind∧f.kind<4)∧f.nonce=J9 s.in'.last f.kind+1 ∧
   J9 t.in'.last f.kind=f.nonce∧y=J9 t.errs f.kind∧Yl t f=0∧f.nonce≠0):=by
 have hk:=JfX s f
 have hse:=Joc s f
 have hre:=Jnj s f
 have hin:=(saneS_iff.1 h).2.2.2.1
 unfold JP
 rw[JbX h]
 simp only
 by_cases h1:Yl s f=0
 ·rw[if_pos h1]
  by_cases h2:(J5 s.in' f.kind f.nonce).2=0
  ·rw[if_pos h2]
   by_cases h3:s.turn=2147483647
   ·rw[if_pos h3];exact .inl ⟨14,rfl,by simp,by simp⟩
   ·rw[if_neg h3]
    by_cases h4:(Ju s f).2=0
    ·rw[if_pos h4]
     obtain⟨g1,g2⟩:=Jmm hin h2
     have g3:=Jlx hin f.kind
     have g4:=refusesS_iff.1 h1
     refine .inr (.inr ⟨_,_,rfl,by simp only[hk.1],h3,g4.2.2.1,Ji0 h1,g1,?_,rfl,?_,by omega⟩)
     ·rw[g2];exact Jly _ _ _
     ·refine refusesS_iff.2 ⟨?_,g4.2.1,?_,g4.2.2.2⟩
      ·simp only[hk.2.2.1];exact g4.1
      ·simp only[hk.2.1];exact g4.2.2.1
    ·rw[if_neg h4];exact .inl ⟨_,rfl,h4,hse⟩
  ·rw[if_neg h2]
   by_cases h5:(J5 s.in' f.kind f.nonce).2=9
   ·rw[if_pos h5]
    by_cases h3:s.turn=2147483647
    ·rw[if_pos h3];exact .inl ⟨14,rfl,by simp,by simp⟩
    ·rw[if_neg h3];exact .inr (.inl ⟨h3,rfl⟩)
   ·rw[if_neg h5];exact .inl ⟨_,rfl,h2,h5⟩
 ·rw[if_neg h1];exact .inl ⟨_,rfl,h1,hre⟩
theorem JlB{t:Side}{f:Frame}(h:J1 t=true)(h1:Yl t f=0)(h2:J9 t.in'.last f.kind=f.nonce)(h3:f.nonce≠0)(h4:t.turn≠2147483647):JP t f=({ t with turn:=t.turn+1 },[JaA t f],9):=by
 have hin:=(saneS_iff.1 h).2.2.2.1
 unfold JP
 rw[JbX h]
 simp only
 rw[if_pos h1,Jml hin (Ji0 h1) h3 h2.symm]
 simp only
 rw[if_neg (by decide)]
 simp only[↓reduceIte]
 rw[if_neg h4]
end Go.Proofs.YtihahfhagobnoaaGreatDoor.Lg
