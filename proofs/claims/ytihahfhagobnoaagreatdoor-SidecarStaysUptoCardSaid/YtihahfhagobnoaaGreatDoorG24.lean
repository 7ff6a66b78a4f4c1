/- Parts of the proof, one behind the other. -/
import Derived.Test.YtihahfhagobnoaaGreatDoorG23
namespace Go.Proofs.YtihahfhagobnoaaGreatDoor.Lg
set_option maxRecDepth 100000
set_option linter.unusedVariables false
set_option linter.unusedSimpArgs false
open Go
open Nat renaming reduceEqDiff → Qa, reduceLT → Qb, reduceLeDiff → Qc, reduceAdd → Qd, reduceMul → Qe, reduceSub → Qf, reduceBEq → Qg
open String renaming reduceEq → Qh
open SpecC renaming seqW → Qi, regW → Qj, drawW → Qk, condW → Ql, skip → Qn, ret → Qr
open NxK renaming out → Qw
open condK renaming split → Qy
open gK renaming split_t → Qz, split_f → QA
@[go_sem] def Jba:List (List Nat×List Nat):=[([46],[52,53,54]),([47],[]),([48],[51,52,53,54]),([49],[52,53,54]),([50],[]),([51],[48]),([52],[46,48,49,54]),([53],[46,48,49,54]),([54],[46,48,49,52,53])]
@[go_sem] def Jbb:List (List Nat×List Nat):=[([87],[93,94,95,96,97,98,99,100,101,102,103,104,105,106,107,108,109,110,111,112,113,114,115,116,117,118,119,120,121,122,123,124,125,126,127,128,129,130,131,132]),([88],[94,95,96,97,98,99,100,101,102,103,104,105,106,107,108,109,110,111,112,113,114,115,116,117,118,119,120,121,122,123,124,125,126,127,128,129,130,131,132]),([89],[90,94,95,96,97,98,99,100,101,102,103,104,105,106,107,108,109,110,111,112,113,114,115,116,117,118,119,120,121,122,123,124,125,126,127,128,129,130,131,132]),([90],[89,94,95,96,97,98,99,100,101,102,103,104,105,106,107,108,109,110,111,112,113,114,115,116,117,118,119,120,121,122,123,124,125,126,127,128,129,130,131,132]),([91],[99,100,101,102,103,104,105,106,107,108,109,110,111,112,113,114,115,116,117,118,119,120,121,122,123,124,125,126,127,128,129,130,131,132]),([92],[99,100,101,102,103,104,105,106,107,108,109,110,111,112,113,114,115,116,117,118,119,120,121,122,123,124,125,126,127,128,129,130,131,132]),([93],[87,109,110,111,112,113,114,115,116,117,118,119,120,121,122,123,124,125,126,127,128,129,130,131,132]),([94],[87,88,89,90,95,98,99,100,101,102,103,104,105,106,107,108,109,110,111,112,113,114,115,116,117,118,119,120,121,122,123,124,125,126,127,128,129,130,131,132]),([95],[87,88,89,90,94,98,99,100,101,102,103,104,105,106,107,108,109,110,111,112,113,114,115,116,117,118,119,120,121,122,123,124,125,126,127,128,129,130,131,132]),([96],[87,88,89,90,99,100,101,102,103,104,105,106,107,108,109,110,111,112,113,114,115,116,117,118,119,120,121,122,123,124,125,126,127,128,129,130,131,132]),([97],[87,88,89,90,109,110,111,112,113,114,115,116,117,118,119,120,121,122,123,124,125,126,127,128,129,130,131,132]),([98],[87,88,89,90,94,95,110,111,112,113,114,115,116,117,118,119,120,121,122,123,124,125,126,127,128,129,130,131,132]),([99],[87,88,89,90,91,92,94,95,96,102,103,104,105,106,107,108,109,110,111,112,113,114,115,116,117,118,119,120,121,122,123,124,125,126,127,128,129,130,131,132]),([100],[87,88,89,90,91,92,94,95,96,103,104,105,106,107,108,109,110,111,112,113,114,115,116,117,118,119,120,121,122,123,124,125,126,127,128,129,130,131,132]),([101],[87,88,89,90,91,92,94,95,96,103,104,105,106,108,109,110,111,112,113,114,115,116,117,118,119,120,121,122,123,124,125,126,127,128,129,130,131,132]),([102],[87,88,89,90,91,92,94,95,96,99,103,104,105,106,110,111,112,113,114,115,116,117,118,119,120,121,122,123,124,125,126,127,128,129,130,131,132]),([103],[87,88,89,90,91,92,94,95,96,99,100,101,102,106,107,108,109,110,111,112,113,114,115,116,117,118,119,120,121,122,123,124,125,126,127,128,129,130,131,132]),([104],[87,88,89,90,91,92,94,95,96,99,100,101,102,107,108,109,110,111,112,113,114,115,116,117,118,119,120,121,122,123,124,125,126,127,128,129,130,131,132]),([105],[87,88,89,90,91,92,94,95,96,99,100,101,102,108,109,110,111,112,113,114,115,116,117,118,119,120,121,122,123,124,125,126,127,128,129,130,131,132]),([106],[87,88,89,90,91,92,94,95,96,99,100,101,102,103,110,111,112,113,114,115,116,117,118,119,120,121,122,123,124,125,126,127,128,129,130,131,132]),([107],[87,88,89,90,91,92,94,95,96,99,100,103,104,116,117,118,119,120,121,122,123,124,125,126,127,128,129,130,131,132]),([108],[87,88,89,90,91,92,94,95,96,99,100,101,103,104,105,116,117,118,119,120,121,122,123,124,125,126,127,128,129,130,131,132]),([109],[87,88,89,90,91,92,93,94,95,96,97,99,100,101,103,104,105,117,118,119,120,121,122,123,124,125,126,127,128,129,130,131,132]),([110],[87,88,89,90,91,92,93,94,95,96,97,98,99,100,101,102,103,104,105,106,113,114,115,116,117,118,119,120,121,122,123,124,125,126,127,128,129,130,131,132]),([111],[87,88,89,90,91,92,93,94,95,96,97,98,99,100,101,102,103,104,105,106,113,115,116,117,118,119,120,121,122,123,124,125,126,127,128,129,130,131,132]),([112],[87,88,89,90,91,92,93,94,95,96,97,98,99,100,101,102,103,104,105,106,113,117,118,119,120,121,122,123,124,125,126,127,128,129,130,131,132]),([113],[87,88,89,90,91,92,93,94,95,96,97,98,99,100,101,102,103,104,105,106,110,111,112,117,118,119,120,121,122,123,124,125,126,127,128,129,130,131,132]),([114],[87,88,89,90,91,92,93,94,95,96,97,98,99,100,101,102,103,104,105,106,110,121,122,123,124,125,126,127,128,129,130,131,132]),([115],[87,88,89,90,91,92,93,94,95,96,97,98,99,100,101,102,103,104,105,106,110,111,121,122,123,124,125,126,127,128,129,130,131,132]),([116],[87,88,89,90,91,92,93,94,95,96,97,98,99,100,101,102,103,104,105,106,107,108,110,111,128,129,130,131,132]),([117],[87,88,89,90,91,92,93,94,95,96,97,98,99,100,101,102,103,104,105,106,107,108,109,110,111,112,113,120,121,122,123,124,125,126,127,128,129,130,131,132]),([118],[87,88,89,90,91,92,93,94,95,96,97,98,99,100,101,102,103,104,105,106,107,108,109,110,111,112,113,121,122,123,124,125,126,127,128,129,130,131,132]),([119],[87,88,89,90,91,92,93,94,95,96,97,98,99,100,101,102,103,104,105,106,107,108,109,110,111,112,113,128,129,130,131,132]),([120],[87,88,89,90,91,92,93,94,95,96,97,98,99,100,101,102,103,104,105,106,107,108,109,110,111,112,113,117]),([121],[87,88,89,90,91,92,93,94,95,96,97,98,99,100,101,102,103,104,105,106,107,108,109,110,111,112,113,114,115,117,118,124,125,126,127,128,129,130,131,132]),([122],[87,88,89,90,91,92,93,94,95,96,97,98,99,100,101,102,103,104,105,106,107,108,109,110,111,112,113,114,115,117,118,124,126,127,128,129,130,131,132]),([123],[87,88,89,90,91,92,93,94,95,96,97,98,99,100,101,102,103,104,105,106,107,108,109,110,111,112,113,114,115,117,118,124,127,128,129,130,131,132]),([124],[87,88,89,90,91,92,93,94,95,96,97,98,99,100,101,102,103,104,105,106,107,108,109,110,111,112,113,114,115,117,118,121,122,123,127,128,129,130,131,132]),([125],[87,88,89,90,91,92,93,94,95,96,97,98,99,100,101,102,103,104,105,106,107,108,109,110,111,112,113,114,115,117,118,121,128,129,130,131,132]),([126],[87,88,89,90,91,92,93,94,95,96,97,98,99,100,101,102,103,104,105,106,107,108,109,110,111,112,113,114,115,117,118,121,122]),([127],[87,88,89,90,91,92,93,94,95,96,97,98,99,100,101,102,103,104,105,106,107,108,109,110,111,112,113,114,115,117,118,121,122,123,124]),([128],[87,88,89,90,91,92,93,94,95,96,97,98,99,100,101,102,103,104,105,106,107,108,109,110,111,112,113,114,115,116,117,118,119,121,122,123,124,125,130,132]),([129],[87,88,89,90,91,92,93,94,95,96,97,98,99,100,101,102,103,104,105,106,107,108,109,110,111,112,113,114,115,116,117,118,119,121,122,123,124,125,130]),([130],[87,88,89,90,91,92,93,94,95,96,97,98,99,100,101,102,103,104,105,106,107,108,109,110,111,112,113,114,115,116,117,118,119,121,122,123,124,125,128,129]),([131],[87,88,89,90,91,92,93,94,95,96,97,98,99,100,101,102,103,104,105,106,107,108,109,110,111,112,113,114,115,116,117,118,119,121,122,123,124,125]),([132],[87,88,89,90,91,92,93,94,95,96,97,98,99,100,101,102,103,104,105,106,107,108,109,110,111,112,113,114,115,116,117,118,119,121,122,123,124,125,128])]
set_option maxHeartbeats 16000000 in
theorem Jnp(s_epoch:Int)(s_turn:Int)(s_up:Bool)(s_in_last_a0:Int)(s_in_last_a1:Int)(s_in_last_a2:Int)(s_in_last_a3:Int)(s_in_max:Int)(s_errs_a0:Int)(s_errs_a1:Int)(s_errs_a2:Int)(s_errs_a3:Int)(s_w_c_cap:Int)(s_w_c_l:List Res)(s_w_ready:Bool)(s_w_shown:List Res)(s_p_next:Int)(s_p_snaps:List Snap)(n:Int)(hw:Jas ⟨⟨s_w_c_cap,s_w_c_l⟩,s_w_ready,s_w_shown⟩)(hl:Jc s_p_snaps.length)(hs:∀x∈s_p_snaps,Yw x) :
  CallR Tryz.prog 5 [.agg [.int .i64 s_epoch,.int .i64 s_turn,.bool s_up,.int .i64 s_in_last_a0,.int .i64 s_in_last_a1,.int .i64 s_in_last_a2,.int .i64 s_in_last_a3,.int .i64 s_in_max,.int .i64 s_errs_a0,.int .i64 s_errs_a1,.int .i64 s_errs_a2,.int .i64 s_errs_a3,.int .i64 s_w_c_cap,.slice false (Ja s_w_c_l),.bool s_w_ready,.slice false (Ja s_w_shown),.int .i64 s_p_next,.slice false (Ja s_p_snaps)],.int .i64 n] (.val (.bool true)):=by
 have w0:=Jau
 have w1:=Jaz s_epoch s_turn s_up s_in_last_a0 s_in_last_a1 s_in_last_a2 s_in_last_a3 s_in_max s_errs_a0 s_errs_a1 s_errs_a2 s_errs_a3 s_w_c_cap s_w_c_l s_w_ready s_w_shown s_p_next s_p_snaps hw hl hs
 have w2:=Ja1 s_epoch s_turn s_up s_in_last_a0 s_in_last_a1 s_in_last_a2 s_in_last_a3 s_in_max s_errs_a0 s_errs_a1 s_errs_a2 s_errs_a3 s_w_c_cap s_w_c_l s_w_ready s_w_shown s_p_next s_p_snaps hl
 by_cases hfew:Jbn (⟨s_epoch,s_turn,s_up,⟨⟨s_in_last_a0,s_in_last_a1,s_in_last_a2,s_in_last_a3⟩,s_in_max⟩,⟨s_errs_a0,s_errs_a1,s_errs_a2,s_errs_a3⟩,⟨⟨s_w_c_cap,s_w_c_l⟩,s_w_ready,s_w_shown⟩,⟨s_p_next,s_p_snaps⟩⟩:Side)=true
 rotate_left
 ·rw[show Jbn (⟨s_epoch,s_turn,s_up,⟨⟨s_in_last_a0,s_in_last_a1,s_in_last_a2,s_in_last_a3⟩,s_in_max⟩,⟨s_errs_a0,s_errs_a1,s_errs_a2,s_errs_a3⟩,⟨⟨s_w_c_cap,s_w_c_l⟩,s_w_ready,s_w_shown⟩,⟨s_p_next,s_p_snaps⟩⟩:Side)=false by simpa using hfew] at w1
  clear hw hl hs hfew
  refine CallR.go2 (T:=T) Tryz.call5 Tryz.func5 rfl Tryz.ntmps5 (congrArg Array.toList Tryz.results5) (by decide) fun ts hn h0 h1=>?_
  (repeat' (first
 | (with_reducible first|refine callX.by (w0) ?_|refine callX.by (w1) ?_|refine callX.by (w2) ?_|refine callX.by Jau ?_|refine callX.by (Jaz _ _ _ _ _ _ _ _ _ _ _ _ _ _ _ _ _ _ ?_ ?_ ?_) ?_|refine callX.by (Ja1 _ _ _ _ _ _ _ _ _ _ _ _ _ _ _ _ _ _ ?_) ?_|refine callX.by (YV _ _ _ _ _ _ _ _ _ _ _ _ _ _ _ _ _ _ ?_) ?_|refine callX.by (ZH _ _ _ _ _ _ _ _ _ _ _ _ _ _ _ _ _ _ _ ?_) ?_|refine callX.by (JaE _ _ _ _ _ _ _ _ _ _ _ _ _ _ _ _ _ _ ?_) ?_|refine callX.by (JaY _ _ _ _ _ _ _ _ _ _ _ _ _ _ _ _ _ _ ?_ ?_ ?_) ?_|refine callX.by (ZA _ _ _ _ _ _ _ _ _ _ _ _ _ _ _ _ _ _ ?_) ?_|refine callX.by (Y7 _ ?_) ?_|refine callX.by (Vz _ _ ?_ ?_) ?_|refine callX.by (ZK _ _ _ _ _ _ _ _ _ _ _ _ _ _ _ _ _ _ _ _ ?_) ?_|assumption|(refine Qw hK _ ?_;clear hK K)|refine Qw ‹_› _ ?_|refine Nx.out ‹_› ?_|refine Qi fun K hK=>?_|refine Qj T fun K hK=>?_|refine Qk (id:=6) T mixed Jba (by kernel_rfl) fun K hK=>?_|refine Qk (id:=12) T mixed Jbb (by kernel_rfl) fun K hK=>?_|refine Ql fun A B hA hB=>?_|refine Qn ?_|refine Qr ?_)
 | ((with_reducible first|apply Qy|apply Qz|apply QA)<;>intro hb<;>try simp only[nr] at hb)
 |simp only[go_sem,↓reduceIte,reduceIte,Qa,Qh,Qb,Qc,Qd,Qe,Qf,Qg,reduceCtorEq, *,-w0,-w1,-w2]
 |with_reducible refine fun(bn:Bool) hbn=>?_))
 rw[hfew] at w1
 have hb:=JkR hfew hw hs
 have w3:=YV s_epoch s_turn s_up s_in_last_a0 s_in_last_a1 s_in_last_a2 s_in_last_a3 s_in_max s_errs_a0 s_errs_a1 s_errs_a2 s_errs_a3 s_w_c_cap s_w_c_l s_w_ready s_w_shown s_p_next s_p_snaps (hb.sz (by decide))
 by_cases hsn:Vi (⟨s_epoch,s_turn,s_up,⟨⟨s_in_last_a0,s_in_last_a1,s_in_last_a2,s_in_last_a3⟩,s_in_max⟩,⟨s_errs_a0,s_errs_a1,s_errs_a2,s_errs_a3⟩,⟨⟨s_w_c_cap,s_w_c_l⟩,s_w_ready,s_w_shown⟩,⟨s_p_next,s_p_snaps⟩⟩:Side)=true
 rotate_left
 ·rw[show Vi (⟨s_epoch,s_turn,s_up,⟨⟨s_in_last_a0,s_in_last_a1,s_in_last_a2,s_in_last_a3⟩,s_in_max⟩,⟨s_errs_a0,s_errs_a1,s_errs_a2,s_errs_a3⟩,⟨⟨s_w_c_cap,s_w_c_l⟩,s_w_ready,s_w_shown⟩,⟨s_p_next,s_p_snaps⟩⟩:Side)=false by simpa using hsn] at w3
  clear hw hl hs hfew hb hsn
  refine CallR.go2 (T:=T) Tryz.call5 Tryz.func5 rfl Tryz.ntmps5 (congrArg Array.toList Tryz.results5) (by decide) fun ts hn h0 h1=>?_
  (repeat' (first
 | (with_reducible first|refine callX.by (w0) ?_|refine callX.by (w1) ?_|refine callX.by (w2) ?_|refine callX.by (w3) ?_|refine callX.by Jau ?_|refine callX.by (Jaz _ _ _ _ _ _ _ _ _ _ _ _ _ _ _ _ _ _ ?_ ?_ ?_) ?_|refine callX.by (Ja1 _ _ _ _ _ _ _ _ _ _ _ _ _ _ _ _ _ _ ?_) ?_|refine callX.by (YV _ _ _ _ _ _ _ _ _ _ _ _ _ _ _ _ _ _ ?_) ?_|refine callX.by (ZH _ _ _ _ _ _ _ _ _ _ _ _ _ _ _ _ _ _ _ ?_) ?_|refine callX.by (JaE _ _ _ _ _ _ _ _ _ _ _ _ _ _ _ _ _ _ ?_) ?_|refine callX.by (JaY _ _ _ _ _ _ _ _ _ _ _ _ _ _ _ _ _ _ ?_ ?_ ?_) ?_|refine callX.by (ZA _ _ _ _ _ _ _ _ _ _ _ _ _ _ _ _ _ _ ?_) ?_|refine callX.by (Y7 _ ?_) ?_|refine callX.by (Vz _ _ ?_ ?_) ?_|refine callX.by (ZK _ _ _ _ _ _ _ _ _ _ _ _ _ _ _ _ _ _ _ _ ?_) ?_|assumption|(refine Qw hK _ ?_;clear hK K)|refine Qw ‹_› _ ?_|refine Nx.out ‹_› ?_|refine Qi fun K hK=>?_|refine Qj T fun K hK=>?_|refine Qk (id:=6) T mixed Jba (by kernel_rfl) fun K hK=>?_|refine Qk (id:=12) T mixed Jbb (by kernel_rfl) fun K hK=>?_|refine Ql fun A B hA hB=>?_|refine Qn ?_|refine Qr ?_)
 | ((with_reducible first|apply Qy|apply Qz|apply QA)<;>intro hb<;>try simp only[nr] at hb)
 |simp only[go_sem,↓reduceIte,reduceIte,Qa,Qh,Qb,Qc,Qd,Qe,Qf,Qg,reduceCtorEq, *,-w0,-w1,-w2,-w3]
 |with_reducible refine fun(bn:Bool) hbn=>?_))
 rw[hsn] at w3
 by_cases htn:1073741824<s_turn
 ·clear hw hl hs hfew hb hsn
  refine CallR.go2 (T:=T) Tryz.call5 Tryz.func5 rfl Tryz.ntmps5 (congrArg Array.toList Tryz.results5) (by decide) fun ts hn h0 h1=>?_
  (repeat' (first
 | (with_reducible first|refine callX.by (w0) ?_|refine callX.by (w1) ?_|refine callX.by (w2) ?_|refine callX.by (w3) ?_|refine callX.by Jau ?_|refine callX.by (Jaz _ _ _ _ _ _ _ _ _ _ _ _ _ _ _ _ _ _ ?_ ?_ ?_) ?_|refine callX.by (Ja1 _ _ _ _ _ _ _ _ _ _ _ _ _ _ _ _ _ _ ?_) ?_|refine callX.by (YV _ _ _ _ _ _ _ _ _ _ _ _ _ _ _ _ _ _ ?_) ?_|refine callX.by (ZH _ _ _ _ _ _ _ _ _ _ _ _ _ _ _ _ _ _ _ ?_) ?_|refine callX.by (JaE _ _ _ _ _ _ _ _ _ _ _ _ _ _ _ _ _ _ ?_) ?_|refine callX.by (JaY _ _ _ _ _ _ _ _ _ _ _ _ _ _ _ _ _ _ ?_ ?_ ?_) ?_|refine callX.by (ZA _ _ _ _ _ _ _ _ _ _ _ _ _ _ _ _ _ _ ?_) ?_|refine callX.by (Y7 _ ?_) ?_|refine callX.by (Vz _ _ ?_ ?_) ?_|refine callX.by (ZK _ _ _ _ _ _ _ _ _ _ _ _ _ _ _ _ _ _ _ _ ?_) ?_|assumption|(refine Qw hK _ ?_;clear hK K)|refine Qw ‹_› _ ?_|refine Nx.out ‹_› ?_|refine Qi fun K hK=>?_|refine Qj T fun K hK=>?_|refine Qk (id:=6) T mixed Jba (by kernel_rfl) fun K hK=>?_|refine Qk (id:=12) T mixed Jbb (by kernel_rfl) fun K hK=>?_|refine Ql fun A B hA hB=>?_|refine Qn ?_|refine Qr ?_)
 | ((with_reducible first|apply Qy|apply Qz|apply QA)<;>intro hb<;>try simp only[nr] at hb)
 |simp only[go_sem,↓reduceIte,reduceIte,Qa,Qh,Qb,Qc,Qd,Qe,Qf,Qg,reduceCtorEq, *,-w0,-w1,-w2,-w3]
 |with_reducible refine fun(bn:Bool) hbn=>?_))
 have w4:=ZH s_epoch s_turn s_up s_in_last_a0 s_in_last_a1 s_in_last_a2 s_in_last_a3 s_in_max s_errs_a0 s_errs_a1 s_errs_a2 s_errs_a3 s_w_c_cap s_w_c_l s_w_ready s_w_shown s_p_next s_p_snaps n (hb.sz (by decide))
 have hof:=JbY hsn
 have e6:=ZA s_epoch s_turn s_up s_in_last_a0 s_in_last_a1 s_in_last_a2 s_in_last_a3 s_in_max s_errs_a0 s_errs_a1 s_errs_a2 s_errs_a3 s_w_c_cap s_w_c_l s_w_ready s_w_shown s_p_next s_p_snaps (hb.sz (by decide))
 rw[hof] at e6
 simp only at e6
 obtain⟨c1,c2⟩:=Jiv (hb.p.sz (by decide))
 simp only at c1 c2
 by_cases hx:n≤s_epoch∨2147483647<n
 ·have e:JW (⟨s_epoch,s_turn,s_up,⟨⟨s_in_last_a0,s_in_last_a1,s_in_last_a2,s_in_last_a3⟩,s_in_max⟩,⟨s_errs_a0,s_errs_a1,s_errs_a2,s_errs_a3⟩,⟨⟨s_w_c_cap,s_w_c_l⟩,s_w_ready,s_w_shown⟩,⟨s_p_next,s_p_snaps⟩⟩:Side) n=((⟨s_epoch,s_turn,s_up,⟨⟨s_in_last_a0,s_in_last_a1,s_in_last_a2,s_in_last_a3⟩,s_in_max⟩,⟨s_errs_a0,s_errs_a1,s_errs_a2,s_errs_a3⟩,⟨⟨s_w_c_cap,s_w_c_l⟩,s_w_ready,s_w_shown⟩,⟨s_p_next,s_p_snaps⟩⟩:Side),[],11):=by
   unfold JW
   rw[hof]
   simp only
   rw[if_pos hx]
  rw[e] at w4
  have w4:CallR Tryz.prog 17 [.agg [.int .i64 s_epoch,.int .i64 s_turn,.bool s_up,.int .i64 s_in_last_a0,.int .i64 s_in_last_a1,.int .i64 s_in_last_a2,.int .i64 s_in_last_a3,.int .i64 s_in_max,.int .i64 s_errs_a0,.int .i64 s_errs_a1,.int .i64 s_errs_a2,.int .i64 s_errs_a3,.int .i64 s_w_c_cap,.slice false (Ja s_w_c_l),.bool s_w_ready,.slice false (Ja s_w_shown),.int .i64 s_p_next,.slice false (Ja s_p_snaps)],.int .i64 n] (.val (.tup [.agg [.int .i64 s_epoch,.int .i64 s_turn,.bool s_up,.int .i64 s_in_last_a0,.int .i64 s_in_last_a1,.int .i64 s_in_last_a2,.int .i64 s_in_last_a3,.int .i64 s_in_max,.int .i64 s_errs_a0,.int .i64 s_errs_a1,.int .i64 s_errs_a2,.int .i64 s_errs_a3,.int .i64 s_w_c_cap,.slice false (Ja s_w_c_l),.bool s_w_ready,.slice false (Ja s_w_shown),.int .i64 s_p_next,.slice false (Ja s_p_snaps)],.slice false [],.int .i64 11])):=w4
  have w5:=JaE s_epoch s_turn s_up s_in_last_a0 s_in_last_a1 s_in_last_a2 s_in_last_a3 s_in_max s_errs_a0 s_errs_a1 s_errs_a2 s_errs_a3 s_w_c_cap s_w_c_l s_w_ready s_w_shown s_p_next s_p_snaps hl
  have w6:=JaY s_epoch s_turn s_up s_in_last_a0 s_in_last_a1 s_in_last_a2 s_in_last_a3 s_in_max s_errs_a0 s_errs_a1 s_errs_a2 s_errs_a3 s_w_c_cap s_w_c_l s_w_ready s_w_shown s_p_next s_p_snaps hw hl hs
  clear hw hl hs hfew hb hsn hof e e6 c1 c2
  by_cases ha:n≤s_epoch
  ·clear hx
   refine CallR.go2 (T:=T) Tryz.call5 Tryz.func5 rfl Tryz.ntmps5 (congrArg Array.toList Tryz.results5) (by decide) fun ts hn h0 h1=>?_
   (repeat' (first
 | (with_reducible first|refine callX.by (w0) ?_|refine callX.by (w1) ?_|refine callX.by (w2) ?_|refine callX.by (w3) ?_|refine callX.by (w4) ?_|refine callX.by (w5) ?_|refine callX.by (w6) ?_|refine callX.by Jau ?_|refine callX.by (Jaz _ _ _ _ _ _ _ _ _ _ _ _ _ _ _ _ _ _ ?_ ?_ ?_) ?_|refine callX.by (Ja1 _ _ _ _ _ _ _ _ _ _ _ _ _ _ _ _ _ _ ?_) ?_|refine callX.by (YV _ _ _ _ _ _ _ _ _ _ _ _ _ _ _ _ _ _ ?_) ?_|refine callX.by (ZH _ _ _ _ _ _ _ _ _ _ _ _ _ _ _ _ _ _ _ ?_) ?_|refine callX.by (JaE _ _ _ _ _ _ _ _ _ _ _ _ _ _ _ _ _ _ ?_) ?_|refine callX.by (JaY _ _ _ _ _ _ _ _ _ _ _ _ _ _ _ _ _ _ ?_ ?_ ?_) ?_|refine callX.by (ZA _ _ _ _ _ _ _ _ _ _ _ _ _ _ _ _ _ _ ?_) ?_|refine callX.by (Y7 _ ?_) ?_|refine callX.by (Vz _ _ ?_ ?_) ?_|refine callX.by (ZK _ _ _ _ _ _ _ _ _ _ _ _ _ _ _ _ _ _ _ _ ?_) ?_|assumption|(refine Qw hK _ ?_;clear hK K)|refine Qw ‹_› _ ?_|refine Nx.out ‹_› ?_|refine Qi fun K hK=>?_|refine Qj T fun K hK=>?_|refine Qk (id:=6) T mixed Jba (by kernel_rfl) fun K hK=>?_|refine Qk (id:=12) T mixed Jbb (by kernel_rfl) fun K hK=>?_|refine Ql fun A B hA hB=>?_|refine Qn ?_|refine Qr ?_)
 | ((with_reducible first|apply Qy|apply Qz|apply QA)<;>intro hb<;>try simp only[nr] at hb)
 |simp only[go_sem,↓reduceIte,reduceIte,Qa,Qh,Qb,Qc,Qd,Qe,Qf,Qg,reduceCtorEq, *,-w0,-w1,-w2,-w3,-w4,-w5,-w6,List.length_nil]
 |with_reducible refine fun(bn:Bool) hbn=>?_))
   all_goals trace_state
  ·have hc:2147483647<n:=hx.resolve_left ha
   clear hx
   refine CallR.go2 (T:=T) Tryz.call5 Tryz.func5 rfl Tryz.ntmps5 (congrArg Array.toList Tryz.results5) (by decide) fun ts hn h0 h1=>?_
   (repeat' (first
 | (with_reducible first|refine callX.by (w0) ?_|refine callX.by (w1) ?_|refine callX.by (w2) ?_|refine callX.by (w3) ?_|refine callX.by (w4) ?_|refine callX.by (w5) ?_|refine callX.by (w6) ?_|refine callX.by Jau ?_|refine callX.by (Jaz _ _ _ _ _ _ _ _ _ _ _ _ _ _ _ _ _ _ ?_ ?_ ?_) ?_|refine callX.by (Ja1 _ _ _ _ _ _ _ _ _ _ _ _ _ _ _ _ _ _ ?_) ?_|refine callX.by (YV _ _ _ _ _ _ _ _ _ _ _ _ _ _ _ _ _ _ ?_) ?_|refine callX.by (ZH _ _ _ _ _ _ _ _ _ _ _ _ _ _ _ _ _ _ _ ?_) ?_|refine callX.by (JaE _ _ _ _ _ _ _ _ _ _ _ _ _ _ _ _ _ _ ?_) ?_|refine callX.by (JaY _ _ _ _ _ _ _ _ _ _ _ _ _ _ _ _ _ _ ?_ ?_ ?_) ?_|refine callX.by (ZA _ _ _ _ _ _ _ _ _ _ _ _ _ _ _ _ _ _ ?_) ?_|refine callX.by (Y7 _ ?_) ?_|refine callX.by (Vz _ _ ?_ ?_) ?_|refine callX.by (ZK _ _ _ _ _ _ _ _ _ _ _ _ _ _ _ _ _ _ _ _ ?_) ?_|assumption|(refine Qw hK _ ?_;clear hK K)|refine Qw ‹_› _ ?_|refine Nx.out ‹_› ?_|refine Qi fun K hK=>?_|refine Qj T fun K hK=>?_|refine Qk (id:=6) T mixed Jba (by kernel_rfl) fun K hK=>?_|refine Qk (id:=12) T mixed Jbb (by kernel_rfl) fun K hK=>?_|refine Ql fun A B hA hB=>?_|refine Qn ?_|refine Qr ?_)
 | ((with_reducible first|apply Qy|apply Qz|apply QA)<;>intro hb<;>try simp only[nr] at hb)
 |simp only[go_sem,↓reduceIte,reduceIte,Qa,Qh,Qb,Qc,Qd,Qe,Qf,Qg,reduceCtorEq, *,-w0,-w1,-w2,-w3,-w4,-w5,-w6,List.length_nil]
 |with_reducible refine fun(bn:Bool) hbn=>?_))
   all_goals trace_state
 ·have ht2:s_turn≠2147483647:=by omega
  have e:JW (⟨s_epoch,s_turn,s_up,⟨⟨s_in_last_a0,s_in_last_a1,s_in_last_a2,s_in_last_a3⟩,s_in_max⟩,⟨s_errs_a0,s_errs_a1,s_errs_a2,s_errs_a3⟩,⟨⟨s_w_c_cap,s_w_c_l⟩,s_w_ready,s_w_shown⟩,⟨s_p_next,s_p_snaps⟩⟩:Side) n=((⟨(n),(s_turn+1),(true),⟨⟨(0),(0),(0),(0)⟩,(JI s_in_max)⟩,⟨(0),(0),(0),(0)⟩,⟨⟨s_w_c_cap,s_w_c_l⟩,s_w_ready,s_w_shown⟩,⟨s_p_next,s_p_snaps⟩⟩:Side),[⟨0,n,0,0,0,[],[],0,YD s_w_c_l,[]⟩,⟨3,n,0,0,s_turn+1,[],[],0,[],Vg ⟨s_p_next,s_p_snaps⟩⟩],0):=by
   unfold JW
   rw[hof]
   simp only
   rw[if_neg hx,if_neg ht2]
   rfl
  have hts:=JgK (⟨s_epoch,s_turn,s_up,⟨⟨s_in_last_a0,s_in_last_a1,s_in_last_a2,s_in_last_a3⟩,s_in_max⟩,⟨s_errs_a0,s_errs_a1,s_errs_a2,s_errs_a3⟩,⟨⟨s_w_c_cap,s_w_c_l⟩,s_w_ready,s_w_shown⟩,⟨s_p_next,s_p_snaps⟩⟩:Side) n
  rw[e] at w4 hts
  simp only at hts
  have w4:CallR Tryz.prog 17 [.agg [.int .i64 s_epoch,.int .i64 s_turn,.bool s_up,.int .i64 s_in_last_a0,.int .i64 s_in_last_a1,.int .i64 s_in_last_a2,.int .i64 s_in_last_a3,.int .i64 s_in_max,.int .i64 s_errs_a0,.int .i64 s_errs_a1,.int .i64 s_errs_a2,.int .i64 s_errs_a3,.int .i64 s_w_c_cap,.slice false (Ja s_w_c_l),.bool s_w_ready,.slice false (Ja s_w_shown),.int .i64 s_p_next,.slice false (Ja s_p_snaps)],.int .i64 n] (.val (.tup [.agg [.int .i64 (n),.int .i64 (s_turn+1),.bool (true),.int .i64 (0),.int .i64 (0),.int .i64 (0),.int .i64 (0),.int .i64 (JI s_in_max),.int .i64 (0),.int .i64 (0),.int .i64 (0),.int .i64 (0),.int .i64 s_w_c_cap,.slice false (Ja s_w_c_l),.bool s_w_ready,.slice false (Ja s_w_shown),.int .i64 s_p_next,.slice false (Ja s_p_snaps)],.slice false [.agg [.int .i64 0,.int .i64 n,.int .i64 0,.int .i64 0,.int .i64 0,.slice false [],.slice false [],.int .i64 0,.slice false (Ja (YD s_w_c_l)),.slice false []],.agg [.int .i64 3,.int .i64 n,.int .i64 0,.int .i64 0,.int .i64 (s_turn+1),.slice false [],.slice false [],.int .i64 0,.slice false [],.slice false (Ja (Vg ⟨s_p_next,s_p_snaps⟩))]],.int .i64 0])):=w4
  have hbt:BdS (⟨(n),(s_turn+1),(true),⟨⟨(0),(0),(0),(0)⟩,(JI s_in_max)⟩,⟨(0),(0),(0),(0)⟩,⟨⟨s_w_c_cap,s_w_c_l⟩,s_w_ready,s_w_shown⟩,⟨s_p_next,s_p_snaps⟩⟩:Side) 20:=⟨hb.c,hb.w,hb.sc,hb.sw,hb.p⟩
  have e7:=ZA (n) (s_turn+1) (true) (0) (0) (0) (0) (JI s_in_max) (0) (0) (0) (0) s_w_c_cap s_w_c_l s_w_ready s_w_shown s_p_next s_p_snaps (hbt.sz (by decide))
  rw[JbY hts] at e7
  simp only at e7
  generalize Vb ⟨s_p_next,s_p_snaps⟩=q at *
  obtain⟨ci,cl,cb⟩:=q
  simp only at e6 e7 c1 c2
  have w8:=Vz cl cl c1 c2
  rw[decide_eq_true rfl] at w8
  have w9:=Vz s_w_c_l s_w_c_l hw.1.1 hw.1.2
  rw[decide_eq_true rfl] at w9
  have hml:Jc (YD s_w_c_l).length:=by unfold YD;rw[List.length_map];exact hw.1.1
  have hmk:∀m∈YD s_w_c_l,Jf2 m:=fun m hm=>by
   obtain⟨r,hr,rfl⟩:=List.mem_map.1 hm
   exact(hw.1.2 r hr).1
  have w10:=ZK 0 n 0 0 0 [] [] 0 (YD s_w_c_l) [] 0 n 0 0 0 [] [] 0 (YD s_w_c_l) [] ⟨by simp[Jc],by simp,by simp[Jc],by simp,hml,hmk,by simp[Jc],by simp⟩
  rw[decide_eq_true rfl] at w10
  have w10:CallR Tryz.prog 16 [.agg [.int .i64 0,.int .i64 n,.int .i64 0,.int .i64 0,.int .i64 0,.slice false [],.slice false [],.int .i64 0,.slice false (Ja (YD s_w_c_l)),.slice false []],.agg [.int .i64 0,.int .i64 n,.int .i64 0,.int .i64 0,.int .i64 0,.slice false [],.slice false [],.int .i64 0,.slice false (Ja (YD s_w_c_l)),.slice false []]] (.val (.bool true)):=w10
  have w11:=(Y7 s_w_c_l hw.1.1).frz
  have ha:¬n≤s_epoch:=fun h=>hx (.inl h)
  have hc:¬2147483647<n:=fun h=>hx (.inr h)
  clear hw hl hs hfew hb hsn hof e c1 c2 hx ht2 hts hbt hml hmk
  refine CallR.go2 (T:=T) Tryz.call5 Tryz.func5 rfl Tryz.ntmps5 (congrArg Array.toList Tryz.results5) (by decide) fun ts hn h0 h1=>?_
  (repeat' (first
 | (with_reducible first|refine callX.by (w0) ?_|refine callX.by (w1) ?_|refine callX.by (w2) ?_|refine callX.by (w3) ?_|refine callX.by (w4) ?_|refine callX.by (e6) ?_|refine callX.by (e7) ?_|refine callX.by (w8) ?_|refine callX.by (w9) ?_|refine callX.by (w10) ?_|refine callX.by (w11) ?_|refine callX.by Jau ?_|refine callX.by (Jaz _ _ _ _ _ _ _ _ _ _ _ _ _ _ _ _ _ _ ?_ ?_ ?_) ?_|refine callX.by (Ja1 _ _ _ _ _ _ _ _ _ _ _ _ _ _ _ _ _ _ ?_) ?_|refine callX.by (YV _ _ _ _ _ _ _ _ _ _ _ _ _ _ _ _ _ _ ?_) ?_|refine callX.by (ZH _ _ _ _ _ _ _ _ _ _ _ _ _ _ _ _ _ _ _ ?_) ?_|refine callX.by (JaE _ _ _ _ _ _ _ _ _ _ _ _ _ _ _ _ _ _ ?_) ?_|refine callX.by (JaY _ _ _ _ _ _ _ _ _ _ _ _ _ _ _ _ _ _ ?_ ?_ ?_) ?_|refine callX.by (ZA _ _ _ _ _ _ _ _ _ _ _ _ _ _ _ _ _ _ ?_) ?_|refine callX.by (Y7 _ ?_) ?_|refine callX.by (Vz _ _ ?_ ?_) ?_|refine callX.by (ZK _ _ _ _ _ _ _ _ _ _ _ _ _ _ _ _ _ _ _ _ ?_) ?_|assumption|(refine Qw hK _ ?_;clear hK K)|refine Qw ‹_› _ ?_|refine Nx.out ‹_› ?_|refine Qi fun K hK=>?_|refine Qj T fun K hK=>?_|refine Qk (id:=6) T mixed Jba (by kernel_rfl) fun K hK=>?_|refine Qk (id:=12) T mixed Jbb (by kernel_rfl) fun K hK=>?_|refine Ql fun A B hA hB=>?_|refine Qn ?_|refine Qr ?_)
 | ((with_reducible first|apply Qy|apply Qz|apply QA)<;>intro hb<;>try simp only[nr] at hb)
 |simp only[go_sem,↓reduceIte,reduceIte,Qa,Qh,Qb,Qc,Qd,Qe,Qf,Qg,reduceCtorEq, *,-w0,-w1,-w2,-w3,-w4,-e6,-e7,-w8,-w9,-w10,-w11,List.length_nil,List.length_cons,Int.toNat_zero,Int.le_refl,List.drop_zero,List.getD_cons_zero,c01,c02,V8,Yk,Yp,Yt,Jes]
 |with_reducible refine fun(bn:Bool) hbn=>?_))
  all_goals trace_state
end Go.Proofs.YtihahfhagobnoaaGreatDoor.Lg
