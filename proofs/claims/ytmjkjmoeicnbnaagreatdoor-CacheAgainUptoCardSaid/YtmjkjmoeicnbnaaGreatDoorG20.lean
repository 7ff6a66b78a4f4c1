/- Parts of the proof, one behind the other. -/
import Derived.Test.YtmjkjmoeicnbnaaGreatDoorG19
namespace Go.Proofs.YtmjkjmoeicnbnaaGreatDoor.Lg
set_option maxRecDepth 100000
set_option linter.unusedVariables false
set_option linter.unusedSimpArgs false
open Go
open Nat renaming reduceEqDiff → Qa, reduceLT → Qb, reduceLeDiff → Qc, reduceAdd → Qd, reduceMul → Qe, reduceSub → Qf, reduceBEq → Qg
open String renaming reduceEq → Qh
open SpecC renaming seqW → Qi, regW → Qj, drawW → Qk, condW → Ql, skip → Qn, ret → Qr
open NxK renaming out → Qw
open condK renaming split → Qy
open gK renaming split_t → Qz, split_f → QA
@[go_sem] def Wd14:List (List Nat×List Nat):=[([55],[]),([56],[]),([57],[59]),([58],[59]),([59],[57,58])]
@[go_sem] def Wd15:List (List Nat×List Nat):=[([84],[90,91,92,93,94,95,96,97,98,99,100,101,102,103,104,105,106,107,108,109,110,111]),([85],[96,97,98,99,100,101,102,103,104,105,106,107,108,109,110,111]),([86],[89,90,91,92,93,94,95,96,97,98,99,100,101,102,103,104,105,106,107,108,109,110,111]),([87],[90,91,92,93,94,95,96,97,98,99,100,101,102,103,104,105,106,107,108,109,110,111]),([88],[96,97,98,99,100,101,102,103,104,105,106,107,108,109,110,111]),([89],[86,97,98,99,100,101,102,103,104,105,106,107,108,109,110,111]),([90],[84,86,87,92,95,96,97,98,99,100,101,102,103,104,105,106,107,108,109,110,111]),([91],[84,86,87,92,97,98,99,100,101,102,103,104,105,106,107,108,109,110,111]),([92],[84,86,87,90,91,95,96,97,98,99,100,101,102,103,104,105,106,107,108,109,110,111]),([93],[84,86,87,97,98,99,100,101,102,103,104,105,106,107,108,109,110,111]),([94],[84,86,87,102,103,104,105,106,107,108,109,110,111]),([95],[84,86,87,90,92,102,103,104,105,106,107,108,109,110,111]),([96],[84,85,86,87,88,90,92,103,104,105,106,107,108,109,110,111]),([97],[84,85,86,87,88,89,90,91,92,93,99,101,102,103,104,105,106,107,108,109,110,111]),([98],[84,85,86,87,88,89,90,91,92,93,99,103,104,105,106,107,108,109,110,111]),([99],[84,85,86,87,88,89,90,91,92,93,97,98,103,104,105,106,107,108,109,110,111]),([100],[84,85,86,87,88,89,90,91,92,93,107,108,109,110,111]),([101],[84,85,86,87,88,89,90,91,92,93,97,107,108,109,110,111]),([102],[84,85,86,87,88,89,90,91,92,93,94,95,97]),([103],[84,85,86,87,88,89,90,91,92,93,94,95,96,97,98,99,106,107,108,109,110,111]),([104],[84,85,86,87,88,89,90,91,92,93,94,95,96,97,98,99,107,108,109,110,111]),([105],[84,85,86,87,88,89,90,91,92,93,94,95,96,97,98,99]),([106],[84,85,86,87,88,89,90,91,92,93,94,95,96,97,98,99,103]),([107],[84,85,86,87,88,89,90,91,92,93,94,95,96,97,98,99,100,101,103,104,109,111]),([108],[84,85,86,87,88,89,90,91,92,93,94,95,96,97,98,99,100,101,103,104,109]),([109],[84,85,86,87,88,89,90,91,92,93,94,95,96,97,98,99,100,101,103,104,107,108]),([110],[84,85,86,87,88,89,90,91,92,93,94,95,96,97,98,99,100,101,103,104]),([111],[84,85,86,87,88,89,90,91,92,93,94,95,96,97,98,99,100,101,103,104,107])]
theorem same16_eq (a:Cache):same16 a a=true:=by simp [same16]
set_option maxHeartbeats 8000000 in
theorem cacheAgain_c (c_cap:Int) (c_l:List Res) (to:List Res) (hl:Small c_l.length) (hs:∀ r∈c_l,SmRes r) (hl2:Small to.length) (hs2:∀ r∈to,SmRes r) :
  CallR Tryz.prog 6 [.agg [.int .i64 c_cap,.slice false (avs c_l)],.slice false (avs to)] (.val (.bool true)):=by
 have f1:=few4_c c_l hl hs
 have f2:=few4_c to hl2 hs2
 by_cases hf1:fewAll c_l=true
 rotate_left
 ·have hf1:fewAll c_l=false:=by simpa using hf1
  rw [hf1] at f1
  refine CallR.go2 (T:=T) Tryz.call6 Tryz.func6 rfl Tryz.ntmps6 (congrArg Array.toList Tryz.results6) (by decide) fun ts hn h0 h1=>?_
  (repeat' (first
 | (with_reducible first|refine callX.by (f1) ?_|refine callX.by awake16_c ?_|refine callX.by (few4_c _ ?_ ?_) ?_|refine callX.by (ours_c _ _) ?_|refine callX.by (saneC_c _ _ ?_ ?_) ?_|refine callX.by (tsane_c _ ?_ ?_) ?_|refine callX.by (diff_c _ _ ?_ ?_ ?_) ?_|refine callX.by (theirs_c _ _) ?_|refine callX.by (same16_c _ _ _ _ ?_ ?_) ?_|refine callX.by (all4_c _ _ ?_ ?_) ?_|assumption|(refine Qw hK _ ?_; clear hK K)|refine Qw ‹_› _ ?_|refine Nx.out ‹_› ?_|refine Qi fun K hK=>?_|refine Qj T fun K hK=>?_|refine Qk (id:=7) T mixed Wd14 (by kernel_rfl) fun K hK=>?_|refine Qk (id:=11) T mixed Wd15 (by kernel_rfl) fun K hK=>?_|refine Ql fun A B hA hB=>?_|refine Qn ?_|refine Qr ?_)
 | ((with_reducible first|apply Qy|apply Qz|apply QA)<;>intro hb<;>try simp only [nr] at hb)
 | simp only [go_sem,↓reduceIte,reduceIte,Qa,Qh,Qb,Qc,Qd,Qe,Qf,Qg,reduceCtorEq, *,-hs,-hs2,-f1,-f2]
 | with_reducible refine fun (bn:Bool) hbn=>?_))
 have hl80:=few_len16 hf1
 rw [hf1] at f1
 by_cases hf2:fewAll to=true
 rotate_left
 ·have hf2:fewAll to=false:=by simpa using hf2
  rw [hf2] at f2
  refine CallR.go2 (T:=T) Tryz.call6 Tryz.func6 rfl Tryz.ntmps6 (congrArg Array.toList Tryz.results6) (by decide) fun ts hn h0 h1=>?_
  (repeat' (first
 | (with_reducible first|refine callX.by (f1) ?_|refine callX.by (f2) ?_|refine callX.by awake16_c ?_|refine callX.by (few4_c _ ?_ ?_) ?_|refine callX.by (ours_c _ _) ?_|refine callX.by (saneC_c _ _ ?_ ?_) ?_|refine callX.by (tsane_c _ ?_ ?_) ?_|refine callX.by (diff_c _ _ ?_ ?_ ?_) ?_|refine callX.by (theirs_c _ _) ?_|refine callX.by (same16_c _ _ _ _ ?_ ?_) ?_|refine callX.by (all4_c _ _ ?_ ?_) ?_|assumption|(refine Qw hK _ ?_; clear hK K)|refine Qw ‹_› _ ?_|refine Nx.out ‹_› ?_|refine Qi fun K hK=>?_|refine Qj T fun K hK=>?_|refine Qk (id:=7) T mixed Wd14 (by kernel_rfl) fun K hK=>?_|refine Qk (id:=11) T mixed Wd15 (by kernel_rfl) fun K hK=>?_|refine Ql fun A B hA hB=>?_|refine Qn ?_|refine Qr ?_)
 | ((with_reducible first|apply Qy|apply Qz|apply QA)<;>intro hb<;>try simp only [nr] at hb)
 | simp only [go_sem,↓reduceIte,reduceIte,Qa,Qh,Qb,Qc,Qd,Qe,Qf,Qg,reduceCtorEq, *,-hs,-hs2,-f1,-f2]
 | with_reducible refine fun (bn:Bool) hbn=>?_))
 have ha80:=few_len16 hf2
 rw [hf2] at f2
 have w0:=ours_c c_cap c_l
 have w1:=saneC_c c_cap c_l (by omega) hs
 by_cases hsn:saneC (⟨c_cap,c_l⟩:Cache)=true
 rotate_left
 ·have hsn:saneC (⟨c_cap,c_l⟩:Cache)=false:=by simpa using hsn
  rw [hsn] at w1
  refine CallR.go2 (T:=T) Tryz.call6 Tryz.func6 rfl Tryz.ntmps6 (congrArg Array.toList Tryz.results6) (by decide) fun ts hn h0 h1=>?_
  (repeat' (first
 | (with_reducible first|refine callX.by (f1) ?_|refine callX.by (f2) ?_|refine callX.by (w0) ?_|refine callX.by (w1) ?_|refine callX.by awake16_c ?_|refine callX.by (few4_c _ ?_ ?_) ?_|refine callX.by (ours_c _ _) ?_|refine callX.by (saneC_c _ _ ?_ ?_) ?_|refine callX.by (tsane_c _ ?_ ?_) ?_|refine callX.by (diff_c _ _ ?_ ?_ ?_) ?_|refine callX.by (theirs_c _ _) ?_|refine callX.by (same16_c _ _ _ _ ?_ ?_) ?_|refine callX.by (all4_c _ _ ?_ ?_) ?_|assumption|(refine Qw hK _ ?_; clear hK K)|refine Qw ‹_› _ ?_|refine Nx.out ‹_› ?_|refine Qi fun K hK=>?_|refine Qj T fun K hK=>?_|refine Qk (id:=7) T mixed Wd14 (by kernel_rfl) fun K hK=>?_|refine Qk (id:=11) T mixed Wd15 (by kernel_rfl) fun K hK=>?_|refine Ql fun A B hA hB=>?_|refine Qn ?_|refine Qr ?_)
 | ((with_reducible first|apply Qy|apply Qz|apply QA)<;>intro hb<;>try simp only [nr] at hb)
 | simp only [go_sem,↓reduceIte,reduceIte,Qa,Qh,Qb,Qc,Qd,Qe,Qf,Qg,reduceCtorEq, *,-hs,-hs2,-f1,-f2,-w0,-w1]
 | with_reducible refine fun (bn:Bool) hbn=>?_))
 rw [hsn] at w1
 have w2:=tsane_c to hl2 hs2
 by_cases ht:tsane to=0
 rotate_left
 ·refine CallR.go2 (T:=T) Tryz.call6 Tryz.func6 rfl Tryz.ntmps6 (congrArg Array.toList Tryz.results6) (by decide) fun ts hn h0 h1=>?_
  (repeat' (first
 | (with_reducible first|refine callX.by (f1) ?_|refine callX.by (f2) ?_|refine callX.by (w0) ?_|refine callX.by (w1) ?_|refine callX.by (w2) ?_|refine callX.by awake16_c ?_|refine callX.by (few4_c _ ?_ ?_) ?_|refine callX.by (ours_c _ _) ?_|refine callX.by (saneC_c _ _ ?_ ?_) ?_|refine callX.by (tsane_c _ ?_ ?_) ?_|refine callX.by (diff_c _ _ ?_ ?_ ?_) ?_|refine callX.by (theirs_c _ _) ?_|refine callX.by (same16_c _ _ _ _ ?_ ?_) ?_|refine callX.by (all4_c _ _ ?_ ?_) ?_|assumption|(refine Qw hK _ ?_; clear hK K)|refine Qw ‹_› _ ?_|refine Nx.out ‹_› ?_|refine Qi fun K hK=>?_|refine Qj T fun K hK=>?_|refine Qk (id:=7) T mixed Wd14 (by kernel_rfl) fun K hK=>?_|refine Qk (id:=11) T mixed Wd15 (by kernel_rfl) fun K hK=>?_|refine Ql fun A B hA hB=>?_|refine Qn ?_|refine Qr ?_)
 | ((with_reducible first|apply Qy|apply Qz|apply QA)<;>intro hb<;>try simp only [nr] at hb)
 | simp only [go_sem,↓reduceIte,reduceIte,Qa,Qh,Qb,Qc,Qd,Qe,Qf,Qg,reduceCtorEq, *,-hs,-hs2,-f1,-f2,-w0,-w1,-w2]
 | with_reducible refine fun (bn:Bool) hbn=>?_))
 rw [ht] at w2
 have hk:=saneC_iff.1 hsn
 have hca:=conf_of hk.2.1
 have hcb:=conf_of ht
 have w3:=diff_c c_l to hl hl2 hs
 have hD:=(diffA_sub c_l to).length_le
 have hDs:∀ r∈diffA c_l to,SmRes r:=fun r hr=>hs2 r ((diffA_sub c_l to).subset hr)
 have hG:=(diffG_sub c_l to).length_le
 rw [List.length_map] at hG
 have w4:=applyC_c c_cap c_l (diffA c_l to) (diffG c_l to) (by omega) (by unfold Small; omega) hs hDs
 rw [applyC_sane hsn,patch_diff hca.up hcb.up] at w4
 by_cases hm:mustE c_cap to=0
 ·rw [if_pos hm] at w4
  have hsd:saneC ⟨c_cap,to⟩=true:=saneC_iff.2 ⟨hk.1,mustE_iff.1 hm⟩
  have w5:=applyC_c c_cap to (diffA c_l to) (diffG c_l to) (by omega) (by unfold Small; omega) hs2 hDs
  rw [applyC_sane hsd,patch_again hca.up hcb.up,if_pos hm] at w5
  have w6:=diff_c to c_l hl2 hl hs2
  have hD2:=(diffA_sub to c_l).length_le
  have hDs2:∀ r∈diffA to c_l,SmRes r:=fun r hr=>hs r ((diffA_sub to c_l).subset hr)
  have hG2:=(diffG_sub to c_l).length_le
  rw [List.length_map] at hG2
  have w7:=applyC_c c_cap to (diffA to c_l) (diffG to c_l) (by omega) (by unfold Small; omega) hs2 hDs2
  rw [applyC_sane hsd,patch_diff hcb.up hca.up,if_pos (mustE_iff.2 hk.2)] at w7
  have w8:=theirs_c c_cap to
  have w9:=theirs_c c_cap c_l
  have w10:=same16_c c_cap to c_cap to hl2 hs2
  rw [same16_eq] at w10
  have w11:=same16_c c_cap c_l c_cap c_l hl hs
  rw [same16_eq] at w11
  have w12:=all4_c to to hl2 hs2
  rw [decide_eq_true rfl] at w12
  simp only at w4 w5 w7
  generalize diffA c_l to=D at *
  generalize diffG c_l to=G at *
  generalize diffA to c_l=D2 at *
  generalize diffG to c_l=G2 at *
  clear hs hs2 hDs hDs2 hk hca hcb hf1 hf2 hsn hsd ht hm
  refine CallR.go2 (T:=T) Tryz.call6 Tryz.func6 rfl Tryz.ntmps6 (congrArg Array.toList Tryz.results6) (by decide) fun ts hn h0 h1=>?_
  (repeat' (first
 | (with_reducible first|refine callX.by (f1) ?_|refine callX.by (f2) ?_|refine callX.by (w0) ?_|refine callX.by (w1) ?_|refine callX.by (w2) ?_|refine callX.by (w3) ?_|refine callX.by (w4) ?_|refine callX.by (w5) ?_|refine callX.by (w6) ?_|refine callX.by (w7) ?_|refine callX.by (w8) ?_|refine callX.by (w10) ?_|refine callX.by (w12) ?_|refine callX.by (w9) ?_|refine callX.by (w11) ?_|refine callX.by awake16_c ?_|refine callX.by (few4_c _ ?_ ?_) ?_|refine callX.by (ours_c _ _) ?_|refine callX.by (saneC_c _ _ ?_ ?_) ?_|refine callX.by (tsane_c _ ?_ ?_) ?_|refine callX.by (diff_c _ _ ?_ ?_ ?_) ?_|refine callX.by (theirs_c _ _) ?_|refine callX.by (same16_c _ _ _ _ ?_ ?_) ?_|refine callX.by (all4_c _ _ ?_ ?_) ?_|assumption|(refine Qw hK _ ?_; clear hK K)|refine Qw ‹_› _ ?_|refine Nx.out ‹_› ?_|refine Qi fun K hK=>?_|refine Qj T fun K hK=>?_|refine Qk (id:=7) T mixed Wd14 (by kernel_rfl) fun K hK=>?_|refine Qk (id:=11) T mixed Wd15 (by kernel_rfl) fun K hK=>?_|refine Ql fun A B hA hB=>?_|refine Qn ?_|refine Qr ?_)
 | ((with_reducible first|apply Qy|apply Qz|apply QA)<;>intro hb<;>try simp only [nr] at hb)
 | simp only [go_sem,↓reduceIte,reduceIte,Qa,Qh,Qb,Qc,Qd,Qe,Qf,Qg,reduceCtorEq, *,-f1,-f2,-w0,-w1,-w2,-w3,-w4,-w5,-w6,-w7,-w8,-w9,-w10,-w11,-w12]
 | with_reducible refine fun (bn:Bool) hbn=>?_))
  all_goals trace_state
 ·rw [if_neg hm] at w4
  have w9:=theirs_c c_cap c_l
  have w11:=same16_c c_cap c_l c_cap c_l hl hs
  rw [same16_eq] at w11
  simp only at w4
  generalize mustE c_cap to=e at *
  generalize diffA c_l to=D at *
  generalize diffG c_l to=G at *
  clear hs hs2 hDs hk hca hcb hf1 hf2 hsn ht
  refine CallR.go2 (T:=T) Tryz.call6 Tryz.func6 rfl Tryz.ntmps6 (congrArg Array.toList Tryz.results6) (by decide) fun ts hn h0 h1=>?_
  (repeat' (first
 | (with_reducible first|refine callX.by (f1) ?_|refine callX.by (f2) ?_|refine callX.by (w0) ?_|refine callX.by (w1) ?_|refine callX.by (w2) ?_|refine callX.by (w3) ?_|refine callX.by (w4) ?_|refine callX.by (w9) ?_|refine callX.by (w11) ?_|refine callX.by awake16_c ?_|refine callX.by (few4_c _ ?_ ?_) ?_|refine callX.by (ours_c _ _) ?_|refine callX.by (saneC_c _ _ ?_ ?_) ?_|refine callX.by (tsane_c _ ?_ ?_) ?_|refine callX.by (diff_c _ _ ?_ ?_ ?_) ?_|refine callX.by (theirs_c _ _) ?_|refine callX.by (same16_c _ _ _ _ ?_ ?_) ?_|refine callX.by (all4_c _ _ ?_ ?_) ?_|assumption|(refine Qw hK _ ?_; clear hK K)|refine Qw ‹_› _ ?_|refine Nx.out ‹_› ?_|refine Qi fun K hK=>?_|refine Qj T fun K hK=>?_|refine Qk (id:=7) T mixed Wd14 (by kernel_rfl) fun K hK=>?_|refine Qk (id:=11) T mixed Wd15 (by kernel_rfl) fun K hK=>?_|refine Ql fun A B hA hB=>?_|refine Qn ?_|refine Qr ?_)
 | ((with_reducible first|apply Qy|apply Qz|apply QA)<;>intro hb<;>try simp only [nr] at hb)
 | simp only [go_sem,↓reduceIte,reduceIte,Qa,Qh,Qb,Qc,Qd,Qe,Qf,Qg,reduceCtorEq, *,-f1,-f2,-w0,-w1,-w2,-w3,-w4,-w9,-w11]
 | with_reducible refine fun (bn:Bool) hbn=>?_))
  all_goals trace_state
end Go.Proofs.YtmjkjmoeicnbnaaGreatDoor.Lg
