/- Parts of the proof, one behind the other. -/
import Derived.Test.YtndnkbekhmndhaaGreatDoorG17
namespace Go.Proofs.YtndnkbekhmndhaaGreatDoor.Lg
set_option maxRecDepth 100000
set_option linter.unusedVariables false
set_option linter.unusedSimpArgs false
open Go
theorem eqFRes_c (fn:FuncId) (caps:List AV) (hc:Caps caps) (xs ys:List Res) (hp:∀ x∈xs,∀ y,CallR Tryz.prog fn (.agg [.int .i64 x.kind,.str x.name,.int .i64 x.ver,.int .i64 x.port,.str x.to',.slice false (avs x.rules'),.slice false (avs x.hosts)] :: .agg [.int .i64 y.kind,.str y.name,.int .i64 y.ver,.int .i64 y.port,.str y.to',.slice false (avs y.rules'),.slice false (avs y.hosts)] :: caps) (.val (.bool (decide (x=y))))) (hl:Small xs.length):CallR Tryz.prog 85 [.slice false (avs xs),.slice false (avs ys),.clo (.func fn) [] caps] (.val (.bool (decide (xs=ys)))):=by
 have hca:=hc.args
 have hcp:=hc.pure
 have hcn:=hc.nrm
 refine CallR.go3 (T:=T) Tryz.call85 Tryz.func85 rfl Tryz.ntmps85 (congrArg Array.toList Tryz.results85) (by decide) fun ts hn h0 h1 h2=>?_
 by_cases hll:xs.length=ys.length
 ·(repeat' (first
 | (with_reducible first|assumption|(refine NxK.out hK _ ?_; clear hK K)|refine NxK.out (by assumption) _ ?_|refine Nx.out (by assumption) ?_|refine SpecC.seqW fun K hK=>?_|refine SpecC.regW T fun K hK=>?_|refine SpecC.condW fun A B hA hB=>?_|refine SpecC.block ?_|refine SpecC.skip ?_|refine SpecC.exit ?_|refine SpecC.ret ?_)
 | ((with_reducible first|apply condK.split|apply gK.split_t|apply gK.split_f)<;>intro hb<;>try simp only [nr] at hb)
 | simp only [go_sem,↓reduceIte,reduceIte,Nat.reduceEqDiff,String.reduceEq,Nat.reduceLT,Nat.reduceLeDiff,Nat.reduceAdd,Nat.reduceMul,Nat.reduceSub,Nat.reduceBEq,reduceCtorEq, *,-hp]
 | with_reducible refine fun (bn:Bool) hbn=>?_))
  refine SpecC.loopF [1,2,15,16] (fun m ts'=>∃ (i:Nat),m=xs.length - i∧i≤xs.length∧xs.take i=ys.take i∧ts'.tmp 17=.int .i64 i) xs.length ?_ ?_
  ·refine ⟨0,?_⟩
   simp only [go_sem,↓reduceIte,reduceIte,Nat.reduceEqDiff,String.reduceEq,Nat.reduceLT,Nat.reduceLeDiff,Nat.reduceAdd,Nat.reduceMul,Nat.reduceSub,Nat.reduceBEq,reduceCtorEq, *,-hp]
  ·rintro m A hM ts' hk ⟨i,hm,f1,f2,s1⟩
   simp only [go_sem,↓reduceIte,reduceIte,Nat.reduceEqDiff,String.reduceEq,Nat.reduceLT,Nat.reduceLeDiff,Nat.reduceAdd,Nat.reduceMul,Nat.reduceSub,Nat.reduceBEq,reduceCtorEq, *] at hk
   by_cases hlt:i < xs.length
   ·have hlu:i < ys.length:=by omega
    have hne:=take_ne hlt hlu
    have hpi:=hp _ (List.getElem_mem hlt) ys[i]
    (repeat' (first
 | (with_reducible first|refine callX.by (hpi) ?_|assumption|(refine NxK.out hK _ ?_; clear hK K)|refine NxK.out (by assumption) _ ?_|refine Nx.out (by assumption) ?_|refine SpecC.seqW fun K hK=>?_|refine SpecC.regW T fun K hK=>?_|refine SpecC.condW fun A B hA hB=>?_|refine SpecC.block ?_|refine SpecC.skip ?_|refine SpecC.exit ?_|refine SpecC.ret ?_)
 | ((with_reducible first|apply condK.split|apply gK.split_t|apply gK.split_f)<;>intro hb<;>try simp only [nr] at hb)
 | simp only [go_sem,↓reduceIte,reduceIte,Nat.reduceEqDiff,String.reduceEq,Nat.reduceLT,Nat.reduceLeDiff,Nat.reduceAdd,Nat.reduceMul,Nat.reduceSub,Nat.reduceBEq,reduceCtorEq, *,-hp,-hpi]
 | with_reducible refine fun (bn:Bool) hbn=>?_))
    all_goals ((repeat clear hK); (repeat clear hA); (repeat clear hB))
    all_goals first
     | (refine hM.on (xs.length - (i+1)) (by omega) (by simp only [go_sem,↓reduceIte,reduceIte,Nat.reduceEqDiff,String.reduceEq,Nat.reduceLT,Nat.reduceLeDiff,Nat.reduceAdd,Nat.reduceMul,Nat.reduceSub,Nat.reduceBEq,reduceCtorEq, *,w64_nat hlt hl,-hp,-hpi]) ⟨i+1,rfl,by omega,take_get f2 hlt hlu (of_decide_eq_true hb),?_⟩; simp only [go_sem,↓reduceIte,reduceIte,Nat.reduceEqDiff,String.reduceEq,Nat.reduceLT,Nat.reduceLeDiff,Nat.reduceAdd,Nat.reduceMul,Nat.reduceSub,Nat.reduceBEq,reduceCtorEq, *,w64_nat hlt hl,-hp,-hpi]; done)
     | (clear hM hp hpi; grind)
   ·have:=take_all f2 hlt hll
    (repeat' (first
 | (with_reducible first|assumption|(refine NxK.out hK _ ?_; clear hK K)|refine NxK.out (by assumption) _ ?_|refine Nx.out (by assumption) ?_|refine SpecC.seqW fun K hK=>?_|refine SpecC.regW T fun K hK=>?_|refine SpecC.condW fun A B hA hB=>?_|refine SpecC.block ?_|refine SpecC.skip ?_|refine SpecC.exit ?_|refine SpecC.ret ?_)
 | ((with_reducible first|apply condK.split|apply gK.split_t|apply gK.split_f)<;>intro hb<;>try simp only [nr] at hb)
 | simp only [go_sem,↓reduceIte,reduceIte,Nat.reduceEqDiff,String.reduceEq,Nat.reduceLT,Nat.reduceLeDiff,Nat.reduceAdd,Nat.reduceMul,Nat.reduceSub,Nat.reduceBEq,reduceCtorEq, *,-hp]
 | with_reducible refine fun (bn:Bool) hbn=>?_))
    all_goals ((repeat clear hK); (repeat clear hA); (repeat clear hB))
    all_goals (clear hM hp; grind)
 ·have:¬ xs=ys:=by rintro rfl; exact hll rfl
  (repeat' (first
 | (with_reducible first|assumption|(refine NxK.out hK _ ?_; clear hK K)|refine NxK.out (by assumption) _ ?_|refine Nx.out (by assumption) ?_|refine SpecC.seqW fun K hK=>?_|refine SpecC.regW T fun K hK=>?_|refine SpecC.condW fun A B hA hB=>?_|refine SpecC.block ?_|refine SpecC.skip ?_|refine SpecC.exit ?_|refine SpecC.ret ?_)
 | ((with_reducible first|apply condK.split|apply gK.split_t|apply gK.split_f)<;>intro hb<;>try simp only [nr] at hb)
 | simp only [go_sem,↓reduceIte,reduceIte,Nat.reduceEqDiff,String.reduceEq,Nat.reduceLT,Nat.reduceLeDiff,Nat.reduceAdd,Nat.reduceMul,Nat.reduceSub,Nat.reduceBEq,reduceCtorEq, *,-hp]
 | with_reducible refine fun (bn:Bool) hbn=>?_))
  all_goals ((repeat clear hK); (repeat clear hA); (repeat clear hB))
  all_goals (clear hp; grind)
theorem tsame_c (xs ys:List Res) (hl:Small xs.length) (hs:∀ x∈xs,SmRes x):CallR Tryz.prog 38 [.slice false (avs xs),.slice false (avs ys)] (.val (.bool (decide (xs=ys)))):=by
 have w1:=eqFRes_c 86 [] Caps.nil xs ys (fun x hx y=>sameP_c x.kind x.name x.ver x.port x.to' x.rules' x.hosts y.kind y.name y.ver y.port y.to' y.rules' y.hosts (hs x hx).2.2.2.2 (hs x hx).2.2.1 (hs x hx).2.2.2.1) hl
 refine CallR.go2 (T:=T) Tryz.call38 Tryz.func38 rfl Tryz.ntmps38 (congrArg Array.toList Tryz.results38) (by decide) fun ts hn h0 h1=>?_
 (repeat' (first
 | (with_reducible first|refine callX.by (w1) ?_|refine callX.by (eqFRes_c _ _ ?_ _ _ ?_ ?_) ?_|refine callX.by (sameP_c _ _ _ _ _ _ _ _ _ _ _ _ _ _ ?_ ?_ ?_) ?_|refine callX.by awqm ?_|assumption|(refine NxK.out hK _ ?_; clear hK K)|refine NxK.out (by assumption) _ ?_|refine Nx.out (by assumption) ?_|refine SpecC.seqW fun K hK=>?_|refine SpecC.regW T fun K hK=>?_|refine SpecC.condW fun A B hA hB=>?_|refine SpecC.skip ?_|refine SpecC.ret ?_)
 | ((with_reducible first|apply condK.split|apply gK.split_t|apply gK.split_f)<;>intro hb<;>try simp only [nr] at hb)
 | simp only [go_sem,↓reduceIte,reduceIte,Nat.reduceEqDiff,String.reduceEq,Nat.reduceLT,Nat.reduceLeDiff,Nat.reduceAdd,Nat.reduceMul,Nat.reduceSub,Nat.reduceBEq,reduceCtorEq, *,-hs,-w1]
 | with_reducible refine fun (bn:Bool) hbn=>?_))
theorem newW_c (n:Int):CallR Tryz.prog 35 [.int .i64 n] (.val (.agg [.int .i64 (bnd n),.slice false [],.bool false,.slice false []])):=by
 have w0:=newC_c n
 refine CallR.go1 (T:=T) Tryz.call35 Tryz.func35 rfl Tryz.ntmps35 (congrArg Array.toList Tryz.results35) (by decide) fun ts hn h0=>?_
 (repeat' (first
 | (with_reducible first|refine callX.by (w0) ?_|refine callX.by (newC_c _) ?_|assumption|(refine NxK.out hK _ ?_; clear hK K)|refine NxK.out (by assumption) _ ?_|refine Nx.out (by assumption) ?_|refine SpecC.seqW fun K hK=>?_|refine SpecC.regW T fun K hK=>?_|refine SpecC.condW fun A B hA hB=>?_|refine SpecC.skip ?_|refine SpecC.ret ?_)
 | ((with_reducible first|apply condK.split|apply gK.split_t|apply gK.split_f)<;>intro hb<;>try simp only [nr] at hb)
 | simp only [go_sem,↓reduceIte,reduceIte,Nat.reduceEqDiff,String.reduceEq,Nat.reduceLT,Nat.reduceLeDiff,Nat.reduceAdd,Nat.reduceMul,Nat.reduceSub,Nat.reduceBEq,reduceCtorEq, *,-w0]
 | with_reducible refine fun (bn:Bool) hbn=>?_))
def saneW (w:Warm):Bool:=saneC w.c && decide (w.shown=shownC w.c) && (w.ready || decide (w.shown=[]))
theorem saneW_c (w_c_cap:Int) (w_c_l:List Res) (w_ready:Bool) (w_shown:List Res) (hl:w_c_l.length≤65536) (hs:∀ r∈w_c_l,SmRes r) (hl2:Small w_shown.length) (hs2:∀ r∈w_shown,SmRes r):CallR Tryz.prog 31 [.agg [.int .i64 w_c_cap,.slice false (avs w_c_l),.bool w_ready,.slice false (avs w_shown)]] (.val (.bool (saneW (⟨⟨w_c_cap,w_c_l⟩,w_ready,w_shown⟩:Warm)))):=by
 have w1:=saneC_c w_c_cap w_c_l hl hs
 have w2:=(shownC_c w_c_cap w_c_l hl hs).frz
 have w3:=tsame_c w_shown (shownC ⟨w_c_cap,w_c_l⟩) hl2 hs2
 have hlen:decide ((w_shown.length:Int)=0)=decide (w_shown=[]):=by
  rw [Bool.eq_iff_iff]; simp
 unfold saneW
 simp only
 generalize shownC ⟨w_c_cap,w_c_l⟩=sh at *
 cases hb0:saneC ⟨w_c_cap,w_c_l⟩
 ·rw [hb0] at w1
  refine CallR.go1 (T:=T) Tryz.call31 Tryz.func31 rfl Tryz.ntmps31 (congrArg Array.toList Tryz.results31) (by decide) fun ts hn h0=>?_
  (repeat' (first
 | (with_reducible first|refine callX.by (w1) ?_|refine callX.by (saneC_c _ _ ?_ ?_) ?_|refine callX.by (shownC_c _ _ ?_ ?_) ?_|refine callX.by (tsame_c _ _ ?_ ?_) ?_|assumption|(refine NxK.out hK _ ?_; clear hK K)|refine NxK.out (by assumption) _ ?_|refine Nx.out (by assumption) ?_|refine SpecC.seqW fun K hK=>?_|refine SpecC.regW T fun K hK=>?_|refine SpecC.drawW (id:=1) T mixed [([3],[6,7,8,9,10,11,12,13,14,15,16,17,18,19,20,21]),([4],[7,8,9,10,11,12,13,14,15,16,17,18,19,20,21]),([5],[14,15,16,17,18,19,20,21]),([6],[3,15,16,17,18,19,20,21]),([7],[3,4,9,10,11,13,14,15,16,17,18,19,20,21]),([8],[3,4,9,10,11,15,16,17,18,19,20,21]),([9],[3,4,7,8,12,13,14,15,16,17,18,19,20,21]),([10],[3,4,7,8,13,14,15,16,17,18,19,20,21]),([11],[3,4,7,8,15,16,17,18,19,20,21]),([12],[3,4,9,18,19,20,21]),([13],[3,4,7,9,10,18,19,20,21]),([14],[3,4,5,7,9,10]),([15],[3,4,5,6,7,8,9,10,11,18,19,20,21]),([16],[3,4,5,6,7,8,9,10,11]),([17],[3,4,5,6,7,8,9,10,11]),([18],[3,4,5,6,7,8,9,10,11,12,13,15,21]),([19],[3,4,5,6,7,8,9,10,11,12,13,15]),([20],[3,4,5,6,7,8,9,10,11,12,13,15]),([21],[3,4,5,6,7,8,9,10,11,12,13,15,18])] (by kernel_rfl) fun K hK=>?_|refine SpecC.condW fun A B hA hB=>?_|refine SpecC.skip ?_|refine SpecC.ret ?_)
 | ((with_reducible first|apply condK.split|apply gK.split_t|apply gK.split_f)<;>intro hb<;>try simp only [nr] at hb)
 | simp only [go_sem,↓reduceIte,reduceIte,Nat.reduceEqDiff,String.reduceEq,Nat.reduceLT,Nat.reduceLeDiff,Nat.reduceAdd,Nat.reduceMul,Nat.reduceSub,Nat.reduceBEq,reduceCtorEq, *,-hs,-hs2,-w1,-w2,-w3]
 | with_reducible refine fun (bn:Bool) hbn=>?_))
 ·rw [hb0] at w1
  by_cases hsh:w_shown=sh
  ·rw [decide_eq_true hsh] at w3
   cases w_ready
   ·refine CallR.go1 (T:=T) Tryz.call31 Tryz.func31 rfl Tryz.ntmps31 (congrArg Array.toList Tryz.results31) (by decide) fun ts hn h0=>?_
    (repeat' (first
 | (with_reducible first|refine callX.by (w1) ?_|refine callX.by (w2) ?_|refine callX.by (w3) ?_|refine callX.by (saneC_c _ _ ?_ ?_) ?_|refine callX.by (shownC_c _ _ ?_ ?_) ?_|refine callX.by (tsame_c _ _ ?_ ?_) ?_|assumption|(refine NxK.out hK _ ?_; clear hK K)|refine NxK.out (by assumption) _ ?_|refine Nx.out (by assumption) ?_|refine SpecC.seqW fun K hK=>?_|refine SpecC.regW T fun K hK=>?_|refine SpecC.drawW (id:=1) T mixed [([3],[6,7,8,9,10,11,12,13,14,15,16,17,18,19,20,21]),([4],[7,8,9,10,11,12,13,14,15,16,17,18,19,20,21]),([5],[14,15,16,17,18,19,20,21]),([6],[3,15,16,17,18,19,20,21]),([7],[3,4,9,10,11,13,14,15,16,17,18,19,20,21]),([8],[3,4,9,10,11,15,16,17,18,19,20,21]),([9],[3,4,7,8,12,13,14,15,16,17,18,19,20,21]),([10],[3,4,7,8,13,14,15,16,17,18,19,20,21]),([11],[3,4,7,8,15,16,17,18,19,20,21]),([12],[3,4,9,18,19,20,21]),([13],[3,4,7,9,10,18,19,20,21]),([14],[3,4,5,7,9,10]),([15],[3,4,5,6,7,8,9,10,11,18,19,20,21]),([16],[3,4,5,6,7,8,9,10,11]),([17],[3,4,5,6,7,8,9,10,11]),([18],[3,4,5,6,7,8,9,10,11,12,13,15,21]),([19],[3,4,5,6,7,8,9,10,11,12,13,15]),([20],[3,4,5,6,7,8,9,10,11,12,13,15]),([21],[3,4,5,6,7,8,9,10,11,12,13,15,18])] (by kernel_rfl) fun K hK=>?_|refine SpecC.condW fun A B hA hB=>?_|refine SpecC.skip ?_|refine SpecC.ret ?_)
 | ((with_reducible first|apply condK.split|apply gK.split_t|apply gK.split_f)<;>intro hb<;>try simp only [nr] at hb)
 | simp only [go_sem,↓reduceIte,reduceIte,Nat.reduceEqDiff,String.reduceEq,Nat.reduceLT,Nat.reduceLeDiff,Nat.reduceAdd,Nat.reduceMul,Nat.reduceSub,Nat.reduceBEq,reduceCtorEq, *,-hs,-hs2,-w1,-w2,-w3,-hsh]
 | with_reducible refine fun (bn:Bool) hbn=>?_))
    all_goals simp_all
   ·refine CallR.go1 (T:=T) Tryz.call31 Tryz.func31 rfl Tryz.ntmps31 (congrArg Array.toList Tryz.results31) (by decide) fun ts hn h0=>?_
    (repeat' (first
 | (with_reducible first|refine callX.by (w1) ?_|refine callX.by (w2) ?_|refine callX.by (w3) ?_|refine callX.by (saneC_c _ _ ?_ ?_) ?_|refine callX.by (shownC_c _ _ ?_ ?_) ?_|refine callX.by (tsame_c _ _ ?_ ?_) ?_|assumption|(refine NxK.out hK _ ?_; clear hK K)|refine NxK.out (by assumption) _ ?_|refine Nx.out (by assumption) ?_|refine SpecC.seqW fun K hK=>?_|refine SpecC.regW T fun K hK=>?_|refine SpecC.drawW (id:=1) T mixed [([3],[6,7,8,9,10,11,12,13,14,15,16,17,18,19,20,21]),([4],[7,8,9,10,11,12,13,14,15,16,17,18,19,20,21]),([5],[14,15,16,17,18,19,20,21]),([6],[3,15,16,17,18,19,20,21]),([7],[3,4,9,10,11,13,14,15,16,17,18,19,20,21]),([8],[3,4,9,10,11,15,16,17,18,19,20,21]),([9],[3,4,7,8,12,13,14,15,16,17,18,19,20,21]),([10],[3,4,7,8,13,14,15,16,17,18,19,20,21]),([11],[3,4,7,8,15,16,17,18,19,20,21]),([12],[3,4,9,18,19,20,21]),([13],[3,4,7,9,10,18,19,20,21]),([14],[3,4,5,7,9,10]),([15],[3,4,5,6,7,8,9,10,11,18,19,20,21]),([16],[3,4,5,6,7,8,9,10,11]),([17],[3,4,5,6,7,8,9,10,11]),([18],[3,4,5,6,7,8,9,10,11,12,13,15,21]),([19],[3,4,5,6,7,8,9,10,11,12,13,15]),([20],[3,4,5,6,7,8,9,10,11,12,13,15]),([21],[3,4,5,6,7,8,9,10,11,12,13,15,18])] (by kernel_rfl) fun K hK=>?_|refine SpecC.condW fun A B hA hB=>?_|refine SpecC.skip ?_|refine SpecC.ret ?_)
 | ((with_reducible first|apply condK.split|apply gK.split_t|apply gK.split_f)<;>intro hb<;>try simp only [nr] at hb)
 | simp only [go_sem,↓reduceIte,reduceIte,Nat.reduceEqDiff,String.reduceEq,Nat.reduceLT,Nat.reduceLeDiff,Nat.reduceAdd,Nat.reduceMul,Nat.reduceSub,Nat.reduceBEq,reduceCtorEq, *,-hs,-hs2,-w1,-w2,-w3,-hsh]
 | with_reducible refine fun (bn:Bool) hbn=>?_))
    all_goals simp_all
  ·rw [decide_eq_false hsh] at w3
   refine CallR.go1 (T:=T) Tryz.call31 Tryz.func31 rfl Tryz.ntmps31 (congrArg Array.toList Tryz.results31) (by decide) fun ts hn h0=>?_
   (repeat' (first
 | (with_reducible first|refine callX.by (w1) ?_|refine callX.by (w2) ?_|refine callX.by (w3) ?_|refine callX.by (saneC_c _ _ ?_ ?_) ?_|refine callX.by (shownC_c _ _ ?_ ?_) ?_|refine callX.by (tsame_c _ _ ?_ ?_) ?_|assumption|(refine NxK.out hK _ ?_; clear hK K)|refine NxK.out (by assumption) _ ?_|refine Nx.out (by assumption) ?_|refine SpecC.seqW fun K hK=>?_|refine SpecC.regW T fun K hK=>?_|refine SpecC.drawW (id:=1) T mixed [([3],[6,7,8,9,10,11,12,13,14,15,16,17,18,19,20,21]),([4],[7,8,9,10,11,12,13,14,15,16,17,18,19,20,21]),([5],[14,15,16,17,18,19,20,21]),([6],[3,15,16,17,18,19,20,21]),([7],[3,4,9,10,11,13,14,15,16,17,18,19,20,21]),([8],[3,4,9,10,11,15,16,17,18,19,20,21]),([9],[3,4,7,8,12,13,14,15,16,17,18,19,20,21]),([10],[3,4,7,8,13,14,15,16,17,18,19,20,21]),([11],[3,4,7,8,15,16,17,18,19,20,21]),([12],[3,4,9,18,19,20,21]),([13],[3,4,7,9,10,18,19,20,21]),([14],[3,4,5,7,9,10]),([15],[3,4,5,6,7,8,9,10,11,18,19,20,21]),([16],[3,4,5,6,7,8,9,10,11]),([17],[3,4,5,6,7,8,9,10,11]),([18],[3,4,5,6,7,8,9,10,11,12,13,15,21]),([19],[3,4,5,6,7,8,9,10,11,12,13,15]),([20],[3,4,5,6,7,8,9,10,11,12,13,15]),([21],[3,4,5,6,7,8,9,10,11,12,13,15,18])] (by kernel_rfl) fun K hK=>?_|refine SpecC.condW fun A B hA hB=>?_|refine SpecC.skip ?_|refine SpecC.ret ?_)
 | ((with_reducible first|apply condK.split|apply gK.split_t|apply gK.split_f)<;>intro hb<;>try simp only [nr] at hb)
 | simp only [go_sem,↓reduceIte,reduceIte,Nat.reduceEqDiff,String.reduceEq,Nat.reduceLT,Nat.reduceLeDiff,Nat.reduceAdd,Nat.reduceMul,Nat.reduceSub,Nat.reduceBEq,reduceCtorEq, *,-hs,-hs2,-w1,-w2,-w3,-hsh]
 | with_reducible refine fun (bn:Bool) hbn=>?_))
   all_goals simp_all
def saneOfW (w:Warm):Warm:=if saneW w=true then w else ⟨⟨bnd w.c.cap,[]⟩,false,[]⟩
theorem saneOfW_c (w_c_cap:Int) (w_c_l:List Res) (w_ready:Bool) (w_shown:List Res) (hl:w_c_l.length≤65536) (hs:∀ r∈w_c_l,SmRes r) (hl2:Small w_shown.length) (hs2:∀ r∈w_shown,SmRes r):CallR Tryz.prog 74 [.agg [.int .i64 w_c_cap,.slice false (avs w_c_l),.bool w_ready,.slice false (avs w_shown)]] (.val (.agg [.int .i64 (saneOfW (⟨⟨w_c_cap,w_c_l⟩,w_ready,w_shown⟩:Warm)).c.cap,.slice false (avs (saneOfW (⟨⟨w_c_cap,w_c_l⟩,w_ready,w_shown⟩:Warm)).c.l),.bool (saneOfW (⟨⟨w_c_cap,w_c_l⟩,w_ready,w_shown⟩:Warm)).ready,.slice false (avs (saneOfW (⟨⟨w_c_cap,w_c_l⟩,w_ready,w_shown⟩:Warm)).shown)])):=by
 have w1:=saneW_c w_c_cap w_c_l w_ready w_shown hl hs hl2 hs2
 unfold saneOfW
 cases hb0:saneW (⟨⟨w_c_cap,w_c_l⟩,w_ready,w_shown⟩:Warm)
 ·rw [hb0] at w1
  refine CallR.go1 (T:=T) Tryz.call74 Tryz.func74 rfl Tryz.ntmps74 (congrArg Array.toList Tryz.results74) (by decide) fun ts hn h0=>?_
  (repeat' (first
 | (with_reducible first|refine callX.by (w1) ?_|refine callX.by (saneW_c _ _ _ _ ?_ ?_ ?_ ?_) ?_|refine callX.by (newW_c _) ?_|assumption|(refine NxK.out hK _ ?_; clear hK K)|refine NxK.out (by assumption) _ ?_|refine Nx.out (by assumption) ?_|refine SpecC.seqW fun K hK=>?_|refine SpecC.regW T fun K hK=>?_|refine SpecC.condW fun A B hA hB=>?_|refine SpecC.skip ?_|refine SpecC.ret ?_)
 | ((with_reducible first|apply condK.split|apply gK.split_t|apply gK.split_f)<;>intro hb<;>try simp only [nr] at hb)
 | simp only [go_sem,↓reduceIte,reduceIte,Nat.reduceEqDiff,String.reduceEq,Nat.reduceLT,Nat.reduceLeDiff,Nat.reduceAdd,Nat.reduceMul,Nat.reduceSub,Nat.reduceBEq,reduceCtorEq, *,-hs,-hs2,-w1]
 | with_reducible refine fun (bn:Bool) hbn=>?_))
  all_goals rfl
 ·rw [hb0] at w1
  refine CallR.go1 (T:=T) Tryz.call74 Tryz.func74 rfl Tryz.ntmps74 (congrArg Array.toList Tryz.results74) (by decide) fun ts hn h0=>?_
  (repeat' (first
 | (with_reducible first|refine callX.by (w1) ?_|refine callX.by (saneW_c _ _ _ _ ?_ ?_ ?_ ?_) ?_|refine callX.by (newW_c _) ?_|assumption|(refine NxK.out hK _ ?_; clear hK K)|refine NxK.out (by assumption) _ ?_|refine Nx.out (by assumption) ?_|refine SpecC.seqW fun K hK=>?_|refine SpecC.regW T fun K hK=>?_|refine SpecC.condW fun A B hA hB=>?_|refine SpecC.skip ?_|refine SpecC.ret ?_)
 | ((with_reducible first|apply condK.split|apply gK.split_t|apply gK.split_f)<;>intro hb<;>try simp only [nr] at hb)
 | simp only [go_sem,↓reduceIte,reduceIte,Nat.reduceEqDiff,String.reduceEq,Nat.reduceLT,Nat.reduceLeDiff,Nat.reduceAdd,Nat.reduceMul,Nat.reduceSub,Nat.reduceBEq,reduceCtorEq, *,-hs,-hs2,-w1]
 | with_reducible refine fun (bn:Bool) hbn=>?_))
  all_goals trace_state
theorem few_len16 {l:List Res} (h:fewAll l=true):l.length≤80:=by
 simp only [fewAll,Bool.and_eq_true,decide_eq_true_eq] at h
 omega
def goodE (l:List Res):Bool:=decide (tsane l=0) && decide (served l=0)
theorem goodN_c (xs:List Res) (hl:xs.length≤65536) (hs:∀ r∈xs,SmRes r) (hn:¬ tsane xs=0):CallR Tryz.prog 37 [.slice false (avs xs)] (.val (.bool false)):=by
 have hl2:=small_le hl
 refine CallR.go1 (T:=T) Tryz.call37 Tryz.func37 rfl Tryz.ntmps37 (congrArg Array.toList Tryz.results37) (by decide) fun ts hn h0=>?_
 (repeat' (first
 | (with_reducible first|refine callX.by (tsane_c _ ?_ ?_) ?_|refine callX.by (served_c _ ?_ ?_ ?_) ?_|refine callX.by a6sc ?_|assumption|(refine NxK.out hK _ ?_; clear hK K)|refine NxK.out (by assumption) _ ?_|refine Nx.out (by assumption) ?_|refine SpecC.seqW fun K hK=>?_|refine SpecC.regW T fun K hK=>?_|refine SpecC.condW fun A B hA hB=>?_|refine SpecC.skip ?_|refine SpecC.ret ?_)
 | ((with_reducible first|apply condK.split|apply gK.split_t|apply gK.split_f)<;>intro hb<;>try simp only [nr] at hb)
 | simp only [go_sem,↓reduceIte,reduceIte,Nat.reduceEqDiff,String.reduceEq,Nat.reduceLT,Nat.reduceLeDiff,Nat.reduceAdd,Nat.reduceMul,Nat.reduceSub,Nat.reduceBEq,reduceCtorEq, *,-hs]
 | with_reducible refine fun (bn:Bool) hbn=>?_))
theorem goodS_c (xs:List Res) (hl:xs.length≤65536) (hs:∀ r∈xs,SmRes r) (hn:tsane xs=0) (hnd:(xs.map keyOf).Nodup):CallR Tryz.prog 37 [.slice false (avs xs)] (.val (.bool (decide (served xs=0)))):=by
 have hl2:=small_le hl
 refine CallR.go1 (T:=T) Tryz.call37 Tryz.func37 rfl Tryz.ntmps37 (congrArg Array.toList Tryz.results37) (by decide) fun ts hn h0=>?_
 (repeat' (first
 | (with_reducible first|refine callX.by (tsane_c _ ?_ ?_) ?_|refine callX.by (served_c _ ?_ ?_ ?_) ?_|refine callX.by a6sc ?_|assumption|(refine NxK.out hK _ ?_; clear hK K)|refine NxK.out (by assumption) _ ?_|refine Nx.out (by assumption) ?_|refine SpecC.seqW fun K hK=>?_|refine SpecC.regW T fun K hK=>?_|refine SpecC.condW fun A B hA hB=>?_|refine SpecC.skip ?_|refine SpecC.ret ?_)
 | ((with_reducible first|apply condK.split|apply gK.split_t|apply gK.split_f)<;>intro hb<;>try simp only [nr] at hb)
 | simp only [go_sem,↓reduceIte,reduceIte,Nat.reduceEqDiff,String.reduceEq,Nat.reduceLT,Nat.reduceLeDiff,Nat.reduceAdd,Nat.reduceMul,Nat.reduceSub,Nat.reduceBEq,reduceCtorEq, *,-hs,-hnd]
 | with_reducible refine fun (bn:Bool) hbn=>?_))
theorem goodE_c (xs:List Res) (hl:xs.length≤65536) (hs:∀ r∈xs,SmRes r) (hnd:tsane xs=0→(xs.map keyOf).Nodup):CallR Tryz.prog 37 [.slice false (avs xs)] (.val (.bool (goodE xs))):=by
 by_cases h:tsane xs=0
 ·have:=goodS_c xs hl hs h (hnd h)
  unfold goodE
  rw [decide_eq_true h,Bool.true_and]
  exact this
 ·have:=goodN_c xs hl hs h
  unfold goodE
  rw [decide_eq_false h,Bool.false_and]
  exact this
end Go.Proofs.YtndnkbekhmndhaaGreatDoor.Lg
namespace Go.Proofs.YtndnkbekhmndhaaGreatDoor.Lg
set_option maxRecDepth 100000
set_option linter.unusedVariables false
set_option linter.unusedSimpArgs false
open Go
section
variable {l:List Res} (hc:Conf l) (hv:served l=0)
include hc
include hv
end
end Go.Proofs.YtndnkbekhmndhaaGreatDoor.Lg
namespace Go.Proofs.YtndnkbekhmndhaaGreatDoor.Lg
set_option maxRecDepth 100000
set_option linter.unusedVariables false
set_option linter.unusedSimpArgs false
open Go
theorem tkind0_reach {l:List Res} (h:(l.map keyOf).Nodup):tkind (reachR l) 0=tkind l 0:=by
 unfold tkind reachR
 rw [List.filter_filter]
 refine List.filter_congr fun r hr=>?_
 by_cases hk:r.kind=0
 ·rw [(reached_iff h (keyOf r)).2 (.base r hr hk)]; simp
 ·simp [hk]
theorem tsane_parts {l:List Res} (h:tsane l=0):portsM (tkind l 0) []=true:=by
 unfold tsane at h
 split at h
 ·cases h
 ·split at h
  ·rename_i h2; exact absurd h h2
  ·split at h
   ·cases h
   ·split at h
    ·cases h
    ·rename_i h4; simpa using h4
theorem tsane_of {l:List Res} (h1:l.length≤64) (h2:∀ r∈l,saneR r=0) (h3:Up (l.map keyOf)) (h4:portsM (tkind l 0) []=true):tsane l=0:=by
 unfold tsane
 rw [if_neg (by omega),if_neg (by rw [firstBad_of h2]; simp),if_neg (by rw [(upR_iff l).2 h3]; simp),if_neg (by rw [h4]; simp)]
theorem tsane_reach {l:List Res} (h:tsane l=0):tsane (reachR l)=0:=by
 have hc:=conf_of h
 refine tsane_of (Nat.le_trans (reachR_len l) hc.len) (fun r hr=>hc.sane r ((reachR_sub l).subset hr)) (hc.up.sublist ((reachR_sub l).map _)) ?_
 rw [tkind0_reach hc.nodup]
 exact tsane_parts h
theorem good_reach_good {l:List Res} (h:tsane l=0) (hv:served l=0):goodE (reachR l)=true:=by
 unfold goodE
 rw [tsane_reach h,served_reach (conf_of h).nodup,hv]; rfl
theorem mustE_iff {cap:Int} {l:List Res}:mustE cap l=0↔tsane l=0∧(l.length:Int)≤cap∧served l=0:=by
 unfold mustE
 by_cases h1:tsane l=0
 ·by_cases h2:(l.length:Int)≤cap
  ·simp [h1,h2]
  ·simp [h1,h2]
 ·simp [h1]
theorem saneC_iff {c:Cache}:saneC c=true↔c.cap=bnd c.cap∧tsane c.l=0∧(c.l.length:Int)≤c.cap∧served c.l=0:=by
 unfold saneC
 simp only [Bool.and_eq_true,decide_eq_true_eq,mustE_iff]
theorem tsane_len {l:List Res} (h:tsane l=0):l.length≤64:=by
 unfold tsane at h
 split at h
 ·cases h
 ·omega
theorem applyC_sane {c:Cache} (h:saneC c=true) (adds:List Res) (gone:List Key) :
  applyC c adds gone=if mustE c.cap (patchR c.l adds gone)=0 then (⟨c.cap,patchR c.l adds gone⟩,0) else (c,mustE c.cap (patchR c.l adds gone)):=by
 have hof:saneOf c=c:=by unfold saneOf; rw [if_pos h]
 unfold applyC
 rw [hof]
theorem applyC_keeps {c:Cache} (h:saneC c=true) (adds:List Res) (gone:List Key):saneC (applyC c adds gone).1=true:=by
 rw [applyC_sane h]
 split
 ·rename_i hm
  rw [mustE_iff] at hm
  rw [saneC_iff] at h ⊢
  exact ⟨h.1,hm⟩
 ·exact h
theorem bnd_rng (n:Int):0≤bnd n∧bnd n≤64:=by unfold bnd; omega
theorem bnd_bnd (n:Int):bnd (bnd n)=bnd n:=by unfold bnd; omega
theorem newC_sane (n:Int):saneC ⟨bnd n,[]⟩=true:=by
 rw [saneC_iff]
 have h1:tsane []=0:=by decide
 have h2:served []=0:=by decide
 exact ⟨(bnd_bnd n).symm,h1,by simp [(bnd_rng n).1],h2⟩
def same16 (a b:Cache):Bool:=decide (a.cap=b.cap) && decide (a.l=b.l)
theorem same16_c (a_cap:Int) (a_l:List Res) (b_cap:Int) (b_l:List Res) (hl:Small a_l.length) (hs:∀ r∈a_l,SmRes r):CallR Tryz.prog 79 [.agg [.int .i64 a_cap,.slice false (avs a_l)],.agg [.int .i64 b_cap,.slice false (avs b_l)]] (.val (.bool (same16 (⟨a_cap,a_l⟩:Cache) (⟨b_cap,b_l⟩:Cache)))):=by
 have w1:=all4_c a_l b_l hl hs
 by_cases h:a_cap=b_cap
 ·refine CallR.go2 (T:=T) Tryz.call79 Tryz.func79 rfl Tryz.ntmps79 (congrArg Array.toList Tryz.results79) (by decide) fun ts hn h0 h1=>?_
  (repeat' (first
 | (with_reducible first|refine callX.by (w1) ?_|refine callX.by (all4_c _ _ ?_ ?_) ?_|assumption|(refine NxK.out hK _ ?_; clear hK K)|refine NxK.out (by assumption) _ ?_|refine Nx.out (by assumption) ?_|refine SpecC.seqW fun K hK=>?_|refine SpecC.regW T fun K hK=>?_|refine SpecC.condW fun A B hA hB=>?_|refine SpecC.skip ?_|refine SpecC.ret ?_)
 | ((with_reducible first|apply condK.split|apply gK.split_t|apply gK.split_f)<;>intro hb<;>try simp only [nr] at hb)
 | simp only [go_sem,↓reduceIte,reduceIte,Nat.reduceEqDiff,String.reduceEq,Nat.reduceLT,Nat.reduceLeDiff,Nat.reduceAdd,Nat.reduceMul,Nat.reduceSub,Nat.reduceBEq,reduceCtorEq, *,-hs,-w1]
 | with_reducible refine fun (bn:Bool) hbn=>?_))
  all_goals simp [same16,h]
 ·refine CallR.go2 (T:=T) Tryz.call79 Tryz.func79 rfl Tryz.ntmps79 (congrArg Array.toList Tryz.results79) (by decide) fun ts hn h0 h1=>?_
  (repeat' (first
 | (with_reducible first|refine callX.by (w1) ?_|refine callX.by (all4_c _ _ ?_ ?_) ?_|assumption|(refine NxK.out hK _ ?_; clear hK K)|refine NxK.out (by assumption) _ ?_|refine Nx.out (by assumption) ?_|refine SpecC.seqW fun K hK=>?_|refine SpecC.regW T fun K hK=>?_|refine SpecC.condW fun A B hA hB=>?_|refine SpecC.skip ?_|refine SpecC.ret ?_)
 | ((with_reducible first|apply condK.split|apply gK.split_t|apply gK.split_f)<;>intro hb<;>try simp only [nr] at hb)
 | simp only [go_sem,↓reduceIte,reduceIte,Nat.reduceEqDiff,String.reduceEq,Nat.reduceLT,Nat.reduceLeDiff,Nat.reduceAdd,Nat.reduceMul,Nat.reduceSub,Nat.reduceBEq,reduceCtorEq, *,-hs,-w1]
 | with_reducible refine fun (bn:Bool) hbn=>?_))
  all_goals simp [same16,h]
structure CInv (n:Int) (c:Cache):Prop where
 sane:saneC c=true
 cap:c.cap=bnd n
 sm:∀ r∈c.l,SmRes r
theorem applyC_len (c:Cache) (adds:List Res) (gone:List Key):(applyC c adds gone).1.l.length≤c.l.length+adds.length:=by
 have h1:=saneOf_len c
 have h2:=patchR_len (saneOf c).l adds gone
 unfold applyC
 simp only
 split
 ·simp only; omega
 ·simp only; omega
theorem applyC_mem' {c:Cache} {adds:List Res} {gone:List Key} {x:Res} (h:x∈(applyC c adds gone).1.l):x∈c.l∨x∈adds:=by
 unfold applyC at h
 simp only at h
 split at h
 ·exact (patchR_mem h).imp saneOf_mem id
 ·exact .inl (saneOf_mem h)
def takeW (c:Cache) (ready:Bool) (shown:List Res) (ch:Bool):List AV :=
 if shownC c=shown then [.int .i64 c.cap,.slice false (avs c.l),.bool ready,.slice false (avs shown),.bool ch] else [.int .i64 c.cap,.slice false (avs c.l),.bool true,.slice false (avs (shownC c)),.bool true]
theorem shownC_len (c:Cache):(shownC c).length≤c.l.length:=Nat.le_trans (reachR_len _) (saneOf_len c)
theorem shownC_mem {c:Cache} {r:Res} (h:r∈shownC c):r∈c.l:=saneOf_mem ((reachR_sub _).subset h)
theorem takeW_c (cap0:Int) (l0:List Res) (ready:Bool) (shown:List Res) (ch:Bool) (c_cap:Int) (c_l:List Res) (hl:c_l.length≤65536) (hs:∀ r∈c_l,SmRes r) :
  CallI Tryz.prog 76 [.int .i64 cap0,.slice false (avs l0),.bool ready,.slice false (avs shown),.bool ch] [.agg [.int .i64 c_cap,.slice false (avs c_l)]] (.tup []) (takeW (⟨c_cap,c_l⟩:Cache) ready shown ch):=by
 have w1:=(shownC_c c_cap c_l hl hs).frz
 have hsl:=shownC_len (⟨c_cap,c_l⟩:Cache)
 have w2:=tsame_c (shownC (⟨c_cap,c_l⟩:Cache)) shown (by simp only at hsl; unfold Small; omega) fun x hx=>hs x (shownC_mem hx)
 unfold takeW
 generalize shownC (⟨c_cap,c_l⟩:Cache)=s at *
 clear hs hl hsl
 by_cases he:s=shown
 ·rw [decide_eq_true he] at w2
  rw [if_pos he]
  refine CallI.go1 Tryz.call76 Tryz.func76 rfl Tryz.ntmps76 T (congrArg Array.toList Tryz.results76) (by decide) fun ts hn h0 hg0 ho0 h1=>?_
  (repeat' (first
 | (with_reducible first|refine callX.by (w1) ?_|refine callX.by (w2) ?_|refine callX.by (shownC_c _ _ ?_ ?_) ?_|refine callX.by (tsame_c _ _ ?_ ?_) ?_|assumption|(refine NxK.out hK _ ?_; clear hK K)|refine NxK.out (by assumption) _ ?_|refine Nx.out (by assumption) ?_|refine SpecC.seqW fun K hK=>?_|refine SpecC.regW T fun K hK=>?_|refine SpecC.condW fun A B hA hB=>?_|refine SpecC.skip ?_|refine SpecC.ret ?_)
 | ((with_reducible first|apply condK.split|apply gK.split_t|apply gK.split_f)<;>intro hb<;>try simp only [nr] at hb)
 | simp only [go_sem,↓reduceIte,reduceIte,Nat.reduceEqDiff,String.reduceEq,Nat.reduceLT,Nat.reduceLeDiff,Nat.reduceAdd,Nat.reduceMul,Nat.reduceSub,Nat.reduceBEq,reduceCtorEq, *,-w1,-w2,-he]
 | with_reducible refine fun (bn:Bool) hbn=>?_))
  all_goals trace_state
 ·rw [decide_eq_false he] at w2
  rw [if_neg he]
  refine CallI.go1 Tryz.call76 Tryz.func76 rfl Tryz.ntmps76 T (congrArg Array.toList Tryz.results76) (by decide) fun ts hn h0 hg0 ho0 h1=>?_
  (repeat' (first
 | (with_reducible first|refine callX.by (w1) ?_|refine callX.by (w2) ?_|refine callX.by (shownC_c _ _ ?_ ?_) ?_|refine callX.by (tsame_c _ _ ?_ ?_) ?_|assumption|(refine NxK.out hK _ ?_; clear hK K)|refine NxK.out (by assumption) _ ?_|refine Nx.out (by assumption) ?_|refine SpecC.seqW fun K hK=>?_|refine SpecC.regW T fun K hK=>?_|refine SpecC.condW fun A B hA hB=>?_|refine SpecC.skip ?_|refine SpecC.ret ?_)
 | ((with_reducible first|apply condK.split|apply gK.split_t|apply gK.split_f)<;>intro hb<;>try simp only [nr] at hb)
 | simp only [go_sem,↓reduceIte,reduceIte,Nat.reduceEqDiff,String.reduceEq,Nat.reduceLT,Nat.reduceLeDiff,Nat.reduceAdd,Nat.reduceMul,Nat.reduceSub,Nat.reduceBEq,reduceCtorEq, *,-w1,-w2,-he]
 | with_reducible refine fun (bn:Bool) hbn=>?_))
  all_goals trace_state
def stepW (w:Warm) (adds:List Res) (gone:List Key):Warm × Bool × Int :=
 let m:=saneOfW w
 let a:=applyC m.c adds gone
 if a.2=0 then (if shownC a.1=m.shown then (⟨a.1,m.ready,m.shown⟩,false,0) else (⟨a.1,true,shownC a.1⟩,true,0)) else (m,false,a.2)
theorem saneOfW_len (w:Warm):(saneOfW w).c.l.length≤w.c.l.length:=by unfold saneOfW; split<;>simp
theorem saneOfW_mem {w:Warm} {r:Res} (h:r∈(saneOfW w).c.l):r∈w.c.l:=by unfold saneOfW at h; split at h<;>simp_all
theorem stepW_c (w_c_cap:Int) (w_c_l:List Res) (w_ready:Bool) (w_shown:List Res) (adds:List Res) (gone:List Key) (hl:w_c_l.length+adds.length≤65536) (hs:∀ r∈w_c_l,SmRes r) (hl2:Small w_shown.length) (hs2:∀ r∈w_shown,SmRes r) (hg:Small gone.length) (ha:∀ r∈adds,SmRes r) :
  CallR Tryz.prog 26 [.agg [.int .i64 w_c_cap,.slice false (avs w_c_l),.bool w_ready,.slice false (avs w_shown)],.slice false (avs adds),.slice false (avs gone)]
   (.val (.tup [.agg [.int .i64 (stepW (⟨⟨w_c_cap,w_c_l⟩,w_ready,w_shown⟩:Warm) adds gone).1.c.cap,.slice false (avs (stepW (⟨⟨w_c_cap,w_c_l⟩,w_ready,w_shown⟩:Warm) adds gone).1.c.l),.bool (stepW (⟨⟨w_c_cap,w_c_l⟩,w_ready,w_shown⟩:Warm) adds gone).1.ready,.slice false (avs (stepW (⟨⟨w_c_cap,w_c_l⟩,w_ready,w_shown⟩:Warm) adds gone).1.shown)],.bool (stepW (⟨⟨w_c_cap,w_c_l⟩,w_ready,w_shown⟩:Warm) adds gone).2.1,.int .i64 (stepW (⟨⟨w_c_cap,w_c_l⟩,w_ready,w_shown⟩:Warm) adds gone).2.2])):=by
 have w1:=saneOfW_c w_c_cap w_c_l w_ready w_shown (by omega) hs hl2 hs2
 have hml:=saneOfW_len (⟨⟨w_c_cap,w_c_l⟩,w_ready,w_shown⟩:Warm)
 have hms:∀ r∈(saneOfW (⟨⟨w_c_cap,w_c_l⟩,w_ready,w_shown⟩:Warm)).c.l,SmRes r:=fun r hr=>hs r (saneOfW_mem hr)
 unfold stepW
 generalize saneOfW (⟨⟨w_c_cap,w_c_l⟩,w_ready,w_shown⟩:Warm)=m at *
 simp only at hml ⊢
 have w2:=applyC_c m.c.cap m.c.l adds gone (by omega) hg hms ha
 have w2:CallR Tryz.prog 75 [.agg [.int .i64 m.c.cap,.slice false (avs m.c.l)],.slice false (avs adds),.slice false (avs gone)] (.val (.tup [.agg [.int .i64 (applyC m.c adds gone).1.cap,.slice false (avs (applyC m.c adds gone).1.l)],.int .i64 (applyC m.c adds gone).2])):=w2
 have hal:=applyC_len m.c adds gone
 have hac:∀ r∈(applyC m.c adds gone).1.l,SmRes r:=fun r hr=>(applyC_mem' hr).elim (hms r) (ha r)
 generalize (applyC m.c adds gone).2=e at *
 generalize (applyC m.c adds gone).1=d at *
 have w3:=takeW_c m.c.cap m.c.l m.ready m.shown false d.cap d.l (by omega) hac
 have w3:CallI Tryz.prog 76 [.int .i64 m.c.cap,.slice false (avs m.c.l),.bool m.ready,.slice false (avs m.shown),.bool false] [.agg [.int .i64 d.cap,.slice false (avs d.l)]] (.tup []) (takeW d m.ready m.shown false):=w3
 unfold takeW at w3
 clear hs hs2 ha hms hac hal hml hl hl2 hg
 by_cases he:e=0
 ·subst he
  simp only [if_true]
  by_cases hsh:shownC d=m.shown
  ·rw [if_pos hsh] at w3 ⊢
   simp only
   refine CallR.go3 (T:=T) Tryz.call26 Tryz.func26 rfl Tryz.ntmps26 (congrArg Array.toList Tryz.results26) (by decide) fun ts hn h0 h1 h2=>?_
   (repeat' (first
 | (with_reducible first|refine callX.by (w1) ?_|refine callX.by (w2) ?_)
 | (with_reducible refine callX.io ?_ ?_ ?_ (w3); (focus (simp only [go_sem,↓reduceIte,reduceIte,Nat.reduceEqDiff,String.reduceEq,Nat.reduceLT,Nat.reduceLeDiff,Nat.reduceAdd,Nat.reduceMul,Nat.reduceSub,Nat.reduceBEq,reduceCtorEq, *,-w1,-w2,-w3,-hsh]; first|done|rfl)); (focus (simp only [go_sem,↓reduceIte,reduceIte,Nat.reduceEqDiff,String.reduceEq,Nat.reduceLT,Nat.reduceLeDiff,Nat.reduceAdd,Nat.reduceMul,Nat.reduceSub,Nat.reduceBEq,reduceCtorEq, *,-w1,-w2,-w3,-hsh]; first|done|rfl)))
 | (with_reducible first|refine callX.by (saneOfW_c _ _ _ _ ?_ ?_ ?_ ?_) ?_|assumption|(refine NxK.out hK _ ?_; clear hK K)|refine NxK.out (by assumption) _ ?_|refine Nx.out (by assumption) ?_|refine SpecC.seqW fun K hK=>?_|refine SpecC.regW T fun K hK=>?_|refine SpecC.drawW (id:=6) T mixed [([31],[33,34]),([32],[33,34]),([33],[31,32,6]),([34],[31,32,6]),([6],[33,34])] (by kernel_rfl) fun K hK=>?_|refine SpecC.condW fun A B hA hB=>?_|refine SpecC.skip ?_|refine SpecC.ret ?_)
 | ((with_reducible first|apply condK.split|apply gK.split_t|apply gK.split_f)<;>intro hb<;>try simp only [nr] at hb)
 | simp only [go_sem,↓reduceIte,reduceIte,Nat.reduceEqDiff,String.reduceEq,Nat.reduceLT,Nat.reduceLeDiff,Nat.reduceAdd,Nat.reduceMul,Nat.reduceSub,Nat.reduceBEq,reduceCtorEq, *,-w1,-w2,-w3,-hsh]
 | with_reducible refine fun (bn:Bool) hbn=>?_))
   all_goals trace_state
  ·rw [if_neg hsh] at w3 ⊢
   simp only
   refine CallR.go3 (T:=T) Tryz.call26 Tryz.func26 rfl Tryz.ntmps26 (congrArg Array.toList Tryz.results26) (by decide) fun ts hn h0 h1 h2=>?_
   (repeat' (first
 | (with_reducible first|refine callX.by (w1) ?_|refine callX.by (w2) ?_)
 | (with_reducible refine callX.io ?_ ?_ ?_ (w3); (focus (simp only [go_sem,↓reduceIte,reduceIte,Nat.reduceEqDiff,String.reduceEq,Nat.reduceLT,Nat.reduceLeDiff,Nat.reduceAdd,Nat.reduceMul,Nat.reduceSub,Nat.reduceBEq,reduceCtorEq, *,-w1,-w2,-w3,-hsh]; first|done|rfl)); (focus (simp only [go_sem,↓reduceIte,reduceIte,Nat.reduceEqDiff,String.reduceEq,Nat.reduceLT,Nat.reduceLeDiff,Nat.reduceAdd,Nat.reduceMul,Nat.reduceSub,Nat.reduceBEq,reduceCtorEq, *,-w1,-w2,-w3,-hsh]; first|done|rfl)))
 | (with_reducible first|refine callX.by (saneOfW_c _ _ _ _ ?_ ?_ ?_ ?_) ?_|assumption|(refine NxK.out hK _ ?_; clear hK K)|refine NxK.out (by assumption) _ ?_|refine Nx.out (by assumption) ?_|refine SpecC.seqW fun K hK=>?_|refine SpecC.regW T fun K hK=>?_|refine SpecC.drawW (id:=6) T mixed [([31],[33,34]),([32],[33,34]),([33],[31,32,6]),([34],[31,32,6]),([6],[33,34])] (by kernel_rfl) fun K hK=>?_|refine SpecC.condW fun A B hA hB=>?_|refine SpecC.skip ?_|refine SpecC.ret ?_)
 | ((with_reducible first|apply condK.split|apply gK.split_t|apply gK.split_f)<;>intro hb<;>try simp only [nr] at hb)
 | simp only [go_sem,↓reduceIte,reduceIte,Nat.reduceEqDiff,String.reduceEq,Nat.reduceLT,Nat.reduceLeDiff,Nat.reduceAdd,Nat.reduceMul,Nat.reduceSub,Nat.reduceBEq,reduceCtorEq, *,-w1,-w2,-w3,-hsh]
 | with_reducible refine fun (bn:Bool) hbn=>?_))
   all_goals trace_state
 ·rw [if_neg he]
  simp only
  clear w3
  refine CallR.go3 (T:=T) Tryz.call26 Tryz.func26 rfl Tryz.ntmps26 (congrArg Array.toList Tryz.results26) (by decide) fun ts hn h0 h1 h2=>?_
  (repeat' (first
 | (with_reducible first|refine callX.by (w1) ?_|refine callX.by (w2) ?_|refine callX.by (saneOfW_c _ _ _ _ ?_ ?_ ?_ ?_) ?_|assumption|(refine NxK.out hK _ ?_; clear hK K)|refine NxK.out (by assumption) _ ?_|refine Nx.out (by assumption) ?_|refine SpecC.seqW fun K hK=>?_|refine SpecC.regW T fun K hK=>?_|refine SpecC.drawW (id:=6) T mixed [([31],[33,34]),([32],[33,34]),([33],[31,32,6]),([34],[31,32,6]),([6],[33,34])] (by kernel_rfl) fun K hK=>?_|refine SpecC.condW fun A B hA hB=>?_|refine SpecC.skip ?_|refine SpecC.ret ?_)
 | ((with_reducible first|apply condK.split|apply gK.split_t|apply gK.split_f)<;>intro hb<;>try simp only [nr] at hb)
 | simp only [go_sem,↓reduceIte,reduceIte,Nat.reduceEqDiff,String.reduceEq,Nat.reduceLT,Nat.reduceLeDiff,Nat.reduceAdd,Nat.reduceMul,Nat.reduceSub,Nat.reduceBEq,reduceCtorEq, *,-w1,-w2]
 | with_reducible refine fun (bn:Bool) hbn=>?_))
  all_goals trace_state
theorem warming_c (w_c_cap:Int) (w_c_l:List Res) (w_ready:Bool) (w_shown:List Res) (hl:w_c_l.length≤65536) (hs:∀ r∈w_c_l,SmRes r) (hl2:Small w_shown.length) (hs2:∀ r∈w_shown,SmRes r):CallR Tryz.prog 33 [.agg [.int .i64 w_c_cap,.slice false (avs w_c_l),.bool w_ready,.slice false (avs w_shown)]] (.own 2 (avs (orphans (saneOfW (⟨⟨w_c_cap,w_c_l⟩,w_ready,w_shown⟩:Warm)).c.l))):=by
 have w1:=saneOfW_c w_c_cap w_c_l w_ready w_shown hl hs hl2 hs2
 have hml:=saneOfW_len (⟨⟨w_c_cap,w_c_l⟩,w_ready,w_shown⟩:Warm)
 have hms:∀ r∈(saneOfW (⟨⟨w_c_cap,w_c_l⟩,w_ready,w_shown⟩:Warm)).c.l,SmRes r:=fun r hr=>hs r (saneOfW_mem hr)
 have hnd:((saneOfW (⟨⟨w_c_cap,w_c_l⟩,w_ready,w_shown⟩:Warm)).c.l.map keyOf).Nodup:=by
  unfold saneOfW
  split
  ·rename_i h
   unfold saneW at h
   simp only [Bool.and_eq_true] at h
   exact (saneC_conf h.1.1).nodup
  ·simp
 generalize saneOfW (⟨⟨w_c_cap,w_c_l⟩,w_ready,w_shown⟩:Warm)=m at *
 simp only at hml
 have w2:=orphans_c m.c.l (by omega) hms hnd
 clear hs hs2 hms hnd hl hl2 hml
 refine CallR.go1 (T:=T) Tryz.call33 Tryz.func33 rfl Tryz.ntmps33 (congrArg Array.toList Tryz.results33) (by decide) fun ts hn h0=>?_
 (repeat' (first
 | (with_reducible first|refine callX.by (w1) ?_|refine callX.by (w2) ?_|refine callX.by (saneOfW_c _ _ _ _ ?_ ?_ ?_ ?_) ?_|refine callX.by (orphans_c _ ?_ ?_ ?_) ?_|assumption|(refine NxK.out hK _ ?_; clear hK K)|refine NxK.out (by assumption) _ ?_|refine Nx.out (by assumption) ?_|refine SpecC.seqW fun K hK=>?_|refine SpecC.regW T fun K hK=>?_|refine SpecC.condW fun A B hA hB=>?_|refine SpecC.skip ?_|refine SpecC.ret ?_)
 | ((with_reducible first|apply condK.split|apply gK.split_t|apply gK.split_f)<;>intro hb<;>try simp only [nr] at hb)
 | simp only [go_sem,↓reduceIte,reduceIte,Nat.reduceEqDiff,String.reduceEq,Nat.reduceLT,Nat.reduceLeDiff,Nat.reduceAdd,Nat.reduceMul,Nat.reduceSub,Nat.reduceBEq,reduceCtorEq, *,-w1,-w2]
 | with_reducible refine fun (bn:Bool) hbn=>?_))
theorem saneW_iff {w:Warm}:saneW w=true↔saneC w.c=true∧w.shown=shownC w.c∧(w.ready=true∨w.shown=[]):=by
 unfold saneW
 simp only [Bool.and_eq_true,Bool.or_eq_true,decide_eq_true_eq,and_assoc]
theorem shownC_sane {c:Cache} (h:saneC c=true):shownC c=reachR c.l:=by unfold shownC saneOf; rw [if_pos h]
theorem stepW_sane {w:Warm} (h:saneW w=true) (adds:List Res) (gone:List Key) :
  stepW w adds gone=if (applyC w.c adds gone).2=0 then (if shownC (applyC w.c adds gone).1=w.shown then (⟨(applyC w.c adds gone).1,w.ready,w.shown⟩,false,0) else (⟨(applyC w.c adds gone).1,true,shownC (applyC w.c adds gone).1⟩,true,0)) else (w,false,(applyC w.c adds gone).2):=by
 have hof:saneOfW w=w:=by unfold saneOfW; rw [if_pos h]
 unfold stepW
 rw [hof]
theorem stepW_keeps {w:Warm} (h:saneW w=true) (adds:List Res) (gone:List Key):saneW (stepW w adds gone).1=true:=by
 rw [stepW_sane h]
 have hw:=saneW_iff.1 h
 split
 ·split
  ·rename_i hs
   exact saneW_iff.2 ⟨applyC_keeps hw.1 adds gone,hs.symm,hw.2.2⟩
  ·exact saneW_iff.2 ⟨applyC_keeps hw.1 adds gone,rfl,.inl rfl⟩
 ·exact h
theorem stepW_no {w:Warm} (h:saneW w=true) {adds:List Res} {gone:List Key} (he:¬ (stepW w adds gone).2.2=0):(stepW w adds gone).1=w∧(stepW w adds gone).2.1=false:=by
 rw [stepW_sane h] at he ⊢
 split
 ·rename_i h0
  rw [if_pos h0] at he
  split at he<;>exact absurd rfl he
 ·exact ⟨rfl,rfl⟩
theorem stepW_told {w:Warm} (h:saneW w=true) (adds:List Res) (gone:List Key):(stepW w adds gone).2.1=!decide (w.shown=(stepW w adds gone).1.shown):=by
 rw [stepW_sane h]
 split
 ·split
  ·simp
  ·rename_i hs
   simp [Ne.symm hs]
 ·simp
theorem stepW_mem {w:Warm} (h:saneW w=true) {adds:List Res} {gone:List Key} {x:Res} (hx:x∈(stepW w adds gone).1.c.l):x∈w.c.l∨x∈adds:=by
 rw [stepW_sane h] at hx
 split at hx
 ·split at hx<;>exact applyC_mem' hx
 ·exact .inl hx
theorem saneW_good {w:Warm} (h:saneW w=true):goodE w.shown=true:=by
 have hw:=saneW_iff.1 h
 have hc:=saneC_iff.1 hw.1
 rw [hw.2.1,shownC_sane hw.1]
 exact good_reach_good hc.2.1 hc.2.2.2
theorem saneW_len {w:Warm} (h:saneW w=true):w.c.l.length≤64:=tsane_len (saneC_iff.1 (saneW_iff.1 h).1).2.1
theorem saneW_shown {w:Warm} (h:saneW w=true):w.shown=reachR w.c.l:=by
 have hw:=saneW_iff.1 h
 rw [hw.2.1,shownC_sane hw.1]
theorem saneW_slen {w:Warm} (h:saneW w=true):w.shown.length≤64:=by
 rw [saneW_shown h]
 exact Nat.le_trans (reachR_len _) (saneW_len h)
theorem saneW_smem {w:Warm} (h:saneW w=true) {x:Res} (hx:x∈w.shown):x∈w.c.l:=by
 rw [saneW_shown h] at hx
 exact (reachR_sub _).subset hx
theorem newW_sane (n:Int):saneW ⟨⟨bnd n,[]⟩,false,[]⟩=true:=by
 refine saneW_iff.2 ⟨newC_sane n,?_,.inr rfl⟩
 rw [shownC_sane (newC_sane n)]
 show []=reachR []
 decide
theorem warm1_c (w_c_cap:Int) (w_c_l:List Res) (w_ready:Bool) (w_shown:List Res):CallR Tryz.prog 27 [.agg [.int .i64 w_c_cap,.slice false (avs w_c_l),.bool w_ready,.slice false (avs w_shown)]] (.val (.agg [.int .i64 w_c_cap,.slice false (avs w_c_l),.bool w_ready,.slice false (avs w_shown)])):=by
 refine CallR.go1 (T:=T) Tryz.call27 Tryz.func27 rfl Tryz.ntmps27 (congrArg Array.toList Tryz.results27) (by decide) fun ts hn h0=>?_
 (repeat' (first
 | (with_reducible first|assumption|(refine NxK.out hK _ ?_; clear hK K)|refine NxK.out (by assumption) _ ?_|refine Nx.out (by assumption) ?_|refine SpecC.seqW fun K hK=>?_|refine SpecC.regW T fun K hK=>?_|refine SpecC.condW fun A B hA hB=>?_|refine SpecC.skip ?_|refine SpecC.ret ?_)
 | ((with_reducible first|apply condK.split|apply gK.split_t|apply gK.split_f)<;>intro hb<;>try simp only [nr] at hb)
 | simp only [go_sem,↓reduceIte,reduceIte,Nat.reduceEqDiff,String.reduceEq,Nat.reduceLT,Nat.reduceLeDiff,Nat.reduceAdd,Nat.reduceMul,Nat.reduceSub,Nat.reduceBEq,reduceCtorEq, *]
 | with_reducible refine fun (bn:Bool) hbn=>?_))
theorem cold_c (w_c_cap:Int) (w_c_l:List Res) (w_ready:Bool) (w_shown:List Res):CallR Tryz.prog 30 [.agg [.int .i64 w_c_cap,.slice false (avs w_c_l),.bool w_ready,.slice false (avs w_shown)]] (.val (.agg [.int .i64 w_c_cap,.slice false (avs w_c_l),.bool w_ready,.slice false (avs w_shown)])):=by
 refine CallR.go1 (T:=T) Tryz.call30 Tryz.func30 rfl Tryz.ntmps30 (congrArg Array.toList Tryz.results30) (by decide) fun ts hn h0=>?_
 (repeat' (first
 | (with_reducible first|assumption|(refine NxK.out hK _ ?_; clear hK K)|refine NxK.out (by assumption) _ ?_|refine Nx.out (by assumption) ?_|refine SpecC.seqW fun K hK=>?_|refine SpecC.regW T fun K hK=>?_|refine SpecC.condW fun A B hA hB=>?_|refine SpecC.skip ?_|refine SpecC.ret ?_)
 | ((with_reducible first|apply condK.split|apply gK.split_t|apply gK.split_f)<;>intro hb<;>try simp only [nr] at hb)
 | simp only [go_sem,↓reduceIte,reduceIte,Nat.reduceEqDiff,String.reduceEq,Nat.reduceLT,Nat.reduceLeDiff,Nat.reduceAdd,Nat.reduceMul,Nat.reduceSub,Nat.reduceBEq,reduceCtorEq, *]
 | with_reducible refine fun (bn:Bool) hbn=>?_))
def same17 (a b:Warm):Bool:=same16 a.c b.c && decide (a.ready=b.ready) && decide (a.shown=b.shown)
theorem same17_c (a_c_cap:Int) (a_c_l:List Res) (a_ready:Bool) (a_shown:List Res) (b_c_cap:Int) (b_c_l:List Res) (b_ready:Bool) (b_shown:List Res) (hl:Small a_c_l.length) (hs:∀ r∈a_c_l,SmRes r) (hl2:Small a_shown.length) (hs2:∀ r∈a_shown,SmRes r):CallR Tryz.prog 29 [.agg [.int .i64 a_c_cap,.slice false (avs a_c_l),.bool a_ready,.slice false (avs a_shown)],.agg [.int .i64 b_c_cap,.slice false (avs b_c_l),.bool b_ready,.slice false (avs b_shown)]] (.val (.bool (same17 (⟨⟨a_c_cap,a_c_l⟩,a_ready,a_shown⟩:Warm) (⟨⟨b_c_cap,b_c_l⟩,b_ready,b_shown⟩:Warm)))):=by
 have w1:=same16_c a_c_cap a_c_l b_c_cap b_c_l hl hs
 have w2:=all4_c a_shown b_shown hl2 hs2
 unfold same17
 simp only
 generalize same16 ⟨a_c_cap,a_c_l⟩ ⟨b_c_cap,b_c_l⟩=s at *
 cases s
 ·refine CallR.go2 (T:=T) Tryz.call29 Tryz.func29 rfl Tryz.ntmps29 (congrArg Array.toList Tryz.results29) (by decide) fun ts hn h0 h1=>?_
  (repeat' (first
 | (with_reducible first|refine callX.by (w1) ?_|refine callX.by (w2) ?_|refine callX.by (same16_c _ _ _ _ ?_ ?_) ?_|refine callX.by (all4_c _ _ ?_ ?_) ?_|assumption|(refine NxK.out hK _ ?_; clear hK K)|refine NxK.out (by assumption) _ ?_|refine Nx.out (by assumption) ?_|refine SpecC.seqW fun K hK=>?_|refine SpecC.regW T fun K hK=>?_|refine SpecC.condW fun A B hA hB=>?_|refine SpecC.skip ?_|refine SpecC.ret ?_)
 | ((with_reducible first|apply condK.split|apply gK.split_t|apply gK.split_f)<;>intro hb<;>try simp only [nr] at hb)
 | simp only [go_sem,↓reduceIte,reduceIte,Nat.reduceEqDiff,String.reduceEq,Nat.reduceLT,Nat.reduceLeDiff,Nat.reduceAdd,Nat.reduceMul,Nat.reduceSub,Nat.reduceBEq,reduceCtorEq, *,-hs,-hs2,-w1,-w2]
 | with_reducible refine fun (bn:Bool) hbn=>?_))
 ·by_cases hr:a_ready=b_ready
  ·subst hr
   refine CallR.go2 (T:=T) Tryz.call29 Tryz.func29 rfl Tryz.ntmps29 (congrArg Array.toList Tryz.results29) (by decide) fun ts hn h0 h1=>?_
   (repeat' (first
 | (with_reducible first|refine callX.by (w1) ?_|refine callX.by (w2) ?_|refine callX.by (same16_c _ _ _ _ ?_ ?_) ?_|refine callX.by (all4_c _ _ ?_ ?_) ?_|assumption|(refine NxK.out hK _ ?_; clear hK K)|refine NxK.out (by assumption) _ ?_|refine Nx.out (by assumption) ?_|refine SpecC.seqW fun K hK=>?_|refine SpecC.regW T fun K hK=>?_|refine SpecC.condW fun A B hA hB=>?_|refine SpecC.skip ?_|refine SpecC.ret ?_)
 | ((with_reducible first|apply condK.split|apply gK.split_t|apply gK.split_f)<;>intro hb<;>try simp only [nr] at hb)
 | simp only [go_sem,↓reduceIte,reduceIte,Nat.reduceEqDiff,String.reduceEq,Nat.reduceLT,Nat.reduceLeDiff,Nat.reduceAdd,Nat.reduceMul,Nat.reduceSub,Nat.reduceBEq,reduceCtorEq, *,-hs,-hs2,-w1,-w2]
 | with_reducible refine fun (bn:Bool) hbn=>?_))
   all_goals simp
  ·refine CallR.go2 (T:=T) Tryz.call29 Tryz.func29 rfl Tryz.ntmps29 (congrArg Array.toList Tryz.results29) (by decide) fun ts hn h0 h1=>?_
   (repeat' (first
 | (with_reducible first|refine callX.by (w1) ?_|refine callX.by (w2) ?_|refine callX.by (same16_c _ _ _ _ ?_ ?_) ?_|refine callX.by (all4_c _ _ ?_ ?_) ?_|assumption|(refine NxK.out hK _ ?_; clear hK K)|refine NxK.out (by assumption) _ ?_|refine Nx.out (by assumption) ?_|refine SpecC.seqW fun K hK=>?_|refine SpecC.regW T fun K hK=>?_|refine SpecC.condW fun A B hA hB=>?_|refine SpecC.skip ?_|refine SpecC.ret ?_)
 | ((with_reducible first|apply condK.split|apply gK.split_t|apply gK.split_f)<;>intro hb<;>try simp only [nr] at hb)
 | simp only [go_sem,↓reduceIte,reduceIte,Nat.reduceEqDiff,String.reduceEq,Nat.reduceLT,Nat.reduceLeDiff,Nat.reduceAdd,Nat.reduceMul,Nat.reduceSub,Nat.reduceBEq,reduceCtorEq, *,-hs,-hs2,-w1,-w2]
 | with_reducible refine fun (bn:Bool) hbn=>?_))
   all_goals simp_all
def rR:Res:=⟨1,[114],0,0,[],[],[]⟩
theorem rRs:saneR rR=0:=by decide
theorem rRr:refsR rR=[]:=by
 have e:baseR rR++keysR rR.rules'=[]:=by decide
 unfold refsR
 rw [if_pos rRs,e]
 simp [ksort,kcompact,kcT]
theorem rRsm:∀ x∈[rR],SmRes x:=oneSm rfl (by simp [Small,rR]) (by simp [Small,rR]) (by simp [Small,rR])
theorem rRn:namesM [rR]=[(⟨1,[114]⟩,[])]:=by simp only [namesM,List.map_cons,List.map_nil,rRr]; rfl
theorem rRreach:reachR [rR]=[]:=by unfold reachR reachedM; rw [rRn]; decide
theorem rRserved:served [rR]=0:=by unfold served; rw [rRreach]; rfl
theorem rRm:mustE 9 [rR]=0:=by
 unfold mustE
 rw [show tsane [rR]=0 by decide,rRserved]; decide
theorem lrn:namesM [lR,rR]=[(⟨0,[108]⟩,[⟨1,[114]⟩]),(⟨1,[114]⟩,[])]:=by simp only [namesM,List.map_cons,List.map_nil,lRr,rRr]; rfl
theorem lrreach:reachR [lR,rR]=[lR,rR]:=by unfold reachR reachedM; rw [lrn]; decide
theorem lrserved:served [lR,rR]=0:=by
 unfold served
 rw [lrreach]
 have h1:lacks (ofR [lR,rR] []) lR=false:=by unfold lacks; rw [lRr]; decide
 have h2:lacks (ofR [lR,rR] []) rR=false:=by unfold lacks; rw [rRr]; rfl
 have h3:bare lR=false:=by decide
 have h4:bare rR=false:=by decide
 simp [h1,h2,h3,h4]
theorem lrm:mustE 9 [lR,rR]=0:=by
 unfold mustE
 rw [show tsane [lR,rR]=0 by decide,lrserved]; decide
theorem apply_rR:applyC ⟨9,[]⟩ [rR] []=(⟨9,[rR]⟩,0):=by
 unfold applyC
 rw [nine]
 have e:patchR [] [rR] []=[rR]:=by decide
 simp only [e,rRm]
 rfl
theorem nineR:saneC ⟨9,[rR]⟩=true:=by unfold saneC; rw [rRm]; decide
theorem nineLR:saneC ⟨9,[lR,rR]⟩=true:=by unfold saneC; rw [lrm]; decide
theorem apply_lrR:applyC ⟨9,[rR]⟩ [lR] []=(⟨9,[lR,rR]⟩,0):=by
 rw [applyC_sane nineR]
 have e:patchR [rR] [lR] []=[lR,rR]:=by decide
 simp only [e,lrm]
 rfl
theorem step_rR:stepW ⟨⟨9,[]⟩,false,[]⟩ [rR] []=(⟨⟨9,[rR]⟩,false,[]⟩,false,0):=by
 have h9:saneW ⟨⟨9,[]⟩,false,[]⟩=true:=newW_sane 9
 rw [stepW_sane h9]
 simp only [apply_rR,shownC_sane nineR,rRreach,if_true]
theorem wR:saneW ⟨⟨9,[rR]⟩,false,[]⟩=true:=saneW_iff.2 ⟨nineR,by rw [shownC_sane nineR,rRreach],.inr rfl⟩
theorem step_lR:stepW ⟨⟨9,[rR]⟩,false,[]⟩ [lR] []=(⟨⟨9,[lR,rR]⟩,true,[lR,rR]⟩,true,0):=by
 rw [stepW_sane wR]
 simp only [apply_lrR,shownC_sane nineLR,lrreach,if_true]
 rw [if_neg (by simp)]
theorem wLR:saneW ⟨⟨9,[lR,rR]⟩,true,[lR,rR]⟩=true:=saneW_iff.2 ⟨nineLR,by rw [shownC_sane nineLR,lrreach],.inl rfl⟩
theorem orph_rR:orphans [rR]=[⟨1,[114]⟩]:=by unfold orphans reachedM; rw [rRn]; decide
theorem lrsm:∀ x∈[lR,rR],SmRes x:=by
 intro x hx
 simp only [List.mem_cons,List.not_mem_nil,or_false] at hx
 rcases hx with rfl|rfl
 ·exact lRsm lR (by simp)
 ·exact rRsm rR (by simp)
set_option maxHeartbeats 4000000 in
theorem awake17_c:CallR Tryz.prog 25 [] (.val (.bool true)):=by
 have w0:CallR Tryz.prog 35 [.int .i64 9] (.val (.agg [.int .i64 9,.slice false [],.bool false,.slice false []])):=newW_c 9
 have w1:CallR Tryz.prog 26 [.agg [.int .i64 9,.slice false [],.bool false,.slice false []],.slice false [.agg [.int .i64 1,.str [114],.int .i64 0,.int .i64 0,.str [],.slice false [],.slice false []]],.slice false []] (.val (.tup [.agg [.int .i64 9,.slice false [.agg [.int .i64 1,.str [114],.int .i64 0,.int .i64 0,.str [],.slice false [],.slice false []]],.bool false,.slice false []],.bool false,.int .i64 0])):=by
  have h:=stepW_c 9 [] false [] [rR] [] (by simp) (by simp) (by simp [Small]) (by simp) (by simp [Small]) rRsm
  rw [step_rR] at h
  exact h
 have w2:CallR Tryz.prog 26 [.agg [.int .i64 9,.slice false [.agg [.int .i64 1,.str [114],.int .i64 0,.int .i64 0,.str [],.slice false [],.slice false []]],.bool false,.slice false []],.slice false [.agg [.int .i64 0,.str [108],.int .i64 0,.int .i64 80,.str [114],.slice false [],.slice false []]],.slice false []] (.val (.tup [.agg [.int .i64 9,.slice false [.agg [.int .i64 0,.str [108],.int .i64 0,.int .i64 80,.str [114],.slice false [],.slice false []],.agg [.int .i64 1,.str [114],.int .i64 0,.int .i64 0,.str [],.slice false [],.slice false []]],.bool true,.slice false [.agg [.int .i64 0,.str [108],.int .i64 0,.int .i64 80,.str [114],.slice false [],.slice false []],.agg [.int .i64 1,.str [114],.int .i64 0,.int .i64 0,.str [],.slice false [],.slice false []]]],.bool true,.int .i64 0])):=by
  have h:=stepW_c 9 [rR] false [] [lR] [] (by simp) rRsm (by simp [Small]) (by simp) (by simp [Small]) lRsm
  rw [step_lR] at h
  exact h
 have w3:CallR Tryz.prog 33 [.agg [.int .i64 9,.slice false [.agg [.int .i64 1,.str [114],.int .i64 0,.int .i64 0,.str [],.slice false [],.slice false []]],.bool false,.slice false []]] (.own 2 [.agg [.int .i64 1,.str [114]]]):=by
  have h:=warming_c 9 [rR] false [] (by simp) rRsm (by simp [Small]) (by simp)
  have e:saneOfW ⟨⟨9,[rR]⟩,false,[]⟩=⟨⟨9,[rR]⟩,false,[]⟩:=by unfold saneOfW; rw [if_pos wR]
  rw [e,orph_rR] at h
  exact h
 have w4:CallR Tryz.prog 31 [.agg [.int .i64 9,.slice false [.agg [.int .i64 0,.str [108],.int .i64 0,.int .i64 80,.str [114],.slice false [],.slice false []],.agg [.int .i64 1,.str [114],.int .i64 0,.int .i64 0,.str [],.slice false [],.slice false []]],.bool true,.slice false [.agg [.int .i64 0,.str [108],.int .i64 0,.int .i64 80,.str [114],.slice false [],.slice false []],.agg [.int .i64 1,.str [114],.int .i64 0,.int .i64 0,.str [],.slice false [],.slice false []]]]] (.val (.bool true)):=by
  have h:=saneW_c 9 [lR,rR] true [lR,rR] (by simp) lrsm (by simp [Small]) lrsm
  rw [wLR] at h
  exact h
 refine CallR.go0 (T:=T) Tryz.call25 Tryz.func25 rfl Tryz.ntmps25 (congrArg Array.toList Tryz.results25) fun ts hn=>?_
 (repeat' (first
 | (with_reducible first|refine callX.by (w0) ?_|refine callX.fz (w1) ?_|refine callX.fz (w2) ?_|refine callX.by (w3) ?_|refine callX.by (w4) ?_|refine callX.by (newW_c _) ?_|refine callX.by (warming_c _ _ _ _ ?_ ?_ ?_ ?_) ?_|refine callX.by (saneW_c _ _ _ _ ?_ ?_ ?_ ?_) ?_|assumption|(refine NxK.out hK _ ?_; clear hK K)|refine NxK.out (by assumption) _ ?_|refine Nx.out (by assumption) ?_|refine SpecC.seqW fun K hK=>?_|refine SpecC.regW T fun K hK=>?_|refine SpecC.condW fun A B hA hB=>?_|refine SpecC.skip ?_|refine SpecC.ret ?_)
 | ((with_reducible first|apply condK.split|apply gK.split_t|apply gK.split_f)<;>intro hb<;>try simp only [nr] at hb)
 | simp only [go_sem,↓reduceIte,reduceIte,Nat.reduceEqDiff,String.reduceEq,Nat.reduceLT,Nat.reduceLeDiff,Nat.reduceAdd,Nat.reduceMul,Nat.reduceSub,Nat.reduceBEq,reduceCtorEq, *,-w0,-w1,-w2,-w3,-w4,Int.le_refl,List.length_nil,List.length_cons,decide_true]
 | with_reducible refine fun (bn:Bool) hbn=>?_))
 all_goals trace_state
end Go.Proofs.YtndnkbekhmndhaaGreatDoor.Lg
