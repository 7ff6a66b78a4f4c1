/- Parts of the proof, one behind the other. -/
import Derived.Test.YtmjkjmoeicnbnaaGreatDoorG23
namespace Go.Proofs.YtmjkjmoeicnbnaaGreatDoor.Lg
set_option maxRecDepth 100000
set_option linter.unusedVariables false
set_option linter.unusedSimpArgs false
open Go
@[go_sem] def Wd17:List (List Nat×List Nat):=[([11],[19,20,21,22,23,24,25,26,27,28,29,30,31,32,33,34,35,36,37,38,39,40,41,42,43,44,45,46,47,48,49,50,51,52,53,54,55]),([12],[20,21,22,23,24,25,26,27,28,29,30,31,32,33,34,35,36,37,38,39,40,41,42,43,44,45,46,47,48,49,50,51,52,53,54,55]),([13],[15,18,19,20,21,22,23,24,25,26,27,28,29,30,31,32,33,34,35,36,37,38,39,40,41,42,43,44,45,46,47,48,49,50,51,52,53,54,55]),([14],[15,20,21,22,23,24,25,26,27,28,29,30,31,32,33,34,35,36,37,38,39,40,41,42,43,44,45,46,47,48,49,50,51,52,53,54,55]),([15],[13,14,18,19,20,21,22,23,24,25,26,27,28,29,30,31,32,33,34,35,36,37,38,39,40,41,42,43,44,45,46,47,48,49,50,51,52,53,54,55]),([16],[20,21,22,23,24,25,26,27,28,29,30,31,32,33,34,35,36,37,38,39,40,41,42,43,44,45,46,47,48,49,50,51,52,53,54,55]),([17],[28,29,30,31,32,33,34,35,36,37,38,39,40,41,42,43,44,45,46,47,48,49,50,51,52,53,54,55]),([18],[13,15,28,29,30,31,32,33,34,35,36,37,38,39,40,41,42,43,44,45,46,47,48,49,50,51,52,53,54,55]),([19],[11,13,15,29,30,31,32,33,34,35,36,37,38,39,40,41,42,43,44,45,46,47,48,49,50,51,52,53,54,55]),([20],[11,12,13,14,15,16,21,23,24,27,28,29,30,31,32,33,34,35,36,37,38,39,40,41,42,43,44,45,46,47,48,49,50,51,52,53,54,55]),([21],[11,12,13,14,15,16,20,23,24,27,28,29,30,31,32,33,34,35,36,37,38,39,40,41,42,43,44,45,46,47,48,49,50,51,52,53,54,55]),([22],[11,12,13,14,15,16,23,24,29,30,31,32,33,34,35,36,37,38,39,40,41,42,43,44,45,46,47,48,49,50,51,52,53,54,55]),([23],[11,12,13,14,15,16,20,21,22,24,27,28,29,30,31,32,33,34,35,36,37,38,39,40,41,42,43,44,45,46,47,48,49,50,51,52,53,54,55]),([24],[11,12,13,14,15,16,20,21,22,23,27,28,29,30,31,32,33,34,35,36,37,38,39,40,41,42,43,44,45,46,47,48,49,50,51,52,53,54,55]),([25],[11,12,13,14,15,16,29,30,31,32,33,34,35,36,37,38,39,40,41,42,43,44,45,46,47,48,49,50,51,52,53,54,55]),([26],[11,12,13,14,15,16,35,36,37,38,39,40,41,42,43,44,45,46,47,48,49,50,51,52,53,54,55]),([27],[11,12,13,14,15,16,20,21,23,24,35,36,37,38,39,40,41,42,43,44,45,46,47,48,49,50,51,52,53,54,55]),([28],[11,12,13,14,15,16,17,18,20,21,23,24,36,37,38,39,40,41,42,43,44,45,46,47,48,49,50,51,52,53,54,55]),([29],[11,12,13,14,15,16,17,18,19,20,21,22,23,24,25,31,34,35,36,37,38,39,40,41,42,43,44,45,46,47,48,49,50,51,52,53,54,55]),([30],[11,12,13,14,15,16,17,18,19,20,21,22,23,24,25,31,36,37,38,39,40,41,42,43,44,45,46,47,48,49,50,51,52,53,54,55]),([31],[11,12,13,14,15,16,17,18,19,20,21,22,23,24,25,29,30,34,35,36,37,38,39,40,41,42,43,44,45,46,47,48,49,50,51,52,53,54,55]),([32],[11,12,13,14,15,16,17,18,19,20,21,22,23,24,25,36,37,38,39,40,41,42,43,44,45,46,47,48,49,50,51,52,53,54,55]),([33],[11,12,13,14,15,16,17,18,19,20,21,22,23,24,25,42,43,44,45,46,47,48,49,50,51,52,53,54,55]),([34],[11,12,13,14,15,16,17,18,19,20,21,22,23,24,25,29,31,42,43,44,45,46,47,48,49,50,51,52,53,54,55]),([35],[11,12,13,14,15,16,17,18,19,20,21,22,23,24,25,26,27,29,31,43,44,45,46,47,48,49,50,51,52,53,54,55]),([36],[11,12,13,14,15,16,17,18,19,20,21,22,23,24,25,26,27,28,29,30,31,32,38,41,42,43,44,45,46,47,48,49,50,51,52,53,54,55]),([37],[11,12,13,14,15,16,17,18,19,20,21,22,23,24,25,26,27,28,29,30,31,32,38,43,44,45,46,47,48,49,50,51,52,53,54,55]),([38],[11,12,13,14,15,16,17,18,19,20,21,22,23,24,25,26,27,28,29,30,31,32,36,37,41,43,44,45,46,47,48,49,50,51,52,53,54,55]),([39],[11,12,13,14,15,16,17,18,19,20,21,22,23,24,25,26,27,28,29,30,31,32,49,50,51,52,53,54,55]),([40],[11,12,13,14,15,16,17,18,19,20,21,22,23,24,25,26,27,28,29,30,31,32,43,44,45,46,47,48,49,50,51,52,53,54,55]),([41],[11,12,13,14,15,16,17,18,19,20,21,22,23,24,25,26,27,28,29,30,31,32,36,38,49,50,51,52,53,54,55]),([42],[11,12,13,14,15,16,17,18,19,20,21,22,23,24,25,26,27,28,29,30,31,32,33,34,36,50,51,52,53,54,55]),([43],[11,12,13,14,15,16,17,18,19,20,21,22,23,24,25,26,27,28,29,30,31,32,33,34,35,36,37,38,40,45,48,49,50,51,52,53,54,55]),([44],[11,12,13,14,15,16,17,18,19,20,21,22,23,24,25,26,27,28,29,30,31,32,33,34,35,36,37,38,40,45,50,51,52,53,54,55]),([45],[11,12,13,14,15,16,17,18,19,20,21,22,23,24,25,26,27,28,29,30,31,32,33,34,35,36,37,38,40,43,44,48,49,50,51,52,53,54,55]),([46],[11,12,13,14,15,16,17,18,19,20,21,22,23,24,25,26,27,28,29,30,31,32,33,34,35,36,37,38,40,50,51,52,53,54,55]),([47],[11,12,13,14,15,16,17,18,19,20,21,22,23,24,25,26,27,28,29,30,31,32,33,34,35,36,37,38,40]),([48],[11,12,13,14,15,16,17,18,19,20,21,22,23,24,25,26,27,28,29,30,31,32,33,34,35,36,37,38,40,43,45]),([49],[11,12,13,14,15,16,17,18,19,20,21,22,23,24,25,26,27,28,29,30,31,32,33,34,35,36,37,38,39,40,41,43,45]),([50],[11,12,13,14,15,16,17,18,19,20,21,22,23,24,25,26,27,28,29,30,31,32,33,34,35,36,37,38,39,40,41,42,43,44,45,46,52,55]),([51],[11,12,13,14,15,16,17,18,19,20,21,22,23,24,25,26,27,28,29,30,31,32,33,34,35,36,37,38,39,40,41,42,43,44,45,46,52]),([52],[11,12,13,14,15,16,17,18,19,20,21,22,23,24,25,26,27,28,29,30,31,32,33,34,35,36,37,38,39,40,41,42,43,44,45,46,50,51,55]),([53],[11,12,13,14,15,16,17,18,19,20,21,22,23,24,25,26,27,28,29,30,31,32,33,34,35,36,37,38,39,40,41,42,43,44,45,46]),([54],[11,12,13,14,15,16,17,18,19,20,21,22,23,24,25,26,27,28,29,30,31,32,33,34,35,36,37,38,39,40,41,42,43,44,45,46]),([55],[11,12,13,14,15,16,17,18,19,20,21,22,23,24,25,26,27,28,29,30,31,32,33,34,35,36,37,38,39,40,41,42,43,44,45,46,50,52])]
theorem reach06_eqU (l:List Res):reach06 l=reachR l:=by
 unfold reach06 reachR
 refine List.filter_congr fun r _=>?_
 rw [Bool.eq_iff_iff,decide_eq_true_eq,reached06_iff,reachedU_iff]
theorem served06_eqU (l:List Res):served06 l=served l:=by
 unfold served06 served
 rw [reach06_eqU]
 have e:lacks06 l=lacks (ofR l []):=by
  funext r
  unfold lacks06 lacks
  congr 1
  funext k
  rw [isIn_of]
  congr 1
  rw [Bool.eq_iff_iff,tget_key6,decide_eq_true_eq]
 rw [e]
theorem orph06_eqU (l:List Res):orph06 l=orphans l:=by
 unfold orph06 orphans orphL
 rw [List.filter_map]
 refine congrArg (List.map keyOf) (List.filter_congr fun r _=>?_)
 simp only [Function.comp]
 congr 1
 rw [Bool.eq_iff_iff,decide_eq_true_eq,reached06_iff,reachedU_iff]
set_option maxHeartbeats 8000000 in
theorem refsAre_c (xs:List Res) (k_kind:Int) (k_name:List UInt8) (hl:Small xs.length) (hs:∀ r∈xs,SmRes r):CallR Tryz.prog 3 [.slice false (avs xs),.agg [.int .i64 k_kind,.str k_name]] (.val (.bool true)):=by
 have v1:=few4_c xs hl hs
 by_cases hfa:fewAll xs=true
 rotate_left
 ·have hfa:fewAll xs=false:=by simpa using hfa
  rw [hfa] at v1
  refine CallR.go2 (T:=T) Tryz.call3 Tryz.func3 rfl Tryz.ntmps3 (congrArg Array.toList Tryz.results3) (by decide) fun ts hn h0 h1=>?_
  (repeat' (first
 | (with_reducible first|refine callX.by (awake6_c) ?_|refine callX.by (v1) ?_|refine callX.by awake6_c ?_|refine callX.by (few4_c _ ?_ ?_) ?_|refine callX.by (missing_c _ ?_ ?_) ?_|refine callX.by a6mc ?_|refine callX.by (missing06_c _ ?_ ?_) ?_|refine callX.by (keys3_c _ _ ?_) ?_|refine callX.by (keys17_c _ ?_) ?_|refine callX.by (referrers_c _ _ _ ?_ ?_) ?_|refine callX.by (referrers06_c _ _ _ ?_ ?_) ?_|refine callX.by (reachU_c _ ?_ ?_) ?_|refine callX.by (reach_c _ ?_ ?_ _) ?_|refine callX.by a6rc ?_|refine callX.by (reach06_c _ ?_ ?_) ?_|refine callX.by (all4_c _ _ ?_ ?_) ?_|refine callX.by (servedU_c _ ?_ ?_) ?_|refine callX.by (served_c _ ?_ ?_ _) ?_|refine callX.by a6sc ?_|refine callX.by (served06_c _ ?_ ?_) ?_|refine callX.by (order_refs_c _ ?_) ?_|refine callX.by a6oc ?_|refine callX.by (order06_c _ ?_) ?_|refine callX.by (orphansU_c _ ?_ ?_) ?_|refine callX.by (orphans_c _ ?_ ?_ _) ?_|refine callX.by (orph06_c _ ?_ ?_) ?_|assumption|(refine NxK.out hK _ ?_; clear hK K)|refine NxK.out ‹_› _ ?_|refine Nx.out ‹_› ?_|refine SpecC.seqW fun K hK=>?_|refine SpecC.regW T fun K hK=>?_|refine SpecC.drawW (id:=4) T mixed Wd17 (by kernel_rfl) fun K hK=>?_|refine SpecC.condW fun A B hA hB=>?_|refine SpecC.skip ?_|refine SpecC.ret ?_)
 | ((with_reducible first|apply condK.split|apply gK.split_t|apply gK.split_f)<;>intro hb<;>try simp only [nr] at hb)
 | simp only [go_sem,↓reduceIte,reduceIte,Nat.reduceEqDiff,String.reduceEq,Nat.reduceLT,Nat.reduceLeDiff,Nat.reduceAdd,Nat.reduceMul,Nat.reduceSub,Nat.reduceBEq,reduceCtorEq, *,-hs,-v1]
 | with_reducible refine fun (bn:Bool) hbn=>?_))
 have hl2:xs.length≤65536:=few_len hfa
 rw [hfa] at v1
 have w1:=(missing_c xs hl2 hs).frz
 have w2:=(missing06_c xs hl2 hs).frz
 have hm:=missK_len xs
 have w3:=keys3_c (missK xs) (missK xs) (by unfold Small; omega)
 rw [decide_eq_true rfl] at w3
 generalize missK xs=Mi at *
 have w4:=(referrers_c xs k_kind k_name hl2 hs).frz
 have w5:=(referrers06_c xs k_kind k_name hl2 hs).frz
 have hr:(referrers xs (⟨k_kind,k_name⟩:Key)).length≤xs.length:=by unfold referrers; rw [List.length_map]; exact List.length_filter_le _ _
 have w6:=keys3_c (referrers xs (⟨k_kind,k_name⟩:Key)) (referrers xs (⟨k_kind,k_name⟩:Key)) (by unfold Small; omega)
 rw [decide_eq_true rfl] at w6
 generalize referrers xs (⟨k_kind,k_name⟩:Key)=Rf at *
 have w7:=(reachU_c xs hl2 hs).frz
 have w8:=reach06_c xs hl2 hs
 rw [reach06_eqU] at w8
 have hrl:=reachR_len xs
 have w9:=all4_c (reachR xs) (reachR xs) (by unfold Small; omega) (fun r hr=>hs r ((reachR_sub xs).subset hr))
 rw [decide_eq_true rfl] at w9
 generalize reachR xs=Rc at *
 have w10:=servedU_c xs hl2 hs
 have w11:=served06_c xs hl2 hs
 rw [served06_eqU] at w11
 generalize served xs=sv at *
 have w12:=(order_refs_c xs hl2).frz
 have w13:=(order06_c xs hl2).frz
 have ho:(orderK xs).length≤4 * xs.length:=by
  have b0:=tkind_len xs 0
  have b1:=tkind_len xs 1
  have b2:=tkind_len xs 2
  have b3:=tkind_len xs 3
  simp only [orderK,List.length_append,List.length_map]; omega
 have w14:=keys3_c (orderK xs) (orderK xs) (by unfold Small; omega)
 rw [decide_eq_true rfl] at w14
 generalize orderK xs=Or at *
 have w15:=(orphansU_c xs hl2 hs).frz
 have w16:=orph06_c xs hl2 hs
 rw [orph06_eqU] at w16
 have hol:(orphans xs).length≤xs.length:=by
  have h2:(orphans xs).length≤(xs.map keyOf).length:=List.length_filter_le _ _
  rwa [List.length_map] at h2
 have w17:=keys3_c (orphans xs) (orphans xs) (by unfold Small; omega)
 rw [decide_eq_true rfl] at w17
 generalize orphans xs=Op at *
 clear hs hl hl2 hm hr hrl ho hol
 refine CallR.go2 (T:=T) Tryz.call3 Tryz.func3 rfl Tryz.ntmps3 (congrArg Array.toList Tryz.results3) (by decide) fun ts hn h0 h1=>?_
 (repeat' (first
 | (with_reducible first|refine callX.by (awake6_c) ?_|refine callX.by (v1) ?_|refine callX.by (w1) ?_|refine callX.by (w2) ?_|refine callX.by (w3) ?_|refine callX.by (w4) ?_|refine callX.by (w5) ?_|refine callX.by (w6) ?_|refine callX.by (w7) ?_|refine callX.by (w8) ?_|refine callX.by (w9) ?_|refine callX.by (w10) ?_|refine callX.by (w11) ?_|refine callX.by (w12) ?_|refine callX.by (w13) ?_|refine callX.by (w14) ?_|refine callX.by (w15) ?_|refine callX.by (w16) ?_|refine callX.by (w17) ?_|refine callX.by awake6_c ?_|refine callX.by (few4_c _ ?_ ?_) ?_|refine callX.by (missing_c _ ?_ ?_) ?_|refine callX.by a6mc ?_|refine callX.by (missing06_c _ ?_ ?_) ?_|refine callX.by (keys3_c _ _ ?_) ?_|refine callX.by (keys17_c _ ?_) ?_|refine callX.by (referrers_c _ _ _ ?_ ?_) ?_|refine callX.by (referrers06_c _ _ _ ?_ ?_) ?_|refine callX.by (reachU_c _ ?_ ?_) ?_|refine callX.by (reach_c _ ?_ ?_ _) ?_|refine callX.by a6rc ?_|refine callX.by (reach06_c _ ?_ ?_) ?_|refine callX.by (all4_c _ _ ?_ ?_) ?_|refine callX.by (servedU_c _ ?_ ?_) ?_|refine callX.by (served_c _ ?_ ?_ _) ?_|refine callX.by a6sc ?_|refine callX.by (served06_c _ ?_ ?_) ?_|refine callX.by (order_refs_c _ ?_) ?_|refine callX.by a6oc ?_|refine callX.by (order06_c _ ?_) ?_|refine callX.by (orphansU_c _ ?_ ?_) ?_|refine callX.by (orphans_c _ ?_ ?_ _) ?_|refine callX.by (orph06_c _ ?_ ?_) ?_|assumption|(refine NxK.out hK _ ?_; clear hK K)|refine NxK.out ‹_› _ ?_|refine Nx.out ‹_› ?_|refine SpecC.seqW fun K hK=>?_|refine SpecC.regW T fun K hK=>?_|refine SpecC.drawW (id:=4) T mixed Wd17 (by kernel_rfl) fun K hK=>?_|refine SpecC.condW fun A B hA hB=>?_|refine SpecC.skip ?_|refine SpecC.ret ?_)
 | ((with_reducible first|apply condK.split|apply gK.split_t|apply gK.split_f)<;>intro hb<;>try simp only [nr] at hb)
 | simp only [go_sem,↓reduceIte,reduceIte,Nat.reduceEqDiff,String.reduceEq,Nat.reduceLT,Nat.reduceLeDiff,Nat.reduceAdd,Nat.reduceMul,Nat.reduceSub,Nat.reduceBEq,reduceCtorEq, *,-v1,-w1,-w2,-w3,-w4,-w5,-w6,-w7,-w8,-w9,-w10,-w11,-w12,-w13,-w14,-w15,-w16,-w17]
 | with_reducible refine fun (bn:Bool) hbn=>?_))
 all_goals trace_state
end Go.Proofs.YtmjkjmoeicnbnaaGreatDoor.Lg
