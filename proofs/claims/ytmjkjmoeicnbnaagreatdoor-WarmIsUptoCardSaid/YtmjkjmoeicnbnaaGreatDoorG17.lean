/- Parts of the proof, one behind the other. -/
import Derived.Test.YtmjkjmoeicnbnaaGreatDoorG16
namespace Go.Proofs.YtmjkjmoeicnbnaaGreatDoor.Lg
set_option maxRecDepth 100000
set_option linter.unusedVariables false
set_option linter.unusedSimpArgs false
open Go
open Nat renaming reduceEqDiff → Qa, reduceLT → Qb, reduceLeDiff → Qc, reduceAdd → Qd, reduceMul → Qe, reduceSub → Qf, reduceBEq → Qg
open String renaming reduceEq → Qh
open SpecC renaming seqW → Qi, regW → Qj, drawW → Qk, condW → Ql, block → Qm, skip → Qn, exit → Qp, ret → Qr, loopF → Qs, regUW → Qt
open NxK renaming out → Qw
open Nx renaming out → Qx
open condK renaming split → Qy
open gK renaming split_t → Qz, split_f → QA
open CallR renaming go1 → QD
theorem need_c:CallR Tryz.prog 152 [.int .i64 0] (.val (.tup [])):=by
 refine QD (T:=T) Tryz.call152 Tryz.func152 rfl Tryz.ntmps152 (congrArg Array.toList Tryz.results152) (by decide) fun ts hn h0=>?_
 (repeat' (first
 | (with_reducible first|assumption|(refine Qw hK _ ?_; clear hK K)|refine Qw ‹_› _ ?_|refine Qx ‹_› ?_|refine Qi fun K hK=>?_|refine Qj T fun K hK=>?_|refine Ql fun A B hA hB=>?_|refine Qn ?_|refine Qr ?_)
 | ((with_reducible first|apply Qy|apply Qz|apply QA)<;>intro hb<;>try simp only [nr] at hb)
 | simp only [go_sem,↓reduceIte,reduceIte,Qa,Qh,Qb,Qc,Qd,Qe,Qf,Qg,reduceCtorEq, *]
 | with_reducible refine fun (bn:Bool) hbn=>?_))
theorem need_u (e:Int) (he:¬ e=0):CallU Tryz.prog 152 [.int .i64 e] (upE e):=by
 refine CallU.go1 Tryz.call152 Tryz.func152 rfl Tryz.ntmps152 (by decide) fun ts hn h0=>?_
 (repeat' (first
 | (with_reducible first|refine Qt T 3 (id:=1) rfl rfl fun K hK=>?_|refine UpK.panicT (u:=165) (n:=e) ?_ ?_|assumption|(refine Qw hK _ ?_; clear hK K)|refine Qw ‹_› _ ?_|refine Qx ‹_› ?_|refine Qi fun K hK=>?_|refine Qj T fun K hK=>?_|refine Ql fun A B hA hB=>?_|refine Qn ?_|refine Qr ?_)
 | ((with_reducible first|apply Qy|apply Qz|apply QA)<;>intro hb<;>try simp only [nr] at hb)
 | simp only [go_sem,↓reduceIte,reduceIte,Qa,Qh,Qb,Qc,Qd,Qe,Qf,Qg,reduceCtorEq, *]
 | with_reducible refine fun (bn:Bool) hbn=>?_))
 all_goals first|rfl|trace_state
theorem unless_c (b:Bool) (e:Int):CallR Tryz.prog 153 [.bool b,.int .i64 e] (.val (.int .i64 (if b=true then 0 else e))):=by
 cases b
 ·refine CallR.go2 (T:=T) Tryz.call153 Tryz.func153 rfl Tryz.ntmps153 (congrArg Array.toList Tryz.results153) (by decide) fun ts hn h0 h1=>?_
  (repeat' (first
 | (with_reducible first|assumption|(refine Qw hK _ ?_; clear hK K)|refine Qw ‹_› _ ?_|refine Qx ‹_› ?_|refine Qi fun K hK=>?_|refine Qj T fun K hK=>?_|refine Ql fun A B hA hB=>?_|refine Qn ?_|refine Qr ?_)
 | ((with_reducible first|apply Qy|apply Qz|apply QA)<;>intro hb<;>try simp only [nr] at hb)
 | simp only [go_sem,↓reduceIte,reduceIte,Qa,Qh,Qb,Qc,Qd,Qe,Qf,Qg,reduceCtorEq, *]
 | with_reducible refine fun (bn:Bool) hbn=>?_))
 ·refine CallR.go2 (T:=T) Tryz.call153 Tryz.func153 rfl Tryz.ntmps153 (congrArg Array.toList Tryz.results153) (by decide) fun ts hn h0 h1=>?_
  (repeat' (first
 | (with_reducible first|assumption|(refine Qw hK _ ?_; clear hK K)|refine Qw ‹_› _ ?_|refine Qx ‹_› ?_|refine Qi fun K hK=>?_|refine Qj T fun K hK=>?_|refine Ql fun A B hA hB=>?_|refine Qn ?_|refine Qr ?_)
 | ((with_reducible first|apply Qy|apply Qz|apply QA)<;>intro hb<;>try simp only [nr] at hb)
 | simp only [go_sem,↓reduceIte,reduceIte,Qa,Qh,Qb,Qc,Qd,Qe,Qf,Qg,reduceCtorEq, *]
 | with_reducible refine fun (bn:Bool) hbn=>?_))
def mustE (cap:Int) (l:List Res):Int:=if ¬ tsane l=0 then tsane l else if (l.length:Int)≤cap then served l else 8
theorem must_c (cap:Int) (m l:List Res) (hl:l.length≤65536) (hs:∀ r∈l,SmRes r) (hnd:tsane l=0→(l.map keyOf).Nodup) (hm:mustE cap l=0) :
  CallR Tryz.prog 115 [.agg [.int .i64 cap,.slice false (avs m)],.slice false (avs l)] (.val (.tup [])):=by
 have hsl:=small_le hl
 have ht:tsane l=0:=by
  by_cases h:tsane l=0
  ·exact h
  ·unfold mustE at hm; rw [if_pos h] at hm; exact hm
 have hc:(l.length:Int)≤cap:=by
  by_cases h:(l.length:Int)≤cap
  ·exact h
  ·unfold mustE at hm; rw [if_neg (by simp [ht]),if_neg h] at hm; cases hm
 have hv:served l=0:=by
  unfold mustE at hm; rwa [if_neg (by simp [ht]),if_pos hc] at hm
 have w1:=tsane_c l hsl hs
 rw [ht] at w1
 have w3:=served_c l hl hs (hnd ht)
 rw [hv] at w3
 have w2:=unless_c true 8
 rw [if_pos rfl] at w2
 clear hm hnd
 refine CallR.go2 (T:=T) Tryz.call115 Tryz.func115 rfl Tryz.ntmps115 (congrArg Array.toList Tryz.results115) (by decide) fun ts hn h0 h1=>?_
 (repeat' (first
 | (with_reducible first|refine callX.by (w1) ?_|refine callX.by (w3) ?_|refine callX.by (w2) ?_|refine callX.by (tsane_c _ ?_ ?_) ?_|refine callX.by need_c ?_|refine callX.by (unless_c _ _) ?_|refine callX.by (served_c _ ?_ ?_ ?_) ?_|refine callX.by a6sc ?_|assumption|(refine Qw hK _ ?_; clear hK K)|refine Qw ‹_› _ ?_|refine Qx ‹_› ?_|refine Qi fun K hK=>?_|refine Qj T fun K hK=>?_|refine Ql fun A B hA hB=>?_|refine Qn ?_|refine Qr ?_)
 | ((with_reducible first|apply Qy|apply Qz|apply QA)<;>intro hb<;>try simp only [nr] at hb)
 | simp only [go_sem,↓reduceIte,reduceIte,Qa,Qh,Qb,Qc,Qd,Qe,Qf,Qg,reduceCtorEq, *,-hs,-w1,-w2,-w3,-ht,-hv]
 | with_reducible refine fun (bn:Bool) hbn=>?_))
 all_goals trace_state
theorem must_u (cap:Int) (m l:List Res) (hl:l.length≤65536) (hs:∀ r∈l,SmRes r) (hnd:tsane l=0→(l.map keyOf).Nodup) (hm:¬ mustE cap l=0) :
  CallU Tryz.prog 115 [.agg [.int .i64 cap,.slice false (avs m)],.slice false (avs l)] (upE (mustE cap l)):=by
 have hsl:=small_le hl
 have w1:=tsane_c l hsl hs
 by_cases ht:tsane l=0
 ·by_cases hc:(l.length:Int)≤cap
  ·have e:mustE cap l=served l:=by unfold mustE; rw [if_neg (by simp [ht]),if_pos hc]
   rw [e] at hm ⊢
   have w3:=served_c l hl hs (hnd ht)
   have w2:=unless_c true 8
   rw [if_pos rfl] at w2
   have w4:=need_u _ hm
   rw [ht] at w1
   clear hnd e
   refine CallU.go2 Tryz.call115 Tryz.func115 rfl Tryz.ntmps115 (by decide) fun ts hn h0 h1=>?_
   (repeat' (first
 | (with_reducible first|refine Qt T 2 (id:=3) rfl rfl fun K hK=>?_|refine UpK.callF w4 ?_ ?_|refine callX.by (w1) ?_|refine callX.by (w3) ?_|refine callX.by (w2) ?_|refine callX.by (tsane_c _ ?_ ?_) ?_|refine callX.by need_c ?_|refine callX.by (unless_c _ _) ?_|refine callX.by (served_c _ ?_ ?_ ?_) ?_|refine callX.by a6sc ?_|assumption|(refine Qw hK _ ?_; clear hK K)|refine Qw ‹_› _ ?_|refine Qx ‹_› ?_|refine Qi fun K hK=>?_|refine Qj T fun K hK=>?_|refine Ql fun A B hA hB=>?_|refine Qn ?_|refine Qr ?_)
 | ((with_reducible first|apply Qy|apply Qz|apply QA)<;>intro hb<;>try simp only [nr] at hb)
 | simp only [go_sem,↓reduceIte,reduceIte,Qa,Qh,Qb,Qc,Qd,Qe,Qf,Qg,reduceCtorEq, *,-hs,-w1,-w2,-w3,-w4,-ht]
 | with_reducible refine fun (bn:Bool) hbn=>?_))
   all_goals trace_state
  ·have e:mustE cap l=8:=by unfold mustE; rw [if_neg (by simp [ht]),if_neg hc]
   rw [e] at hm ⊢
   have w2:=unless_c false 8
   rw [if_neg (by simp)] at w2
   have w4:=need_u _ hm
   rw [ht] at w1
   clear hnd e
   refine CallU.go2 Tryz.call115 Tryz.func115 rfl Tryz.ntmps115 (by decide) fun ts hn h0 h1=>?_
   (repeat' (first
 | (with_reducible first|refine Qt T 6 (id:=2) rfl rfl fun K hK=>?_|refine UpK.callF w4 ?_ ?_|refine callX.by (w1) ?_|refine callX.by (w2) ?_|refine callX.by (tsane_c _ ?_ ?_) ?_|refine callX.by need_c ?_|refine callX.by (unless_c _ _) ?_|refine callX.by (served_c _ ?_ ?_ ?_) ?_|refine callX.by a6sc ?_|assumption|(refine Qw hK _ ?_; clear hK K)|refine Qw ‹_› _ ?_|refine Qx ‹_› ?_|refine Qi fun K hK=>?_|refine Qj T fun K hK=>?_|refine Ql fun A B hA hB=>?_|refine Qn ?_|refine Qr ?_)
 | ((with_reducible first|apply Qy|apply Qz|apply QA)<;>intro hb<;>try simp only [nr] at hb)
 | simp only [go_sem,↓reduceIte,reduceIte,Qa,Qh,Qb,Qc,Qd,Qe,Qf,Qg,reduceCtorEq, *,-hs,-w1,-w2,-w4,-ht]
 | with_reducible refine fun (bn:Bool) hbn=>?_))
   all_goals trace_state
 ·have e:mustE cap l=tsane l:=by unfold mustE; rw [if_pos ht]
  rw [e] at hm ⊢
  have w4:=need_u _ hm
  clear hnd e
  refine CallU.go2 Tryz.call115 Tryz.func115 rfl Tryz.ntmps115 (by decide) fun ts hn h0 h1=>?_
  (repeat' (first
 | (with_reducible first|refine Qt T 2 (id:=1) rfl rfl fun K hK=>?_|refine UpK.callF w4 ?_ ?_|refine callX.by (w1) ?_|refine callX.by (tsane_c _ ?_ ?_) ?_|refine callX.by need_c ?_|refine callX.by (unless_c _ _) ?_|refine callX.by (served_c _ ?_ ?_ ?_) ?_|refine callX.by a6sc ?_|assumption|(refine Qw hK _ ?_; clear hK K)|refine Qw ‹_› _ ?_|refine Qx ‹_› ?_|refine Qi fun K hK=>?_|refine Qj T fun K hK=>?_|refine Ql fun A B hA hB=>?_|refine Qn ?_|refine Qr ?_)
 | ((with_reducible first|apply Qy|apply Qz|apply QA)<;>intro hb<;>try simp only [nr] at hb)
 | simp only [go_sem,↓reduceIte,reduceIte,Qa,Qh,Qb,Qc,Qd,Qe,Qf,Qg,reduceCtorEq, *,-hs,-w1,-w4,-ht]
 | with_reducible refine fun (bn:Bool) hbn=>?_))
  all_goals trace_state
@[go_sem] def Wd14:List (List Nat×List Nat):=[([3],[5,6,7]),([4],[5,6,7]),([5],[3,4]),([6],[3,4]),([7],[3,4])]
def bnd (n:Int):Int:=max 0 (min n 64)
theorem bounded_c (n:Int):CallR Tryz.prog 112 [.int .i64 n] (.val (.int .i64 (bnd n))):=by
 refine QD (T:=T) Tryz.call112 Tryz.func112 rfl Tryz.ntmps112 (congrArg Array.toList Tryz.results112) (by decide) fun ts hn h0=>?_
 (repeat' (first
 | (with_reducible first|assumption|(refine Qw hK _ ?_; clear hK K)|refine Qw ‹_› _ ?_|refine Qx ‹_› ?_|refine Qi fun K hK=>?_|refine Qj T fun K hK=>?_|refine Ql fun A B hA hB=>?_|refine Qn ?_|refine Qr ?_)
 | ((with_reducible first|apply Qy|apply Qz|apply QA)<;>intro hb<;>try simp only [nr] at hb)
 | simp only [go_sem,↓reduceIte,reduceIte,Qa,Qh,Qb,Qc,Qd,Qe,Qf,Qg,reduceCtorEq, *]
 | with_reducible refine fun (bn:Bool) hbn=>?_))
 all_goals rfl
theorem newC_c (n:Int):CallR Tryz.prog 109 [.int .i64 n] (.val (.agg [.int .i64 (bnd n),.slice false []])):=by
 refine QD (T:=T) Tryz.call109 Tryz.func109 rfl Tryz.ntmps109 (congrArg Array.toList Tryz.results109) (by decide) fun ts hn h0=>?_
 (repeat' (first
 | (with_reducible first|refine callX.by (bounded_c _) ?_|assumption|(refine Qw hK _ ?_; clear hK K)|refine Qw ‹_› _ ?_|refine Qx ‹_› ?_|refine Qi fun K hK=>?_|refine Qj T fun K hK=>?_|refine Ql fun A B hA hB=>?_|refine Qn ?_|refine Qr ?_)
 | ((with_reducible first|apply Qy|apply Qz|apply QA)<;>intro hb<;>try simp only [nr] at hb)
 | simp only [go_sem,↓reduceIte,reduceIte,Qa,Qh,Qb,Qc,Qd,Qe,Qf,Qg,reduceCtorEq, *]
 | with_reducible refine fun (bn:Bool) hbn=>?_))
theorem caneS1_d (cap:Int) (l:List Res) (hl:l.length≤65536) (hs:∀ r∈l,SmRes r) :
  Done 114 ([.ro [.int .i64 cap,.slice false (avs l)]].map Arg.v) (mustE cap l) (fun _=>True):=by
 unfold Done
 split
 ·rename_i hm
  have w1:=must_c cap l l hl hs (fun h=>(conf_of h).nodup) hm
  have key:CallR Tryz.prog 114 [.ro [.int .i64 cap,.slice false (avs l)]] (.val (.tup [])):=by
   refine QD (T:=T) Tryz.call114 Tryz.func114 rfl Tryz.ntmps114 (congrArg Array.toList Tryz.results114) (by decide) fun ts hn h0=>?_
   (repeat' (first
 | (with_reducible first|refine callX.by (w1) ?_|assumption|(refine Qw hK _ ?_; clear hK K)|refine Qw ‹_› _ ?_|refine Qx ‹_› ?_|refine Qi fun K hK=>?_|refine Qj T fun K hK=>?_|refine Ql fun A B hA hB=>?_|refine Qn ?_|refine Qr ?_)
 | ((with_reducible first|apply Qy|apply Qz|apply QA)<;>intro hb<;>try simp only [nr] at hb)
 | simp only [go_sem,↓reduceIte,reduceIte,Qa,Qh,Qb,Qc,Qd,Qe,Qf,Qg,reduceCtorEq, *,-hs,-w1,-hm]
 | with_reducible refine fun (bn:Bool) hbn=>?_))
  exact CallV.mono key fun r io h=>⟨h,trivial⟩
 ·rename_i hm
  have w1:=must_u cap l l hl hs (fun h=>(conf_of h).nodup) hm
  have key:CallU Tryz.prog 114 [.ro [.int .i64 cap,.slice false (avs l)]] (upE (mustE cap l)):=by
   refine CallU.go1 Tryz.call114 Tryz.func114 rfl Tryz.ntmps114 (by decide) fun ts hn h0=>?_
   (repeat' (first
 | (with_reducible first|refine Qt T 3 (id:=0) rfl rfl fun K hK=>?_|refine UpK.callF w1 ?_ ?_|assumption|(refine Qw hK _ ?_; clear hK K)|refine Qw ‹_› _ ?_|refine Qx ‹_› ?_|refine Qi fun K hK=>?_|refine Qj T fun K hK=>?_|refine Ql fun A B hA hB=>?_|refine Qn ?_|refine Qr ?_)
 | ((with_reducible first|apply Qy|apply Qz|apply QA)<;>intro hb<;>try simp only [nr] at hb)
 | simp only [go_sem,↓reduceIte,reduceIte,Qa,Qh,Qb,Qc,Qd,Qe,Qf,Qg,reduceCtorEq, *,-hs,-w1,-hm]
 | with_reducible refine fun (bn:Bool) hbn=>?_))
  exact key
def saneC (c:Cache):Bool:=decide (c.cap=bnd c.cap) && decide (mustE c.cap c.l=0)
theorem caps_cache (cap:Int) (l:List Res):AV.pure.pureL [.ro [.int .i64 cap,.slice false (avs l)]]=true:=by simp only [go_sem,Bool.and_self]
theorem saneC_c (c_cap:Int) (c_l:List Res) (hl:c_l.length≤65536) (hs:∀ r∈c_l,SmRes r):CallR Tryz.prog 55 [.agg [.int .i64 c_cap,.slice false (avs c_l)]] (.val (.bool (saneC (⟨c_cap,c_l⟩:Cache)))):=by
 have w1:=caught_c 114 [.ro [.int .i64 c_cap,.slice false (avs c_l)]] (mustE c_cap c_l) Tryz.call114 (caneS1_d c_cap c_l hl hs) (caps_cache _ _)
 refine QD (T:=T.withF [10]) Tryz.call55 Tryz.func55 rfl Tryz.ntmps55 (congrArg Array.toList Tryz.results55) (by decide) fun ts hn h0=>?_
 (repeat' (first
 | (with_reducible first|refine SpecC.ent (Ent.frzBox _ 1) (Qk (id:=1) (T.withF [10]) mixed Wd14 (by kernel_rfl) fun K hK=>?_)|refine callX.by (w1) ?_|refine callX.by (bounded_c _) ?_|assumption|(refine Qw hK _ ?_; clear hK K)|refine Qw ‹_› _ ?_|refine Qx ‹_› ?_|refine Qi fun K hK=>?_|refine Qj (T.withF [10]) fun K hK=>?_|refine Qk (id:=1) (T.withF [10]) mixed Wd14 (by kernel_rfl) fun K hK=>?_|refine Ql fun A B hA hB=>?_|refine Qn ?_|refine Qr ?_)
 | ((with_reducible first|apply Qy|apply Qz|apply QA)<;>intro hb<;>try simp only [nr] at hb)
 | simp only [go_sem,↓reduceIte,reduceIte,Qa,Qh,Qb,Qc,Qd,Qe,Qf,Qg,reduceCtorEq, *,-hs,-w1]
 | with_reducible refine fun (bn:Bool) hbn=>?_))
 all_goals (simp only [saneC,hb,Bool.true_and,Bool.false_and])
def saneOf (c:Cache):Cache:=if saneC c=true then c else ⟨bnd c.cap,[]⟩
theorem saneOf_c (c_cap:Int) (c_l:List Res) (hl:c_l.length≤65536) (hs:∀ r∈c_l,SmRes r):CallR Tryz.prog 122 [.agg [.int .i64 c_cap,.slice false (avs c_l)]] (.val (.agg [.int .i64 (saneOf (⟨c_cap,c_l⟩:Cache)).cap,.slice false (avs (saneOf (⟨c_cap,c_l⟩:Cache)).l)])):=by
 have w1:=saneC_c c_cap c_l hl hs
 unfold saneOf
 cases hb0:saneC (⟨c_cap,c_l⟩:Cache)
 ·rw [hb0] at w1
  refine QD (T:=T) Tryz.call122 Tryz.func122 rfl Tryz.ntmps122 (congrArg Array.toList Tryz.results122) (by decide) fun ts hn h0=>?_
  (repeat' (first
 | (with_reducible first|refine callX.by (w1) ?_|refine callX.by (saneC_c _ _ ?_ ?_) ?_|refine callX.by (newC_c _) ?_|assumption|(refine Qw hK _ ?_; clear hK K)|refine Qw ‹_› _ ?_|refine Qx ‹_› ?_|refine Qi fun K hK=>?_|refine Qj T fun K hK=>?_|refine Ql fun A B hA hB=>?_|refine Qn ?_|refine Qr ?_)
 | ((with_reducible first|apply Qy|apply Qz|apply QA)<;>intro hb<;>try simp only [nr] at hb)
 | simp only [go_sem,↓reduceIte,reduceIte,Qa,Qh,Qb,Qc,Qd,Qe,Qf,Qg,reduceCtorEq, *,-hs,-w1]
 | with_reducible refine fun (bn:Bool) hbn=>?_))
  all_goals rfl
 ·rw [hb0] at w1
  refine QD (T:=T) Tryz.call122 Tryz.func122 rfl Tryz.ntmps122 (congrArg Array.toList Tryz.results122) (by decide) fun ts hn h0=>?_
  (repeat' (first
 | (with_reducible first|refine callX.by (w1) ?_|refine callX.by (saneC_c _ _ ?_ ?_) ?_|refine callX.by (newC_c _) ?_|assumption|(refine Qw hK _ ?_; clear hK K)|refine Qw ‹_› _ ?_|refine Qx ‹_› ?_|refine Qi fun K hK=>?_|refine Qj T fun K hK=>?_|refine Ql fun A B hA hB=>?_|refine Qn ?_|refine Qr ?_)
 | ((with_reducible first|apply Qy|apply Qz|apply QA)<;>intro hb<;>try simp only [nr] at hb)
 | simp only [go_sem,↓reduceIte,reduceIte,Qa,Qh,Qb,Qc,Qd,Qe,Qf,Qg,reduceCtorEq, *,-hs,-w1]
 | with_reducible refine fun (bn:Bool) hbn=>?_))
  all_goals trace_state
theorem with11_c (r_kind:Int) (r_name:List UInt8) (r_ver:Int) (r_port:Int) (r_to:List UInt8) (r_rules:List Rule) (r_hosts:List Int) (k_kind:Int) (k_name:List UInt8) (c:Int):CallR Tryz.prog 185 [.agg [.int .i64 r_kind,.str r_name,.int .i64 r_ver,.int .i64 r_port,.str r_to,.slice false (avs r_rules),.slice false (avs r_hosts)],.ro [.int .i64 k_kind,.str k_name],.ro [.int .i64 c]] (.val (.bool (decide (kcmp (keyOf (⟨r_kind,r_name,r_ver,r_port,r_to,r_rules,r_hosts⟩:Res)) (⟨k_kind,k_name⟩:Key)=c)))):=by
 refine CallR.go3 (T:=T) Tryz.call185 Tryz.func185 rfl Tryz.ntmps185 (congrArg Array.toList Tryz.results185) (by decide) fun ts hn h0 h1 h2=>?_
 (repeat' (first
 | (with_reducible first|refine callX.by (rkey_c _ _ _ _ _ _ _) ?_|refine callX.by (kcmp_c _ _ _ _) ?_|assumption|(refine Qw hK _ ?_; clear hK K)|refine Qw ‹_› _ ?_|refine Qx ‹_› ?_|refine Qi fun K hK=>?_|refine Qj T fun K hK=>?_|refine Qk (id:=1) T mixed [([5],[7,9]),([6],[7,9]),([7],[5,6,9]),([8],[9]),([9],[5,6,7,8])] (by kernel_rfl) fun K hK=>?_|refine Ql fun A B hA hB=>?_|refine Qn ?_|refine Qr ?_)
 | ((with_reducible first|apply Qy|apply Qz|apply QA)<;>intro hb<;>try simp only [nr] at hb)
 | simp only [go_sem,↓reduceIte,reduceIte,Qa,Qh,Qb,Qc,Qd,Qe,Qf,Qg,reduceCtorEq, *]
 | with_reducible refine fun (bn:Bool) hbn=>?_))
 all_goals rfl
theorem caps_with (a:Int) (b:List UInt8) (c:Int):Caps [.ro [.int .i64 a,.str b],.ro [.int .i64 c]]:=⟨by simp only [go_sem,Bool.and_self],by simp only [go_sem]⟩
def sideR (l:List Res) (k:Key) (c:Int):List Res:=l.filter fun r=>decide (kcmp (keyOf r) k=c)
theorem with1_c (xs:List Res) (k_kind:Int) (k_name:List UInt8) (c:Int) (hl:Small xs.length):CallR Tryz.prog 184 [.int .i64 c,.ro [.slice false (avs xs)],.ro [.int .i64 k_kind,.str k_name]] (.own 7 (avs (sideR xs (⟨k_kind,k_name⟩:Key) c))):=by
 have hf:=tfilter_c 185 [.ro [.int .i64 k_kind,.str k_name],.ro [.int .i64 c]] (caps_with k_kind k_name c) (fun r=>decide (kcmp (keyOf r) (⟨k_kind,k_name⟩:Key)=c)) xs (fun x _=>with11_c x.kind x.name x.ver x.port x.to' x.rules' x.hosts k_kind k_name c) hl
 rw [show xs.filter (fun r=>decide (kcmp (keyOf r) (⟨k_kind,k_name⟩:Key)=c))=sideR xs (⟨k_kind,k_name⟩:Key) c from rfl] at hf
 refine CallR.go3 (T:=T) Tryz.call184 Tryz.func184 rfl Tryz.ntmps184 (congrArg Array.toList Tryz.results184) (by decide) fun ts hn h0 h1 h2=>?_
 (repeat' (first
 | (with_reducible first|refine callX.by (hf) ?_|refine callX.by (tfilter_c _ _ ?_ _ _ ?_ ?_) ?_|assumption|(refine Qw hK _ ?_; clear hK K)|refine Qw ‹_› _ ?_|refine Qx ‹_› ?_|refine Qi fun K hK=>?_|refine Qj T fun K hK=>?_|refine Ql fun A B hA hB=>?_|refine Qn ?_|refine Qr ?_)
 | ((with_reducible first|apply Qy|apply Qz|apply QA)<;>intro hb<;>try simp only [nr] at hb)
 | simp only [go_sem,↓reduceIte,reduceIte,Qa,Qh,Qb,Qc,Qd,Qe,Qf,Qg,reduceCtorEq, *,-hf]
 | with_reducible refine fun (bn:Bool) hbn=>?_))
def withR (l:List Res) (r:Res):List Res:=sideR l (keyOf r) (-1)++[r]++sideR l (keyOf r) 1
instance:Dat (List Res) where
 av x:=.slice false (avs x)
 sz:=1
 len _:=rfl
 pure x:=by simp only [go_sem,Bool.and_self]
 nrm x:=by simp only [go_sem]
 one x:=by simp only [go_sem,List.all_cons,List.all_nil,Bool.and_self]
 known _:=rfl
@[go_sem] theorem av_LRes (x:List Res):Dat.av x=.slice false (avs x):=rfl
@[go_sem] theorem sz_LRes:Dat.sz (List Res)=1:=rfl
theorem w64_sub0 {n:Nat} (hn:Small n):IntKind.i64.wrap ((n:Int) - IntKind.i64.wrap ((0:Int) - 0))=n:=by
 have e:IntKind.i64.wrap ((0:Int) - 0)=0:=by decide
 rw [e]
 unfold Small at hn
 simp only [IntKind.wrap,IntKind.signed,IntKind.bits]
 simp
 omega
theorem w64_addN {a b n:Nat} (h:a+b≤n) (hn:Small n):IntKind.i64.wrap ((a:Int)+(b:Int))=((a+b:Nat):Int):=by
 unfold Small at hn
 simp only [IntKind.wrap,IntKind.signed,IntKind.bits]
 simp
 omega
theorem tgrow_c (n:Nat) (hn:Small n):CallR Tryz.prog 218 [.slice true [],.int .i64 n] (.own 7 []):=by
 have hr:Room n 104:=room_small (by unfold Small at hn; omega) (by decide)
 have hr1:n * 104≤140737488355328:=hr.1
 have hr2:n≤9223372036854775807:=hr.2
 have hw:=w64_sub0 hn
 refine CallR.go2 (T:=T) Tryz.call218 Tryz.func218 rfl Tryz.ntmps218 (congrArg Array.toList Tryz.results218) (by decide) fun ts hn h0 h1=>?_
 have hz0:IntKind.i64.wrap ((0:Int) - IntKind.i64.wrap ((0:Int) - 0))=0:=by decide
 by_cases h00:n=0
 ·subst h00
  (repeat' (first
 | (with_reducible first|assumption|(refine Qw hK _ ?_; clear hK K)|refine Qw ‹_› _ ?_|refine Qx ‹_› ?_|refine Qi fun K hK=>?_|refine Qj T fun K hK=>?_|refine Ql fun A B hA hB=>?_|refine Qn ?_|refine Qr ?_)
 | ((with_reducible first|apply Qy|apply Qz|apply QA)<;>intro hb<;>try simp only [nr] at hb)
 | simp only [go_sem,↓reduceIte,reduceIte,Qa,Qh,Qb,Qc,Qd,Qe,Qf,Qg,reduceCtorEq, *,-hr,List.length_nil,Int.lt_irrefl,decide_false,Int.le_refl]
 | with_reducible refine fun (bn:Bool) hbn=>?_))
  all_goals first|(exfalso; simp_all; done)|trace_state
 ·have hd:(0:Int) < (n:Int):=by omega
  have hz:List.take 0 (List.replicate n (AV.agg (List.replicate 7 AV.any)))=[]:=rfl
  (repeat' (first
 | (with_reducible first|assumption|(refine Qw hK _ ?_; clear hK K)|refine Qw ‹_› _ ?_|refine Qx ‹_› ?_|refine Qi fun K hK=>?_|refine Qj T fun K hK=>?_|refine Ql fun A B hA hB=>?_|refine Qn ?_|refine Qr ?_)
 | ((with_reducible first|apply Qy|apply Qz|apply QA)<;>intro hb<;>try simp only [nr] at hb)
 | simp only [go_sem,↓reduceIte,reduceIte,Qa,Qh,Qb,Qc,Qd,Qe,Qf,Qg,reduceCtorEq, *,-hr,List.length_nil,Int.le_refl,Int.toNat_zero,List.drop_zero]
 | with_reducible refine fun (bn:Bool) hbn=>?_))
  all_goals trace_state
def flatN (xss:List (List Res)) (i:Nat):Nat:=(xss.drop i).flatten.length
theorem flatN_step {xss:List (List Res)} {i:Nat} (h:i < xss.length):flatN xss i=xss[i].length+flatN xss (i+1):=by
 unfold flatN
 rw [List.drop_eq_getElem_cons h,List.flatten_cons,List.length_append]
theorem concat_c (xss:List (List Res)) (hx:Small xss.length) (hl:Small xss.flatten.length):CallR Tryz.prog 186 [.slice false (avs xss)] (.own 7 (avs xss.flatten)):=by
 have hg:=tgrow_c xss.flatten.length hl
 refine QD (T:=T) Tryz.call186 Tryz.func186 rfl Tryz.ntmps186 (congrArg Array.toList Tryz.results186) (by decide) fun ts hn h0=>?_
 (repeat' (first
 | (with_reducible first|refine callX.by (tgrow_c _ ?_) ?_|assumption|(refine Qw hK _ ?_; clear hK K)|refine Qw ‹_› _ ?_|refine Qx ‹_› ?_|refine Qi fun K hK=>?_|refine Qj T fun K hK=>?_|refine Ql fun A B hA hB=>?_|refine Qm ?_|refine Qn ?_|refine Qp ?_|refine Qr ?_)
 | ((with_reducible first|apply Qy|apply Qz|apply QA)<;>intro hb<;>try simp only [nr] at hb)
 | simp only [go_sem,↓reduceIte,reduceIte,Qa,Qh,Qb,Qc,Qd,Qe,Qf,Qg,reduceCtorEq, *,-hg]
 | with_reducible refine fun (bn:Bool) hbn=>?_))
 refine Qs [0,9,10] (fun m ts'=>∃ (i:Nat),∃ (n:Nat),m=xss.length - i∧i≤xss.length∧n+flatN xss i=xss.flatten.length∧ts'.tmp 3=.int .i64 n∧ts'.tmp 11=.int .i64 i) xss.length ?_ ?_
 ·refine ⟨0,0,rfl,Nat.zero_le _,by simp [flatN],?_⟩
  simp only [go_sem,↓reduceIte,reduceIte,Qa,Qh,Qb,Qc,Qd,Qe,Qf,Qg,reduceCtorEq, *,-hg]
 ·rintro m A hM ts' hk ⟨i,n,hm,f1,f2,s1,s2⟩
  simp only [go_sem,↓reduceIte,reduceIte,Qa,Qh,Qb,Qc,Qd,Qe,Qf,Qg,reduceCtorEq, *] at hk
  by_cases hlt:i < xss.length
  ·rw [flatN_step hlt] at f2
   have hw:=w64_addN (a:=n) (b:=xss[i].length) (n:=xss.flatten.length) (by omega) hl
   (repeat' (first
 | (with_reducible first|refine callX.by (tgrow_c _ ?_) ?_|assumption|(refine Qw hK _ ?_; clear hK K)|refine Qw ‹_› _ ?_|refine Qx ‹_› ?_|refine Qi fun K hK=>?_|refine Qj T fun K hK=>?_|refine Ql fun A B hA hB=>?_|refine Qm ?_|refine Qn ?_|refine Qp ?_|refine Qr ?_)
 | ((with_reducible first|apply Qy|apply Qz|apply QA)<;>intro hb<;>try simp only [nr] at hb)
 | simp only [go_sem,↓reduceIte,reduceIte,Qa,Qh,Qb,Qc,Qd,Qe,Qf,Qg,reduceCtorEq, *,-hg,-f2]
 | with_reducible refine fun (bn:Bool) hbn=>?_))
   all_goals ((repeat clear hK); (repeat clear hA); (repeat clear hB))
   all_goals (refine hM.on (xss.length - (i+1)) (by omega) (by simp only [go_sem,↓reduceIte,reduceIte,Qa,Qh,Qb,Qc,Qd,Qe,Qf,Qg,reduceCtorEq, *,w64_nat hlt hx,-hg,-f2]) ⟨i+1,n+xss[i].length,rfl,by omega,by omega,?_⟩; simp only [go_sem,↓reduceIte,reduceIte,Qa,Qh,Qb,Qc,Qd,Qe,Qf,Qg,reduceCtorEq, *,w64_nat hlt hx,-hg,-f2]; done)
  ·have hn:n=xss.flatten.length:=by
    have e:flatN xss i=0:=by unfold flatN; rw [List.drop_eq_nil_of_le (by omega)]; rfl
    omega
   clear f2
   subst hn
   (repeat' (first
 | (with_reducible first|refine callX.raw (hg) ?_|refine callX.by (tgrow_c _ ?_) ?_|assumption|(refine Qw hK _ ?_; clear hK K)|refine Qw ‹_› _ ?_|refine Qx ‹_› ?_|refine Qi fun K hK=>?_|refine Qj T fun K hK=>?_|refine Ql fun A B hA hB=>?_|refine Qm ?_|refine Qn ?_|refine Qp ?_|refine Qr ?_)
 | ((with_reducible first|apply Qy|apply Qz|apply QA)<;>intro hb<;>try simp only [nr] at hb)
 | simp only [go_sem,↓reduceIte,reduceIte,Qa,Qh,Qb,Qc,Qd,Qe,Qf,Qg,reduceCtorEq, *,-hg]
 | with_reducible refine fun (bn:Bool) hbn=>?_))
   refine SpecC.ent (Ent.ren 6 24 (by simp only [go_sem,↓reduceIte,reduceIte,Qa,Qh,Qb,Qc,Qd,Qe,Qf,Qg,reduceCtorEq, *,-hg]) (by simp only [go_sem,↓reduceIte,reduceIte,Qa,Qh,Qb,Qc,Qd,Qe,Qf,Qg,reduceCtorEq, *,-hg])) ?_
   refine Qs [25,26] (fun m ts'=>∃ (j:Nat),∃ (g:Nat),∃ (ys:List Res),m=xss.length - j∧j≤xss.length∧ys++(xss.drop j).flatten=xss.flatten∧ts'.tmp 6=.os 6 g ys.length∧ts'.gen 6=g∧ts'.obj 6=.arr 7 (avs ys)∧ts'.tmp 27=.int .i64 j) xss.length ?_ ?_
   ·refine ⟨0,ts'.gen 6+1,[],rfl,Nat.zero_le _,by simp,?_⟩
    simp only [go_sem,↓reduceIte,reduceIte,Qa,Qh,Qb,Qc,Qd,Qe,Qf,Qg,reduceCtorEq, *,-hg]
    rfl
   ·clear hM hm
    rintro m A hM ts' hk ⟨j,g,ys,hm,f1,f2,s1,s2,s3,s4⟩
    simp only [go_sem,↓reduceIte,reduceIte,Qa,Qh,Qb,Qc,Qd,Qe,Qf,Qg,reduceCtorEq, *] at hk
    by_cases hlt2:j < xss.length
    ·rw [List.drop_eq_getElem_cons hlt2,List.flatten_cons,← List.append_assoc] at f2
     have hle:ys.length+xss[j].length≤xss.flatten.length:=by rw [← f2]; simp
     have hr:Room (ys.length+xss[j].length) 104:=room_small (by unfold Small at hl; omega) (by decide)
     (repeat' (first
 | (with_reducible first|refine callX.by (tgrow_c _ ?_) ?_|assumption|(refine Qw hK _ ?_; clear hK K)|refine Qw ‹_› _ ?_|refine Qx ‹_› ?_|refine Qi fun K hK=>?_|refine Qj T fun K hK=>?_|refine Ql fun A B hA hB=>?_|refine Qm ?_|refine Qn ?_|refine Qp ?_|refine Qr ?_)
 | ((with_reducible first|apply Qy|apply Qz|apply QA)<;>intro hb<;>try simp only [nr] at hb)
 | simp only [go_sem,↓reduceIte,reduceIte,Qa,Qh,Qb,Qc,Qd,Qe,Qf,Qg,reduceCtorEq, *,-hg,-f2]
 | with_reducible refine fun (bn:Bool) hbn=>?_))
     all_goals ((repeat clear hK); (repeat clear hA); (repeat clear hB))
     all_goals (refine hM.onE (xss.length - (j+1)) (Ent.ren 6 33 ?_ ?_) ?_ ?_ ?_; (focus (simp only [go_sem,↓reduceIte,reduceIte,Qa,Qh,Qb,Qc,Qd,Qe,Qf,Qg,reduceCtorEq, *,w64_nat hlt2 hx,List.length_append,-hg,-f2]; first|done|rfl)); (focus (simp only [go_sem,↓reduceIte,reduceIte,Qa,Qh,Qb,Qc,Qd,Qe,Qf,Qg,reduceCtorEq, *,w64_nat hlt2 hx,List.length_append,-hg,-f2]; first|done|rfl)); omega; (focus (simp only [go_sem,↓reduceIte,reduceIte,Qa,Qh,Qb,Qc,Qd,Qe,Qf,Qg,reduceCtorEq, *,w64_nat hlt2 hx,List.length_append,-hg,-f2]; done)); refine ⟨j+1,ts'.gen 6+1,ys++xss[j],rfl,by omega,f2,?_⟩; simp only [go_sem,↓reduceIte,reduceIte,Qa,Qh,Qb,Qc,Qd,Qe,Qf,Qg,reduceCtorEq, *,w64_nat hlt2 hx,List.length_append,-hg,-f2]; done)
    ·rw [List.drop_eq_nil_of_le (by omega),List.flatten_nil,List.append_nil] at f2
     subst f2
     (repeat' (first
 | (with_reducible first|refine callX.by (tgrow_c _ ?_) ?_|assumption|(refine Qw hK _ ?_; clear hK K)|refine Qw ‹_› _ ?_|refine Qx ‹_› ?_|refine Qi fun K hK=>?_|refine Qj T fun K hK=>?_|refine Ql fun A B hA hB=>?_|refine Qm ?_|refine Qn ?_|refine Qp ?_|refine Qr ?_)
 | ((with_reducible first|apply Qy|apply Qz|apply QA)<;>intro hb<;>try simp only [nr] at hb)
 | simp only [go_sem,↓reduceIte,reduceIte,Qa,Qh,Qb,Qc,Qd,Qe,Qf,Qg,reduceCtorEq, *,-hg]
 | with_reducible refine fun (bn:Bool) hbn=>?_))
theorem with_c (xs:List Res) (r:Res) (hl:Small xs.length) (hl2:Small (withR xs r).length):CallR Tryz.prog 146 [.slice false (avs xs),.agg [.int .i64 r.kind,.str r.name,.int .i64 r.ver,.int .i64 r.port,.str r.to',.slice false (avs r.rules'),.slice false (avs r.hosts)]] (.own 7 (avs (withR xs r))):=by
 have w1:=(with1_c xs r.kind r.name (-1) hl).frz
 have w2:=(with1_c xs r.kind r.name 1 hl).frz
 have hcc:CallR Tryz.prog 186 [.slice false [.slice false (avs (sideR xs ⟨r.kind,r.name⟩ (-1))),.slice false [.agg [.int .i64 r.kind,.str r.name,.int .i64 r.ver,.int .i64 r.port,.str r.to',.slice false (avs r.rules'),.slice false (avs r.hosts)]],.slice false (avs (sideR xs ⟨r.kind,r.name⟩ 1))]] (.own 7 (avs (withR xs r))):=by
  have h:=concat_c [sideR xs (keyOf r) (-1),[r],sideR xs (keyOf r) 1] (by unfold Small; simp) (by simpa [withR] using hl2)
  have e:[sideR xs (keyOf r) (-1),[r],sideR xs (keyOf r) 1].flatten=withR xs r:=by simp [withR]
  rw [e] at h
  exact h
 refine CallR.go2 (T:=T.withF [13,16]) Tryz.call146 Tryz.func146 rfl Tryz.ntmps146 (congrArg Array.toList Tryz.results146) (by decide) fun ts hn h0 h1=>?_
 (repeat' (first
 | (with_reducible first|refine callX.by (w1) ?_|refine callX.by (w2) ?_|refine callX.by (hcc) ?_|refine callX.by (rkey_c _ _ _ _ _ _ _) ?_|refine callX.by (concat_c _ ?_ ?_) ?_|assumption|(refine Qw hK _ ?_; clear hK K)|refine Qw ‹_› _ ?_|refine Qx ‹_› ?_|refine Qi fun K hK=>?_|refine Qj (T.withF [13,16]) fun K hK=>?_|refine Qk (id:=3) (T.withF [13,16]) mixed [([10],[12,13,14]),([11],[12,13,14]),([12],[10,11,14,15]),([13],[10,11,14,15]),([14],[10,11,12,13]),([15],[12,13])] (by kernel_rfl) fun K hK=>?_|refine Ql fun A B hA hB=>?_|refine Qn ?_|refine Qr ?_)
 | ((with_reducible first|apply Qy|apply Qz|apply QA)<;>intro hb<;>try simp only [nr] at hb)
 | simp only [go_sem,↓reduceIte,reduceIte,Qa,Qh,Qb,Qc,Qd,Qe,Qf,Qg,reduceCtorEq, *,-w1,-w2,-hcc]
 | with_reducible refine fun (bn:Bool) hbn=>?_))
 all_goals trace_state
def patchR (l adds:List Res) (gone:List Key):List Res:=adds.foldl withR (gone.foldl twithout l)
theorem side_len (l:List Res) (k:Key):(sideR l k (-1)).length+(sideR l k 1).length≤l.length:=by
 induction l with
 | nil=>simp [sideR]
 | cons x l ih =>
  simp only [sideR,List.filter_cons] at ih ⊢
  by_cases h1:kcmp (keyOf x) k=-1
  ·have h2:¬ kcmp (keyOf x) k=1:=by omega
   simp [h1] at ih ⊢
   omega
  ·by_cases h2:kcmp (keyOf x) k=1
   ·simp [h2] at ih ⊢
    omega
   ·simp [h1,h2] at ih ⊢
    omega
theorem withR_len (l:List Res) (r:Res):(withR l r).length≤l.length+1:=by
 have:=side_len l (keyOf r)
 simp only [withR,List.length_append,List.length_singleton]
 omega
theorem withR_mem {l:List Res} {r x:Res} (h:x∈withR l r):x=r∨x∈l:=by
 simp only [withR,sideR,List.mem_append,List.mem_filter,List.mem_singleton] at h
 rcases h with (h|h)|h
 ·exact .inr h.1
 ·exact .inl h
 ·exact .inr h.1
theorem twithout_len (l:List Res) (k:Key):(twithout l k).length≤l.length:=by unfold twithout; exact List.length_filter_le _ _
theorem twithout_mem {l:List Res} {k:Key} {x:Res} (h:x∈twithout l k):x∈l:=by unfold twithout at h; exact (List.mem_filter.1 h).1
theorem withouts_len (l:List Res):∀ gone:List Key,(gone.foldl twithout l).length≤l.length
 | []=>Nat.le_refl _
 | k :: g=>Nat.le_trans (withouts_len (twithout l k) g) (twithout_len l k)
theorem withs_len (l:List Res):∀ adds:List Res,(adds.foldl withR l).length≤l.length+adds.length
 | []=>Nat.le_refl _
 | r :: a=>by
  have h1:=withs_len (withR l r) a
  have h2:=withR_len l r
  simp only [List.foldl_cons,List.length_cons]
  omega
theorem patchR_len (l adds:List Res) (gone:List Key):(patchR l adds gone).length≤l.length+adds.length:=Nat.le_trans (withs_len _ _) (Nat.add_le_add_right (withouts_len l gone) _)
theorem patchR_mem {l adds:List Res} {gone:List Key} {x:Res} (h:x∈patchR l adds gone):x∈l∨x∈adds:=by
 have h1:∀ (adds l:List Res),x∈adds.foldl withR l→x∈l∨x∈adds:=by
  intro adds
  induction adds with
  | nil=>exact fun l h=>.inl h
  | cons r a ih =>
   intro l h
   rcases ih _ h with h|h
   ·rcases withR_mem h with rfl|h
    ·exact .inr (by simp)
    ·exact .inl h
   ·exact .inr (List.mem_cons_of_mem _ h)
 have h2:∀ (gone:List Key) (l:List Res),x∈gone.foldl twithout l→x∈l:=by
  intro gone
  induction gone with
  | nil=>exact fun l h=>h
  | cons k g ih=>exact fun l h=>twithout_mem (ih _ h)
 rcases h1 _ _ h with h|h
 ·exact .inl (h2 _ _ h)
 ·exact .inr h
theorem tpatch_c (xs adds:List Res) (gone:List Key) (hx:Small xs.length) (ha:Small adds.length) (hg:Small gone.length) (hl:Small (xs.length+adds.length)) :
  CallR Tryz.prog 102 [.slice false (avs xs),.slice false (avs adds),.slice false (avs gone)] (.val (.slice false (avs (patchR xs adds gone)))):=by
 refine CallR.go3 (T:=T) Tryz.call102 Tryz.func102 rfl Tryz.ntmps102 (congrArg Array.toList Tryz.results102) (by decide) fun ts hn h0 h1 h2=>?_
 (repeat' (first
 | (with_reducible first|refine callX.by (twithout_c _ _ _ ?_) ?_|refine callX.by (with_c _ _ ?_ ?_) ?_|assumption|(refine Qw hK _ ?_; clear hK K)|refine Qw ‹_› _ ?_|refine Qx ‹_› ?_|refine Qi fun K hK=>?_|refine Qj T fun K hK=>?_|refine Ql fun A B hA hB=>?_|refine Qm ?_|refine Qn ?_|refine Qp ?_|refine Qr ?_)
 | ((with_reducible first|apply Qy|apply Qz|apply QA)<;>intro hb<;>try simp only [nr] at hb)
 | simp only [go_sem,↓reduceIte,reduceIte,Qa,Qh,Qb,Qc,Qd,Qe,Qf,Qg,reduceCtorEq, *]
 | with_reducible refine fun (bn:Bool) hbn=>?_))
 refine Qs [1,11,12] (fun m ts'=>∃ (i:Nat),∃ (ys:List Res),m=gone.length - i∧i≤gone.length∧ys.length≤xs.length∧(gone.drop i).foldl twithout ys=gone.foldl twithout xs∧ts'.tmp 0=.slice false (avs ys)∧ts'.tmp 13=.int .i64 i) gone.length ?_ ?_
 ·refine ⟨0,xs,rfl,Nat.zero_le _,Nat.le_refl _,rfl,?_⟩
  simp only [go_sem,↓reduceIte,reduceIte,Qa,Qh,Qb,Qc,Qd,Qe,Qf,Qg,reduceCtorEq, *]
 ·rintro m A hM ts' hk ⟨i,ys,hm,f1,f2,f3,s1,s2⟩
  simp only [go_sem,↓reduceIte,reduceIte,Qa,Qh,Qb,Qc,Qd,Qe,Qf,Qg,reduceCtorEq, *] at hk
  by_cases hlt:i < gone.length
  ·rw [List.drop_eq_getElem_cons hlt,List.foldl_cons] at f3
   have hys:Small ys.length:=by unfold Small at hx ⊢; omega
   have w1:=(twithout_c ys gone[i].kind gone[i].name hys).frz
   have hle:=twithout_len ys gone[i]
   (repeat' (first
 | (with_reducible first|refine callX.by (w1) ?_|refine callX.by (twithout_c _ _ _ ?_) ?_|refine callX.by (with_c _ _ ?_ ?_) ?_|assumption|(refine Qw hK _ ?_; clear hK K)|refine Qw ‹_› _ ?_|refine Qx ‹_› ?_|refine Qi fun K hK=>?_|refine Qj T fun K hK=>?_|refine Ql fun A B hA hB=>?_|refine Qm ?_|refine Qn ?_|refine Qp ?_|refine Qr ?_)
 | ((with_reducible first|apply Qy|apply Qz|apply QA)<;>intro hb<;>try simp only [nr] at hb)
 | simp only [go_sem,↓reduceIte,reduceIte,Qa,Qh,Qb,Qc,Qd,Qe,Qf,Qg,reduceCtorEq, *,-f3,-w1]
 | with_reducible refine fun (bn:Bool) hbn=>?_))
   all_goals ((repeat clear hK); (repeat clear hA); (repeat clear hB))
   all_goals (refine hM.on (gone.length - (i+1)) (by omega) (by simp only [go_sem,↓reduceIte,reduceIte,Qa,Qh,Qb,Qc,Qd,Qe,Qf,Qg,reduceCtorEq, *,w64_nat hlt hg,-f3,-w1]) ⟨i+1,twithout ys gone[i],rfl,by omega,by omega,f3,?_⟩; simp only [go_sem,↓reduceIte,reduceIte,Qa,Qh,Qb,Qc,Qd,Qe,Qf,Qg,reduceCtorEq, *,w64_nat hlt hg,-f3,-w1]; done)
  ·rw [List.drop_eq_nil_of_le (by omega),List.foldl_nil] at f3
   subst f3
   (repeat' (first
 | (with_reducible first|refine callX.by (twithout_c _ _ _ ?_) ?_|refine callX.by (with_c _ _ ?_ ?_) ?_|assumption|(refine Qw hK _ ?_; clear hK K)|refine Qw ‹_› _ ?_|refine Qx ‹_› ?_|refine Qi fun K hK=>?_|refine Qj T fun K hK=>?_|refine Ql fun A B hA hB=>?_|refine Qm ?_|refine Qn ?_|refine Qp ?_|refine Qr ?_)
 | ((with_reducible first|apply Qy|apply Qz|apply QA)<;>intro hb<;>try simp only [nr] at hb)
 | simp only [go_sem,↓reduceIte,reduceIte,Qa,Qh,Qb,Qc,Qd,Qe,Qf,Qg,reduceCtorEq, *]
 | with_reducible refine fun (bn:Bool) hbn=>?_))
   clear hM hm
   refine Qs [21,22] (fun m ts'=>∃ (j:Nat),∃ (zs:List Res),m=adds.length - j∧j≤adds.length∧zs.length≤xs.length+j∧(adds.drop j).foldl withR zs=patchR xs adds gone∧ts'.tmp 0=.slice false (avs zs)∧ts'.tmp 23=.int .i64 j) adds.length ?_ ?_
   ·refine ⟨0,gone.foldl twithout xs,rfl,Nat.zero_le _,by omega,rfl,?_⟩
    simp only [go_sem,↓reduceIte,reduceIte,Qa,Qh,Qb,Qc,Qd,Qe,Qf,Qg,reduceCtorEq, *]
   ·rintro m A hM ts' hk ⟨j,zs,hm,f1,f2,f3,s1,s2⟩
    simp only [go_sem,↓reduceIte,reduceIte,Qa,Qh,Qb,Qc,Qd,Qe,Qf,Qg,reduceCtorEq, *] at hk
    by_cases hlt2:j < adds.length
    ·rw [List.drop_eq_getElem_cons hlt2,List.foldl_cons] at f3
     have hle:=withR_len zs adds[j]
     have hzs:Small zs.length:=by unfold Small at hl ⊢; omega
     have hzr:Small (withR zs adds[j]).length:=by unfold Small at hl ⊢; omega
     have w1:=(with_c zs adds[j] hzs hzr).frz
     (repeat' (first
 | (with_reducible first|refine callX.by (w1) ?_|refine callX.by (twithout_c _ _ _ ?_) ?_|refine callX.by (with_c _ _ ?_ ?_) ?_|assumption|(refine Qw hK _ ?_; clear hK K)|refine Qw ‹_› _ ?_|refine Qx ‹_› ?_|refine Qi fun K hK=>?_|refine Qj T fun K hK=>?_|refine Ql fun A B hA hB=>?_|refine Qm ?_|refine Qn ?_|refine Qp ?_|refine Qr ?_)
 | ((with_reducible first|apply Qy|apply Qz|apply QA)<;>intro hb<;>try simp only [nr] at hb)
 | simp only [go_sem,↓reduceIte,reduceIte,Qa,Qh,Qb,Qc,Qd,Qe,Qf,Qg,reduceCtorEq, *,-f3,-w1]
 | with_reducible refine fun (bn:Bool) hbn=>?_))
     all_goals ((repeat clear hK); (repeat clear hA); (repeat clear hB))
     all_goals (refine hM.on (adds.length - (j+1)) (by omega) (by simp only [go_sem,↓reduceIte,reduceIte,Qa,Qh,Qb,Qc,Qd,Qe,Qf,Qg,reduceCtorEq, *,w64_nat hlt2 ha,-f3,-w1]) ⟨j+1,withR zs adds[j],rfl,by omega,by omega,f3,?_⟩; simp only [go_sem,↓reduceIte,reduceIte,Qa,Qh,Qb,Qc,Qd,Qe,Qf,Qg,reduceCtorEq, *,w64_nat hlt2 ha,-f3,-w1]; done)
    ·rw [List.drop_eq_nil_of_le (by omega),List.foldl_nil] at f3
     subst f3
     (repeat' (first
 | (with_reducible first|refine callX.by (twithout_c _ _ _ ?_) ?_|refine callX.by (with_c _ _ ?_ ?_) ?_|assumption|(refine Qw hK _ ?_; clear hK K)|refine Qw ‹_› _ ?_|refine Qx ‹_› ?_|refine Qi fun K hK=>?_|refine Qj T fun K hK=>?_|refine Ql fun A B hA hB=>?_|refine Qm ?_|refine Qn ?_|refine Qp ?_|refine Qr ?_)
 | ((with_reducible first|apply Qy|apply Qz|apply QA)<;>intro hb<;>try simp only [nr] at hb)
 | simp only [go_sem,↓reduceIte,reduceIte,Qa,Qh,Qb,Qc,Qd,Qe,Qf,Qg,reduceCtorEq, *]
 | with_reducible refine fun (bn:Bool) hbn=>?_))
end Go.Proofs.YtmjkjmoeicnbnaaGreatDoor.Lg
