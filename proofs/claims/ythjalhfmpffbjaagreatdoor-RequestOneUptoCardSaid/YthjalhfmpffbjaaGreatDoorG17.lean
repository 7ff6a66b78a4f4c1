/- Parts of the proof, one behind the other. -/
import Derived.Test.YthjalhfmpffbjaaGreatDoorG16
namespace Go.Proofs.YthjalhfmpffbjaaGreatDoor.Lg
set_option maxRecDepth 100000
set_option maxHeartbeats 64000000
set_option linter.unusedVariables false
set_option linter.unusedSimpArgs false
open Go
open Nat renaming reduceEqDiff → Qa, reduceLT → Qb, reduceLeDiff → Qc, reduceAdd → Qd, reduceMul → Qe, reduceSub → Qf, reduceBEq → Qg
open String renaming reduceEq → Qh
open SpecC renaming seqW → Qi, regW → Qj, drawW → Qk, condW → Ql, block → Qm, skip → Qn, exit → Qp, ret → Qr, loopF → Qs, regUW → Qt, regMidW → Qu
open NxK renaming out → Qw
open Nx renaming out → Qx
open condK renaming split → Qy
open gK renaming split_t → Qz, split_f → QA
theorem Jen:CallR Tryz.prog 140 [.int .i64 0] (.val (.tup [])):=by
 refine Jl Tryz.call140 Tryz.func140 rfl Tryz.ntmps140 Tryz.results140 fun ts hn h0=>?_
 (repeat' (first
 | (with_reducible first|assumption|(refine Qw hK _ ?_;clear hK K)|refine Qw ‹_› _ ?_|refine Qx ‹_› ?_|refine Qi fun K hK=>?_|refine Qj T fun K hK=>?_|refine Ql fun A B hA hB=>?_|refine Qn ?_|refine Qr ?_)
 |(with_reducible first|apply Qy|apply Qz|apply QA)<;>intro hb<;>try simp only[nr] at hb
 |simp only[go_sem,↓reduceIte,Qa,Qh,Qb,Qc,Qd,Qe,Qf,Qg,reduceCtorEq, *]
 |intro(bn:Bool) hbn))
theorem JfQ(e:Int)(he:¬e=0):CallU Tryz.prog 140 [.int .i64 e] (ZC e):=by
 refine CallU.go1 Tryz.call140 Tryz.func140 rfl Tryz.ntmps140 (by decide) fun ts hn h0=>?_
 (repeat' (first
 | (with_reducible first|refine Qt T 3 (id:=1) rfl rfl fun K hK=>?_|refine UpK.panicT (u:=216) (n:=e) ?_ ?_|assumption|(refine Qw hK _ ?_;clear hK K)|refine Qw ‹_› _ ?_|refine Qx ‹_› ?_|refine Qi fun K hK=>?_|refine Qj T fun K hK=>?_|refine Ql fun A B hA hB=>?_|refine Qn ?_|refine Qr ?_)
 |(with_reducible first|apply Qy|apply Qz|apply QA)<;>intro hb<;>try simp only[nr] at hb
 |simp only[go_sem,↓reduceIte,Qa,Qh,Qb,Qc,Qd,Qe,Qf,Qg,reduceCtorEq, *]
 |intro(bn:Bool) hbn))
 all_goals first|rfl|trace_state
theorem JbI(b:Bool)(e:Int):CallR Tryz.prog 142 [.bool b,.int .i64 e] (.val (.int .i64 (if b=true then 0 else e))):=by
 cases b
 ·refine Jm Tryz.call142 Tryz.func142 rfl Tryz.ntmps142 Tryz.results142 fun ts hn h0 h1=>?_
  (repeat' (first
 | (with_reducible first|assumption|(refine Qw hK _ ?_;clear hK K)|refine Qw ‹_› _ ?_|refine Qx ‹_› ?_|refine Qi fun K hK=>?_|refine Qj T fun K hK=>?_|refine Ql fun A B hA hB=>?_|refine Qn ?_|refine Qr ?_)
 |(with_reducible first|apply Qy|apply Qz|apply QA)<;>intro hb<;>try simp only[nr] at hb
 |simp only[go_sem,↓reduceIte,Qa,Qh,Qb,Qc,Qd,Qe,Qf,Qg,reduceCtorEq, *]
 |intro(bn:Bool) hbn))
 ·refine Jm Tryz.call142 Tryz.func142 rfl Tryz.ntmps142 Tryz.results142 fun ts hn h0 h1=>?_
  (repeat' (first
 | (with_reducible first|assumption|(refine Qw hK _ ?_;clear hK K)|refine Qw ‹_› _ ?_|refine Qx ‹_› ?_|refine Qi fun K hK=>?_|refine Qj T fun K hK=>?_|refine Ql fun A B hA hB=>?_|refine Qn ?_|refine Qr ?_)
 |(with_reducible first|apply Qy|apply Qz|apply QA)<;>intro hb<;>try simp only[nr] at hb
 |simp only[go_sem,↓reduceIte,Qa,Qh,Qb,Qc,Qd,Qe,Qf,Qg,reduceCtorEq, *]
 |intro(bn:Bool) hbn))
def J9(cap:Int)(l:List Res):Int:=if ¬Vc l=0 then Vc l else if(l.length:Int)≤cap then ZA l else 8
theorem JiR(cap:Int)(m l:List Res)(hl:l.length≤65536)(hs:∀r∈l,Jw r)(hnd:Vc l=0→(l.map Jo).Nodup)(hm:J9 cap l=0) :
  CallR Tryz.prog 105 [.agg [.int .i64 cap,.slice false (Ja m)],.slice false (Ja l)] (.val (.tup [])):=by
 have hsl:=JbG hl
 have ht:Vc l=0:=by
  by_cases h:Vc l=0
  ·exact h
  ·unfold J9 at hm;rw[if_pos h] at hm;exact hm
 have hc:(l.length:Int)≤cap:=by
  by_cases h:(l.length:Int)≤cap
  ·exact h
  ·unfold J9 at hm;rw[if_neg (by simp[ht]),if_neg h] at hm;cases hm
 have hv:ZA l=0:=by
  unfold J9 at hm;rwa [if_neg (by simp[ht]),if_pos hc] at hm
 have w1:=JcE l hsl hs
 rw[ht] at w1
 have w3:=Jcw l hl hs (hnd ht)
 rw[hv] at w3
 have w2:=JbI true 8
 rw[if_pos rfl] at w2
 clear hm hnd
 refine Jm Tryz.call105 Tryz.func105 rfl Tryz.ntmps105 Tryz.results105 fun ts hn h0 h1=>?_
 (repeat' (first
 | (with_reducible first|refine callX.by (w1) ?_|refine callX.by (w3) ?_|refine callX.by (w2) ?_|refine callX.by (JcE _ ?_ ?_) ?_|refine callX.by Jen ?_|refine callX.by (JbI _ _) ?_|refine callX.by (Jdz _ ?_ ?_) ?_|refine callX.by (Jcw _ ?_ ?_ _) ?_|refine callX.by a6sc ?_|assumption|(refine Qw hK _ ?_;clear hK K)|refine Qw ‹_› _ ?_|refine Qx ‹_› ?_|refine Qi fun K hK=>?_|refine Qj T fun K hK=>?_|refine Ql fun A B hA hB=>?_|refine Qn ?_|refine Qr ?_)
 |(with_reducible first|apply Qy|apply Qz|apply QA)<;>intro hb<;>try simp only[nr] at hb
 |simp only[go_sem,↓reduceIte,Qa,Qh,Qb,Qc,Qd,Qe,Qf,Qg,reduceCtorEq, *,-hs,-w1,-w2,-w3,-ht,-hv]
 |intro(bn:Bool) hbn))
 all_goals trace_state
theorem JiS(cap:Int)(m l:List Res)(hl:l.length≤65536)(hs:∀r∈l,Jw r)(hnd:Vc l=0→(l.map Jo).Nodup)(hm:¬J9 cap l=0) :
  CallU Tryz.prog 105 [.agg [.int .i64 cap,.slice false (Ja m)],.slice false (Ja l)] (ZC (J9 cap l)):=by
 have hsl:=JbG hl
 have w1:=JcE l hsl hs
 by_cases ht:Vc l=0
 ·by_cases hc:(l.length:Int)≤cap
  ·have e:J9 cap l=ZA l:=by unfold J9;rw[if_neg (by simp[ht]),if_pos hc]
   rw[e] at hm ⊢
   have w3:=Jcw l hl hs (hnd ht)
   have w2:=JbI true 8
   rw[if_pos rfl] at w2
   have w4:=JfQ _ hm
   rw[ht] at w1
   clear hnd e
   refine CallU.go2 Tryz.call105 Tryz.func105 rfl Tryz.ntmps105 (by decide) fun ts hn h0 h1=>?_
   (repeat' (first
 | (with_reducible first|refine Qt T 2 (id:=3) rfl rfl fun K hK=>?_|refine UpK.callF w4 ?_ ?_|refine callX.by (w1) ?_|refine callX.by (w3) ?_|refine callX.by (w2) ?_|refine callX.by (JcE _ ?_ ?_) ?_|refine callX.by Jen ?_|refine callX.by (JbI _ _) ?_|refine callX.by (Jdz _ ?_ ?_) ?_|refine callX.by (Jcw _ ?_ ?_ _) ?_|refine callX.by a6sc ?_|assumption|(refine Qw hK _ ?_;clear hK K)|refine Qw ‹_› _ ?_|refine Qx ‹_› ?_|refine Qi fun K hK=>?_|refine Qj T fun K hK=>?_|refine Ql fun A B hA hB=>?_|refine Qn ?_|refine Qr ?_)
 |(with_reducible first|apply Qy|apply Qz|apply QA)<;>intro hb<;>try simp only[nr] at hb
 |simp only[go_sem,↓reduceIte,Qa,Qh,Qb,Qc,Qd,Qe,Qf,Qg,reduceCtorEq, *,-hs,-w1,-w2,-w3,-w4,-ht]
 |intro(bn:Bool) hbn))
   all_goals trace_state
  ·have e:J9 cap l=8:=by unfold J9;rw[if_neg (by simp[ht]),if_neg hc]
   rw[e] at hm ⊢
   have w2:=JbI false 8
   rw[if_neg (by simp)] at w2
   have w4:=JfQ _ hm
   rw[ht] at w1
   clear hnd e
   refine CallU.go2 Tryz.call105 Tryz.func105 rfl Tryz.ntmps105 (by decide) fun ts hn h0 h1=>?_
   (repeat' (first
 | (with_reducible first|refine Qt T 6 (id:=2) rfl rfl fun K hK=>?_|refine UpK.callF w4 ?_ ?_|refine callX.by (w1) ?_|refine callX.by (w2) ?_|refine callX.by (JcE _ ?_ ?_) ?_|refine callX.by Jen ?_|refine callX.by (JbI _ _) ?_|refine callX.by (Jdz _ ?_ ?_) ?_|refine callX.by (Jcw _ ?_ ?_ _) ?_|refine callX.by a6sc ?_|assumption|(refine Qw hK _ ?_;clear hK K)|refine Qw ‹_› _ ?_|refine Qx ‹_› ?_|refine Qi fun K hK=>?_|refine Qj T fun K hK=>?_|refine Ql fun A B hA hB=>?_|refine Qn ?_|refine Qr ?_)
 |(with_reducible first|apply Qy|apply Qz|apply QA)<;>intro hb<;>try simp only[nr] at hb
 |simp only[go_sem,↓reduceIte,Qa,Qh,Qb,Qc,Qd,Qe,Qf,Qg,reduceCtorEq, *,-hs,-w1,-w2,-w4,-ht]
 |intro(bn:Bool) hbn))
   all_goals trace_state
 ·have e:J9 cap l=Vc l:=by unfold J9;rw[if_pos ht]
  rw[e] at hm ⊢
  have w4:=JfQ _ hm
  clear hnd e
  refine CallU.go2 Tryz.call105 Tryz.func105 rfl Tryz.ntmps105 (by decide) fun ts hn h0 h1=>?_
  (repeat' (first
 | (with_reducible first|refine Qt T 2 (id:=1) rfl rfl fun K hK=>?_|refine UpK.callF w4 ?_ ?_|refine callX.by (w1) ?_|refine callX.by (JcE _ ?_ ?_) ?_|refine callX.by Jen ?_|refine callX.by (JbI _ _) ?_|refine callX.by (Jdz _ ?_ ?_) ?_|refine callX.by (Jcw _ ?_ ?_ _) ?_|refine callX.by a6sc ?_|assumption|(refine Qw hK _ ?_;clear hK K)|refine Qw ‹_› _ ?_|refine Qx ‹_› ?_|refine Qi fun K hK=>?_|refine Qj T fun K hK=>?_|refine Ql fun A B hA hB=>?_|refine Qn ?_|refine Qr ?_)
 |(with_reducible first|apply Qy|apply Qz|apply QA)<;>intro hb<;>try simp only[nr] at hb
 |simp only[go_sem,↓reduceIte,Qa,Qh,Qb,Qc,Qd,Qe,Qf,Qg,reduceCtorEq, *,-hs,-w1,-w4,-ht]
 |intro(bn:Bool) hbn))
  all_goals trace_state
@[go_sem] def Wd9:List (List Nat×List Nat):=[([3],[5,6,7]),([4],[5,6,7]),([5],[3,4]),([6],[3,4]),([7],[3,4])]
def VS(n:Int):Int:=max 0 (min n 64)
theorem Jho(n:Int):CallR Tryz.prog 102 [.int .i64 n] (.val (.int .i64 (VS n))):=by
 refine Jl Tryz.call102 Tryz.func102 rfl Tryz.ntmps102 Tryz.results102 fun ts hn h0=>?_
 (repeat' (first
 | (with_reducible first|assumption|(refine Qw hK _ ?_;clear hK K)|refine Qw ‹_› _ ?_|refine Qx ‹_› ?_|refine Qi fun K hK=>?_|refine Qj T fun K hK=>?_|refine Ql fun A B hA hB=>?_|refine Qn ?_|refine Qr ?_)
 |(with_reducible first|apply Qy|apply Qz|apply QA)<;>intro hb<;>try simp only[nr] at hb
 |simp only[go_sem,↓reduceIte,Qa,Qh,Qb,Qc,Qd,Qe,Qf,Qg,reduceCtorEq, *]
 |intro(bn:Bool) hbn))
 all_goals rfl
theorem JfR(n:Int):CallR Tryz.prog 101 [.int .i64 n] (.val (.agg [.int .i64 (VS n),.slice false []])):=by
 refine Jl Tryz.call101 Tryz.func101 rfl Tryz.ntmps101 Tryz.results101 fun ts hn h0=>?_
 (repeat' (first
 | (with_reducible first|refine callX.by (Jho _) ?_|assumption|(refine Qw hK _ ?_;clear hK K)|refine Qw ‹_› _ ?_|refine Qx ‹_› ?_|refine Qi fun K hK=>?_|refine Qj T fun K hK=>?_|refine Ql fun A B hA hB=>?_|refine Qn ?_|refine Qr ?_)
 |(with_reducible first|apply Qy|apply Qz|apply QA)<;>intro hb<;>try simp only[nr] at hb
 |simp only[go_sem,↓reduceIte,Qa,Qh,Qb,Qc,Qd,Qe,Qf,Qg,reduceCtorEq, *]
 |intro(bn:Bool) hbn))
theorem Jng(cap:Int)(l:List Res)(hl:l.length≤65536)(hs:∀r∈l,Jw r) :
  Done 104 ([.ro [.int .i64 cap,.slice false (Ja l)]].map Arg.v) (J9 cap l) (fun _=>True):=by
 unfold Done
 split
 ·rename_i hm
  have w1:=JiR cap l l hl hs (fun h=>(JcN h).nodup) hm
  have key:CallR Tryz.prog 104 [.ro [.int .i64 cap,.slice false (Ja l)]] (.val (.tup [])):=by
   refine Jl Tryz.call104 Tryz.func104 rfl Tryz.ntmps104 Tryz.results104 fun ts hn h0=>?_
   (repeat' (first
 | (with_reducible first|refine callX.by (w1) ?_|assumption|(refine Qw hK _ ?_;clear hK K)|refine Qw ‹_› _ ?_|refine Qx ‹_› ?_|refine Qi fun K hK=>?_|refine Qj T fun K hK=>?_|refine Ql fun A B hA hB=>?_|refine Qn ?_|refine Qr ?_)
 |(with_reducible first|apply Qy|apply Qz|apply QA)<;>intro hb<;>try simp only[nr] at hb
 |simp only[go_sem,↓reduceIte,Qa,Qh,Qb,Qc,Qd,Qe,Qf,Qg,reduceCtorEq, *,-hs,-w1,-hm]
 |intro(bn:Bool) hbn))
  exact CallV.mono key fun r io h=>⟨h,trivial⟩
 ·rename_i hm
  have w1:=JiS cap l l hl hs (fun h=>(JcN h).nodup) hm
  have key:CallU Tryz.prog 104 [.ro [.int .i64 cap,.slice false (Ja l)]] (ZC (J9 cap l)):=by
   refine CallU.go1 Tryz.call104 Tryz.func104 rfl Tryz.ntmps104 (by decide) fun ts hn h0=>?_
   (repeat' (first
 | (with_reducible first|refine Qt T 3 (id:=0) rfl rfl fun K hK=>?_|refine UpK.callF w1 ?_ ?_|assumption|(refine Qw hK _ ?_;clear hK K)|refine Qw ‹_› _ ?_|refine Qx ‹_› ?_|refine Qi fun K hK=>?_|refine Qj T fun K hK=>?_|refine Ql fun A B hA hB=>?_|refine Qn ?_|refine Qr ?_)
 |(with_reducible first|apply Qy|apply Qz|apply QA)<;>intro hb<;>try simp only[nr] at hb
 |simp only[go_sem,↓reduceIte,Qa,Qh,Qb,Qc,Qd,Qe,Qf,Qg,reduceCtorEq, *,-hs,-w1,-hm]
 |intro(bn:Bool) hbn))
  exact key
def Ye(c:Cache):Bool:=decide (c.cap=VS c.cap) && decide (J9 c.cap c.l=0)
theorem Jnh(cap:Int)(l:List Res):AV.pure.pureL [.ro [.int .i64 cap,.slice false (Ja l)]]=true:=by simp only[go_sem,Bool.and_self]
theorem JeR(Lz:Int)(c_l:List Res)(hl:c_l.length≤65536)(hs:∀r∈c_l,Jw r):CallR Tryz.prog 75 [.agg [.int .i64 Lz,.slice false (Ja c_l)]] (.val (.bool (Ye (⟨Lz,c_l⟩:Cache)))):=by
 have w1:=Jnn 104 [.ro [.int .i64 Lz,.slice false (Ja c_l)]] (J9 Lz c_l) Tryz.call104 (Jng Lz c_l hl hs) (Jnh _ _)
 refine CallR.go1 (T:=T.withF [10]) Tryz.call75 Tryz.func75 rfl Tryz.ntmps75 (congrArg Array.toList Tryz.results75) (by decide) fun ts hn h0=>?_
 (repeat' (first
 | (with_reducible first|refine SpecC.ent (Ent.frzBox _ 1) (Qk (id:=1) (T.withF [10]) mixed Wd9 (by kernel_rfl) fun K hK=>?_)|refine callX.by (w1) ?_|refine callX.by (Jho _) ?_|assumption|(refine Qw hK _ ?_;clear hK K)|refine Qw ‹_› _ ?_|refine Qx ‹_› ?_|refine Qi fun K hK=>?_|refine Qj (T.withF [10]) fun K hK=>?_|refine Qk (id:=1) (T.withF [10]) mixed Wd9 (by kernel_rfl) fun K hK=>?_|refine Ql fun A B hA hB=>?_|refine Qn ?_|refine Qr ?_)
 |(with_reducible first|apply Qy|apply Qz|apply QA)<;>intro hb<;>try simp only[nr] at hb
 |simp only[go_sem,↓reduceIte,Qa,Qh,Qb,Qc,Qd,Qe,Qf,Qg,reduceCtorEq, *,-hs,-w1]
 |intro(bn:Bool) hbn))
 all_goals (simp only[Ye,hb,Bool.true_and,Bool.false_and])
def Vy(c:Cache):Cache:=if Ye c=true then c else ⟨VS c.cap,[]⟩
theorem JeT(Lz:Int)(c_l:List Res)(hl:c_l.length≤65536)(hs:∀r∈c_l,Jw r):CallR Tryz.prog 109 [.agg [.int .i64 Lz,.slice false (Ja c_l)]] (.val (.agg [.int .i64 (Vy (⟨Lz,c_l⟩:Cache)).cap,.slice false (Ja (Vy (⟨Lz,c_l⟩:Cache)).l)])):=by
 have w1:=JeR Lz c_l hl hs
 unfold Vy
 cases hb0:Ye (⟨Lz,c_l⟩:Cache)
 ·rw[hb0] at w1
  refine Jl Tryz.call109 Tryz.func109 rfl Tryz.ntmps109 Tryz.results109 fun ts hn h0=>?_
  (repeat' (first
 | (with_reducible first|refine callX.by (w1) ?_|refine callX.by (JeR _ _ ?_ ?_) ?_|refine callX.by (JfR _) ?_|assumption|(refine Qw hK _ ?_;clear hK K)|refine Qw ‹_› _ ?_|refine Qx ‹_› ?_|refine Qi fun K hK=>?_|refine Qj T fun K hK=>?_|refine Ql fun A B hA hB=>?_|refine Qn ?_|refine Qr ?_)
 |(with_reducible first|apply Qy|apply Qz|apply QA)<;>intro hb<;>try simp only[nr] at hb
 |simp only[go_sem,↓reduceIte,Qa,Qh,Qb,Qc,Qd,Qe,Qf,Qg,reduceCtorEq, *,-hs,-w1]
 |intro(bn:Bool) hbn))
  all_goals rfl
 ·rw[hb0] at w1
  refine Jl Tryz.call109 Tryz.func109 rfl Tryz.ntmps109 Tryz.results109 fun ts hn h0=>?_
  (repeat' (first
 | (with_reducible first|refine callX.by (w1) ?_|refine callX.by (JeR _ _ ?_ ?_) ?_|refine callX.by (JfR _) ?_|assumption|(refine Qw hK _ ?_;clear hK K)|refine Qw ‹_› _ ?_|refine Qx ‹_› ?_|refine Qi fun K hK=>?_|refine Qj T fun K hK=>?_|refine Ql fun A B hA hB=>?_|refine Qn ?_|refine Qr ?_)
 |(with_reducible first|apply Qy|apply Qz|apply QA)<;>intro hb<;>try simp only[nr] at hb
 |simp only[go_sem,↓reduceIte,Qa,Qh,Qb,Qc,Qd,Qe,Qf,Qg,reduceCtorEq, *,-hs,-w1]
 |intro(bn:Bool) hbn))
  all_goals trace_state
theorem Jrr(Ln:Int)(Lp:List UInt8)(Lx Lq:Int)(LA:List UInt8)(r_rules:List Rule)(r_hosts:List Int)(Lm:Int)(k_name:List UInt8)(c:Int):CallR Tryz.prog 241 [.agg [.int .i64 Ln,.str Lp,.int .i64 Lx,.int .i64 Lq,.str LA,.slice false (Ja r_rules),.slice false (Ja r_hosts)],.ro [.int .i64 Lm,.str k_name],.ro [.int .i64 c]] (.val (.bool (decide (JJ (Jo (⟨Ln,Lp,Lx,Lq,LA,r_rules,r_hosts⟩:Res)) (⟨Lm,k_name⟩:Key)=c)))):=by
 refine J1 Tryz.call241 Tryz.func241 rfl Tryz.ntmps241 Tryz.results241 fun ts hn h0 h1 h2=>?_
 (repeat' (first
 | (with_reducible first|refine callX.by (Vg _ _ _ _ _ _ _) ?_|refine callX.by (Vw _ _ _ _) ?_|assumption|(refine Qw hK _ ?_;clear hK K)|refine Qw ‹_› _ ?_|refine Qx ‹_› ?_|refine Qi fun K hK=>?_|refine Qj T fun K hK=>?_|refine Qk (id:=1) T mixed [([5],[7,9]),([6],[7,9]),([7],[5,6,9]),([8],[9]),([9],[5,6,7,8])] (by kernel_rfl) fun K hK=>?_|refine Ql fun A B hA hB=>?_|refine Qn ?_|refine Qr ?_)
 |(with_reducible first|apply Qy|apply Qz|apply QA)<;>intro hb<;>try simp only[nr] at hb
 |simp only[go_sem,↓reduceIte,Qa,Qh,Qb,Qc,Qd,Qe,Qf,Qg,reduceCtorEq, *]
 |intro(bn:Bool) hbn))
 all_goals rfl
theorem Jnk(a:Int)(b:List UInt8)(c:Int):Caps [.ro [.int .i64 a,.str b],.ro [.int .i64 c]]:=⟨by simp only[go_sem,Bool.and_self],by simp only[go_sem]⟩
def YC(l:List Res)(k:Key)(c:Int):List Res:=l.filter fun r=>decide (JJ (Jo r) k=c)
theorem Jmq(xs:List Res)(Lm:Int)(k_name:List UInt8)(c:Int)(hl:Jc xs.length):CallR Tryz.prog 240 [.int .i64 c,.ro [.slice false (Ja xs)],.ro [.int .i64 Lm,.str k_name]] (.own 7 (Ja (YC xs (⟨Lm,k_name⟩:Key) c))):=by
 have hf:=JgK 241 [.ro [.int .i64 Lm,.str k_name],.ro [.int .i64 c]] (Jnk Lm k_name c) (fun r=>decide (JJ (Jo r) (⟨Lm,k_name⟩:Key)=c)) xs (fun x _=>Jrr x.kind x.name x.ver x.port x.to' x.rules' x.hosts Lm k_name c) hl
 rw[show xs.filter (fun r=>decide (JJ (Jo r) (⟨Lm,k_name⟩:Key)=c))=YC xs (⟨Lm,k_name⟩:Key) c from rfl] at hf
 refine J1 Tryz.call240 Tryz.func240 rfl Tryz.ntmps240 Tryz.results240 fun ts hn h0 h1 h2=>?_
 (repeat' (first
 | (with_reducible first|refine callX.by (hf) ?_|refine callX.by (JgK _ _ ?_ _ _ ?_ ?_) ?_|assumption|(refine Qw hK _ ?_;clear hK K)|refine Qw ‹_› _ ?_|refine Qx ‹_› ?_|refine Qi fun K hK=>?_|refine Qj T fun K hK=>?_|refine Ql fun A B hA hB=>?_|refine Qn ?_|refine Qr ?_)
 |(with_reducible first|apply Qy|apply Qz|apply QA)<;>intro hb<;>try simp only[nr] at hb
 |simp only[go_sem,↓reduceIte,Qa,Qh,Qb,Qc,Qd,Qe,Qf,Qg,reduceCtorEq, *,-hf]
 |intro(bn:Bool) hbn))
def Yg(l:List Res)(r:Res):List Res:=YC l (Jo r) (-1)++[r]++YC l (Jo r) 1
instance:Dat (List Res) where
 av x:=.slice false (Ja x)
 sz:=1
 len _:=rfl
 pure x:=by simp only[go_sem,Bool.and_self]
 nrm x:=by simp only[go_sem]
 one x:=by simp only[go_sem,List.all_cons,List.all_nil,Bool.and_self]
 known _:=rfl
@[go_sem] theorem JtW(x:List Res):Dat.av x=.slice false (Ja x):=rfl
@[go_sem] theorem JFf:Dat.sz (List Res)=1:=rfl
theorem Jrm{n:Nat}(hn:Jc n):IntKind.i64.wrap ((n:Int)-IntKind.i64.wrap ((0:Int)-0))=n:=by
 have e:IntKind.i64.wrap ((0:Int)-0)=0:=by decide
 rw[e]
 unfold Jc at hn
 simp only[IntKind.wrap,IntKind.signed,IntKind.bits]
 simp
 omega
theorem Jrl{a b n:Nat}(h:a+b≤n)(hn:Jc n):IntKind.i64.wrap ((a:Int)+(b:Int))=((a+b:Nat):Int):=by
 unfold Jc at hn
 simp only[IntKind.wrap,IntKind.signed,IntKind.bits]
 simp
 omega
theorem JcC(n:Nat)(hn:Jc n):CallR Tryz.prog 250 [.slice true [],.int .i64 n] (.own 7 []):=by
 have hr:VC n 104:=JbA (by unfold Jc at hn;omega) (by decide)
 have hr1:n*104≤140737488355328:=hr.1
 have hr2:n≤9223372036854775807:=hr.2
 have hw:=Jrm hn
 refine Jm Tryz.call250 Tryz.func250 rfl Tryz.ntmps250 Tryz.results250 fun ts hn h0 h1=>?_
 have hz0:IntKind.i64.wrap ((0:Int)-IntKind.i64.wrap ((0:Int)-0))=0:=by decide
 by_cases h00:n=0
 ·subst h00
  (repeat' (first
 | (with_reducible first|assumption|(refine Qw hK _ ?_;clear hK K)|refine Qw ‹_› _ ?_|refine Qx ‹_› ?_|refine Qi fun K hK=>?_|refine Qj T fun K hK=>?_|refine Ql fun A B hA hB=>?_|refine Qn ?_|refine Qr ?_)
 |(with_reducible first|apply Qy|apply Qz|apply QA)<;>intro hb<;>try simp only[nr] at hb
 |simp only[go_sem,↓reduceIte,Qa,Qh,Qb,Qc,Qd,Qe,Qf,Qg,reduceCtorEq, *,-hr,List.length_nil,Int.lt_irrefl,decide_false,Int.le_refl]
 |intro(bn:Bool) hbn))
  all_goals first|(exfalso;simp_all;done)|trace_state
 ·have hd:(0:Int)<(n:Int):=by omega
  have hz:List.take 0 (List.replicate n (AV.agg (List.replicate 7 AV.any)))=[]:=rfl
  (repeat' (first
 | (with_reducible first|assumption|(refine Qw hK _ ?_;clear hK K)|refine Qw ‹_› _ ?_|refine Qx ‹_› ?_|refine Qi fun K hK=>?_|refine Qj T fun K hK=>?_|refine Ql fun A B hA hB=>?_|refine Qn ?_|refine Qr ?_)
 |(with_reducible first|apply Qy|apply Qz|apply QA)<;>intro hb<;>try simp only[nr] at hb
 |simp only[go_sem,↓reduceIte,Qa,Qh,Qb,Qc,Qd,Qe,Qf,Qg,reduceCtorEq, *,-hr,List.length_nil,Int.le_refl,Int.toNat_zero,List.drop_zero]
 |intro(bn:Bool) hbn))
  all_goals trace_state
def Ja9(xss:List (List Res))(i:Nat):Nat:=(xss.drop i).flatten.length
theorem JnU{xss:List (List Res)}{i:Nat}(h:i<xss.length):Ja9 xss i=xss[i].length+Ja9 xss (i+1):=by
 unfold Ja9
 rw[List.drop_eq_getElem_cons h,List.flatten_cons,List.length_append]
theorem JhI(xss:List (List Res))(hx:Jc xss.length)(hl:Jc xss.flatten.length):CallR Tryz.prog 242 [.slice false (Ja xss)] (.own 7 (Ja xss.flatten)):=by
 have hg:=JcC xss.flatten.length hl
 refine Jl Tryz.call242 Tryz.func242 rfl Tryz.ntmps242 Tryz.results242 fun ts hn h0=>?_
 (repeat' (first
 | (with_reducible first|refine callX.by (JcC _ ?_) ?_|assumption|(refine Qw hK _ ?_;clear hK K)|refine Qw ‹_› _ ?_|refine Qx ‹_› ?_|refine Qi fun K hK=>?_|refine Qj T fun K hK=>?_|refine Ql fun A B hA hB=>?_|refine Qm ?_|refine Qn ?_|refine Qp ?_|refine Qr ?_)
 |(with_reducible first|apply Qy|apply Qz|apply QA)<;>intro hb<;>try simp only[nr] at hb
 |simp only[go_sem,↓reduceIte,Qa,Qh,Qb,Qc,Qd,Qe,Qf,Qg,reduceCtorEq, *,-hg]
 |intro(bn:Bool) hbn))
 refine Qs [0,9,10] (fun m ts'=>∃(i:Nat),∃(n:Nat),m=xss.length-i∧i≤xss.length∧n+Ja9 xss i=xss.flatten.length∧ts'.tmp 3=.int .i64 n∧ts'.tmp 11=.int .i64 i) xss.length ?_ ?_
 ·refine⟨0,0,rfl,Nat.zero_le _,by simp[Ja9],?_⟩
  simp only[go_sem,↓reduceIte,Qa,Qh,Qb,Qc,Qd,Qe,Qf,Qg,reduceCtorEq, *,-hg]
 ·rintro m A hM ts' hk ⟨i,n,hm,f1,f2,s1,s2⟩
  simp only[go_sem,↓reduceIte,Qa,Qh,Qb,Qc,Qd,Qe,Qf,Qg,reduceCtorEq, *] at hk
  by_cases hlt:i<xss.length
  ·rw[JnU hlt] at f2
   have hw:=Jrl (a:=n) (b:=xss[i].length) (n:=xss.flatten.length) (by omega) hl
   (repeat' (first
 | (with_reducible first|refine callX.by (JcC _ ?_) ?_|assumption|(refine Qw hK _ ?_;clear hK K)|refine Qw ‹_› _ ?_|refine Qx ‹_› ?_|refine Qi fun K hK=>?_|refine Qj T fun K hK=>?_|refine Ql fun A B hA hB=>?_|refine Qm ?_|refine Qn ?_|refine Qp ?_|refine Qr ?_)
 |(with_reducible first|apply Qy|apply Qz|apply QA)<;>intro hb<;>try simp only[nr] at hb
 |simp only[go_sem,↓reduceIte,Qa,Qh,Qb,Qc,Qd,Qe,Qf,Qg,reduceCtorEq, *,-hg,-f2]
 |intro(bn:Bool) hbn))
   all_goals ((repeat clear hK);(repeat clear hA);(repeat clear hB))
   all_goals (refine hM.on (xss.length-(i+1)) (by omega) (by simp only[go_sem,↓reduceIte,Qa,Qh,Qb,Qc,Qd,Qe,Qf,Qg,reduceCtorEq, *,Jh hlt hx,-hg,-f2]) ⟨i+1,n+xss[i].length,rfl,by omega,by omega,?_⟩;simp only[go_sem,↓reduceIte,Qa,Qh,Qb,Qc,Qd,Qe,Qf,Qg,reduceCtorEq, *,Jh hlt hx,-hg,-f2];done)
  ·have hn:n=xss.flatten.length:=by
    have e:Ja9 xss i=0:=by unfold Ja9;rw[List.drop_eq_nil_of_le (by omega)];rfl
    omega
   clear f2
   subst hn
   (repeat' (first
 | (with_reducible first|refine callX.raw (hg) ?_|refine callX.by (JcC _ ?_) ?_|assumption|(refine Qw hK _ ?_;clear hK K)|refine Qw ‹_› _ ?_|refine Qx ‹_› ?_|refine Qi fun K hK=>?_|refine Qj T fun K hK=>?_|refine Ql fun A B hA hB=>?_|refine Qm ?_|refine Qn ?_|refine Qp ?_|refine Qr ?_)
 |(with_reducible first|apply Qy|apply Qz|apply QA)<;>intro hb<;>try simp only[nr] at hb
 |simp only[go_sem,↓reduceIte,Qa,Qh,Qb,Qc,Qd,Qe,Qf,Qg,reduceCtorEq, *,-hg]
 |intro(bn:Bool) hbn))
   refine SpecC.ent (Ent.ren 6 24 (by simp only[go_sem,↓reduceIte,Qa,Qh,Qb,Qc,Qd,Qe,Qf,Qg,reduceCtorEq, *,-hg]) (by simp only[go_sem,↓reduceIte,Qa,Qh,Qb,Qc,Qd,Qe,Qf,Qg,reduceCtorEq, *,-hg])) ?_
   refine Qs [25,26] (fun m ts'=>∃(j:Nat),∃(g:Nat),∃(ys:List Res),m=xss.length-j∧j≤xss.length∧ys++(xss.drop j).flatten=xss.flatten∧ts'.tmp 6=.os 6 g ys.length∧ts'.gen 6=g∧ts'.obj 6=.arr 7 (Ja ys)∧ts'.tmp 27=.int .i64 j) xss.length ?_ ?_
   ·refine⟨0,ts'.gen 6+1,[],rfl,Nat.zero_le _,by simp,?_⟩
    simp only[go_sem,↓reduceIte,Qa,Qh,Qb,Qc,Qd,Qe,Qf,Qg,reduceCtorEq, *,-hg]
    rfl
   ·clear hM hm
    rintro m A hM ts' hk ⟨j,g,ys,hm,f1,f2,s1,s2,s3,s4⟩
    simp only[go_sem,↓reduceIte,Qa,Qh,Qb,Qc,Qd,Qe,Qf,Qg,reduceCtorEq, *] at hk
    by_cases hlt2:j<xss.length
    ·rw[List.drop_eq_getElem_cons hlt2,List.flatten_cons,←List.append_assoc] at f2
     have hle:ys.length+xss[j].length≤xss.flatten.length:=by rw[←f2];simp
     have hr:VC (ys.length+xss[j].length) 104:=JbA (by unfold Jc at hl;omega) (by decide)
     (repeat' (first
 | (with_reducible first|refine callX.by (JcC _ ?_) ?_|assumption|(refine Qw hK _ ?_;clear hK K)|refine Qw ‹_› _ ?_|refine Qx ‹_› ?_|refine Qi fun K hK=>?_|refine Qj T fun K hK=>?_|refine Ql fun A B hA hB=>?_|refine Qm ?_|refine Qn ?_|refine Qp ?_|refine Qr ?_)
 |(with_reducible first|apply Qy|apply Qz|apply QA)<;>intro hb<;>try simp only[nr] at hb
 |simp only[go_sem,↓reduceIte,Qa,Qh,Qb,Qc,Qd,Qe,Qf,Qg,reduceCtorEq, *,-hg,-f2]
 |intro(bn:Bool) hbn))
     all_goals ((repeat clear hK);(repeat clear hA);(repeat clear hB))
     all_goals (refine hM.onE (xss.length-(j+1)) (Ent.ren 6 33 ?_ ?_) ?_ ?_ ?_;(focus(simp only[go_sem,↓reduceIte,Qa,Qh,Qb,Qc,Qd,Qe,Qf,Qg,reduceCtorEq, *,Jh hlt2 hx,List.length_append,-hg,-f2];first|done|rfl));(focus(simp only[go_sem,↓reduceIte,Qa,Qh,Qb,Qc,Qd,Qe,Qf,Qg,reduceCtorEq, *,Jh hlt2 hx,List.length_append,-hg,-f2];first|done|rfl));omega;(focus(simp only[go_sem,↓reduceIte,Qa,Qh,Qb,Qc,Qd,Qe,Qf,Qg,reduceCtorEq, *,Jh hlt2 hx,List.length_append,-hg,-f2];done));refine⟨j+1,ts'.gen 6+1,ys++xss[j],rfl,by omega,f2,?_⟩;simp only[go_sem,↓reduceIte,Qa,Qh,Qb,Qc,Qd,Qe,Qf,Qg,reduceCtorEq, *,Jh hlt2 hx,List.length_append,-hg,-f2];done)
    ·rw[List.drop_eq_nil_of_le (by omega),List.flatten_nil,List.append_nil] at f2
     subst f2
     (repeat' (first
 | (with_reducible first|refine callX.by (JcC _ ?_) ?_|assumption|(refine Qw hK _ ?_;clear hK K)|refine Qw ‹_› _ ?_|refine Qx ‹_› ?_|refine Qi fun K hK=>?_|refine Qj T fun K hK=>?_|refine Ql fun A B hA hB=>?_|refine Qm ?_|refine Qn ?_|refine Qp ?_|refine Qr ?_)
 |(with_reducible first|apply Qy|apply Qz|apply QA)<;>intro hb<;>try simp only[nr] at hb
 |simp only[go_sem,↓reduceIte,Qa,Qh,Qb,Qc,Qd,Qe,Qf,Qg,reduceCtorEq, *,-hg]
 |intro(bn:Bool) hbn))
theorem Jfa(xs:List Res)(r:Res)(hl:Jc xs.length)(hl2:Jc (Yg xs r).length):CallR Tryz.prog 219 [.slice false (Ja xs),.agg [.int .i64 r.kind,.str r.name,.int .i64 r.ver,.int .i64 r.port,.str r.to',.slice false (Ja r.rules'),.slice false (Ja r.hosts)]] (.own 7 (Ja (Yg xs r))):=by
 have w1:=(Jmq xs r.kind r.name (-1) hl).frz
 have w2:=(Jmq xs r.kind r.name 1 hl).frz
 have hcc:CallR Tryz.prog 242 [.slice false [.slice false (Ja (YC xs ⟨r.kind,r.name⟩ (-1))),.slice false [.agg [.int .i64 r.kind,.str r.name,.int .i64 r.ver,.int .i64 r.port,.str r.to',.slice false (Ja r.rules'),.slice false (Ja r.hosts)]],.slice false (Ja (YC xs ⟨r.kind,r.name⟩ 1))]] (.own 7 (Ja (Yg xs r))):=by
  have h:=JhI [YC xs (Jo r) (-1),[r],YC xs (Jo r) 1] (by unfold Jc;simp) (by simpa[Yg] using hl2)
  have e:[YC xs (Jo r) (-1),[r],YC xs (Jo r) 1].flatten=Yg xs r:=by simp[Yg]
  rw[e] at h
  exact h
 refine CallR.go2 (T:=T.withF [13,16]) Tryz.call219 Tryz.func219 rfl Tryz.ntmps219 (congrArg Array.toList Tryz.results219) (by decide) fun ts hn h0 h1=>?_
 (repeat' (first
 | (with_reducible first|refine callX.by (w1) ?_|refine callX.by (w2) ?_|refine callX.by (hcc) ?_|refine callX.by (Vg _ _ _ _ _ _ _) ?_|refine callX.by (JhI _ ?_ ?_) ?_|assumption|(refine Qw hK _ ?_;clear hK K)|refine Qw ‹_› _ ?_|refine Qx ‹_› ?_|refine Qi fun K hK=>?_|refine Qj (T.withF [13,16]) fun K hK=>?_|refine Qk (id:=3) (T.withF [13,16]) mixed [([10],[12,13,14]),([11],[12,13,14]),([12],[10,11,14,15]),([13],[10,11,14,15]),([14],[10,11,12,13]),([15],[12,13])] (by kernel_rfl) fun K hK=>?_|refine Ql fun A B hA hB=>?_|refine Qn ?_|refine Qr ?_)
 |(with_reducible first|apply Qy|apply Qz|apply QA)<;>intro hb<;>try simp only[nr] at hb
 |simp only[go_sem,↓reduceIte,Qa,Qh,Qb,Qc,Qd,Qe,Qf,Qg,reduceCtorEq, *,-w1,-w2,-hcc]
 |intro(bn:Bool) hbn))
 all_goals trace_state
def YK(l adds:List Res)(gone:List Key):List Res:=adds.foldl Yg (gone.foldl Y2 l)
theorem JqF(l:List Res)(k:Key):(YC l k (-1)).length+(YC l k 1).length≤l.length:=by
 induction l with
 |nil=>simp[YC]
 |cons x l ih =>
  simp only[YC,List.filter_cons] at ih ⊢
  by_cases h1:JJ (Jo x) k=-1
  ·have h2:¬JJ (Jo x) k=1:=by omega
   simp[h1] at ih ⊢
   omega
  ·by_cases h2:JJ (Jo x) k=1
   ·simp[h2] at ih ⊢
    omega
   ·simp[h1,h2] at ih ⊢
    omega
theorem Jmr(l:List Res)(r:Res):(Yg l r).length≤l.length+1:=by
 have:=JqF l (Jo r)
 simp only[Yg,List.length_append,List.length_singleton]
 omega
theorem Jrs{l:List Res}{r x:Res}(h:x∈Yg l r):x=r∨x∈l:=by
 simp only[Yg,YC,List.mem_append,List.mem_filter,List.mem_singleton] at h
 rcases h with (h|h)|h
 ·exact .inr h.1
 ·exact .inl h
 ·exact .inr h.1
theorem Jkz(l:List Res)(k:Key):(Y2 l k).length≤l.length:=by unfold Y2;exact List.length_filter_le _ _
theorem Jrg{l:List Res}{k:Key}{x:Res}(h:x∈Y2 l k):x∈l:=by unfold Y2 at h;exact(List.mem_filter.1 h).1
theorem Jms(l:List Res):∀gone:List Key,(gone.foldl Y2 l).length≤l.length
 | []=>Nat.le_refl _
 |k :: g=>Nat.le_trans (Jms (Y2 l k) g) (Jkz l k)
theorem Jmt(l:List Res):∀adds:List Res,(adds.foldl Yg l).length≤l.length+adds.length
 | []=>Nat.le_refl _
 |r :: a=>by
  have h1:=Jmt (Yg l r) a
  have h2:=Jmr l r
  simp only[List.foldl_cons,List.length_cons]
  omega
theorem Jjl(l adds:List Res)(gone:List Key):(YK l adds gone).length≤l.length+adds.length:=Nat.le_trans (Jmt _ _) (Nat.add_le_add_right (Jms l gone) _)
theorem Jjm{l adds:List Res}{gone:List Key}{x:Res}(h:x∈YK l adds gone):x∈l∨x∈adds:=by
 have h1:∀(adds l:List Res),x∈adds.foldl Yg l→x∈l∨x∈adds:=by
  intro adds
  induction adds with
  |nil=>exact fun l h=>.inl h
  |cons r a ih =>
   intro l h
   rcases ih _ h with h|h
   ·rcases Jrs h with rfl|h
    ·exact .inr (by simp)
    ·exact .inl h
   ·exact .inr (List.mem_cons_of_mem _ h)
 have h2:∀(gone:List Key) (l:List Res),x∈gone.foldl Y2 l→x∈l:=by
  intro gone
  induction gone with
  |nil=>exact fun l h=>h
  |cons k g ih=>exact fun l h=>Jrg (ih _ h)
 rcases h1 _ _ h with h|h
 ·exact .inl (h2 _ _ h)
 ·exact .inr h
theorem Jrb(xs adds:List Res)(gone:List Key)(hx:Jc xs.length)(ha:Jc adds.length)(hg:Jc gone.length)(hl:Jc (xs.length+adds.length)) :
  CallR Tryz.prog 175 [.slice false (Ja xs),.slice false (Ja adds),.slice false (Ja gone)] (.val (.slice false (Ja (YK xs adds gone)))):=by
 refine J1 Tryz.call175 Tryz.func175 rfl Tryz.ntmps175 Tryz.results175 fun ts hn h0 h1 h2=>?_
 (repeat' (first
 | (with_reducible first|refine callX.by (Je4 _ _ _ ?_) ?_|refine callX.by (Jfa _ _ ?_ ?_) ?_|assumption|(refine Qw hK _ ?_;clear hK K)|refine Qw ‹_› _ ?_|refine Qx ‹_› ?_|refine Qi fun K hK=>?_|refine Qj T fun K hK=>?_|refine Ql fun A B hA hB=>?_|refine Qm ?_|refine Qn ?_|refine Qp ?_|refine Qr ?_)
 |(with_reducible first|apply Qy|apply Qz|apply QA)<;>intro hb<;>try simp only[nr] at hb
 |simp only[go_sem,↓reduceIte,Qa,Qh,Qb,Qc,Qd,Qe,Qf,Qg,reduceCtorEq, *]
 |intro(bn:Bool) hbn))
 refine Qs [1,11,12] (fun m ts'=>∃(i:Nat),∃(ys:List Res),m=gone.length-i∧i≤gone.length∧ys.length≤xs.length∧(gone.drop i).foldl Y2 ys=gone.foldl Y2 xs∧ts'.tmp 0=.slice false (Ja ys)∧ts'.tmp 13=.int .i64 i) gone.length ?_ ?_
 ·refine⟨0,xs,rfl,Nat.zero_le _,Nat.le_refl _,rfl,?_⟩
  simp only[go_sem,↓reduceIte,Qa,Qh,Qb,Qc,Qd,Qe,Qf,Qg,reduceCtorEq, *]
 ·rintro m A hM ts' hk ⟨i,ys,hm,f1,f2,f3,s1,s2⟩
  simp only[go_sem,↓reduceIte,Qa,Qh,Qb,Qc,Qd,Qe,Qf,Qg,reduceCtorEq, *] at hk
  by_cases hlt:i<gone.length
  ·rw[List.drop_eq_getElem_cons hlt,List.foldl_cons] at f3
   have hys:Jc ys.length:=by unfold Jc at hx ⊢;omega
   have w1:=(Je4 ys gone[i].kind gone[i].name hys).frz
   have hle:=Jkz ys gone[i]
   (repeat' (first
 | (with_reducible first|refine callX.by (w1) ?_|assumption|(refine Qw hK _ ?_;clear hK K)|refine Qw ‹_› _ ?_|refine Qx ‹_› ?_|refine Qi fun K hK=>?_|refine Qj T fun K hK=>?_|refine Ql fun A B hA hB=>?_|refine Qm ?_|refine Qn ?_|refine Qp ?_|refine Qr ?_)
 |(with_reducible first|apply Qy|apply Qz|apply QA)<;>intro hb<;>try simp only[nr] at hb
 |simp only[go_sem,↓reduceIte,Qa,Qh,Qb,Qc,Qd,Qe,Qf,Qg,reduceCtorEq, *,-f3,-w1]
 |intro(bn:Bool) hbn))
   all_goals ((repeat clear hK);(repeat clear hA);(repeat clear hB))
   all_goals (refine hM.on (gone.length-(i+1)) (by omega) (by simp only[go_sem,↓reduceIte,Qa,Qh,Qb,Qc,Qd,Qe,Qf,Qg,reduceCtorEq, *,Jh hlt hg,-f3,-w1]) ⟨i+1,Y2 ys gone[i],rfl,by omega,by omega,f3,?_⟩;simp only[go_sem,↓reduceIte,Qa,Qh,Qb,Qc,Qd,Qe,Qf,Qg,reduceCtorEq, *,Jh hlt hg,-f3,-w1];done)
  ·rw[List.drop_eq_nil_of_le (by omega),List.foldl_nil] at f3
   subst f3
   (repeat' (first
 | (with_reducible first|refine callX.by (Je4 _ _ _ ?_) ?_|refine callX.by (Jfa _ _ ?_ ?_) ?_|assumption|(refine Qw hK _ ?_;clear hK K)|refine Qw ‹_› _ ?_|refine Qx ‹_› ?_|refine Qi fun K hK=>?_|refine Qj T fun K hK=>?_|refine Ql fun A B hA hB=>?_|refine Qm ?_|refine Qn ?_|refine Qp ?_|refine Qr ?_)
 |(with_reducible first|apply Qy|apply Qz|apply QA)<;>intro hb<;>try simp only[nr] at hb
 |simp only[go_sem,↓reduceIte,Qa,Qh,Qb,Qc,Qd,Qe,Qf,Qg,reduceCtorEq, *]
 |intro(bn:Bool) hbn))
   clear hM hm
   refine Qs [21,22] (fun m ts'=>∃(j:Nat),∃(zs:List Res),m=adds.length-j∧j≤adds.length∧zs.length≤xs.length+j∧(adds.drop j).foldl Yg zs=YK xs adds gone∧ts'.tmp 0=.slice false (Ja zs)∧ts'.tmp 23=.int .i64 j) adds.length ?_ ?_
   ·refine⟨0,gone.foldl Y2 xs,rfl,Nat.zero_le _,by omega,rfl,?_⟩
    simp only[go_sem,↓reduceIte,Qa,Qh,Qb,Qc,Qd,Qe,Qf,Qg,reduceCtorEq, *]
   ·rintro m A hM ts' hk ⟨j,zs,hm,f1,f2,f3,s1,s2⟩
    simp only[go_sem,↓reduceIte,Qa,Qh,Qb,Qc,Qd,Qe,Qf,Qg,reduceCtorEq, *] at hk
    by_cases hlt2:j<adds.length
    ·rw[List.drop_eq_getElem_cons hlt2,List.foldl_cons] at f3
     have hle:=Jmr zs adds[j]
     have hzs:Jc zs.length:=by unfold Jc at hl ⊢;omega
     have hzr:Jc (Yg zs adds[j]).length:=by unfold Jc at hl ⊢;omega
     have w1:=(Jfa zs adds[j] hzs hzr).frz
     (repeat' (first
 | (with_reducible first|refine callX.by (w1) ?_|assumption|(refine Qw hK _ ?_;clear hK K)|refine Qw ‹_› _ ?_|refine Qx ‹_› ?_|refine Qi fun K hK=>?_|refine Qj T fun K hK=>?_|refine Ql fun A B hA hB=>?_|refine Qm ?_|refine Qn ?_|refine Qp ?_|refine Qr ?_)
 |(with_reducible first|apply Qy|apply Qz|apply QA)<;>intro hb<;>try simp only[nr] at hb
 |simp only[go_sem,↓reduceIte,Qa,Qh,Qb,Qc,Qd,Qe,Qf,Qg,reduceCtorEq, *,-f3,-w1]
 |intro(bn:Bool) hbn))
     all_goals ((repeat clear hK);(repeat clear hA);(repeat clear hB))
     all_goals (refine hM.on (adds.length-(j+1)) (by omega) (by simp only[go_sem,↓reduceIte,Qa,Qh,Qb,Qc,Qd,Qe,Qf,Qg,reduceCtorEq, *,Jh hlt2 ha,-f3,-w1]) ⟨j+1,Yg zs adds[j],rfl,by omega,by omega,f3,?_⟩;simp only[go_sem,↓reduceIte,Qa,Qh,Qb,Qc,Qd,Qe,Qf,Qg,reduceCtorEq, *,Jh hlt2 ha,-f3,-w1];done)
    ·rw[List.drop_eq_nil_of_le (by omega),List.foldl_nil] at f3
     subst f3
     (repeat' (first
 | (with_reducible first|refine callX.by (Je4 _ _ _ ?_) ?_|refine callX.by (Jfa _ _ ?_ ?_) ?_|assumption|(refine Qw hK _ ?_;clear hK K)|refine Qw ‹_› _ ?_|refine Qx ‹_› ?_|refine Qi fun K hK=>?_|refine Qj T fun K hK=>?_|refine Ql fun A B hA hB=>?_|refine Qm ?_|refine Qn ?_|refine Qp ?_|refine Qr ?_)
 |(with_reducible first|apply Qy|apply Qz|apply QA)<;>intro hb<;>try simp only[nr] at hb
 |simp only[go_sem,↓reduceIte,Qa,Qh,Qb,Qc,Qd,Qe,Qf,Qg,reduceCtorEq, *]
 |intro(bn:Bool) hbn))
theorem JmM(cap:Int)(l adds:List Res)(gone:List Key)(hl:l.length+adds.length≤65536)(hg:Jc gone.length)(hs:∀r∈l,Jw r)(ha:∀r∈adds,Jw r) :
  Done 174 ([.ro [.int .i64 cap,.slice false (Ja l)],.ro [.slice false (Ja adds)],.ro [.slice false (Ja gone)]].map Arg.v++[.io [.int .i64 cap,.slice false (Ja l)]]) (J9 cap (YK l adds gone))
   (fun io=>io [AV.ro [.int .i64 cap,.slice false (Ja l)],.ro [.slice false (Ja adds)],.ro [.slice false (Ja gone)]].length=[.int .i64 cap,.slice false (Ja (YK l adds gone))]):=by
 have hlen:=Jjl l adds gone
 have hsp:∀r∈YK l adds gone,Jw r:=fun r hr=>(Jjm hr).elim (hs r) (ha r)
 have w0:=Jrb l adds gone (by unfold Jc;omega) (by unfold Jc;omega) hg (by unfold Jc;omega)
 unfold Done
 split
 ·rename_i hm
  have w1:=JiR cap l _ (by omega) hsp (fun h=>(JcN h).nodup) hm
  clear hsp hs ha hlen
  refine CallV.goB3 Tryz.call174 Tryz.func174 rfl Tryz.ntmps174 T (congrArg Array.toList Tryz.results174) (by decide) fun ts hn h0 h1 h2 h3 hg3 ho3=>?_
  (repeat' (first
 | (with_reducible first|refine callX.by (w0) ?_|refine callX.by (w1) ?_|assumption|(refine Qw hK _ ?_;clear hK K)|refine Qw ‹_› _ ?_|refine Qx ‹_› ?_|refine Qi fun K hK=>?_|refine Qj T fun K hK=>?_|refine Ql fun A B hA hB=>?_|refine Qn ?_|refine Qr ?_)
 |(with_reducible first|apply Qy|apply Qz|apply QA)<;>intro hb<;>try simp only[nr] at hb
 |simp only[go_sem,↓reduceIte,Qa,Qh,Qb,Qc,Qd,Qe,Qf,Qg,reduceCtorEq, *,-w0,-w1,-hm]
 |intro(bn:Bool) hbn))
  all_goals trace_state
 ·rename_i hm
  have w1:=JiS cap l _ (by omega) hsp (fun h=>(JcN h).nodup) hm
  clear hsp hs ha hlen
  refine CallUV.goB3 Tryz.call174 Tryz.func174 rfl Tryz.ntmps174 (by decide) fun ts hn h0 h1 h2 h3 hg3 ho3=>?_
  (repeat' (first
 | (with_reducible first|refine Qt T 3 (id:=1) rfl rfl fun K hK=>?_|refine UpK.callF w1 ?_ ?_|refine callX.by (w0) ?_|assumption|(refine Qw hK _ ?_;clear hK K)|refine Qw ‹_› _ ?_|refine Qx ‹_› ?_|refine Qi fun K hK=>?_|refine Qj T fun K hK=>?_|refine Ql fun A B hA hB=>?_|refine Qn ?_|refine Qr ?_)
 |(with_reducible first|apply Qy|apply Qz|apply QA)<;>intro hb<;>try simp only[nr] at hb
 |simp only[go_sem,↓reduceIte,Qa,Qh,Qb,Qc,Qd,Qe,Qf,Qg,reduceCtorEq, *,-w0,-w1,-hm]
 |intro(bn:Bool) hbn))
  all_goals trace_state
def J7(c:Cache)(adds:List Res)(gone:List Key):Cache×Int :=
 let d:=Vy c
 let e:=J9 d.cap (YK d.l adds gone)
 if e=0 then (⟨d.cap,YK d.l adds gone⟩,0) else (d,e)
theorem JeU(c:Cache):(Vy c).l.length≤c.l.length:=by unfold Vy;split<;>simp
theorem Jdv{c:Cache}{x:Res}(h:x∈(Vy c).l):x∈c.l:=by unfold Vy at h;split at h<;>simp_all
theorem JmN(Lz:Int)(c_l adds:List Res)(gone:List Key)(hl:c_l.length+adds.length≤65536)(hg:Jc gone.length)(hs:∀r∈c_l,Jw r)(ha:∀r∈adds,Jw r) :
  CallR Tryz.prog 134 [.agg [.int .i64 Lz,.slice false (Ja c_l)],.slice false (Ja adds),.slice false (Ja gone)] (.val (.tup [.agg [.int .i64 (J7 (⟨Lz,c_l⟩:Cache) adds gone).1.cap,.slice false (Ja (J7 (⟨Lz,c_l⟩:Cache) adds gone).1.l)],.int .i64 (J7 (⟨Lz,c_l⟩:Cache) adds gone).2])):=by
 have w0:=JeT Lz c_l (by omega) hs
 have hdl:=JeU (⟨Lz,c_l⟩:Cache)
 have hdm:∀r∈(Vy (⟨Lz,c_l⟩:Cache)).l,Jw r:=fun r hr=>hs r (Jdv hr)
 unfold J7
 generalize Vy (⟨Lz,c_l⟩:Cache)=d at *
 have w1:=JmM d.cap d.l adds gone (by simp only at hdl;omega) hg hdm ha
 clear hdl hdm hs ha hl hg
 by_cases he:J9 d.cap (YK d.l adds gone)=0
 ·rw[he] at w1
  simp only[he,if_true]
  refine CallR.go3 (T:=T.withF [13]) Tryz.call134 Tryz.func134 rfl Tryz.ntmps134 (congrArg Array.toList Tryz.results134) (by decide) fun ts hn h0 h1 h2=>?_
  (repeat' (first
 | (with_reducible first|refine callX.by (w0) ?_|refine SpecC.ent (Ent.frzBox _ 3) (SpecC.ent (Ent.frzBox _ 4) (SpecC.ent (Ent.frzBox _ 5) (Qu (T.withF [13]) 1 (id:=3) rfl rfl fun K hK=>?_)))|refine fun(K2:TS→Prop) (hK2:NxK _ K2)=>?_|refine SpecO.caughtB rfl 8 ?_ ?_ ?_ ?_ Tryz.call174 w1 ?_|refine Qw hK2 _ ?_|refine fun(K3:TS→Prop) (hK3:NxK _ K3)=>?_|refine callX.by (JeT _ _ ?_ ?_) ?_|assumption|(refine Qw hK _ ?_;clear hK K)|refine Qw ‹_› _ ?_|refine Qx ‹_› ?_|refine Qi fun K hK=>?_|refine Qj (T.withF [13]) fun K hK=>?_|refine Ql fun A B hA hB=>?_|refine Qn ?_|refine Qr ?_)
 |(with_reducible first|apply Qy|apply Qz|apply QA)<;>intro hb<;>try simp only[nr] at hb
 |simp only[go_sem,↓reduceIte,Qa,Qh,Qb,Qc,Qd,Qe,Qf,Qg,reduceCtorEq, *,-w0,-w1,-he]
 |intro(bn:Bool) hbn))
  all_goals trace_state
 ·simp only[he,if_false]
  refine CallR.go3 (T:=T.withF [13]) Tryz.call134 Tryz.func134 rfl Tryz.ntmps134 (congrArg Array.toList Tryz.results134) (by decide) fun ts hn h0 h1 h2=>?_
  (repeat' (first
 | (with_reducible first|refine callX.by (w0) ?_|refine SpecC.ent (Ent.frzBox _ 3) (SpecC.ent (Ent.frzBox _ 4) (SpecC.ent (Ent.frzBox _ 5) (Qu (T.withF [13]) 1 (id:=3) rfl rfl fun K hK=>?_)))|refine fun(K2:TS→Prop) (hK2:NxK _ K2)=>?_|refine SpecO.caughtB rfl 8 ?_ ?_ ?_ ?_ Tryz.call174 w1 ?_|refine Qw hK2 _ ?_|refine fun(K3:TS→Prop) (hK3:NxK _ K3)=>?_|refine callX.by (JeT _ _ ?_ ?_) ?_|assumption|(refine Qw hK _ ?_;clear hK K)|refine Qw ‹_› _ ?_|refine Qx ‹_› ?_|refine Qi fun K hK=>?_|refine Qj (T.withF [13]) fun K hK=>?_|refine Ql fun A B hA hB=>?_|refine Qn ?_|refine Qr ?_)
 |(with_reducible first|apply Qy|apply Qz|apply QA)<;>intro hb<;>try simp only[nr] at hb
 |simp only[go_sem,↓reduceIte,Qa,Qh,Qb,Qc,Qd,Qe,Qf,Qg,reduceCtorEq, *,-w0,-w1]
 |intro(bn:Bool) hbn))
  all_goals trace_state
theorem Jqn{c:Cache}(h:Ye c=true):Conf c.l:=by
 unfold Ye at h
 simp only[Bool.and_eq_true,decide_eq_true_eq] at h
 refine JcN ?_
 by_cases ht:Vc c.l=0
 ·exact ht
 ·have:=h.2
  unfold J9 at this
  rw[if_pos ht] at this
  exact this
theorem Jqr(c:Cache):((Vy c).l.map Jo).Nodup:=by
 unfold Vy
 split
 ·rename_i h;exact(Jqn h).nodup
 ·simp
def VP(c:Cache):List Res:=Yd (Vy c).l
theorem Jkf(Lz:Int)(c_l:List Res)(hl:c_l.length≤65536)(hs:∀r∈c_l,Jw r):CallR Tryz.prog 77 [.agg [.int .i64 Lz,.slice false (Ja c_l)]] (.own 7 (Ja (VP (⟨Lz,c_l⟩:Cache)))):=by
 have w0:=JeT Lz c_l hl hs
 have hdl:=JeU (⟨Lz,c_l⟩:Cache)
 have hdm:∀r∈(Vy (⟨Lz,c_l⟩:Cache)).l,Jw r:=fun r hr=>hs r (Jdv hr)
 have hdn:=Jqr (⟨Lz,c_l⟩:Cache)
 unfold VP
 generalize Vy (⟨Lz,c_l⟩:Cache)=d at *
 have w1:=JeG d.l (by simp only at hdl;omega) hdm hdn
 clear hdl hdm hs hl hdn
 refine Jl Tryz.call77 Tryz.func77 rfl Tryz.ntmps77 Tryz.results77 fun ts hn h0=>?_
 (repeat' (first
 | (with_reducible first|refine callX.by (w0) ?_|refine callX.by (w1) ?_|assumption|(refine Qw hK _ ?_;clear hK K)|refine Qw ‹_› _ ?_|refine Qx ‹_› ?_|refine Qi fun K hK=>?_|refine Qj T fun K hK=>?_|refine Ql fun A B hA hB=>?_|refine Qn ?_|refine Qr ?_)
 |(with_reducible first|apply Qy|apply Qz|apply QA)<;>intro hb<;>try simp only[nr] at hb
 |simp only[go_sem,↓reduceIte,Qa,Qh,Qb,Qc,Qd,Qe,Qf,Qg,reduceCtorEq, *,-w0,-w1]
 |intro(bn:Bool) hbn))
end Go.Proofs.YthjalhfmpffbjaaGreatDoor.Lg
