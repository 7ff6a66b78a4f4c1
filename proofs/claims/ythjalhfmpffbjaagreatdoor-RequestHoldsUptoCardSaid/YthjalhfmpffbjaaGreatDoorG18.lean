/- Parts of the proof, one behind the other. -/
import Derived.Test.YthjalhfmpffbjaaGreatDoorG17
set_option linter.unusedVariables false
set_option linter.unusedSimpArgs false
set_option maxRecDepth 100000
set_option maxHeartbeats 64000000
namespace Go.Proofs.YthjalhfmpffbjaaGreatDoor.Lg
open Go
open Tryz
open Nat renaming reduceEqDiff → Qa, reduceLT → Qb, reduceLeDiff → Qc, reduceAdd → Qd, reduceMul → Qe, reduceSub → Qf, reduceBEq → Qg
open String renaming reduceEq → Qh
open SpecC renaming seqW → Qi, regW → Qj, drawW → Qk, condW → Ql, block → Qm, skip → Qn, exit → Qp, ret → Qr, loopF → Qs, regUW → Qt, regMidW → Qu
open NxK renaming out → Qw
open Nx renaming out → Qx
open condK renaming split → Qy
open gK renaming split_t → Qz, split_f → QA
theorem Jen:CallR prog 140 [.int .i64 0] (.val (.tup [])):=by
 refine Jl call140 func140 rfl ntmps140 results140 fun ts hn h0=>?_
 (repeat' (first
 | (with_reducible first|assumption|(refine Qw hK _ ?_;clear hK K)|refine Qw ‹_› _ ?_|refine Qx ‹_› ?_|refine Qi fun K hK=>?_|refine Qj T fun K hK=>?_|refine Ql fun A B hA hB=>?_|refine Qn ?_|refine Qr ?_)
 |(with_reducible first|apply Qy|apply Qz|apply QA)<;>intro hb<;>try simp only[nr] at hb
 |simp only[go_sem,↓reduceIte,Qa,Qh,Qb,Qc,Qd,Qe,Qf,Qg,reduceCtorEq, *]
 |intro(bn:Bool) hbn))
theorem Jf2(e:Int)(he:¬e=0):CallU prog 140 [.int .i64 e] (ZA e):=by
 refine CallU.go1 call140 func140 rfl ntmps140 (by decide) fun ts hn h0=>?_
 (repeat' (first
 | (with_reducible first|refine Qt T 3 (id:=1) rfl rfl fun K hK=>?_|refine UpK.panicT (u:=216) (n:=e) ?_ ?_|assumption|(refine Qw hK _ ?_;clear hK K)|refine Qw ‹_› _ ?_|refine Qx ‹_› ?_|refine Qi fun K hK=>?_|refine Qj T fun K hK=>?_|refine Ql fun A B hA hB=>?_|refine Qn ?_|refine Qr ?_)
 |(with_reducible first|apply Qy|apply Qz|apply QA)<;>intro hb<;>try simp only[nr] at hb
 |simp only[go_sem,↓reduceIte,Qa,Qh,Qb,Qc,Qd,Qe,Qf,Qg,reduceCtorEq, *]
 |intro(bn:Bool) hbn))
 all_goals first|rfl|trace_state
theorem JbE(b:Bool)(e:Int):CallR prog 142 [.bool b,.int .i64 e] (.val (.int .i64 (if b=true then 0 else e))):=by
 cases b
 ·refine Jn call142 func142 rfl ntmps142 results142 fun ts hn h0 h1=>?_
  (repeat' (first
 | (with_reducible first|assumption|(refine Qw hK _ ?_;clear hK K)|refine Qw ‹_› _ ?_|refine Qx ‹_› ?_|refine Qi fun K hK=>?_|refine Qj T fun K hK=>?_|refine Ql fun A B hA hB=>?_|refine Qn ?_|refine Qr ?_)
 |(with_reducible first|apply Qy|apply Qz|apply QA)<;>intro hb<;>try simp only[nr] at hb
 |simp only[go_sem,↓reduceIte,Qa,Qh,Qb,Qc,Qd,Qe,Qf,Qg,reduceCtorEq, *]
 |intro(bn:Bool) hbn))
 ·refine Jn call142 func142 rfl ntmps142 results142 fun ts hn h0 h1=>?_
  (repeat' (first
 | (with_reducible first|assumption|(refine Qw hK _ ?_;clear hK K)|refine Qw ‹_› _ ?_|refine Qx ‹_› ?_|refine Qi fun K hK=>?_|refine Qj T fun K hK=>?_|refine Ql fun A B hA hB=>?_|refine Qn ?_|refine Qr ?_)
 |(with_reducible first|apply Qy|apply Qz|apply QA)<;>intro hb<;>try simp only[nr] at hb
 |simp only[go_sem,↓reduceIte,Qa,Qh,Qb,Qc,Qd,Qe,Qf,Qg,reduceCtorEq, *]
 |intro(bn:Bool) hbn))
def J8(cap:Int)(l:List Res):Int:=if ¬Vb l=0 then Vb l else if(l.length:Int)≤cap then Zy l else 8
theorem Ji0(cap:Int)(m l:List Res)(hl:l.length≤65536)(hs:∀r∈l,Jy r)(hnd:Vb l=0→(l.map Jo).Nodup)(hm:J8 cap l=0) :
  CallR prog 105 [.agg [.int .i64 cap,.slice false (Ja m)],.slice false (Ja l)] (.val (.tup [])):=by
 have hsl:=JbC hl
 have ht:Vb l=0:=by
  by_cases h:Vb l=0
  ·exact h
  ·unfold J8 at hm;rw[if_pos h] at hm;exact hm
 have hc:(l.length:Int)≤cap:=by
  by_cases h:(l.length:Int)≤cap
  ·exact h
  ·unfold J8 at hm;rw[if_neg (by simp[ht]),if_neg h] at hm;cases hm
 have hv:Zy l=0:=by
  unfold J8 at hm;rwa [if_neg (by simp[ht]),if_pos hc] at hm
 have w1:=Jcz l hsl hs
 rw[ht] at w1
 have w3:=Jcu l hl hs (hnd ht)
 rw[hv] at w3
 have w2:=JbE true 8
 rw[if_pos rfl] at w2
 clear hm hnd
 refine Jn call105 func105 rfl ntmps105 results105 fun ts hn h0 h1=>?_
 (repeat' (first
 | (with_reducible first|refine callX.by (w1) ?_|refine callX.by (w3) ?_|refine callX.by (w2) ?_|refine callX.by (Jcz _ ?_ ?_) ?_|refine callX.by Jen ?_|refine callX.by (JbE _ _) ?_|refine callX.by (Jdt _ ?_ ?_) ?_|refine callX.by (Jcu _ ?_ ?_ _) ?_|refine callX.by a6sc ?_|assumption|(refine Qw hK _ ?_;clear hK K)|refine Qw ‹_› _ ?_|refine Qx ‹_› ?_|refine Qi fun K hK=>?_|refine Qj T fun K hK=>?_|refine Ql fun A B hA hB=>?_|refine Qn ?_|refine Qr ?_)
 |(with_reducible first|apply Qy|apply Qz|apply QA)<;>intro hb<;>try simp only[nr] at hb
 |simp only[go_sem,↓reduceIte,Qa,Qh,Qb,Qc,Qd,Qe,Qf,Qg,reduceCtorEq, *,-hs,-w1,-w2,-w3,-ht,-hv]
 |intro(bn:Bool) hbn))
 all_goals trace_state
theorem Ji1(cap:Int)(m l:List Res)(hl:l.length≤65536)(hs:∀r∈l,Jy r)(hnd:Vb l=0→(l.map Jo).Nodup)(hm:¬J8 cap l=0) :
  CallU prog 105 [.agg [.int .i64 cap,.slice false (Ja m)],.slice false (Ja l)] (ZA (J8 cap l)):=by
 have hsl:=JbC hl
 have w1:=Jcz l hsl hs
 by_cases ht:Vb l=0
 ·by_cases hc:(l.length:Int)≤cap
  ·have e:J8 cap l=Zy l:=by unfold J8;rw[if_neg (by simp[ht]),if_pos hc]
   rw[e] at hm ⊢
   have w3:=Jcu l hl hs (hnd ht)
   have w2:=JbE true 8
   rw[if_pos rfl] at w2
   have w4:=Jf2 _ hm
   rw[ht] at w1
   clear hnd e
   refine CallU.go2 call105 func105 rfl ntmps105 (by decide) fun ts hn h0 h1=>?_
   (repeat' (first
 | (with_reducible first|refine Qt T 2 (id:=3) rfl rfl fun K hK=>?_|refine UpK.callF w4 ?_ ?_|refine callX.by (w1) ?_|refine callX.by (w3) ?_|refine callX.by (w2) ?_|refine callX.by (Jcz _ ?_ ?_) ?_|refine callX.by Jen ?_|refine callX.by (JbE _ _) ?_|refine callX.by (Jdt _ ?_ ?_) ?_|refine callX.by (Jcu _ ?_ ?_ _) ?_|refine callX.by a6sc ?_|assumption|(refine Qw hK _ ?_;clear hK K)|refine Qw ‹_› _ ?_|refine Qx ‹_› ?_|refine Qi fun K hK=>?_|refine Qj T fun K hK=>?_|refine Ql fun A B hA hB=>?_|refine Qn ?_|refine Qr ?_)
 |(with_reducible first|apply Qy|apply Qz|apply QA)<;>intro hb<;>try simp only[nr] at hb
 |simp only[go_sem,↓reduceIte,Qa,Qh,Qb,Qc,Qd,Qe,Qf,Qg,reduceCtorEq, *,-hs,-w1,-w2,-w3,-w4,-ht]
 |intro(bn:Bool) hbn))
   all_goals trace_state
  ·have e:J8 cap l=8:=by unfold J8;rw[if_neg (by simp[ht]),if_neg hc]
   rw[e] at hm ⊢
   have w2:=JbE false 8
   rw[if_neg (by simp)] at w2
   have w4:=Jf2 _ hm
   rw[ht] at w1
   clear hnd e
   refine CallU.go2 call105 func105 rfl ntmps105 (by decide) fun ts hn h0 h1=>?_
   (repeat' (first
 | (with_reducible first|refine Qt T 6 (id:=2) rfl rfl fun K hK=>?_|refine UpK.callF w4 ?_ ?_|refine callX.by (w1) ?_|refine callX.by (w2) ?_|refine callX.by (Jcz _ ?_ ?_) ?_|refine callX.by Jen ?_|refine callX.by (JbE _ _) ?_|refine callX.by (Jdt _ ?_ ?_) ?_|refine callX.by (Jcu _ ?_ ?_ _) ?_|refine callX.by a6sc ?_|assumption|(refine Qw hK _ ?_;clear hK K)|refine Qw ‹_› _ ?_|refine Qx ‹_› ?_|refine Qi fun K hK=>?_|refine Qj T fun K hK=>?_|refine Ql fun A B hA hB=>?_|refine Qn ?_|refine Qr ?_)
 |(with_reducible first|apply Qy|apply Qz|apply QA)<;>intro hb<;>try simp only[nr] at hb
 |simp only[go_sem,↓reduceIte,Qa,Qh,Qb,Qc,Qd,Qe,Qf,Qg,reduceCtorEq, *,-hs,-w1,-w2,-w4,-ht]
 |intro(bn:Bool) hbn))
   all_goals trace_state
 ·have e:J8 cap l=Vb l:=by unfold J8;rw[if_pos ht]
  rw[e] at hm ⊢
  have w4:=Jf2 _ hm
  clear hnd e
  refine CallU.go2 call105 func105 rfl ntmps105 (by decide) fun ts hn h0 h1=>?_
  (repeat' (first
 | (with_reducible first|refine Qt T 2 (id:=1) rfl rfl fun K hK=>?_|refine UpK.callF w4 ?_ ?_|refine callX.by (w1) ?_|refine callX.by (Jcz _ ?_ ?_) ?_|refine callX.by Jen ?_|refine callX.by (JbE _ _) ?_|refine callX.by (Jdt _ ?_ ?_) ?_|refine callX.by (Jcu _ ?_ ?_ _) ?_|refine callX.by a6sc ?_|assumption|(refine Qw hK _ ?_;clear hK K)|refine Qw ‹_› _ ?_|refine Qx ‹_› ?_|refine Qi fun K hK=>?_|refine Qj T fun K hK=>?_|refine Ql fun A B hA hB=>?_|refine Qn ?_|refine Qr ?_)
 |(with_reducible first|apply Qy|apply Qz|apply QA)<;>intro hb<;>try simp only[nr] at hb
 |simp only[go_sem,↓reduceIte,Qa,Qh,Qb,Qc,Qd,Qe,Qf,Qg,reduceCtorEq, *,-hs,-w1,-w4,-ht]
 |intro(bn:Bool) hbn))
  all_goals trace_state
@[go_sem] def Jfq:List (List Nat×List Nat):=[([3],[5,6,7]),([4],[5,6,7]),([5],[3,4]),([6],[3,4]),([7],[3,4])]
def VT(n:Int):Int:=max 0 (min n 64)
theorem Jhw(n:Int):CallR prog 102 [.int .i64 n] (.val (.int .i64 (VT n))):=by
 refine Jl call102 func102 rfl ntmps102 results102 fun ts hn h0=>?_
 (repeat' (first
 | (with_reducible first|assumption|(refine Qw hK _ ?_;clear hK K)|refine Qw ‹_› _ ?_|refine Qx ‹_› ?_|refine Qi fun K hK=>?_|refine Qj T fun K hK=>?_|refine Ql fun A B hA hB=>?_|refine Qn ?_|refine Qr ?_)
 |(with_reducible first|apply Qy|apply Qz|apply QA)<;>intro hb<;>try simp only[nr] at hb
 |simp only[go_sem,↓reduceIte,Qa,Qh,Qb,Qc,Qd,Qe,Qf,Qg,reduceCtorEq, *]
 |intro(bn:Bool) hbn))
 all_goals rfl
theorem Jf3(n:Int):CallR prog 101 [.int .i64 n] (.val (.agg [.int .i64 (VT n),.slice false []])):=by
 refine Jl call101 func101 rfl ntmps101 results101 fun ts hn h0=>?_
 (repeat' (first
 | (with_reducible first|refine callX.by (Jhw _) ?_|assumption|(refine Qw hK _ ?_;clear hK K)|refine Qw ‹_› _ ?_|refine Qx ‹_› ?_|refine Qi fun K hK=>?_|refine Qj T fun K hK=>?_|refine Ql fun A B hA hB=>?_|refine Qn ?_|refine Qr ?_)
 |(with_reducible first|apply Qy|apply Qz|apply QA)<;>intro hb<;>try simp only[nr] at hb
 |simp only[go_sem,↓reduceIte,Qa,Qh,Qb,Qc,Qd,Qe,Qf,Qg,reduceCtorEq, *]
 |intro(bn:Bool) hbn))
theorem Jnk(cap:Int)(l:List Res)(hl:l.length≤65536)(hs:∀r∈l,Jy r) :
  Done 104 ([.ro [.int .i64 cap,.slice false (Ja l)]].map Arg.v) (J8 cap l) (fun _=>True):=by
 unfold Done
 split
 ·rename_i hm
  have w1:=Ji0 cap l l hl hs (fun h=>(JcJ h).nodup) hm
  have key:CallR prog 104 [.ro [.int .i64 cap,.slice false (Ja l)]] (.val (.tup [])):=by
   refine Jl call104 func104 rfl ntmps104 results104 fun ts hn h0=>?_
   (repeat' (first
 | (with_reducible first|refine callX.by (w1) ?_|assumption|(refine Qw hK _ ?_;clear hK K)|refine Qw ‹_› _ ?_|refine Qx ‹_› ?_|refine Qi fun K hK=>?_|refine Qj T fun K hK=>?_|refine Ql fun A B hA hB=>?_|refine Qn ?_|refine Qr ?_)
 |(with_reducible first|apply Qy|apply Qz|apply QA)<;>intro hb<;>try simp only[nr] at hb
 |simp only[go_sem,↓reduceIte,Qa,Qh,Qb,Qc,Qd,Qe,Qf,Qg,reduceCtorEq, *,-hs,-w1,-hm]
 |intro(bn:Bool) hbn))
  exact CallV.mono key fun r io h=>⟨h,trivial⟩
 ·rename_i hm
  have w1:=Ji1 cap l l hl hs (fun h=>(JcJ h).nodup) hm
  have key:CallU prog 104 [.ro [.int .i64 cap,.slice false (Ja l)]] (ZA (J8 cap l)):=by
   refine CallU.go1 call104 func104 rfl ntmps104 (by decide) fun ts hn h0=>?_
   (repeat' (first
 | (with_reducible first|refine Qt T 3 (id:=0) rfl rfl fun K hK=>?_|refine UpK.callF w1 ?_ ?_|assumption|(refine Qw hK _ ?_;clear hK K)|refine Qw ‹_› _ ?_|refine Qx ‹_› ?_|refine Qi fun K hK=>?_|refine Qj T fun K hK=>?_|refine Ql fun A B hA hB=>?_|refine Qn ?_|refine Qr ?_)
 |(with_reducible first|apply Qy|apply Qz|apply QA)<;>intro hb<;>try simp only[nr] at hb
 |simp only[go_sem,↓reduceIte,Qa,Qh,Qb,Qc,Qd,Qe,Qf,Qg,reduceCtorEq, *,-hs,-w1,-hm]
 |intro(bn:Bool) hbn))
  exact key
def Yd(c:Cache):Bool:=decide (c.cap=VT c.cap) && decide (J8 c.cap c.l=0)
theorem Jnl(cap:Int)(l:List Res):AV.pure.pureL [.ro [.int .i64 cap,.slice false (Ja l)]]=true:=by simp only[go_sem,Bool.and_self]
theorem JeX(Lz:Int)(c_l:List Res)(hl:c_l.length≤65536)(hs:∀r∈c_l,Jy r):CallR prog 75 [.agg [.int .i64 Lz,.slice false (Ja c_l)]] (.val (.bool (Yd (⟨Lz,c_l⟩:Cache)))):=by
 have w1:=Jnr 104 [.ro [.int .i64 Lz,.slice false (Ja c_l)]] (J8 Lz c_l) call104 (Jnk Lz c_l hl hs) (Jnl _ _)
 refine CallR.go1 (T:=T.withF [10]) call75 func75 rfl ntmps75 (congrArg Array.toList results75) (by decide) fun ts hn h0=>?_
 (repeat' (first
 | (with_reducible first|refine SpecC.ent (Ent.frzBox _ 1) (Qk (id:=1) (T.withF [10]) mixed Jfq (by kernel_rfl) fun K hK=>?_)|refine callX.by (w1) ?_|refine callX.by (Jhw _) ?_|assumption|(refine Qw hK _ ?_;clear hK K)|refine Qw ‹_› _ ?_|refine Qx ‹_› ?_|refine Qi fun K hK=>?_|refine Qj (T.withF [10]) fun K hK=>?_|refine Qk (id:=1) (T.withF [10]) mixed Jfq (by kernel_rfl) fun K hK=>?_|refine Ql fun A B hA hB=>?_|refine Qn ?_|refine Qr ?_)
 |(with_reducible first|apply Qy|apply Qz|apply QA)<;>intro hb<;>try simp only[nr] at hb
 |simp only[go_sem,↓reduceIte,Qa,Qh,Qb,Qc,Qd,Qe,Qf,Qg,reduceCtorEq, *,-hs,-w1]
 |intro(bn:Bool) hbn))
 all_goals (simp only[Yd,hb,Bool.true_and,Bool.false_and])
def Vx(c:Cache):Cache:=if Yd c=true then c else ⟨VT c.cap,[]⟩
theorem JeZ(Lz:Int)(c_l:List Res)(hl:c_l.length≤65536)(hs:∀r∈c_l,Jy r):CallR prog 109 [.agg [.int .i64 Lz,.slice false (Ja c_l)]] (.val (.agg [.int .i64 (Vx (⟨Lz,c_l⟩:Cache)).cap,.slice false (Ja (Vx (⟨Lz,c_l⟩:Cache)).l)])):=by
 have w1:=JeX Lz c_l hl hs
 unfold Vx
 cases hb0:Yd (⟨Lz,c_l⟩:Cache)
 ·rw[hb0] at w1
  refine Jl call109 func109 rfl ntmps109 results109 fun ts hn h0=>?_
  (repeat' (first
 | (with_reducible first|refine callX.by (w1) ?_|refine callX.by (JeX _ _ ?_ ?_) ?_|refine callX.by (Jf3 _) ?_|assumption|(refine Qw hK _ ?_;clear hK K)|refine Qw ‹_› _ ?_|refine Qx ‹_› ?_|refine Qi fun K hK=>?_|refine Qj T fun K hK=>?_|refine Ql fun A B hA hB=>?_|refine Qn ?_|refine Qr ?_)
 |(with_reducible first|apply Qy|apply Qz|apply QA)<;>intro hb<;>try simp only[nr] at hb
 |simp only[go_sem,↓reduceIte,Qa,Qh,Qb,Qc,Qd,Qe,Qf,Qg,reduceCtorEq, *,-hs,-w1]
 |intro(bn:Bool) hbn))
  all_goals rfl
 ·rw[hb0] at w1
  refine Jl call109 func109 rfl ntmps109 results109 fun ts hn h0=>?_
  (repeat' (first
 | (with_reducible first|refine callX.by (w1) ?_|refine callX.by (JeX _ _ ?_ ?_) ?_|refine callX.by (Jf3 _) ?_|assumption|(refine Qw hK _ ?_;clear hK K)|refine Qw ‹_› _ ?_|refine Qx ‹_› ?_|refine Qi fun K hK=>?_|refine Qj T fun K hK=>?_|refine Ql fun A B hA hB=>?_|refine Qn ?_|refine Qr ?_)
 |(with_reducible first|apply Qy|apply Qz|apply QA)<;>intro hb<;>try simp only[nr] at hb
 |simp only[go_sem,↓reduceIte,Qa,Qh,Qb,Qc,Qd,Qe,Qf,Qg,reduceCtorEq, *,-hs,-w1]
 |intro(bn:Bool) hbn))
  all_goals trace_state
theorem Jrz(Ln:Int)(Lp:List UInt8)(Lx Lq:Int)(LA:List UInt8)(r_rules:List Rule)(r_hosts:List Int)(Lm:Int)(k_name:List UInt8)(c:Int):CallR prog 241 [.agg [.int .i64 Ln,.str Lp,.int .i64 Lx,.int .i64 Lq,.str LA,.slice false (Ja r_rules),.slice false (Ja r_hosts)],.ro [.int .i64 Lm,.str k_name],.ro [.int .i64 c]] (.val (.bool (decide (JL (Jo (⟨Ln,Lp,Lx,Lq,LA,r_rules,r_hosts⟩:Res)) (⟨Lm,k_name⟩:Key)=c)))):=by
 refine Vs call241 func241 rfl ntmps241 results241 fun ts hn h0 h1 h2=>?_
 (repeat' (first
 | (with_reducible first|refine callX.by (Vf _ _ _ _ _ _ _) ?_|refine callX.by (Vv _ _ _ _) ?_|assumption|(refine Qw hK _ ?_;clear hK K)|refine Qw ‹_› _ ?_|refine Qx ‹_› ?_|refine Qi fun K hK=>?_|refine Qj T fun K hK=>?_|refine Qk (id:=1) T mixed [([5],[7,9]),([6],[7,9]),([7],[5,6,9]),([8],[9]),([9],[5,6,7,8])] (by kernel_rfl) fun K hK=>?_|refine Ql fun A B hA hB=>?_|refine Qn ?_|refine Qr ?_)
 |(with_reducible first|apply Qy|apply Qz|apply QA)<;>intro hb<;>try simp only[nr] at hb
 |simp only[go_sem,↓reduceIte,Qa,Qh,Qb,Qc,Qd,Qe,Qf,Qg,reduceCtorEq, *]
 |intro(bn:Bool) hbn))
 all_goals rfl
theorem Jno(a:Int)(b:List UInt8)(c:Int):Caps [.ro [.int .i64 a,.str b],.ro [.int .i64 c]]:=⟨by simp only[go_sem,Bool.and_self],by simp only[go_sem]⟩
def Yz(l:List Res)(k:Key)(c:Int):List Res:=l.filter fun r=>decide (JL (Jo r) k=c)
theorem Jmu(xs:List Res)(Lm:Int)(k_name:List UInt8)(c:Int)(hl:Jc xs.length):CallR prog 240 [.int .i64 c,.ro [.slice false (Ja xs)],.ro [.int .i64 Lm,.str k_name]] (.own 7 (Ja (Yz xs (⟨Lm,k_name⟩:Key) c))):=by
 have hf:=JgT 241 [.ro [.int .i64 Lm,.str k_name],.ro [.int .i64 c]] (Jno Lm k_name c) (fun r=>decide (JL (Jo r) (⟨Lm,k_name⟩:Key)=c)) xs (fun x _=>Jrz x.kind x.name x.ver x.port x.to' x.rules' x.hosts Lm k_name c) hl
 rw[show xs.filter (fun r=>decide (JL (Jo r) (⟨Lm,k_name⟩:Key)=c))=Yz xs (⟨Lm,k_name⟩:Key) c from rfl] at hf
 refine Vs call240 func240 rfl ntmps240 results240 fun ts hn h0 h1 h2=>?_
 (repeat' (first
 | (with_reducible first|refine callX.by (hf) ?_|refine callX.by (JgT _ _ ?_ _ _ ?_ ?_) ?_|assumption|(refine Qw hK _ ?_;clear hK K)|refine Qw ‹_› _ ?_|refine Qx ‹_› ?_|refine Qi fun K hK=>?_|refine Qj T fun K hK=>?_|refine Ql fun A B hA hB=>?_|refine Qn ?_|refine Qr ?_)
 |(with_reducible first|apply Qy|apply Qz|apply QA)<;>intro hb<;>try simp only[nr] at hb
 |simp only[go_sem,↓reduceIte,Qa,Qh,Qb,Qc,Qd,Qe,Qf,Qg,reduceCtorEq, *,-hf]
 |intro(bn:Bool) hbn))
def Yf(l:List Res)(r:Res):List Res:=Yz l (Jo r) (-1)++[r]++Yz l (Jo r) 1
instance:Dat (List Res) where
 av x:=.slice false (Ja x)
 sz:=1
 len _:=rfl
 pure x:=by simp only[go_sem,Bool.and_self]
 nrm x:=by simp only[go_sem]
 one x:=by simp only[go_sem,List.all_cons,List.all_nil,Bool.and_self]
 known _:=rfl
@[go_sem] theorem Jt3(x:List Res):Dat.av x=.slice false (Ja x):=rfl
@[go_sem] theorem JFm:Dat.sz (List Res)=1:=rfl
theorem Jru{n:Nat}(hn:Jc n):IntKind.i64.wrap ((n:Int)-IntKind.i64.wrap ((0:Int)-0))=n:=by
 have e:IntKind.i64.wrap ((0:Int)-0)=0:=by decide
 rw[e]
 unfold Jc at hn
 simp only[IntKind.wrap,IntKind.signed,IntKind.bits]
 simp
 omega
theorem Jrt{a b n:Nat}(h:a+b≤n)(hn:Jc n):IntKind.i64.wrap ((a:Int)+(b:Int))=((a+b:Nat):Int):=by
 unfold Jc at hn
 simp only[IntKind.wrap,IntKind.signed,IntKind.bits]
 simp
 omega
theorem Jcx(n:Nat)(hn:Jc n):CallR prog 250 [.slice true [],.int .i64 n] (.own 7 []):=by
 have hr:Vt n 104:=JaO (by unfold Jc at hn;omega) (by decide)
 have hr1:n*104≤140737488355328:=hr.1
 have hr2:n≤9223372036854775807:=hr.2
 have hw:=Jru hn
 refine Jn call250 func250 rfl ntmps250 results250 fun ts hn h0 h1=>?_
 have hz0:IntKind.i64.wrap ((0:Int)-IntKind.i64.wrap ((0:Int)-0))=0:=by decide
 by_cases h00:n=0
 ·subst h00
  (repeat' (first
 | (with_reducible first|assumption|(refine Qw hK _ ?_;clear hK K)|refine Qw ‹_› _ ?_|refine Qx ‹_› ?_|refine Qi fun K hK=>?_|refine Qj T fun K hK=>?_|refine Ql fun A B hA hB=>?_|refine Qn ?_|refine Qr ?_)
 |(with_reducible first|apply Qy|apply Qz|apply QA)<;>intro hb<;>try simp only[nr] at hb
 |simp only[go_sem,↓reduceIte,Qa,Qh,Qb,Qc,Qd,Qe,Qf,Qg,reduceCtorEq, *,-hr,List.length_nil,Int.lt_irrefl,decide_false,Int.le_refl]
 |intro(bn:Bool) hbn))
  all_goals first|(exfalso;simp_all;done)|trace_state
 ·have hd:(0:Int)<(n:Int):=by omega
  have hz:List.take 0 (List.replicate n (AV.agg (List.replicate 7 AV.any)))=[]:=rfl
  (repeat' (first
 | (with_reducible first|assumption|(refine Qw hK _ ?_;clear hK K)|refine Qw ‹_› _ ?_|refine Qx ‹_› ?_|refine Qi fun K hK=>?_|refine Qj T fun K hK=>?_|refine Ql fun A B hA hB=>?_|refine Qn ?_|refine Qr ?_)
 |(with_reducible first|apply Qy|apply Qz|apply QA)<;>intro hb<;>try simp only[nr] at hb
 |simp only[go_sem,↓reduceIte,Qa,Qh,Qb,Qc,Qd,Qe,Qf,Qg,reduceCtorEq, *,-hr,List.length_nil,Int.le_refl,Int.toNat_zero,List.drop_zero]
 |intro(bn:Bool) hbn))
  all_goals trace_state
def Jbb(xss:List (List Res))(i:Nat):Nat:=(xss.drop i).flatten.length
theorem JnZ{xss:List (List Res)}{i:Nat}(h:i<xss.length):Jbb xss i=xss[i].length+Jbb xss (i+1):=by
 unfold Jbb
 rw[List.drop_eq_getElem_cons h,List.flatten_cons,List.length_append]
theorem JhQ(xss:List (List Res))(hx:Jc xss.length)(hl:Jc xss.flatten.length):CallR prog 242 [.slice false (Ja xss)] (.own 7 (Ja xss.flatten)):=by
 have hg:=Jcx xss.flatten.length hl
 refine Jl call242 func242 rfl ntmps242 results242 fun ts hn h0=>?_
 (repeat' (first
 | (with_reducible first|refine callX.by (Jcx _ ?_) ?_|assumption|(refine Qw hK _ ?_;clear hK K)|refine Qw ‹_› _ ?_|refine Qx ‹_› ?_|refine Qi fun K hK=>?_|refine Qj T fun K hK=>?_|refine Ql fun A B hA hB=>?_|refine Qm ?_|refine Qn ?_|refine Qp ?_|refine Qr ?_)
 |(with_reducible first|apply Qy|apply Qz|apply QA)<;>intro hb<;>try simp only[nr] at hb
 |simp only[go_sem,↓reduceIte,Qa,Qh,Qb,Qc,Qd,Qe,Qf,Qg,reduceCtorEq, *,-hg]
 |intro(bn:Bool) hbn))
 refine Qs [0,9,10] (fun m ts'=>∃(i:Nat),∃(n:Nat),m=xss.length-i∧i≤xss.length∧n+Jbb xss i=xss.flatten.length∧ts'.tmp 3=.int .i64 n∧ts'.tmp 11=.int .i64 i) xss.length ?_ ?_
 ·refine⟨0,0,rfl,Nat.zero_le _,by simp[Jbb],?_⟩
  simp only[go_sem,↓reduceIte,Qa,Qh,Qb,Qc,Qd,Qe,Qf,Qg,reduceCtorEq, *,-hg]
 ·rintro m A hM ts' hk ⟨i,n,hm,f1,f2,s1,s2⟩
  simp only[go_sem,↓reduceIte,Qa,Qh,Qb,Qc,Qd,Qe,Qf,Qg,reduceCtorEq, *] at hk
  by_cases hlt:i<xss.length
  ·rw[JnZ hlt] at f2
   have hw:=Jrt (a:=n) (b:=xss[i].length) (n:=xss.flatten.length) (by omega) hl
   (repeat' (first
 | (with_reducible first|refine callX.by (Jcx _ ?_) ?_|assumption|(refine Qw hK _ ?_;clear hK K)|refine Qw ‹_› _ ?_|refine Qx ‹_› ?_|refine Qi fun K hK=>?_|refine Qj T fun K hK=>?_|refine Ql fun A B hA hB=>?_|refine Qm ?_|refine Qn ?_|refine Qp ?_|refine Qr ?_)
 |(with_reducible first|apply Qy|apply Qz|apply QA)<;>intro hb<;>try simp only[nr] at hb
 |simp only[go_sem,↓reduceIte,Qa,Qh,Qb,Qc,Qd,Qe,Qf,Qg,reduceCtorEq, *,-hg,-f2]
 |intro(bn:Bool) hbn))
   all_goals ((repeat clear hK);(repeat clear hA);(repeat clear hB))
   all_goals (refine hM.on (xss.length-(i+1)) (by omega) (by simp only[go_sem,↓reduceIte,Qa,Qh,Qb,Qc,Qd,Qe,Qf,Qg,reduceCtorEq, *,Jg hlt hx,-hg,-f2]) ⟨i+1,n+xss[i].length,rfl,by omega,by omega,?_⟩;simp only[go_sem,↓reduceIte,Qa,Qh,Qb,Qc,Qd,Qe,Qf,Qg,reduceCtorEq, *,Jg hlt hx,-hg,-f2];done)
  ·have hn:n=xss.flatten.length:=by
    have e:Jbb xss i=0:=by unfold Jbb;rw[List.drop_eq_nil_of_le (by omega)];rfl
    omega
   clear f2
   subst hn
   (repeat' (first
 | (with_reducible first|refine callX.raw (hg) ?_|refine callX.by (Jcx _ ?_) ?_|assumption|(refine Qw hK _ ?_;clear hK K)|refine Qw ‹_› _ ?_|refine Qx ‹_› ?_|refine Qi fun K hK=>?_|refine Qj T fun K hK=>?_|refine Ql fun A B hA hB=>?_|refine Qm ?_|refine Qn ?_|refine Qp ?_|refine Qr ?_)
 |(with_reducible first|apply Qy|apply Qz|apply QA)<;>intro hb<;>try simp only[nr] at hb
 |simp only[go_sem,↓reduceIte,Qa,Qh,Qb,Qc,Qd,Qe,Qf,Qg,reduceCtorEq, *,-hg]
 |intro(bn:Bool) hbn))
   refine SpecC.ent (Ent.ren 6 24 (by simp only[go_sem,↓reduceIte,Qa,Qh,Qb,Qc,Qd,Qe,Qf,Qg,reduceCtorEq, *,-hg]) (by simp only[go_sem,↓reduceIte,Qa,Qh,Qb,Qc,Qd,Qe,Qf,Qg,reduceCtorEq, *,-hg])) ?_
   refine Qs [25,26] (fun m ts'=>∃(j:Nat),∃(g:Nat),∃(ys:List Res),m=xss.length-j∧j≤xss.length∧ys++(xss.drop j).flatten=xss.flatten∧ts'.tmp 6=.os 6 g ys.length∧ts'.gen 6=g∧ts'.obj 6=.arr 7 (Ja ys)∧ts'.tmp 27=.int .i64 j) xss.length ?_ ?_
   ·refine⟨0,ts'.gen 6+1,[],rfl,Nat.zero_le _,by simp,?_⟩
    simp only[go_sem,↓reduceIte,Qa,Qh,Qb,Qc,Qd,Qe,Qf,Qg,reduceCtorEq, *,-hg]
    rfl
   ·clear hM hm
    rintro m A hM ts' hk ⟨j,g,ys,hm,f1,f2,s1,s2,s3,s4⟩
    simp only[go_sem,↓reduceIte,Qa,Qh,Qb,Qc,Qd,Qe,Qf,Qg,reduceCtorEq, *] at hk
    by_cases hlt2:j<xss.length
    ·rw[List.drop_eq_getElem_cons hlt2,List.flatten_cons,←List.append_assoc] at f2
     have hle:ys.length+xss[j].length≤xss.flatten.length:=by rw[←f2];simp
     have hr:Vt (ys.length+xss[j].length) 104:=JaO (by unfold Jc at hl;omega) (by decide)
     (repeat' (first
 | (with_reducible first|refine callX.by (Jcx _ ?_) ?_|assumption|(refine Qw hK _ ?_;clear hK K)|refine Qw ‹_› _ ?_|refine Qx ‹_› ?_|refine Qi fun K hK=>?_|refine Qj T fun K hK=>?_|refine Ql fun A B hA hB=>?_|refine Qm ?_|refine Qn ?_|refine Qp ?_|refine Qr ?_)
 |(with_reducible first|apply Qy|apply Qz|apply QA)<;>intro hb<;>try simp only[nr] at hb
 |simp only[go_sem,↓reduceIte,Qa,Qh,Qb,Qc,Qd,Qe,Qf,Qg,reduceCtorEq, *,-hg,-f2]
 |intro(bn:Bool) hbn))
     all_goals ((repeat clear hK);(repeat clear hA);(repeat clear hB))
     all_goals (refine hM.onE (xss.length-(j+1)) (Ent.ren 6 33 ?_ ?_) ?_ ?_ ?_;(focus(simp only[go_sem,↓reduceIte,Qa,Qh,Qb,Qc,Qd,Qe,Qf,Qg,reduceCtorEq, *,Jg hlt2 hx,List.length_append,-hg,-f2];first|done|rfl));(focus(simp only[go_sem,↓reduceIte,Qa,Qh,Qb,Qc,Qd,Qe,Qf,Qg,reduceCtorEq, *,Jg hlt2 hx,List.length_append,-hg,-f2];first|done|rfl));omega;(focus(simp only[go_sem,↓reduceIte,Qa,Qh,Qb,Qc,Qd,Qe,Qf,Qg,reduceCtorEq, *,Jg hlt2 hx,List.length_append,-hg,-f2];done));refine⟨j+1,ts'.gen 6+1,ys++xss[j],rfl,by omega,f2,?_⟩;simp only[go_sem,↓reduceIte,Qa,Qh,Qb,Qc,Qd,Qe,Qf,Qg,reduceCtorEq, *,Jg hlt2 hx,List.length_append,-hg,-f2];done)
    ·rw[List.drop_eq_nil_of_le (by omega),List.flatten_nil,List.append_nil] at f2
     subst f2
     (repeat' (first
 | (with_reducible first|refine callX.by (Jcx _ ?_) ?_|assumption|(refine Qw hK _ ?_;clear hK K)|refine Qw ‹_› _ ?_|refine Qx ‹_› ?_|refine Qi fun K hK=>?_|refine Qj T fun K hK=>?_|refine Ql fun A B hA hB=>?_|refine Qm ?_|refine Qn ?_|refine Qp ?_|refine Qr ?_)
 |(with_reducible first|apply Qy|apply Qz|apply QA)<;>intro hb<;>try simp only[nr] at hb
 |simp only[go_sem,↓reduceIte,Qa,Qh,Qb,Qc,Qd,Qe,Qf,Qg,reduceCtorEq, *,-hg]
 |intro(bn:Bool) hbn))
theorem Jfi(xs:List Res)(r:Res)(hl:Jc xs.length)(hl2:Jc (Yf xs r).length):CallR prog 219 [.slice false (Ja xs),.agg [.int .i64 r.kind,.str r.name,.int .i64 r.ver,.int .i64 r.port,.str r.to',.slice false (Ja r.rules'),.slice false (Ja r.hosts)]] (.own 7 (Ja (Yf xs r))):=by
 have w1:=(Jmu xs r.kind r.name (-1) hl).frz
 have w2:=(Jmu xs r.kind r.name 1 hl).frz
 have hcc:CallR prog 242 [.slice false [.slice false (Ja (Yz xs ⟨r.kind,r.name⟩ (-1))),.slice false [.agg [.int .i64 r.kind,.str r.name,.int .i64 r.ver,.int .i64 r.port,.str r.to',.slice false (Ja r.rules'),.slice false (Ja r.hosts)]],.slice false (Ja (Yz xs ⟨r.kind,r.name⟩ 1))]] (.own 7 (Ja (Yf xs r))):=by
  have h:=JhQ [Yz xs (Jo r) (-1),[r],Yz xs (Jo r) 1] (by unfold Jc;simp) (by simpa[Yf] using hl2)
  have e:[Yz xs (Jo r) (-1),[r],Yz xs (Jo r) 1].flatten=Yf xs r:=by simp[Yf]
  rw[e] at h
  exact h
 refine CallR.go2 (T:=T.withF [13,16]) call219 func219 rfl ntmps219 (congrArg Array.toList results219) (by decide) fun ts hn h0 h1=>?_
 (repeat' (first
 | (with_reducible first|refine callX.by (w1) ?_|refine callX.by (w2) ?_|refine callX.by (hcc) ?_|refine callX.by (Vf _ _ _ _ _ _ _) ?_|refine callX.by (JhQ _ ?_ ?_) ?_|assumption|(refine Qw hK _ ?_;clear hK K)|refine Qw ‹_› _ ?_|refine Qx ‹_› ?_|refine Qi fun K hK=>?_|refine Qj (T.withF [13,16]) fun K hK=>?_|refine Qk (id:=3) (T.withF [13,16]) mixed [([10],[12,13,14]),([11],[12,13,14]),([12],[10,11,14,15]),([13],[10,11,14,15]),([14],[10,11,12,13]),([15],[12,13])] (by kernel_rfl) fun K hK=>?_|refine Ql fun A B hA hB=>?_|refine Qn ?_|refine Qr ?_)
 |(with_reducible first|apply Qy|apply Qz|apply QA)<;>intro hb<;>try simp only[nr] at hb
 |simp only[go_sem,↓reduceIte,Qa,Qh,Qb,Qc,Qd,Qe,Qf,Qg,reduceCtorEq, *,-w1,-w2,-hcc]
 |intro(bn:Bool) hbn))
 all_goals trace_state
def YG(l adds:List Res)(gone:List Key):List Res:=adds.foldl Yf (gone.foldl YZ l)
theorem JqO(l:List Res)(k:Key):(Yz l k (-1)).length+(Yz l k 1).length≤l.length:=by
 induction l with
 |nil=>simp[Yz]
 |cons x l ih =>
  simp only[Yz,List.filter_cons] at ih ⊢
  by_cases h1:JL (Jo x) k=-1
  ·have h2:¬JL (Jo x) k=1:=by omega
   simp[h1] at ih ⊢
   omega
  ·by_cases h2:JL (Jo x) k=1
   ·simp[h2] at ih ⊢
    omega
   ·simp[h1,h2] at ih ⊢
    omega
theorem Jmv(l:List Res)(r:Res):(Yf l r).length≤l.length+1:=by
 have:=JqO l (Jo r)
 simp only[Yf,List.length_append,List.length_singleton]
 omega
theorem JrA{l:List Res}{r x:Res}(h:x∈Yf l r):x=r∨x∈l:=by
 simp only[Yf,Yz,List.mem_append,List.mem_filter,List.mem_singleton] at h
 rcases h with (h|h)|h
 ·exact .inr h.1
 ·exact .inl h
 ·exact .inr h.1
theorem JkC(l:List Res)(k:Key):(YZ l k).length≤l.length:=by unfold YZ;exact List.length_filter_le _ _
theorem Jro{l:List Res}{k:Key}{x:Res}(h:x∈YZ l k):x∈l:=by unfold YZ at h;exact(List.mem_filter.1 h).1
theorem Jmw(l:List Res):∀gone:List Key,(gone.foldl YZ l).length≤l.length
 | []=>Nat.le_refl _
 |k :: g=>Nat.le_trans (Jmw (YZ l k) g) (JkC l k)
theorem Jmx(l:List Res):∀adds:List Res,(adds.foldl Yf l).length≤l.length+adds.length
 | []=>Nat.le_refl _
 |r :: a=>by
  have h1:=Jmx (Yf l r) a
  have h2:=Jmv l r
  simp only[List.foldl_cons,List.length_cons]
  omega
theorem Jju(l adds:List Res)(gone:List Key):(YG l adds gone).length≤l.length+adds.length:=Nat.le_trans (Jmx _ _) (Nat.add_le_add_right (Jmw l gone) _)
theorem Jjv{l adds:List Res}{gone:List Key}{x:Res}(h:x∈YG l adds gone):x∈l∨x∈adds:=by
 have h1:∀(adds l:List Res),x∈adds.foldl Yf l→x∈l∨x∈adds:=by
  intro adds
  induction adds with
  |nil=>exact fun l h=>.inl h
  |cons r a ih =>
   intro l h
   rcases ih _ h with h|h
   ·rcases JrA h with rfl|h
    ·exact .inr (by simp)
    ·exact .inl h
   ·exact .inr (List.mem_cons_of_mem _ h)
 have h2:∀(gone:List Key) (l:List Res),x∈gone.foldl YZ l→x∈l:=by
  intro gone
  induction gone with
  |nil=>exact fun l h=>h
  |cons k g ih=>exact fun l h=>Jro (ih _ h)
 rcases h1 _ _ h with h|h
 ·exact .inl (h2 _ _ h)
 ·exact .inr h
theorem Jrj(xs adds:List Res)(gone:List Key)(hx:Jc xs.length)(ha:Jc adds.length)(hg:Jc gone.length)(hl:Jc (xs.length+adds.length)) :
  CallR prog 175 [.slice false (Ja xs),.slice false (Ja adds),.slice false (Ja gone)] (.val (.slice false (Ja (YG xs adds gone)))):=by
 refine Vs call175 func175 rfl ntmps175 results175 fun ts hn h0 h1 h2=>?_
 (repeat' (first
 | (with_reducible first|refine callX.by (Jfc _ _ _ ?_) ?_|refine callX.by (Jfi _ _ ?_ ?_) ?_|assumption|(refine Qw hK _ ?_;clear hK K)|refine Qw ‹_› _ ?_|refine Qx ‹_› ?_|refine Qi fun K hK=>?_|refine Qj T fun K hK=>?_|refine Ql fun A B hA hB=>?_|refine Qm ?_|refine Qn ?_|refine Qp ?_|refine Qr ?_)
 |(with_reducible first|apply Qy|apply Qz|apply QA)<;>intro hb<;>try simp only[nr] at hb
 |simp only[go_sem,↓reduceIte,Qa,Qh,Qb,Qc,Qd,Qe,Qf,Qg,reduceCtorEq, *]
 |intro(bn:Bool) hbn))
 refine Qs [1,11,12] (fun m ts'=>∃(i:Nat),∃(ys:List Res),m=gone.length-i∧i≤gone.length∧ys.length≤xs.length∧(gone.drop i).foldl YZ ys=gone.foldl YZ xs∧ts'.tmp 0=.slice false (Ja ys)∧ts'.tmp 13=.int .i64 i) gone.length ?_ ?_
 ·refine⟨0,xs,rfl,Nat.zero_le _,Nat.le_refl _,rfl,?_⟩
  simp only[go_sem,↓reduceIte,Qa,Qh,Qb,Qc,Qd,Qe,Qf,Qg,reduceCtorEq, *]
 ·rintro m A hM ts' hk ⟨i,ys,hm,f1,f2,f3,s1,s2⟩
  simp only[go_sem,↓reduceIte,Qa,Qh,Qb,Qc,Qd,Qe,Qf,Qg,reduceCtorEq, *] at hk
  by_cases hlt:i<gone.length
  ·rw[List.drop_eq_getElem_cons hlt,List.foldl_cons] at f3
   have hys:Jc ys.length:=by unfold Jc at hx ⊢;omega
   have w1:=(Jfc ys gone[i].kind gone[i].name hys).frz
   have hle:=JkC ys gone[i]
   (repeat' (first
 | (with_reducible first|refine callX.by (w1) ?_|assumption|(refine Qw hK _ ?_;clear hK K)|refine Qw ‹_› _ ?_|refine Qx ‹_› ?_|refine Qi fun K hK=>?_|refine Qj T fun K hK=>?_|refine Ql fun A B hA hB=>?_|refine Qm ?_|refine Qn ?_|refine Qp ?_|refine Qr ?_)
 |(with_reducible first|apply Qy|apply Qz|apply QA)<;>intro hb<;>try simp only[nr] at hb
 |simp only[go_sem,↓reduceIte,Qa,Qh,Qb,Qc,Qd,Qe,Qf,Qg,reduceCtorEq, *,-f3,-w1]
 |intro(bn:Bool) hbn))
   all_goals ((repeat clear hK);(repeat clear hA);(repeat clear hB))
   all_goals (refine hM.on (gone.length-(i+1)) (by omega) (by simp only[go_sem,↓reduceIte,Qa,Qh,Qb,Qc,Qd,Qe,Qf,Qg,reduceCtorEq, *,Jg hlt hg,-f3,-w1]) ⟨i+1,YZ ys gone[i],rfl,by omega,by omega,f3,?_⟩;simp only[go_sem,↓reduceIte,Qa,Qh,Qb,Qc,Qd,Qe,Qf,Qg,reduceCtorEq, *,Jg hlt hg,-f3,-w1];done)
  ·rw[List.drop_eq_nil_of_le (by omega),List.foldl_nil] at f3
   subst f3
   (repeat' (first
 | (with_reducible first|refine callX.by (Jfc _ _ _ ?_) ?_|refine callX.by (Jfi _ _ ?_ ?_) ?_|assumption|(refine Qw hK _ ?_;clear hK K)|refine Qw ‹_› _ ?_|refine Qx ‹_› ?_|refine Qi fun K hK=>?_|refine Qj T fun K hK=>?_|refine Ql fun A B hA hB=>?_|refine Qm ?_|refine Qn ?_|refine Qp ?_|refine Qr ?_)
 |(with_reducible first|apply Qy|apply Qz|apply QA)<;>intro hb<;>try simp only[nr] at hb
 |simp only[go_sem,↓reduceIte,Qa,Qh,Qb,Qc,Qd,Qe,Qf,Qg,reduceCtorEq, *]
 |intro(bn:Bool) hbn))
   clear hM hm
   refine Qs [21,22] (fun m ts'=>∃(j:Nat),∃(zs:List Res),m=adds.length-j∧j≤adds.length∧zs.length≤xs.length+j∧(adds.drop j).foldl Yf zs=YG xs adds gone∧ts'.tmp 0=.slice false (Ja zs)∧ts'.tmp 23=.int .i64 j) adds.length ?_ ?_
   ·refine⟨0,gone.foldl YZ xs,rfl,Nat.zero_le _,by omega,rfl,?_⟩
    simp only[go_sem,↓reduceIte,Qa,Qh,Qb,Qc,Qd,Qe,Qf,Qg,reduceCtorEq, *]
   ·rintro m A hM ts' hk ⟨j,zs,hm,f1,f2,f3,s1,s2⟩
    simp only[go_sem,↓reduceIte,Qa,Qh,Qb,Qc,Qd,Qe,Qf,Qg,reduceCtorEq, *] at hk
    by_cases hlt2:j<adds.length
    ·rw[List.drop_eq_getElem_cons hlt2,List.foldl_cons] at f3
     have hle:=Jmv zs adds[j]
     have hzs:Jc zs.length:=by unfold Jc at hl ⊢;omega
     have hzr:Jc (Yf zs adds[j]).length:=by unfold Jc at hl ⊢;omega
     have w1:=(Jfi zs adds[j] hzs hzr).frz
     (repeat' (first
 | (with_reducible first|refine callX.by (w1) ?_|assumption|(refine Qw hK _ ?_;clear hK K)|refine Qw ‹_› _ ?_|refine Qx ‹_› ?_|refine Qi fun K hK=>?_|refine Qj T fun K hK=>?_|refine Ql fun A B hA hB=>?_|refine Qm ?_|refine Qn ?_|refine Qp ?_|refine Qr ?_)
 |(with_reducible first|apply Qy|apply Qz|apply QA)<;>intro hb<;>try simp only[nr] at hb
 |simp only[go_sem,↓reduceIte,Qa,Qh,Qb,Qc,Qd,Qe,Qf,Qg,reduceCtorEq, *,-f3,-w1]
 |intro(bn:Bool) hbn))
     all_goals ((repeat clear hK);(repeat clear hA);(repeat clear hB))
     all_goals (refine hM.on (adds.length-(j+1)) (by omega) (by simp only[go_sem,↓reduceIte,Qa,Qh,Qb,Qc,Qd,Qe,Qf,Qg,reduceCtorEq, *,Jg hlt2 ha,-f3,-w1]) ⟨j+1,Yf zs adds[j],rfl,by omega,by omega,f3,?_⟩;simp only[go_sem,↓reduceIte,Qa,Qh,Qb,Qc,Qd,Qe,Qf,Qg,reduceCtorEq, *,Jg hlt2 ha,-f3,-w1];done)
    ·rw[List.drop_eq_nil_of_le (by omega),List.foldl_nil] at f3
     subst f3
     (repeat' (first
 | (with_reducible first|refine callX.by (Jfc _ _ _ ?_) ?_|refine callX.by (Jfi _ _ ?_ ?_) ?_|assumption|(refine Qw hK _ ?_;clear hK K)|refine Qw ‹_› _ ?_|refine Qx ‹_› ?_|refine Qi fun K hK=>?_|refine Qj T fun K hK=>?_|refine Ql fun A B hA hB=>?_|refine Qm ?_|refine Qn ?_|refine Qp ?_|refine Qr ?_)
 |(with_reducible first|apply Qy|apply Qz|apply QA)<;>intro hb<;>try simp only[nr] at hb
 |simp only[go_sem,↓reduceIte,Qa,Qh,Qb,Qc,Qd,Qe,Qf,Qg,reduceCtorEq, *]
 |intro(bn:Bool) hbn))
theorem JmQ(cap:Int)(l adds:List Res)(gone:List Key)(hl:l.length+adds.length≤65536)(hg:Jc gone.length)(hs:∀r∈l,Jy r)(ha:∀r∈adds,Jy r) :
  Done 174 ([.ro [.int .i64 cap,.slice false (Ja l)],.ro [.slice false (Ja adds)],.ro [.slice false (Ja gone)]].map Arg.v++[.io [.int .i64 cap,.slice false (Ja l)]]) (J8 cap (YG l adds gone))
   (fun io=>io [AV.ro [.int .i64 cap,.slice false (Ja l)],.ro [.slice false (Ja adds)],.ro [.slice false (Ja gone)]].length=[.int .i64 cap,.slice false (Ja (YG l adds gone))]):=by
 have hlen:=Jju l adds gone
 have hsp:∀r∈YG l adds gone,Jy r:=fun r hr=>(Jjv hr).elim (hs r) (ha r)
 have w0:=Jrj l adds gone (by unfold Jc;omega) (by unfold Jc;omega) hg (by unfold Jc;omega)
 unfold Done
 split
 ·rename_i hm
  have w1:=Ji0 cap l _ (by omega) hsp (fun h=>(JcJ h).nodup) hm
  clear hsp hs ha hlen
  refine CallV.goB3 call174 func174 rfl ntmps174 T (congrArg Array.toList results174) (by decide) fun ts hn h0 h1 h2 h3 hg3 ho3=>?_
  (repeat' (first
 | (with_reducible first|refine callX.by (w0) ?_|refine callX.by (w1) ?_|assumption|(refine Qw hK _ ?_;clear hK K)|refine Qw ‹_› _ ?_|refine Qx ‹_› ?_|refine Qi fun K hK=>?_|refine Qj T fun K hK=>?_|refine Ql fun A B hA hB=>?_|refine Qn ?_|refine Qr ?_)
 |(with_reducible first|apply Qy|apply Qz|apply QA)<;>intro hb<;>try simp only[nr] at hb
 |simp only[go_sem,↓reduceIte,Qa,Qh,Qb,Qc,Qd,Qe,Qf,Qg,reduceCtorEq, *,-w0,-w1,-hm]
 |intro(bn:Bool) hbn))
  all_goals trace_state
 ·rename_i hm
  have w1:=Ji1 cap l _ (by omega) hsp (fun h=>(JcJ h).nodup) hm
  clear hsp hs ha hlen
  refine CallUV.goB3 call174 func174 rfl ntmps174 (by decide) fun ts hn h0 h1 h2 h3 hg3 ho3=>?_
  (repeat' (first
 | (with_reducible first|refine Qt T 3 (id:=1) rfl rfl fun K hK=>?_|refine UpK.callF w1 ?_ ?_|refine callX.by (w0) ?_|assumption|(refine Qw hK _ ?_;clear hK K)|refine Qw ‹_› _ ?_|refine Qx ‹_› ?_|refine Qi fun K hK=>?_|refine Qj T fun K hK=>?_|refine Ql fun A B hA hB=>?_|refine Qn ?_|refine Qr ?_)
 |(with_reducible first|apply Qy|apply Qz|apply QA)<;>intro hb<;>try simp only[nr] at hb
 |simp only[go_sem,↓reduceIte,Qa,Qh,Qb,Qc,Qd,Qe,Qf,Qg,reduceCtorEq, *,-w0,-w1,-hm]
 |intro(bn:Bool) hbn))
  all_goals trace_state
def J7(c:Cache)(adds:List Res)(gone:List Key):Cache×Int :=
 let d:=Vx c
 let e:=J8 d.cap (YG d.l adds gone)
 if e=0 then (⟨d.cap,YG d.l adds gone⟩,0) else (d,e)
theorem Je0(c:Cache):(Vx c).l.length≤c.l.length:=by unfold Vx;split<;>simp
theorem Jdq{c:Cache}{x:Res}(h:x∈(Vx c).l):x∈c.l:=by unfold Vx at h;split at h<;>simp_all
theorem JmR(Lz:Int)(c_l adds:List Res)(gone:List Key)(hl:c_l.length+adds.length≤65536)(hg:Jc gone.length)(hs:∀r∈c_l,Jy r)(ha:∀r∈adds,Jy r) :
  CallR prog 134 [.agg [.int .i64 Lz,.slice false (Ja c_l)],.slice false (Ja adds),.slice false (Ja gone)] (.val (.tup [.agg [.int .i64 (J7 (⟨Lz,c_l⟩:Cache) adds gone).1.cap,.slice false (Ja (J7 (⟨Lz,c_l⟩:Cache) adds gone).1.l)],.int .i64 (J7 (⟨Lz,c_l⟩:Cache) adds gone).2])):=by
 have w0:=JeZ Lz c_l (by omega) hs
 have hdl:=Je0 (⟨Lz,c_l⟩:Cache)
 have hdm:∀r∈(Vx (⟨Lz,c_l⟩:Cache)).l,Jy r:=fun r hr=>hs r (Jdq hr)
 unfold J7
 generalize Vx (⟨Lz,c_l⟩:Cache)=d at *
 have w1:=JmQ d.cap d.l adds gone (by simp only at hdl;omega) hg hdm ha
 clear hdl hdm hs ha hl hg
 by_cases he:J8 d.cap (YG d.l adds gone)=0
 ·rw[he] at w1
  simp only[he,if_true]
  refine CallR.go3 (T:=T.withF [13]) call134 func134 rfl ntmps134 (congrArg Array.toList results134) (by decide) fun ts hn h0 h1 h2=>?_
  (repeat' (first
 | (with_reducible first|refine callX.by (w0) ?_|refine SpecC.ent (Ent.frzBox _ 3) (SpecC.ent (Ent.frzBox _ 4) (SpecC.ent (Ent.frzBox _ 5) (Qu (T.withF [13]) 1 (id:=3) rfl rfl fun K hK=>?_)))|refine fun(K2:TS→Prop) (hK2:NxK _ K2)=>?_|refine SpecO.caughtB rfl 8 ?_ ?_ ?_ ?_ call174 w1 ?_|refine Qw hK2 _ ?_|refine fun(K3:TS→Prop) (hK3:NxK _ K3)=>?_|refine callX.by (JeZ _ _ ?_ ?_) ?_|assumption|(refine Qw hK _ ?_;clear hK K)|refine Qw ‹_› _ ?_|refine Qx ‹_› ?_|refine Qi fun K hK=>?_|refine Qj (T.withF [13]) fun K hK=>?_|refine Ql fun A B hA hB=>?_|refine Qn ?_|refine Qr ?_)
 |(with_reducible first|apply Qy|apply Qz|apply QA)<;>intro hb<;>try simp only[nr] at hb
 |simp only[go_sem,↓reduceIte,Qa,Qh,Qb,Qc,Qd,Qe,Qf,Qg,reduceCtorEq, *,-w0,-w1,-he]
 |intro(bn:Bool) hbn))
  all_goals trace_state
 ·simp only[he,if_false]
  refine CallR.go3 (T:=T.withF [13]) call134 func134 rfl ntmps134 (congrArg Array.toList results134) (by decide) fun ts hn h0 h1 h2=>?_
  (repeat' (first
 | (with_reducible first|refine callX.by (w0) ?_|refine SpecC.ent (Ent.frzBox _ 3) (SpecC.ent (Ent.frzBox _ 4) (SpecC.ent (Ent.frzBox _ 5) (Qu (T.withF [13]) 1 (id:=3) rfl rfl fun K hK=>?_)))|refine fun(K2:TS→Prop) (hK2:NxK _ K2)=>?_|refine SpecO.caughtB rfl 8 ?_ ?_ ?_ ?_ call174 w1 ?_|refine Qw hK2 _ ?_|refine fun(K3:TS→Prop) (hK3:NxK _ K3)=>?_|refine callX.by (JeZ _ _ ?_ ?_) ?_|assumption|(refine Qw hK _ ?_;clear hK K)|refine Qw ‹_› _ ?_|refine Qx ‹_› ?_|refine Qi fun K hK=>?_|refine Qj (T.withF [13]) fun K hK=>?_|refine Ql fun A B hA hB=>?_|refine Qn ?_|refine Qr ?_)
 |(with_reducible first|apply Qy|apply Qz|apply QA)<;>intro hb<;>try simp only[nr] at hb
 |simp only[go_sem,↓reduceIte,Qa,Qh,Qb,Qc,Qd,Qe,Qf,Qg,reduceCtorEq, *,-w0,-w1]
 |intro(bn:Bool) hbn))
  all_goals trace_state
theorem Jqw{c:Cache}(h:Yd c=true):Conf c.l:=by
 unfold Yd at h
 simp only[Bool.and_eq_true,decide_eq_true_eq] at h
 refine JcJ ?_
 by_cases ht:Vb c.l=0
 ·exact ht
 ·have:=h.2
  unfold J8 at this
  rw[if_pos ht] at this
  exact this
theorem JqA(c:Cache):((Vx c).l.map Jo).Nodup:=by
 unfold Vx
 split
 ·rename_i h;exact(Jqw h).nodup
 ·simp
def VP(c:Cache):List Res:=Yc (Vx c).l
theorem Jkh(Lz:Int)(c_l:List Res)(hl:c_l.length≤65536)(hs:∀r∈c_l,Jy r):CallR prog 77 [.agg [.int .i64 Lz,.slice false (Ja c_l)]] (.own 7 (Ja (VP (⟨Lz,c_l⟩:Cache)))):=by
 have w0:=JeZ Lz c_l hl hs
 have hdl:=Je0 (⟨Lz,c_l⟩:Cache)
 have hdm:∀r∈(Vx (⟨Lz,c_l⟩:Cache)).l,Jy r:=fun r hr=>hs r (Jdq hr)
 have hdn:=JqA (⟨Lz,c_l⟩:Cache)
 unfold VP
 generalize Vx (⟨Lz,c_l⟩:Cache)=d at *
 have w1:=JeH d.l (by simp only at hdl;omega) hdm hdn
 clear hdl hdm hs hl hdn
 refine Jl call77 func77 rfl ntmps77 results77 fun ts hn h0=>?_
 (repeat' (first
 | (with_reducible first|refine callX.by (w0) ?_|refine callX.by (w1) ?_|assumption|(refine Qw hK _ ?_;clear hK K)|refine Qw ‹_› _ ?_|refine Qx ‹_› ?_|refine Qi fun K hK=>?_|refine Qj T fun K hK=>?_|refine Ql fun A B hA hB=>?_|refine Qn ?_|refine Qr ?_)
 |(with_reducible first|apply Qy|apply Qz|apply QA)<;>intro hb<;>try simp only[nr] at hb
 |simp only[go_sem,↓reduceIte,Qa,Qh,Qb,Qc,Qd,Qe,Qf,Qg,reduceCtorEq, *,-w0,-w1]
 |intro(bn:Bool) hbn))
end Go.Proofs.YthjalhfmpffbjaaGreatDoor.Lg
