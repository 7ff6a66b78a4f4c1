/- Parts of the proof, one behind the other. -/
import Derived.Test.YtihahfhagobnoaaGreatDoorG16
namespace Go.Proofs.YtihahfhagobnoaaGreatDoor.Lg
set_option maxRecDepth 100000
set_option linter.unusedVariables false
set_option linter.unusedSimpArgs false
open Go
open Nat renaming reduceEqDiff → Qa, reduceLT → Qb, reduceLeDiff → Qc, reduceAdd → Qd, reduceMul → Qe, reduceSub → Qf, reduceBEq → Qg
open String renaming reduceEq → Qh
open SpecC renaming seqW → Qi, regW → Qj, drawW → Qk, condW → Ql, block → Qm, skip → Qn, exit → Qp, ret → Qr, loopF → Qs, regUW → Qt, regMidW → Qu
open NxK renaming out → Qw
open Nx renaming out → Qx
open condK renaming split → Qy
open gK renaming split_t → Qz, split_f → QA
open CallR renaming go1 → QD
theorem Jd1:CallR Tryz.prog 156 [.int .i64 0] (.val (.tup [])):=by
 refine QD (T:=T) Tryz.call156 Tryz.func156 rfl Tryz.ntmps156 (congrArg Array.toList Tryz.results156) (by decide) fun ts hn h0=>?_
 (repeat' (first
 | (with_reducible first|assumption|(refine Qw hK _ ?_;clear hK K)|refine Qw ‹_› _ ?_|refine Qx ‹_› ?_|refine Qi fun K hK=>?_|refine Qj T fun K hK=>?_|refine Ql fun A B hA hB=>?_|refine Qn ?_|refine Qr ?_)
 | ((with_reducible first|apply Qy|apply Qz|apply QA)<;>intro hb<;>try simp only[nr] at hb)
 |simp only[go_sem,↓reduceIte,reduceIte,Qa,Qh,Qb,Qc,Qd,Qe,Qf,Qg,reduceCtorEq, *]
 |with_reducible refine fun(bn:Bool) hbn=>?_))
theorem Jfl(e:Int)(he:¬e=0):CallU Tryz.prog 156 [.int .i64 e] (Zt e):=by
 refine CallU.go1 Tryz.call156 Tryz.func156 rfl Tryz.ntmps156 (by decide) fun ts hn h0=>?_
 (repeat' (first
 | (with_reducible first|refine Qt T 3 (id:=1) rfl rfl fun K hK=>?_|refine UpK.panicT (u:=216) (n:=e) ?_ ?_|assumption|(refine Qw hK _ ?_;clear hK K)|refine Qw ‹_› _ ?_|refine Qx ‹_› ?_|refine Qi fun K hK=>?_|refine Qj T fun K hK=>?_|refine Ql fun A B hA hB=>?_|refine Qn ?_|refine Qr ?_)
 | ((with_reducible first|apply Qy|apply Qz|apply QA)<;>intro hb<;>try simp only[nr] at hb)
 |simp only[go_sem,↓reduceIte,reduceIte,Qa,Qh,Qb,Qc,Qd,Qe,Qf,Qg,reduceCtorEq, *]
 |with_reducible refine fun(bn:Bool) hbn=>?_))
 all_goals first|rfl|trace_state
theorem Ja8(b:Bool)(e:Int):CallR Tryz.prog 157 [.bool b,.int .i64 e] (.val (.int .i64 (if b=true then 0 else e))):=by
 cases b
 ·refine CallR.go2 (T:=T) Tryz.call157 Tryz.func157 rfl Tryz.ntmps157 (congrArg Array.toList Tryz.results157) (by decide) fun ts hn h0 h1=>?_
  (repeat' (first
 | (with_reducible first|assumption|(refine Qw hK _ ?_;clear hK K)|refine Qw ‹_› _ ?_|refine Qx ‹_› ?_|refine Qi fun K hK=>?_|refine Qj T fun K hK=>?_|refine Ql fun A B hA hB=>?_|refine Qn ?_|refine Qr ?_)
 | ((with_reducible first|apply Qy|apply Qz|apply QA)<;>intro hb<;>try simp only[nr] at hb)
 |simp only[go_sem,↓reduceIte,reduceIte,Qa,Qh,Qb,Qc,Qd,Qe,Qf,Qg,reduceCtorEq, *]
 |with_reducible refine fun(bn:Bool) hbn=>?_))
 ·refine CallR.go2 (T:=T) Tryz.call157 Tryz.func157 rfl Tryz.ntmps157 (congrArg Array.toList Tryz.results157) (by decide) fun ts hn h0 h1=>?_
  (repeat' (first
 | (with_reducible first|assumption|(refine Qw hK _ ?_;clear hK K)|refine Qw ‹_› _ ?_|refine Qx ‹_› ?_|refine Qi fun K hK=>?_|refine Qj T fun K hK=>?_|refine Ql fun A B hA hB=>?_|refine Qn ?_|refine Qr ?_)
 | ((with_reducible first|apply Qy|apply Qz|apply QA)<;>intro hb<;>try simp only[nr] at hb)
 |simp only[go_sem,↓reduceIte,reduceIte,Qa,Qh,Qb,Qc,Qd,Qe,Qf,Qg,reduceCtorEq, *]
 |with_reducible refine fun(bn:Bool) hbn=>?_))
def JV(cap:Int)(l:List Res):Int:=if ¬J2 l=0 then J2 l else if(l.length:Int)≤cap then Yz l else 8
theorem Jie(cap:Int)(m l:List Res)(hl:l.length≤65536)(hs:∀r∈l,Jv r)(hnd:J2 l=0→(l.map Jj).Nodup)(hm:JV cap l=0) :
  CallR Tryz.prog 111 [.agg [.int .i64 cap,.slice false (Ja m)],.slice false (Ja l)] (.val (.tup [])):=by
 have hsl:=Ja6 hl
 have ht:J2 l=0:=by
  by_cases h:J2 l=0
  ·exact h
  ·unfold JV at hm;rw[if_pos h] at hm;exact hm
 have hc:(l.length:Int)≤cap:=by
  by_cases h:(l.length:Int)≤cap
  ·exact h
  ·unfold JV at hm;rw[if_neg (by simp[ht]),if_neg h] at hm;cases hm
 have hv:Yz l=0:=by
  unfold JV at hm;rwa [if_neg (by simp[ht]),if_pos hc] at hm
 have w1:=Jb6 l hsl hs
 rw[ht] at w1
 have w3:=JbZ l hl hs (hnd ht)
 rw[hv] at w3
 have w2:=Ja8 true 8
 rw[if_pos rfl] at w2
 clear hm hnd
 refine CallR.go2 (T:=T) Tryz.call111 Tryz.func111 rfl Tryz.ntmps111 (congrArg Array.toList Tryz.results111) (by decide) fun ts hn h0 h1=>?_
 (repeat' (first
 | (with_reducible first|refine callX.by (w1) ?_|refine callX.by (w3) ?_|refine callX.by (w2) ?_|refine callX.by (Jb6 _ ?_ ?_) ?_|refine callX.by Jd1 ?_|refine callX.by (Ja8 _ _) ?_|refine callX.by (Jc2 _ ?_ ?_) ?_|refine callX.by (JbZ _ ?_ ?_ _) ?_|refine callX.by a6sc ?_|assumption|(refine Qw hK _ ?_;clear hK K)|refine Qw ‹_› _ ?_|refine Qx ‹_› ?_|refine Qi fun K hK=>?_|refine Qj T fun K hK=>?_|refine Ql fun A B hA hB=>?_|refine Qn ?_|refine Qr ?_)
 | ((with_reducible first|apply Qy|apply Qz|apply QA)<;>intro hb<;>try simp only[nr] at hb)
 |simp only[go_sem,↓reduceIte,reduceIte,Qa,Qh,Qb,Qc,Qd,Qe,Qf,Qg,reduceCtorEq, *,-hs,-w1,-w2,-w3,-ht,-hv]
 |with_reducible refine fun(bn:Bool) hbn=>?_))
 all_goals trace_state
theorem Jif(cap:Int)(m l:List Res)(hl:l.length≤65536)(hs:∀r∈l,Jv r)(hnd:J2 l=0→(l.map Jj).Nodup)(hm:¬JV cap l=0) :
  CallU Tryz.prog 111 [.agg [.int .i64 cap,.slice false (Ja m)],.slice false (Ja l)] (Zt (JV cap l)):=by
 have hsl:=Ja6 hl
 have w1:=Jb6 l hsl hs
 by_cases ht:J2 l=0
 ·by_cases hc:(l.length:Int)≤cap
  ·have e:JV cap l=Yz l:=by unfold JV;rw[if_neg (by simp[ht]),if_pos hc]
   rw[e] at hm ⊢
   have w3:=JbZ l hl hs (hnd ht)
   have w2:=Ja8 true 8
   rw[if_pos rfl] at w2
   have w4:=Jfl _ hm
   rw[ht] at w1
   clear hnd e
   refine CallU.go2 Tryz.call111 Tryz.func111 rfl Tryz.ntmps111 (by decide) fun ts hn h0 h1=>?_
   (repeat' (first
 | (with_reducible first|refine Qt T 2 (id:=3) rfl rfl fun K hK=>?_|refine UpK.callF w4 ?_ ?_|refine callX.by (w1) ?_|refine callX.by (w3) ?_|refine callX.by (w2) ?_|refine callX.by (Jb6 _ ?_ ?_) ?_|refine callX.by Jd1 ?_|refine callX.by (Ja8 _ _) ?_|refine callX.by (Jc2 _ ?_ ?_) ?_|refine callX.by (JbZ _ ?_ ?_ _) ?_|refine callX.by a6sc ?_|assumption|(refine Qw hK _ ?_;clear hK K)|refine Qw ‹_› _ ?_|refine Qx ‹_› ?_|refine Qi fun K hK=>?_|refine Qj T fun K hK=>?_|refine Ql fun A B hA hB=>?_|refine Qn ?_|refine Qr ?_)
 | ((with_reducible first|apply Qy|apply Qz|apply QA)<;>intro hb<;>try simp only[nr] at hb)
 |simp only[go_sem,↓reduceIte,reduceIte,Qa,Qh,Qb,Qc,Qd,Qe,Qf,Qg,reduceCtorEq, *,-hs,-w1,-w2,-w3,-w4,-ht]
 |with_reducible refine fun(bn:Bool) hbn=>?_))
   all_goals trace_state
  ·have e:JV cap l=8:=by unfold JV;rw[if_neg (by simp[ht]),if_neg hc]
   rw[e] at hm ⊢
   have w2:=Ja8 false 8
   rw[if_neg (by simp)] at w2
   have w4:=Jfl _ hm
   rw[ht] at w1
   clear hnd e
   refine CallU.go2 Tryz.call111 Tryz.func111 rfl Tryz.ntmps111 (by decide) fun ts hn h0 h1=>?_
   (repeat' (first
 | (with_reducible first|refine Qt T 6 (id:=2) rfl rfl fun K hK=>?_|refine UpK.callF w4 ?_ ?_|refine callX.by (w1) ?_|refine callX.by (w2) ?_|refine callX.by (Jb6 _ ?_ ?_) ?_|refine callX.by Jd1 ?_|refine callX.by (Ja8 _ _) ?_|refine callX.by (Jc2 _ ?_ ?_) ?_|refine callX.by (JbZ _ ?_ ?_ _) ?_|refine callX.by a6sc ?_|assumption|(refine Qw hK _ ?_;clear hK K)|refine Qw ‹_› _ ?_|refine Qx ‹_› ?_|refine Qi fun K hK=>?_|refine Qj T fun K hK=>?_|refine Ql fun A B hA hB=>?_|refine Qn ?_|refine Qr ?_)
 | ((with_reducible first|apply Qy|apply Qz|apply QA)<;>intro hb<;>try simp only[nr] at hb)
 |simp only[go_sem,↓reduceIte,reduceIte,Qa,Qh,Qb,Qc,Qd,Qe,Qf,Qg,reduceCtorEq, *,-hs,-w1,-w2,-w4,-ht]
 |with_reducible refine fun(bn:Bool) hbn=>?_))
   all_goals trace_state
 ·have e:JV cap l=J2 l:=by unfold JV;rw[if_pos ht]
  rw[e] at hm ⊢
  have w4:=Jfl _ hm
  clear hnd e
  refine CallU.go2 Tryz.call111 Tryz.func111 rfl Tryz.ntmps111 (by decide) fun ts hn h0 h1=>?_
  (repeat' (first
 | (with_reducible first|refine Qt T 2 (id:=1) rfl rfl fun K hK=>?_|refine UpK.callF w4 ?_ ?_|refine callX.by (w1) ?_|refine callX.by (Jb6 _ ?_ ?_) ?_|refine callX.by Jd1 ?_|refine callX.by (Ja8 _ _) ?_|refine callX.by (Jc2 _ ?_ ?_) ?_|refine callX.by (JbZ _ ?_ ?_ _) ?_|refine callX.by a6sc ?_|assumption|(refine Qw hK _ ?_;clear hK K)|refine Qw ‹_› _ ?_|refine Qx ‹_› ?_|refine Qi fun K hK=>?_|refine Qj T fun K hK=>?_|refine Ql fun A B hA hB=>?_|refine Qn ?_|refine Qr ?_)
 | ((with_reducible first|apply Qy|apply Qz|apply QA)<;>intro hb<;>try simp only[nr] at hb)
 |simp only[go_sem,↓reduceIte,reduceIte,Qa,Qh,Qb,Qc,Qd,Qe,Qf,Qg,reduceCtorEq, *,-hs,-w1,-w4,-ht]
 |with_reducible refine fun(bn:Bool) hbn=>?_))
  all_goals trace_state
@[go_sem] def JeL:List (List Nat×List Nat):=[([3],[5,6,7]),([4],[5,6,7]),([5],[3,4]),([6],[3,4]),([7],[3,4])]
def VL(n:Int):Int:=max 0 (min n 64)
theorem JgG(n:Int):CallR Tryz.prog 108 [.int .i64 n] (.val (.int .i64 (VL n))):=by
 refine QD (T:=T) Tryz.call108 Tryz.func108 rfl Tryz.ntmps108 (congrArg Array.toList Tryz.results108) (by decide) fun ts hn h0=>?_
 (repeat' (first
 | (with_reducible first|assumption|(refine Qw hK _ ?_;clear hK K)|refine Qw ‹_› _ ?_|refine Qx ‹_› ?_|refine Qi fun K hK=>?_|refine Qj T fun K hK=>?_|refine Ql fun A B hA hB=>?_|refine Qn ?_|refine Qr ?_)
 | ((with_reducible first|apply Qy|apply Qz|apply QA)<;>intro hb<;>try simp only[nr] at hb)
 |simp only[go_sem,↓reduceIte,reduceIte,Qa,Qh,Qb,Qc,Qd,Qe,Qf,Qg,reduceCtorEq, *]
 |with_reducible refine fun(bn:Bool) hbn=>?_))
 all_goals rfl
theorem Jd2(n:Int):CallR Tryz.prog 91 [.int .i64 n] (.val (.agg [.int .i64 (VL n),.slice false []])):=by
 refine QD (T:=T) Tryz.call91 Tryz.func91 rfl Tryz.ntmps91 (congrArg Array.toList Tryz.results91) (by decide) fun ts hn h0=>?_
 (repeat' (first
 | (with_reducible first|refine callX.by (JgG _) ?_|assumption|(refine Qw hK _ ?_;clear hK K)|refine Qw ‹_› _ ?_|refine Qx ‹_› ?_|refine Qi fun K hK=>?_|refine Qj T fun K hK=>?_|refine Ql fun A B hA hB=>?_|refine Qn ?_|refine Qr ?_)
 | ((with_reducible first|apply Qy|apply Qz|apply QA)<;>intro hb<;>try simp only[nr] at hb)
 |simp only[go_sem,↓reduceIte,reduceIte,Qa,Qh,Qb,Qc,Qd,Qe,Qf,Qg,reduceCtorEq, *]
 |with_reducible refine fun(bn:Bool) hbn=>?_))
theorem JkN(cap:Int)(l:List Res)(hl:l.length≤65536)(hs:∀r∈l,Jv r) :
  Done 110 ([.ro [.int .i64 cap,.slice false (Ja l)]].map Arg.v) (JV cap l) (fun _=>True):=by
 unfold Done
 split
 ·rename_i hm
  have w1:=Jie cap l l hl hs (fun h=>(Jcg h).nodup) hm
  have key:CallR Tryz.prog 110 [.ro [.int .i64 cap,.slice false (Ja l)]] (.val (.tup [])):=by
   refine QD (T:=T) Tryz.call110 Tryz.func110 rfl Tryz.ntmps110 (congrArg Array.toList Tryz.results110) (by decide) fun ts hn h0=>?_
   (repeat' (first
 | (with_reducible first|refine callX.by (w1) ?_|assumption|(refine Qw hK _ ?_;clear hK K)|refine Qw ‹_› _ ?_|refine Qx ‹_› ?_|refine Qi fun K hK=>?_|refine Qj T fun K hK=>?_|refine Ql fun A B hA hB=>?_|refine Qn ?_|refine Qr ?_)
 | ((with_reducible first|apply Qy|apply Qz|apply QA)<;>intro hb<;>try simp only[nr] at hb)
 |simp only[go_sem,↓reduceIte,reduceIte,Qa,Qh,Qb,Qc,Qd,Qe,Qf,Qg,reduceCtorEq, *,-hs,-w1,-hm]
 |with_reducible refine fun(bn:Bool) hbn=>?_))
  exact CallV.mono key fun r io h=>⟨h,trivial⟩
 ·rename_i hm
  have w1:=Jif cap l l hl hs (fun h=>(Jcg h).nodup) hm
  have key:CallU Tryz.prog 110 [.ro [.int .i64 cap,.slice false (Ja l)]] (Zt (JV cap l)):=by
   refine CallU.go1 Tryz.call110 Tryz.func110 rfl Tryz.ntmps110 (by decide) fun ts hn h0=>?_
   (repeat' (first
 | (with_reducible first|refine Qt T 3 (id:=0) rfl rfl fun K hK=>?_|refine UpK.callF w1 ?_ ?_|assumption|(refine Qw hK _ ?_;clear hK K)|refine Qw ‹_› _ ?_|refine Qx ‹_› ?_|refine Qi fun K hK=>?_|refine Qj T fun K hK=>?_|refine Ql fun A B hA hB=>?_|refine Qn ?_|refine Qr ?_)
 | ((with_reducible first|apply Qy|apply Qz|apply QA)<;>intro hb<;>try simp only[nr] at hb)
 |simp only[go_sem,↓reduceIte,reduceIte,Qa,Qh,Qb,Qc,Qd,Qe,Qf,Qg,reduceCtorEq, *,-hs,-w1,-hm]
 |with_reducible refine fun(bn:Bool) hbn=>?_))
  exact key
def Vy(c:Cache):Bool:=decide (c.cap=VL c.cap) && decide (JV c.cap c.l=0)
theorem JkO(cap:Int)(l:List Res):AV.pure.pureL [.ro [.int .i64 cap,.slice false (Ja l)]]=true:=by simp only[go_sem,Bool.and_self]
theorem Jas(c_cap:Int)(c_l:List Res)(hl:c_l.length≤65536)(hs:∀r∈c_l,Jv r):CallR Tryz.prog 76 [.agg [.int .i64 c_cap,.slice false (Ja c_l)]] (.val (.bool (Vy (⟨c_cap,c_l⟩:Cache)))):=by
 have w1:=JkV 110 [.ro [.int .i64 c_cap,.slice false (Ja c_l)]] (JV c_cap c_l) Tryz.call110 (JkN c_cap c_l hl hs) (JkO _ _)
 refine QD (T:=T.withF [10]) Tryz.call76 Tryz.func76 rfl Tryz.ntmps76 (congrArg Array.toList Tryz.results76) (by decide) fun ts hn h0=>?_
 (repeat' (first
 | (with_reducible first|refine SpecC.ent (Ent.frzBox _ 1) (Qk (id:=1) (T.withF [10]) mixed JeL (by kernel_rfl) fun K hK=>?_)|refine callX.by (w1) ?_|refine callX.by (JgG _) ?_|assumption|(refine Qw hK _ ?_;clear hK K)|refine Qw ‹_› _ ?_|refine Qx ‹_› ?_|refine Qi fun K hK=>?_|refine Qj (T.withF [10]) fun K hK=>?_|refine Qk (id:=1) (T.withF [10]) mixed JeL (by kernel_rfl) fun K hK=>?_|refine Ql fun A B hA hB=>?_|refine Qn ?_|refine Qr ?_)
 | ((with_reducible first|apply Qy|apply Qz|apply QA)<;>intro hb<;>try simp only[nr] at hb)
 |simp only[go_sem,↓reduceIte,reduceIte,Qa,Qh,Qb,Qc,Qd,Qe,Qf,Qg,reduceCtorEq, *,-hs,-w1]
 |with_reducible refine fun(bn:Bool) hbn=>?_))
 all_goals (simp only[Vy,hb,Bool.true_and,Bool.false_and])
def Vl(c:Cache):Cache:=if Vy c=true then c else ⟨VL c.cap,[]⟩
theorem JcY(c_cap:Int)(c_l:List Res)(hl:c_l.length≤65536)(hs:∀r∈c_l,Jv r):CallR Tryz.prog 112 [.agg [.int .i64 c_cap,.slice false (Ja c_l)]] (.val (.agg [.int .i64 (Vl (⟨c_cap,c_l⟩:Cache)).cap,.slice false (Ja (Vl (⟨c_cap,c_l⟩:Cache)).l)])):=by
 have w1:=Jas c_cap c_l hl hs
 unfold Vl
 cases hb0:Vy (⟨c_cap,c_l⟩:Cache)
 ·rw[hb0] at w1
  refine QD (T:=T) Tryz.call112 Tryz.func112 rfl Tryz.ntmps112 (congrArg Array.toList Tryz.results112) (by decide) fun ts hn h0=>?_
  (repeat' (first
 | (with_reducible first|refine callX.by (w1) ?_|refine callX.by (Jas _ _ ?_ ?_) ?_|refine callX.by (Jd2 _) ?_|assumption|(refine Qw hK _ ?_;clear hK K)|refine Qw ‹_› _ ?_|refine Qx ‹_› ?_|refine Qi fun K hK=>?_|refine Qj T fun K hK=>?_|refine Ql fun A B hA hB=>?_|refine Qn ?_|refine Qr ?_)
 | ((with_reducible first|apply Qy|apply Qz|apply QA)<;>intro hb<;>try simp only[nr] at hb)
 |simp only[go_sem,↓reduceIte,reduceIte,Qa,Qh,Qb,Qc,Qd,Qe,Qf,Qg,reduceCtorEq, *,-hs,-w1]
 |with_reducible refine fun(bn:Bool) hbn=>?_))
  all_goals rfl
 ·rw[hb0] at w1
  refine QD (T:=T) Tryz.call112 Tryz.func112 rfl Tryz.ntmps112 (congrArg Array.toList Tryz.results112) (by decide) fun ts hn h0=>?_
  (repeat' (first
 | (with_reducible first|refine callX.by (w1) ?_|refine callX.by (Jas _ _ ?_ ?_) ?_|refine callX.by (Jd2 _) ?_|assumption|(refine Qw hK _ ?_;clear hK K)|refine Qw ‹_› _ ?_|refine Qx ‹_› ?_|refine Qi fun K hK=>?_|refine Qj T fun K hK=>?_|refine Ql fun A B hA hB=>?_|refine Qn ?_|refine Qr ?_)
 | ((with_reducible first|apply Qy|apply Qz|apply QA)<;>intro hb<;>try simp only[nr] at hb)
 |simp only[go_sem,↓reduceIte,reduceIte,Qa,Qh,Qb,Qc,Qd,Qe,Qf,Qg,reduceCtorEq, *,-hs,-w1]
 |with_reducible refine fun(bn:Bool) hbn=>?_))
  all_goals trace_state
theorem JrG(r_kind:Int)(r_name:List UInt8)(r_ver:Int)(r_port:Int)(r_to:List UInt8)(r_rules:List Rule)(r_hosts:List Int)(k_kind:Int)(k_name:List UInt8)(c:Int):CallR Tryz.prog 201 [.agg [.int .i64 r_kind,.str r_name,.int .i64 r_ver,.int .i64 r_port,.str r_to,.slice false (Ja r_rules),.slice false (Ja r_hosts)],.ro [.int .i64 k_kind,.str k_name],.ro [.int .i64 c]] (.val (.bool (decide (JI (Jj (⟨r_kind,r_name,r_ver,r_port,r_to,r_rules,r_hosts⟩:Res)) (⟨k_kind,k_name⟩:Key)=c)))):=by
 refine CallR.go3 (T:=T) Tryz.call201 Tryz.func201 rfl Tryz.ntmps201 (congrArg Array.toList Tryz.results201) (by decide) fun ts hn h0 h1 h2=>?_
 (repeat' (first
 | (with_reducible first|refine callX.by (J0 _ _ _ _ _ _ _) ?_|refine callX.by (Vt _ _ _ _) ?_|assumption|(refine Qw hK _ ?_;clear hK K)|refine Qw ‹_› _ ?_|refine Qx ‹_› ?_|refine Qi fun K hK=>?_|refine Qj T fun K hK=>?_|refine Qk (id:=1) T mixed [([5],[7,9]),([6],[7,9]),([7],[5,6,9]),([8],[9]),([9],[5,6,7,8])] (by kernel_rfl) fun K hK=>?_|refine Ql fun A B hA hB=>?_|refine Qn ?_|refine Qr ?_)
 | ((with_reducible first|apply Qy|apply Qz|apply QA)<;>intro hb<;>try simp only[nr] at hb)
 |simp only[go_sem,↓reduceIte,reduceIte,Qa,Qh,Qb,Qc,Qd,Qe,Qf,Qg,reduceCtorEq, *]
 |with_reducible refine fun(bn:Bool) hbn=>?_))
 all_goals rfl
theorem JkS(a:Int)(b:List UInt8)(c:Int):Caps [.ro [.int .i64 a,.str b],.ro [.int .i64 c]]:=⟨by simp only[go_sem,Bool.and_self],by simp only[go_sem]⟩
def Yo(l:List Res)(k:Key)(c:Int):List Res:=l.filter fun r=>decide (JI (Jj r) k=c)
theorem JjX(xs:List Res)(k_kind:Int)(k_name:List UInt8)(c:Int)(hl:Jc xs.length):CallR Tryz.prog 200 [.int .i64 c,.ro [.slice false (Ja xs)],.ro [.int .i64 k_kind,.str k_name]] (.own 7 (Ja (Yo xs (⟨k_kind,k_name⟩:Key) c))):=by
 have hf:=Jez 201 [.ro [.int .i64 k_kind,.str k_name],.ro [.int .i64 c]] (JkS k_kind k_name c) (fun r=>decide (JI (Jj r) (⟨k_kind,k_name⟩:Key)=c)) xs (fun x _=>JrG x.kind x.name x.ver x.port x.to' x.rules' x.hosts k_kind k_name c) hl
 rw[show xs.filter (fun r=>decide (JI (Jj r) (⟨k_kind,k_name⟩:Key)=c))=Yo xs (⟨k_kind,k_name⟩:Key) c from rfl] at hf
 refine CallR.go3 (T:=T) Tryz.call200 Tryz.func200 rfl Tryz.ntmps200 (congrArg Array.toList Tryz.results200) (by decide) fun ts hn h0 h1 h2=>?_
 (repeat' (first
 | (with_reducible first|refine callX.by (hf) ?_|refine callX.by (Jez _ _ ?_ _ _ ?_ ?_) ?_|assumption|(refine Qw hK _ ?_;clear hK K)|refine Qw ‹_› _ ?_|refine Qx ‹_› ?_|refine Qi fun K hK=>?_|refine Qj T fun K hK=>?_|refine Ql fun A B hA hB=>?_|refine Qn ?_|refine Qr ?_)
 | ((with_reducible first|apply Qy|apply Qz|apply QA)<;>intro hb<;>try simp only[nr] at hb)
 |simp only[go_sem,↓reduceIte,reduceIte,Qa,Qh,Qb,Qc,Qd,Qe,Qf,Qg,reduceCtorEq, *,-hf]
 |with_reducible refine fun(bn:Bool) hbn=>?_))
def VZ(l:List Res)(r:Res):List Res:=Yo l (Jj r) (-1)++[r]++Yo l (Jj r) 1
instance:Dat (List Res) where
 av x:=.slice false (Ja x)
 sz:=1
 len _:=rfl
 pure x:=by simp only[go_sem,Bool.and_self]
 nrm x:=by simp only[go_sem]
 one x:=by simp only[go_sem,List.all_cons,List.all_nil,Bool.and_self]
 known _:=rfl
@[go_sem] theorem JtM(x:List Res):Dat.av x=.slice false (Ja x):=rfl
@[go_sem] theorem JJT:Dat.sz (List Res)=1:=rfl
theorem JrF{n:Nat}(hn:Jc n):IntKind.i64.wrap ((n:Int)-IntKind.i64.wrap ((0:Int)-0))=n:=by
 have e:IntKind.i64.wrap ((0:Int)-0)=0:=by decide
 rw[e]
 unfold Jc at hn
 simp only[IntKind.wrap,IntKind.signed,IntKind.bits]
 simp
 omega
theorem JrE{a b n:Nat}(h:a+b≤n)(hn:Jc n):IntKind.i64.wrap ((a:Int)+(b:Int))=((a+b:Nat):Int):=by
 unfold Jc at hn
 simp only[IntKind.wrap,IntKind.signed,IntKind.bits]
 simp
 omega
theorem Jb4(n:Nat)(hn:Jc n):CallR Tryz.prog 207 [.slice true [],.int .i64 n] (.own 7 []):=by
 have hr:Vn n 104:=Jap (by unfold Jc at hn;omega) (by decide)
 have hr1:n*104≤140737488355328:=hr.1
 have hr2:n≤9223372036854775807:=hr.2
 have hw:=JrF hn
 refine CallR.go2 (T:=T) Tryz.call207 Tryz.func207 rfl Tryz.ntmps207 (congrArg Array.toList Tryz.results207) (by decide) fun ts hn h0 h1=>?_
 have hz0:IntKind.i64.wrap ((0:Int)-IntKind.i64.wrap ((0:Int)-0))=0:=by decide
 by_cases h00:n=0
 ·subst h00
  (repeat' (first
 | (with_reducible first|assumption|(refine Qw hK _ ?_;clear hK K)|refine Qw ‹_› _ ?_|refine Qx ‹_› ?_|refine Qi fun K hK=>?_|refine Qj T fun K hK=>?_|refine Ql fun A B hA hB=>?_|refine Qn ?_|refine Qr ?_)
 | ((with_reducible first|apply Qy|apply Qz|apply QA)<;>intro hb<;>try simp only[nr] at hb)
 |simp only[go_sem,↓reduceIte,reduceIte,Qa,Qh,Qb,Qc,Qd,Qe,Qf,Qg,reduceCtorEq, *,-hr,List.length_nil,Int.lt_irrefl,decide_false,Int.le_refl]
 |with_reducible refine fun(bn:Bool) hbn=>?_))
  all_goals first|(exfalso;simp_all;done)|trace_state
 ·have hd:(0:Int)<(n:Int):=by omega
  have hz:List.take 0 (List.replicate n (AV.agg (List.replicate 7 AV.any)))=[]:=rfl
  (repeat' (first
 | (with_reducible first|assumption|(refine Qw hK _ ?_;clear hK K)|refine Qw ‹_› _ ?_|refine Qx ‹_› ?_|refine Qi fun K hK=>?_|refine Qj T fun K hK=>?_|refine Ql fun A B hA hB=>?_|refine Qn ?_|refine Qr ?_)
 | ((with_reducible first|apply Qy|apply Qz|apply QA)<;>intro hb<;>try simp only[nr] at hb)
 |simp only[go_sem,↓reduceIte,reduceIte,Qa,Qh,Qb,Qc,Qd,Qe,Qf,Qg,reduceCtorEq, *,-hr,List.length_nil,Int.le_refl,Int.toNat_zero,List.drop_zero]
 |with_reducible refine fun(bn:Bool) hbn=>?_))
  all_goals trace_state
def JaI(xss:List (List Res))(i:Nat):Nat:=(xss.drop i).flatten.length
theorem Jlt{xss:List (List Res)}{i:Nat}(h:i<xss.length):JaI xss i=xss[i].length+JaI xss (i+1):=by
 unfold JaI
 rw[List.drop_eq_getElem_cons h,List.flatten_cons,List.length_append]
theorem JgZ(xss:List (List Res))(hx:Jc xss.length)(hl:Jc xss.flatten.length):CallR Tryz.prog 202 [.slice false (Ja xss)] (.own 7 (Ja xss.flatten)):=by
 have hg:=Jb4 xss.flatten.length hl
 refine QD (T:=T) Tryz.call202 Tryz.func202 rfl Tryz.ntmps202 (congrArg Array.toList Tryz.results202) (by decide) fun ts hn h0=>?_
 (repeat' (first
 | (with_reducible first|refine callX.by (Jb4 _ ?_) ?_|assumption|(refine Qw hK _ ?_;clear hK K)|refine Qw ‹_› _ ?_|refine Qx ‹_› ?_|refine Qi fun K hK=>?_|refine Qj T fun K hK=>?_|refine Ql fun A B hA hB=>?_|refine Qm ?_|refine Qn ?_|refine Qp ?_|refine Qr ?_)
 | ((with_reducible first|apply Qy|apply Qz|apply QA)<;>intro hb<;>try simp only[nr] at hb)
 |simp only[go_sem,↓reduceIte,reduceIte,Qa,Qh,Qb,Qc,Qd,Qe,Qf,Qg,reduceCtorEq, *,-hg]
 |with_reducible refine fun(bn:Bool) hbn=>?_))
 refine Qs [0,9,10] (fun m ts'=>∃(i:Nat),∃(n:Nat),m=xss.length-i∧i≤xss.length∧n+JaI xss i=xss.flatten.length∧ts'.tmp 3=.int .i64 n∧ts'.tmp 11=.int .i64 i) xss.length ?_ ?_
 ·refine⟨0,0,rfl,Nat.zero_le _,by simp[JaI],?_⟩
  simp only[go_sem,↓reduceIte,reduceIte,Qa,Qh,Qb,Qc,Qd,Qe,Qf,Qg,reduceCtorEq, *,-hg]
 ·rintro m A hM ts' hk ⟨i,n,hm,f1,f2,s1,s2⟩
  simp only[go_sem,↓reduceIte,reduceIte,Qa,Qh,Qb,Qc,Qd,Qe,Qf,Qg,reduceCtorEq, *] at hk
  by_cases hlt:i<xss.length
  ·rw[Jlt hlt] at f2
   have hw:=JrE (a:=n) (b:=xss[i].length) (n:=xss.flatten.length) (by omega) hl
   (repeat' (first
 | (with_reducible first|refine callX.by (Jb4 _ ?_) ?_|assumption|(refine Qw hK _ ?_;clear hK K)|refine Qw ‹_› _ ?_|refine Qx ‹_› ?_|refine Qi fun K hK=>?_|refine Qj T fun K hK=>?_|refine Ql fun A B hA hB=>?_|refine Qm ?_|refine Qn ?_|refine Qp ?_|refine Qr ?_)
 | ((with_reducible first|apply Qy|apply Qz|apply QA)<;>intro hb<;>try simp only[nr] at hb)
 |simp only[go_sem,↓reduceIte,reduceIte,Qa,Qh,Qb,Qc,Qd,Qe,Qf,Qg,reduceCtorEq, *,-hg,-f2]
 |with_reducible refine fun(bn:Bool) hbn=>?_))
   all_goals ((repeat clear hK);(repeat clear hA);(repeat clear hB))
   all_goals (refine hM.on (xss.length-(i+1)) (by omega) (by simp only[go_sem,↓reduceIte,reduceIte,Qa,Qh,Qb,Qc,Qd,Qe,Qf,Qg,reduceCtorEq, *,Jf hlt hx,-hg,-f2]) ⟨i+1,n+xss[i].length,rfl,by omega,by omega,?_⟩;simp only[go_sem,↓reduceIte,reduceIte,Qa,Qh,Qb,Qc,Qd,Qe,Qf,Qg,reduceCtorEq, *,Jf hlt hx,-hg,-f2];done)
  ·have hn:n=xss.flatten.length:=by
    have e:JaI xss i=0:=by unfold JaI;rw[List.drop_eq_nil_of_le (by omega)];rfl
    omega
   clear f2
   subst hn
   (repeat' (first
 | (with_reducible first|refine callX.raw (hg) ?_|refine callX.by (Jb4 _ ?_) ?_|assumption|(refine Qw hK _ ?_;clear hK K)|refine Qw ‹_› _ ?_|refine Qx ‹_› ?_|refine Qi fun K hK=>?_|refine Qj T fun K hK=>?_|refine Ql fun A B hA hB=>?_|refine Qm ?_|refine Qn ?_|refine Qp ?_|refine Qr ?_)
 | ((with_reducible first|apply Qy|apply Qz|apply QA)<;>intro hb<;>try simp only[nr] at hb)
 |simp only[go_sem,↓reduceIte,reduceIte,Qa,Qh,Qb,Qc,Qd,Qe,Qf,Qg,reduceCtorEq, *,-hg]
 |with_reducible refine fun(bn:Bool) hbn=>?_))
   refine SpecC.ent (Ent.ren 6 24 (by simp only[go_sem,↓reduceIte,reduceIte,Qa,Qh,Qb,Qc,Qd,Qe,Qf,Qg,reduceCtorEq, *,-hg]) (by simp only[go_sem,↓reduceIte,reduceIte,Qa,Qh,Qb,Qc,Qd,Qe,Qf,Qg,reduceCtorEq, *,-hg])) ?_
   refine Qs [25,26] (fun m ts'=>∃(j:Nat),∃(g:Nat),∃(ys:List Res),m=xss.length-j∧j≤xss.length∧ys++(xss.drop j).flatten=xss.flatten∧ts'.tmp 6=.os 6 g ys.length∧ts'.gen 6=g∧ts'.obj 6=.arr 7 (Ja ys)∧ts'.tmp 27=.int .i64 j) xss.length ?_ ?_
   ·refine⟨0,ts'.gen 6+1,[],rfl,Nat.zero_le _,by simp,?_⟩
    simp only[go_sem,↓reduceIte,reduceIte,Qa,Qh,Qb,Qc,Qd,Qe,Qf,Qg,reduceCtorEq, *,-hg]
    rfl
   ·clear hM hm
    rintro m A hM ts' hk ⟨j,g,ys,hm,f1,f2,s1,s2,s3,s4⟩
    simp only[go_sem,↓reduceIte,reduceIte,Qa,Qh,Qb,Qc,Qd,Qe,Qf,Qg,reduceCtorEq, *] at hk
    by_cases hlt2:j<xss.length
    ·rw[List.drop_eq_getElem_cons hlt2,List.flatten_cons,←List.append_assoc] at f2
     have hle:ys.length+xss[j].length≤xss.flatten.length:=by rw[←f2];simp
     have hr:Vn (ys.length+xss[j].length) 104:=Jap (by unfold Jc at hl;omega) (by decide)
     (repeat' (first
 | (with_reducible first|refine callX.by (Jb4 _ ?_) ?_|assumption|(refine Qw hK _ ?_;clear hK K)|refine Qw ‹_› _ ?_|refine Qx ‹_› ?_|refine Qi fun K hK=>?_|refine Qj T fun K hK=>?_|refine Ql fun A B hA hB=>?_|refine Qm ?_|refine Qn ?_|refine Qp ?_|refine Qr ?_)
 | ((with_reducible first|apply Qy|apply Qz|apply QA)<;>intro hb<;>try simp only[nr] at hb)
 |simp only[go_sem,↓reduceIte,reduceIte,Qa,Qh,Qb,Qc,Qd,Qe,Qf,Qg,reduceCtorEq, *,-hg,-f2]
 |with_reducible refine fun(bn:Bool) hbn=>?_))
     all_goals ((repeat clear hK);(repeat clear hA);(repeat clear hB))
     all_goals (refine hM.onE (xss.length-(j+1)) (Ent.ren 6 33 ?_ ?_) ?_ ?_ ?_;(focus(simp only[go_sem,↓reduceIte,reduceIte,Qa,Qh,Qb,Qc,Qd,Qe,Qf,Qg,reduceCtorEq, *,Jf hlt2 hx,List.length_append,-hg,-f2];first|done|rfl));(focus(simp only[go_sem,↓reduceIte,reduceIte,Qa,Qh,Qb,Qc,Qd,Qe,Qf,Qg,reduceCtorEq, *,Jf hlt2 hx,List.length_append,-hg,-f2];first|done|rfl));omega;(focus(simp only[go_sem,↓reduceIte,reduceIte,Qa,Qh,Qb,Qc,Qd,Qe,Qf,Qg,reduceCtorEq, *,Jf hlt2 hx,List.length_append,-hg,-f2];done));refine⟨j+1,ts'.gen 6+1,ys++xss[j],rfl,by omega,f2,?_⟩;simp only[go_sem,↓reduceIte,reduceIte,Qa,Qh,Qb,Qc,Qd,Qe,Qf,Qg,reduceCtorEq, *,Jf hlt2 hx,List.length_append,-hg,-f2];done)
    ·rw[List.drop_eq_nil_of_le (by omega),List.flatten_nil,List.append_nil] at f2
     subst f2
     (repeat' (first
 | (with_reducible first|refine callX.by (Jb4 _ ?_) ?_|assumption|(refine Qw hK _ ?_;clear hK K)|refine Qw ‹_› _ ?_|refine Qx ‹_› ?_|refine Qi fun K hK=>?_|refine Qj T fun K hK=>?_|refine Ql fun A B hA hB=>?_|refine Qm ?_|refine Qn ?_|refine Qp ?_|refine Qr ?_)
 | ((with_reducible first|apply Qy|apply Qz|apply QA)<;>intro hb<;>try simp only[nr] at hb)
 |simp only[go_sem,↓reduceIte,reduceIte,Qa,Qh,Qb,Qc,Qd,Qe,Qf,Qg,reduceCtorEq, *,-hg]
 |with_reducible refine fun(bn:Bool) hbn=>?_))
theorem Jb8(xs:List Res)(r:Res)(hl:Jc xs.length)(hl2:Jc (VZ xs r).length):CallR Tryz.prog 189 [.slice false (Ja xs),.agg [.int .i64 r.kind,.str r.name,.int .i64 r.ver,.int .i64 r.port,.str r.to',.slice false (Ja r.rules'),.slice false (Ja r.hosts)]] (.own 7 (Ja (VZ xs r))):=by
 have w1:=(JjX xs r.kind r.name (-1) hl).frz
 have w2:=(JjX xs r.kind r.name 1 hl).frz
 have hcc:CallR Tryz.prog 202 [.slice false [.slice false (Ja (Yo xs ⟨r.kind,r.name⟩ (-1))),.slice false [.agg [.int .i64 r.kind,.str r.name,.int .i64 r.ver,.int .i64 r.port,.str r.to',.slice false (Ja r.rules'),.slice false (Ja r.hosts)]],.slice false (Ja (Yo xs ⟨r.kind,r.name⟩ 1))]] (.own 7 (Ja (VZ xs r))):=by
  have h:=JgZ [Yo xs (Jj r) (-1),[r],Yo xs (Jj r) 1] (by unfold Jc;simp) (by simpa[VZ] using hl2)
  have e:[Yo xs (Jj r) (-1),[r],Yo xs (Jj r) 1].flatten=VZ xs r:=by simp[VZ]
  rw[e] at h
  exact h
 refine CallR.go2 (T:=T.withF [13,16]) Tryz.call189 Tryz.func189 rfl Tryz.ntmps189 (congrArg Array.toList Tryz.results189) (by decide) fun ts hn h0 h1=>?_
 (repeat' (first
 | (with_reducible first|refine callX.by (w1) ?_|refine callX.by (w2) ?_|refine callX.by (hcc) ?_|refine callX.by (J0 _ _ _ _ _ _ _) ?_|refine callX.by (JgZ _ ?_ ?_) ?_|assumption|(refine Qw hK _ ?_;clear hK K)|refine Qw ‹_› _ ?_|refine Qx ‹_› ?_|refine Qi fun K hK=>?_|refine Qj (T.withF [13,16]) fun K hK=>?_|refine Qk (id:=3) (T.withF [13,16]) mixed [([10],[12,13,14]),([11],[12,13,14]),([12],[10,11,14,15]),([13],[10,11,14,15]),([14],[10,11,12,13]),([15],[12,13])] (by kernel_rfl) fun K hK=>?_|refine Ql fun A B hA hB=>?_|refine Qn ?_|refine Qr ?_)
 | ((with_reducible first|apply Qy|apply Qz|apply QA)<;>intro hb<;>try simp only[nr] at hb)
 |simp only[go_sem,↓reduceIte,reduceIte,Qa,Qh,Qb,Qc,Qd,Qe,Qf,Qg,reduceCtorEq, *,-w1,-w2,-hcc]
 |with_reducible refine fun(bn:Bool) hbn=>?_))
 all_goals trace_state
def Yk(l adds:List Res)(gone:List Key):List Res:=adds.foldl VZ (gone.foldl YO l)
theorem JnS(l:List Res)(k:Key):(Yo l k (-1)).length+(Yo l k 1).length≤l.length:=by
 induction l with
 |nil=>simp[Yo]
 |cons x l ih =>
  simp only[Yo,List.filter_cons] at ih ⊢
  by_cases h1:JI (Jj x) k=-1
  ·have h2:¬JI (Jj x) k=1:=by omega
   simp[h1] at ih ⊢
   omega
  ·by_cases h2:JI (Jj x) k=1
   ·simp[h2] at ih ⊢
    omega
   ·simp[h1,h2] at ih ⊢
    omega
theorem JjY(l:List Res)(r:Res):(VZ l r).length≤l.length+1:=by
 have:=JnS l (Jj r)
 simp only[VZ,List.length_append,List.length_singleton]
 omega
theorem JrH{l:List Res}{r x:Res}(h:x∈VZ l r):x=r∨x∈l:=by
 simp only[VZ,Yo,List.mem_append,List.mem_filter,List.mem_singleton] at h
 rcases h with (h|h)|h
 ·exact .inr h.1
 ·exact .inl h
 ·exact .inr h.1
theorem JjQ(l:List Res)(k:Key):(YO l k).length≤l.length:=by unfold YO;exact List.length_filter_le _ _
theorem Joy{l:List Res}{k:Key}{x:Res}(h:x∈YO l k):x∈l:=by unfold YO at h;exact(List.mem_filter.1 h).1
theorem JjZ(l:List Res):∀gone:List Key,(gone.foldl YO l).length≤l.length
 | []=>Nat.le_refl _
 |k :: g=>Nat.le_trans (JjZ (YO l k) g) (JjQ l k)
theorem Jj0(l:List Res):∀adds:List Res,(adds.foldl VZ l).length≤l.length+adds.length
 | []=>Nat.le_refl _
 |r :: a=>by
  have h1:=Jj0 (VZ l r) a
  have h2:=JjY l r
  simp only[List.foldl_cons,List.length_cons]
  omega
theorem JiJ(l adds:List Res)(gone:List Key):(Yk l adds gone).length≤l.length+adds.length:=Nat.le_trans (Jj0 _ _) (Nat.add_le_add_right (JjZ l gone) _)
theorem JiK{l adds:List Res}{gone:List Key}{x:Res}(h:x∈Yk l adds gone):x∈l∨x∈adds:=by
 have h1:∀(adds l:List Res),x∈adds.foldl VZ l→x∈l∨x∈adds:=by
  intro adds
  induction adds with
  |nil=>exact fun l h=>.inl h
  |cons r a ih =>
   intro l h
   rcases ih _ h with h|h
   ·rcases JrH h with rfl|h
    ·exact .inr (by simp)
    ·exact .inl h
   ·exact .inr (List.mem_cons_of_mem _ h)
 have h2:∀(gone:List Key) (l:List Res),x∈gone.foldl YO l→x∈l:=by
  intro gone
  induction gone with
  |nil=>exact fun l h=>h
  |cons k g ih=>exact fun l h=>Joy (ih _ h)
 rcases h1 _ _ h with h|h
 ·exact .inl (h2 _ _ h)
 ·exact .inr h
theorem Jot(xs adds:List Res)(gone:List Key)(hx:Jc xs.length)(ha:Jc adds.length)(hg:Jc gone.length)(hl:Jc (xs.length+adds.length)) :
  CallR Tryz.prog 166 [.slice false (Ja xs),.slice false (Ja adds),.slice false (Ja gone)] (.val (.slice false (Ja (Yk xs adds gone)))):=by
 refine CallR.go3 (T:=T) Tryz.call166 Tryz.func166 rfl Tryz.ntmps166 (congrArg Array.toList Tryz.results166) (by decide) fun ts hn h0 h1 h2=>?_
 (repeat' (first
 | (with_reducible first|refine callX.by (Jb7 _ _ _ ?_) ?_|refine callX.by (Jb8 _ _ ?_ ?_) ?_|assumption|(refine Qw hK _ ?_;clear hK K)|refine Qw ‹_› _ ?_|refine Qx ‹_› ?_|refine Qi fun K hK=>?_|refine Qj T fun K hK=>?_|refine Ql fun A B hA hB=>?_|refine Qm ?_|refine Qn ?_|refine Qp ?_|refine Qr ?_)
 | ((with_reducible first|apply Qy|apply Qz|apply QA)<;>intro hb<;>try simp only[nr] at hb)
 |simp only[go_sem,↓reduceIte,reduceIte,Qa,Qh,Qb,Qc,Qd,Qe,Qf,Qg,reduceCtorEq, *]
 |with_reducible refine fun(bn:Bool) hbn=>?_))
 refine Qs [1,11,12] (fun m ts'=>∃(i:Nat),∃(ys:List Res),m=gone.length-i∧i≤gone.length∧ys.length≤xs.length∧(gone.drop i).foldl YO ys=gone.foldl YO xs∧ts'.tmp 0=.slice false (Ja ys)∧ts'.tmp 13=.int .i64 i) gone.length ?_ ?_
 ·refine⟨0,xs,rfl,Nat.zero_le _,Nat.le_refl _,rfl,?_⟩
  simp only[go_sem,↓reduceIte,reduceIte,Qa,Qh,Qb,Qc,Qd,Qe,Qf,Qg,reduceCtorEq, *]
 ·rintro m A hM ts' hk ⟨i,ys,hm,f1,f2,f3,s1,s2⟩
  simp only[go_sem,↓reduceIte,reduceIte,Qa,Qh,Qb,Qc,Qd,Qe,Qf,Qg,reduceCtorEq, *] at hk
  by_cases hlt:i<gone.length
  ·rw[List.drop_eq_getElem_cons hlt,List.foldl_cons] at f3
   have hys:Jc ys.length:=by unfold Jc at hx ⊢;omega
   have w1:=(Jb7 ys gone[i].kind gone[i].name hys).frz
   have hle:=JjQ ys gone[i]
   (repeat' (first
 | (with_reducible first|refine callX.by (w1) ?_|refine callX.by (Jb7 _ _ _ ?_) ?_|refine callX.by (Jb8 _ _ ?_ ?_) ?_|assumption|(refine Qw hK _ ?_;clear hK K)|refine Qw ‹_› _ ?_|refine Qx ‹_› ?_|refine Qi fun K hK=>?_|refine Qj T fun K hK=>?_|refine Ql fun A B hA hB=>?_|refine Qm ?_|refine Qn ?_|refine Qp ?_|refine Qr ?_)
 | ((with_reducible first|apply Qy|apply Qz|apply QA)<;>intro hb<;>try simp only[nr] at hb)
 |simp only[go_sem,↓reduceIte,reduceIte,Qa,Qh,Qb,Qc,Qd,Qe,Qf,Qg,reduceCtorEq, *,-f3,-w1]
 |with_reducible refine fun(bn:Bool) hbn=>?_))
   all_goals ((repeat clear hK);(repeat clear hA);(repeat clear hB))
   all_goals (refine hM.on (gone.length-(i+1)) (by omega) (by simp only[go_sem,↓reduceIte,reduceIte,Qa,Qh,Qb,Qc,Qd,Qe,Qf,Qg,reduceCtorEq, *,Jf hlt hg,-f3,-w1]) ⟨i+1,YO ys gone[i],rfl,by omega,by omega,f3,?_⟩;simp only[go_sem,↓reduceIte,reduceIte,Qa,Qh,Qb,Qc,Qd,Qe,Qf,Qg,reduceCtorEq, *,Jf hlt hg,-f3,-w1];done)
  ·rw[List.drop_eq_nil_of_le (by omega),List.foldl_nil] at f3
   subst f3
   (repeat' (first
 | (with_reducible first|refine callX.by (Jb7 _ _ _ ?_) ?_|refine callX.by (Jb8 _ _ ?_ ?_) ?_|assumption|(refine Qw hK _ ?_;clear hK K)|refine Qw ‹_› _ ?_|refine Qx ‹_› ?_|refine Qi fun K hK=>?_|refine Qj T fun K hK=>?_|refine Ql fun A B hA hB=>?_|refine Qm ?_|refine Qn ?_|refine Qp ?_|refine Qr ?_)
 | ((with_reducible first|apply Qy|apply Qz|apply QA)<;>intro hb<;>try simp only[nr] at hb)
 |simp only[go_sem,↓reduceIte,reduceIte,Qa,Qh,Qb,Qc,Qd,Qe,Qf,Qg,reduceCtorEq, *]
 |with_reducible refine fun(bn:Bool) hbn=>?_))
   clear hM hm
   refine Qs [21,22] (fun m ts'=>∃(j:Nat),∃(zs:List Res),m=adds.length-j∧j≤adds.length∧zs.length≤xs.length+j∧(adds.drop j).foldl VZ zs=Yk xs adds gone∧ts'.tmp 0=.slice false (Ja zs)∧ts'.tmp 23=.int .i64 j) adds.length ?_ ?_
   ·refine⟨0,gone.foldl YO xs,rfl,Nat.zero_le _,by omega,rfl,?_⟩
    simp only[go_sem,↓reduceIte,reduceIte,Qa,Qh,Qb,Qc,Qd,Qe,Qf,Qg,reduceCtorEq, *]
   ·rintro m A hM ts' hk ⟨j,zs,hm,f1,f2,f3,s1,s2⟩
    simp only[go_sem,↓reduceIte,reduceIte,Qa,Qh,Qb,Qc,Qd,Qe,Qf,Qg,reduceCtorEq, *] at hk
    by_cases hlt2:j<adds.length
    ·rw[List.drop_eq_getElem_cons hlt2,List.foldl_cons] at f3
     have hle:=JjY zs adds[j]
     have hzs:Jc zs.length:=by unfold Jc at hl ⊢;omega
     have hzr:Jc (VZ zs adds[j]).length:=by unfold Jc at hl ⊢;omega
     have w1:=(Jb8 zs adds[j] hzs hzr).frz
     (repeat' (first
 | (with_reducible first|refine callX.by (w1) ?_|refine callX.by (Jb7 _ _ _ ?_) ?_|refine callX.by (Jb8 _ _ ?_ ?_) ?_|assumption|(refine Qw hK _ ?_;clear hK K)|refine Qw ‹_› _ ?_|refine Qx ‹_› ?_|refine Qi fun K hK=>?_|refine Qj T fun K hK=>?_|refine Ql fun A B hA hB=>?_|refine Qm ?_|refine Qn ?_|refine Qp ?_|refine Qr ?_)
 | ((with_reducible first|apply Qy|apply Qz|apply QA)<;>intro hb<;>try simp only[nr] at hb)
 |simp only[go_sem,↓reduceIte,reduceIte,Qa,Qh,Qb,Qc,Qd,Qe,Qf,Qg,reduceCtorEq, *,-f3,-w1]
 |with_reducible refine fun(bn:Bool) hbn=>?_))
     all_goals ((repeat clear hK);(repeat clear hA);(repeat clear hB))
     all_goals (refine hM.on (adds.length-(j+1)) (by omega) (by simp only[go_sem,↓reduceIte,reduceIte,Qa,Qh,Qb,Qc,Qd,Qe,Qf,Qg,reduceCtorEq, *,Jf hlt2 ha,-f3,-w1]) ⟨j+1,VZ zs adds[j],rfl,by omega,by omega,f3,?_⟩;simp only[go_sem,↓reduceIte,reduceIte,Qa,Qh,Qb,Qc,Qd,Qe,Qf,Qg,reduceCtorEq, *,Jf hlt2 ha,-f3,-w1];done)
    ·rw[List.drop_eq_nil_of_le (by omega),List.foldl_nil] at f3
     subst f3
     (repeat' (first
 | (with_reducible first|refine callX.by (Jb7 _ _ _ ?_) ?_|refine callX.by (Jb8 _ _ ?_ ?_) ?_|assumption|(refine Qw hK _ ?_;clear hK K)|refine Qw ‹_› _ ?_|refine Qx ‹_› ?_|refine Qi fun K hK=>?_|refine Qj T fun K hK=>?_|refine Ql fun A B hA hB=>?_|refine Qm ?_|refine Qn ?_|refine Qp ?_|refine Qr ?_)
 | ((with_reducible first|apply Qy|apply Qz|apply QA)<;>intro hb<;>try simp only[nr] at hb)
 |simp only[go_sem,↓reduceIte,reduceIte,Qa,Qh,Qb,Qc,Qd,Qe,Qf,Qg,reduceCtorEq, *]
 |with_reducible refine fun(bn:Bool) hbn=>?_))
theorem Jkg(cap:Int)(l adds:List Res)(gone:List Key)(hl:l.length+adds.length≤65536)(hg:Jc gone.length)(hs:∀r∈l,Jv r)(ha:∀r∈adds,Jv r) :
  Done 165 ([.ro [.int .i64 cap,.slice false (Ja l)],.ro [.slice false (Ja adds)],.ro [.slice false (Ja gone)]].map Arg.v++[.io [.int .i64 cap,.slice false (Ja l)]]) (JV cap (Yk l adds gone))
   (fun io=>io [AV.ro [.int .i64 cap,.slice false (Ja l)],.ro [.slice false (Ja adds)],.ro [.slice false (Ja gone)]].length=[.int .i64 cap,.slice false (Ja (Yk l adds gone))]):=by
 have hlen:=JiJ l adds gone
 have hsp:∀r∈Yk l adds gone,Jv r:=fun r hr=>(JiK hr).elim (hs r) (ha r)
 have w0:=Jot l adds gone (by unfold Jc;omega) (by unfold Jc;omega) hg (by unfold Jc;omega)
 unfold Done
 split
 ·rename_i hm
  have w1:=Jie cap l _ (by omega) hsp (fun h=>(Jcg h).nodup) hm
  clear hsp hs ha hlen
  refine CallV.goB3 Tryz.call165 Tryz.func165 rfl Tryz.ntmps165 T (congrArg Array.toList Tryz.results165) (by decide) fun ts hn h0 h1 h2 h3 hg3 ho3=>?_
  (repeat' (first
 | (with_reducible first|refine callX.by (w0) ?_|refine callX.by (w1) ?_|assumption|(refine Qw hK _ ?_;clear hK K)|refine Qw ‹_› _ ?_|refine Qx ‹_› ?_|refine Qi fun K hK=>?_|refine Qj T fun K hK=>?_|refine Ql fun A B hA hB=>?_|refine Qn ?_|refine Qr ?_)
 | ((with_reducible first|apply Qy|apply Qz|apply QA)<;>intro hb<;>try simp only[nr] at hb)
 |simp only[go_sem,↓reduceIte,reduceIte,Qa,Qh,Qb,Qc,Qd,Qe,Qf,Qg,reduceCtorEq, *,-w0,-w1,-hm]
 |with_reducible refine fun(bn:Bool) hbn=>?_))
  all_goals trace_state
 ·rename_i hm
  have w1:=Jif cap l _ (by omega) hsp (fun h=>(Jcg h).nodup) hm
  clear hsp hs ha hlen
  refine CallUV.goB3 Tryz.call165 Tryz.func165 rfl Tryz.ntmps165 (by decide) fun ts hn h0 h1 h2 h3 hg3 ho3=>?_
  (repeat' (first
 | (with_reducible first|refine Qt T 3 (id:=1) rfl rfl fun K hK=>?_|refine UpK.callF w1 ?_ ?_|refine callX.by (w0) ?_|assumption|(refine Qw hK _ ?_;clear hK K)|refine Qw ‹_› _ ?_|refine Qx ‹_› ?_|refine Qi fun K hK=>?_|refine Qj T fun K hK=>?_|refine Ql fun A B hA hB=>?_|refine Qn ?_|refine Qr ?_)
 | ((with_reducible first|apply Qy|apply Qz|apply QA)<;>intro hb<;>try simp only[nr] at hb)
 |simp only[go_sem,↓reduceIte,reduceIte,Qa,Qh,Qb,Qc,Qd,Qe,Qf,Qg,reduceCtorEq, *,-w0,-w1,-hm]
 |with_reducible refine fun(bn:Bool) hbn=>?_))
  all_goals trace_state
def JY(c:Cache)(adds:List Res)(gone:List Key):Cache×Int :=
 let d:=Vl c
 let e:=JV d.cap (Yk d.l adds gone)
 if e=0 then (⟨d.cap,Yk d.l adds gone⟩,0) else (d,e)
theorem Jet(c:Cache):(Vl c).l.length≤c.l.length:=by unfold Vl;split<;>simp
theorem JcZ{c:Cache}{x:Res}(h:x∈(Vl c).l):x∈c.l:=by unfold Vl at h;split at h<;>simp_all
theorem Jkh(c_cap:Int)(c_l:List Res)(adds:List Res)(gone:List Key)(hl:c_l.length+adds.length≤65536)(hg:Jc gone.length)(hs:∀r∈c_l,Jv r)(ha:∀r∈adds,Jv r) :
  CallR Tryz.prog 122 [.agg [.int .i64 c_cap,.slice false (Ja c_l)],.slice false (Ja adds),.slice false (Ja gone)] (.val (.tup [.agg [.int .i64 (JY (⟨c_cap,c_l⟩:Cache) adds gone).1.cap,.slice false (Ja (JY (⟨c_cap,c_l⟩:Cache) adds gone).1.l)],.int .i64 (JY (⟨c_cap,c_l⟩:Cache) adds gone).2])):=by
 have w0:=JcY c_cap c_l (by omega) hs
 have hdl:=Jet (⟨c_cap,c_l⟩:Cache)
 have hdm:∀r∈(Vl (⟨c_cap,c_l⟩:Cache)).l,Jv r:=fun r hr=>hs r (JcZ hr)
 unfold JY
 generalize Vl (⟨c_cap,c_l⟩:Cache)=d at *
 have w1:=Jkg d.cap d.l adds gone (by simp only at hdl;omega) hg hdm ha
 clear hdl hdm hs ha hl hg
 by_cases he:JV d.cap (Yk d.l adds gone)=0
 ·rw[he] at w1
  simp only[he,if_true]
  refine CallR.go3 (T:=T.withF [13]) Tryz.call122 Tryz.func122 rfl Tryz.ntmps122 (congrArg Array.toList Tryz.results122) (by decide) fun ts hn h0 h1 h2=>?_
  (repeat' (first
 | (with_reducible first|refine callX.by (w0) ?_|refine SpecC.ent (Ent.frzBox _ 3) (SpecC.ent (Ent.frzBox _ 4) (SpecC.ent (Ent.frzBox _ 5) (Qu (T.withF [13]) 1 (id:=3) rfl rfl fun K hK=>?_)))|refine fun(K2:TS→Prop) (hK2:NxK _ K2)=>?_|refine SpecO.caughtB rfl 8 ?_ ?_ ?_ ?_ Tryz.call165 w1 ?_|refine Qw hK2 _ ?_|refine fun(K3:TS→Prop) (hK3:NxK _ K3)=>?_|refine callX.by (JcY _ _ ?_ ?_) ?_|assumption|(refine Qw hK _ ?_;clear hK K)|refine Qw ‹_› _ ?_|refine Qx ‹_› ?_|refine Qi fun K hK=>?_|refine Qj (T.withF [13]) fun K hK=>?_|refine Ql fun A B hA hB=>?_|refine Qn ?_|refine Qr ?_)
 | ((with_reducible first|apply Qy|apply Qz|apply QA)<;>intro hb<;>try simp only[nr] at hb)
 |simp only[go_sem,↓reduceIte,reduceIte,Qa,Qh,Qb,Qc,Qd,Qe,Qf,Qg,reduceCtorEq, *,-w0,-w1,-he]
 |with_reducible refine fun(bn:Bool) hbn=>?_))
  all_goals trace_state
 ·simp only[he,if_false]
  refine CallR.go3 (T:=T.withF [13]) Tryz.call122 Tryz.func122 rfl Tryz.ntmps122 (congrArg Array.toList Tryz.results122) (by decide) fun ts hn h0 h1 h2=>?_
  (repeat' (first
 | (with_reducible first|refine callX.by (w0) ?_|refine SpecC.ent (Ent.frzBox _ 3) (SpecC.ent (Ent.frzBox _ 4) (SpecC.ent (Ent.frzBox _ 5) (Qu (T.withF [13]) 1 (id:=3) rfl rfl fun K hK=>?_)))|refine fun(K2:TS→Prop) (hK2:NxK _ K2)=>?_|refine SpecO.caughtB rfl 8 ?_ ?_ ?_ ?_ Tryz.call165 w1 ?_|refine Qw hK2 _ ?_|refine fun(K3:TS→Prop) (hK3:NxK _ K3)=>?_|refine callX.by (JcY _ _ ?_ ?_) ?_|assumption|(refine Qw hK _ ?_;clear hK K)|refine Qw ‹_› _ ?_|refine Qx ‹_› ?_|refine Qi fun K hK=>?_|refine Qj (T.withF [13]) fun K hK=>?_|refine Ql fun A B hA hB=>?_|refine Qn ?_|refine Qr ?_)
 | ((with_reducible first|apply Qy|apply Qz|apply QA)<;>intro hb<;>try simp only[nr] at hb)
 |simp only[go_sem,↓reduceIte,reduceIte,Qa,Qh,Qb,Qc,Qd,Qe,Qf,Qg,reduceCtorEq, *,-w0,-w1]
 |with_reducible refine fun(bn:Bool) hbn=>?_))
  all_goals trace_state
theorem JnC{c:Cache}(h:Vy c=true):Conf c.l:=by
 unfold Vy at h
 simp only[Bool.and_eq_true,decide_eq_true_eq] at h
 refine Jcg ?_
 by_cases ht:J2 c.l=0
 ·exact ht
 ·have:=h.2
  unfold JV at this
  rw[if_pos ht] at this
  exact this
theorem JnF(c:Cache):((Vl c).l.map Jj).Nodup:=by
 unfold Vl
 split
 ·rename_i h;exact(JnC h).nodup
 ·simp
def VJ(c:Cache):List Res:=VI (Vl c).l
theorem Jau(c_cap:Int)(c_l:List Res)(hl:c_l.length≤65536)(hs:∀r∈c_l,Jv r):CallR Tryz.prog 78 [.agg [.int .i64 c_cap,.slice false (Ja c_l)]] (.own 7 (Ja (VJ (⟨c_cap,c_l⟩:Cache)))):=by
 have w0:=JcY c_cap c_l hl hs
 have hdl:=Jet (⟨c_cap,c_l⟩:Cache)
 have hdm:∀r∈(Vl (⟨c_cap,c_l⟩:Cache)).l,Jv r:=fun r hr=>hs r (JcZ hr)
 have hdn:=JnF (⟨c_cap,c_l⟩:Cache)
 unfold VJ
 generalize Vl (⟨c_cap,c_l⟩:Cache)=d at *
 have w1:=JcR d.l (by simp only at hdl;omega) hdm hdn
 clear hdl hdm hs hl hdn
 refine QD (T:=T) Tryz.call78 Tryz.func78 rfl Tryz.ntmps78 (congrArg Array.toList Tryz.results78) (by decide) fun ts hn h0=>?_
 (repeat' (first
 | (with_reducible first|refine callX.by (w0) ?_|refine callX.by (w1) ?_|refine callX.by (JcY _ _ ?_ ?_) ?_|refine callX.by (JbT _ ?_ ?_) ?_|refine callX.by (JcR _ ?_ ?_ _) ?_|refine callX.by a6rc ?_|assumption|(refine Qw hK _ ?_;clear hK K)|refine Qw ‹_› _ ?_|refine Qx ‹_› ?_|refine Qi fun K hK=>?_|refine Qj T fun K hK=>?_|refine Ql fun A B hA hB=>?_|refine Qn ?_|refine Qr ?_)
 | ((with_reducible first|apply Qy|apply Qz|apply QA)<;>intro hb<;>try simp only[nr] at hb)
 |simp only[go_sem,↓reduceIte,reduceIte,Qa,Qh,Qb,Qc,Qd,Qe,Qf,Qg,reduceCtorEq, *,-w0,-w1]
 |with_reducible refine fun(bn:Bool) hbn=>?_))
def eR:Res:=⟨3,[101],0,0,[],[],[]⟩
theorem eRr:JH eR=[]:=Jnh rfl
theorem JmD{r:Res}(h1:r.rules'=[])(h2:Jc r.name.length)(h3:Jc r.to'.length)(h4:Jc r.hosts.length):∀x∈[r],Jv x:=by
 intro x hx
 rw[List.mem_singleton] at hx
 subst hx
 exact⟨h2,h3,by rw[h1];simp[Jc],by rw[h1];simp,h4⟩
theorem Jck:∀x∈[eR],Jv x:=JmD rfl (by simp[Jc,eR]) (by simp[Jc,eR]) (by simp[Jc,eR])
theorem eRn:ZB [eR]=[(⟨3,[101]⟩,[])]:=by simp only[ZB,List.foldl_cons,List.foldl_nil,Vq,eRr];rfl
theorem Jhb:VI [eR]=[]:=by unfold VI ZX;rw[eRn];decide
theorem Jk6:Yz [eR]=0:=by unfold Yz;rw[Jhb];rfl
theorem eRt:J2 [eR]=0:=by decide
theorem eRm:JV 9 [eR]=0:=by unfold JV;rw[eRt,Jk6];decide
theorem Jmt(n:Int)(h:0≤n):JV n []=0:=by
 unfold JV
 have h1:J2 []=0:=by decide
 have h2:Yz []=0:=by decide
 rw[h1,h2];simp[h]
theorem Jmu:Vl ⟨9,[]⟩=⟨9,[]⟩:=by
 unfold Vl
 rw[if_pos]
 unfold Vy
 rw[Jmt 9 (by decide)];decide
theorem Jkl:JY ⟨9,[]⟩ [eR] []=(⟨9,[eR]⟩,0):=by
 unfold JY
 rw[Jmu]
 have e:Yk [] [eR] []=[eR]:=by decide
 simp only[e,eRm]
 rfl
theorem Jmv:Vy ⟨9,[eR]⟩=true:=by unfold Vy;rw[eRm];decide
end Go.Proofs.YtihahfhagobnoaaGreatDoor.Lg
