/- Parts of the proof, one behind the other. -/
import Derived.Test.YthjalhfmpffbjaaGreatDoorG18
set_option linter.unusedVariables false
set_option linter.unusedSimpArgs false
set_option maxRecDepth 100000
set_option maxHeartbeats 64000000
namespace Go.Proofs.YthjalhfmpffbjaaGreatDoor.Lg
open Go
open Tryz
open Nat renaming reduceEqDiff → Qa, reduceLT → Qb, reduceLeDiff → Qc, reduceAdd → Qd, reduceMul → Qe, reduceSub → Qf, reduceBEq → Qg
open String renaming reduceEq → Qh
open SpecC renaming seqW → Qi, regW → Qj, drawW → Qk, condW → Ql, block → Qm, skip → Qn, exit → Qp, ret → Qr, loopF → Qs
open NxK renaming out → Qw
open Nx renaming out → Qx
open condK renaming split → Qy
open gK renaming split_t → Qz, split_f → QA
open List renaming getElem_mem → QC
@[go_sem] def JdN:List (List Nat×List Nat):=[([3],[6,7,8,9,10,11,12,13,14,15,16,17,18,19,20,21]),([4],[7,8,9,10,11,12,13,14,15,16,17,18,19,20,21]),([5],[14,15,16,17,18,19,20,21]),([6],[3,15,16,17,18,19,20,21]),([7],[3,4,9,10,11,13,14,15,16,17,18,19,20,21]),([8],[3,4,9,10,11,15,16,17,18,19,20,21]),([9],[3,4,7,8,12,13,14,15,16,17,18,19,20,21]),([10],[3,4,7,8,13,14,15,16,17,18,19,20,21]),([11],[3,4,7,8,15,16,17,18,19,20,21]),([12],[3,4,9,18,19,20,21]),([13],[3,4,7,9,10,18,19,20,21]),([14],[3,4,5,7,9,10]),([15],[3,4,5,6,7,8,9,10,11,18,19,20,21]),([16],[3,4,5,6,7,8,9,10,11]),([17],[3,4,5,6,7,8,9,10,11]),([18],[3,4,5,6,7,8,9,10,11,12,13,15,21]),([19],[3,4,5,6,7,8,9,10,11,12,13,15]),([20],[3,4,5,6,7,8,9,10,11,12,13,15]),([21],[3,4,5,6,7,8,9,10,11,12,13,15,18])]
theorem Jh4(fn:FuncId)(caps:List AV)(hc:Caps caps)(xs ys:List Res)(hp:∀x∈xs,∀y,CallR prog fn (.agg [.int .i64 x.kind,.str x.name,.int .i64 x.ver,.int .i64 x.port,.str x.to',.slice false (Ja x.rules'),.slice false (Ja x.hosts)] :: .agg [.int .i64 y.kind,.str y.name,.int .i64 y.ver,.int .i64 y.port,.str y.to',.slice false (Ja y.rules'),.slice false (Ja y.hosts)] :: caps) (.val (.bool (decide (x=y)))))(hl:Jc xs.length):CallR prog 106 [.slice false (Ja xs),.slice false (Ja ys),.clo (.func fn) [] caps] (.val (.bool (decide (xs=ys)))):=by
 have hca:=hc.args
 have hcp:=hc.pure
 have hcn:=hc.nrm
 refine Vs call106 func106 rfl ntmps106 results106 fun ts hn h0 h1 h2=>?_
 by_cases hll:xs.length=ys.length
 ·(repeat' (first
 | (with_reducible first|assumption|(refine Qw hK _ ?_;clear hK K)|refine Qw ‹_› _ ?_|refine Qx ‹_› ?_|refine Qi fun K hK=>?_|refine Qj T fun K hK=>?_|refine Ql fun A B hA hB=>?_|refine Qm ?_|refine Qn ?_|refine Qp ?_|refine Qr ?_)
 |(with_reducible first|apply Qy|apply Qz|apply QA)<;>intro hb<;>try simp only[nr] at hb
 |simp only[go_sem,↓reduceIte,Qa,Qh,Qb,Qc,Qd,Qe,Qf,Qg,reduceCtorEq, *,-hp]
 |intro(bn:Bool) hbn))
  refine Qs [1,2,15,16] (fun m ts'=>∃(i:Nat),m=xs.length-i∧i≤xs.length∧xs.take i=ys.take i∧ts'.tmp 17=.int .i64 i) xs.length ?_ ?_
  ·refine⟨0,?_⟩
   simp only[go_sem,↓reduceIte,Qa,Qh,Qb,Qc,Qd,Qe,Qf,Qg,reduceCtorEq, *,-hp]
  ·rintro m A hM ts' hk ⟨i,hm,f1,f2,s1⟩
   simp only[go_sem,↓reduceIte,Qa,Qh,Qb,Qc,Qd,Qe,Qf,Qg,reduceCtorEq, *] at hk
   by_cases hlt:i<xs.length
   ·have hlu:i<ys.length:=by omega
    have hne:=ZW hlt hlu
    have hpi:=hp _ (QC hlt) ys[i]
    (repeat' (first
 | (with_reducible first|refine callX.by (hpi) ?_|assumption|(refine Qw hK _ ?_;clear hK K)|refine Qw ‹_› _ ?_|refine Qx ‹_› ?_|refine Qi fun K hK=>?_|refine Qj T fun K hK=>?_|refine Ql fun A B hA hB=>?_|refine Qm ?_|refine Qn ?_|refine Qp ?_|refine Qr ?_)
 |(with_reducible first|apply Qy|apply Qz|apply QA)<;>intro hb<;>try simp only[nr] at hb
 |simp only[go_sem,↓reduceIte,Qa,Qh,Qb,Qc,Qd,Qe,Qf,Qg,reduceCtorEq, *,-hp,-hpi]
 |intro(bn:Bool) hbn))
    all_goals ((repeat clear hK);(repeat clear hA);(repeat clear hB))
    all_goals first
     | (refine hM.on (xs.length-(i+1)) (by omega) (by simp only[go_sem,↓reduceIte,Qa,Qh,Qb,Qc,Qd,Qe,Qf,Qg,reduceCtorEq, *,Jg hlt hl,-hp,-hpi]) ⟨i+1,rfl,by omega,ZV f2 hlt hlu (of_decide_eq_true hb),?_⟩;simp only[go_sem,↓reduceIte,Qa,Qh,Qb,Qc,Qd,Qe,Qf,Qg,reduceCtorEq, *,Jg hlt hl,-hp,-hpi];done)
     | (clear hM hp hpi;grind)
   ·have:=ZU f2 hlt hll
    (repeat' (first
 | (with_reducible first|assumption|(refine Qw hK _ ?_;clear hK K)|refine Qw ‹_› _ ?_|refine Qx ‹_› ?_|refine Qi fun K hK=>?_|refine Qj T fun K hK=>?_|refine Ql fun A B hA hB=>?_|refine Qm ?_|refine Qn ?_|refine Qp ?_|refine Qr ?_)
 |(with_reducible first|apply Qy|apply Qz|apply QA)<;>intro hb<;>try simp only[nr] at hb
 |simp only[go_sem,↓reduceIte,Qa,Qh,Qb,Qc,Qd,Qe,Qf,Qg,reduceCtorEq, *,-hp]
 |intro(bn:Bool) hbn))
    all_goals ((repeat clear hK);(repeat clear hA);(repeat clear hB))
    all_goals (clear hM hp;grind)
 ·have:¬xs=ys:=by rintro rfl;exact hll rfl
  (repeat' (first
 | (with_reducible first|assumption|(refine Qw hK _ ?_;clear hK K)|refine Qw ‹_› _ ?_|refine Qx ‹_› ?_|refine Qi fun K hK=>?_|refine Qj T fun K hK=>?_|refine Ql fun A B hA hB=>?_|refine Qm ?_|refine Qn ?_|refine Qp ?_|refine Qr ?_)
 |(with_reducible first|apply Qy|apply Qz|apply QA)<;>intro hb<;>try simp only[nr] at hb
 |simp only[go_sem,↓reduceIte,Qa,Qh,Qb,Qc,Qd,Qe,Qf,Qg,reduceCtorEq, *,-hp]
 |intro(bn:Bool) hbn))
  all_goals ((repeat clear hK);(repeat clear hA);(repeat clear hB))
  all_goals (clear hp;grind)
theorem JgZ(xs ys:List Res)(hl:Jc xs.length)(hs:∀x∈xs,Jy x):CallR prog 76 [.slice false (Ja xs),.slice false (Ja ys)] (.val (.bool (decide (xs=ys)))):=by
 have w1:=Jh4 107 [] Caps.nil xs ys (fun x hx y=>Jj9 x.kind x.name x.ver x.port x.to' x.rules' x.hosts y.kind y.name y.ver y.port y.to' y.rules' y.hosts (hs x hx).2.2.2.2 (hs x hx).2.2.1 (hs x hx).2.2.2.1) hl
 refine Jn call76 func76 rfl ntmps76 results76 fun ts hn h0 h1=>?_
 (repeat' (first
 | (with_reducible first|refine callX.by (w1) ?_|assumption|(refine Qw hK _ ?_;clear hK K)|refine Qw ‹_› _ ?_|refine Qx ‹_› ?_|refine Qi fun K hK=>?_|refine Qj T fun K hK=>?_|refine Ql fun A B hA hB=>?_|refine Qn ?_|refine Qr ?_)
 |(with_reducible first|apply Qy|apply Qz|apply QA)<;>intro hb<;>try simp only[nr] at hb
 |simp only[go_sem,↓reduceIte,Qa,Qh,Qb,Qc,Qd,Qe,Qf,Qg,reduceCtorEq, *,-hs,-w1]
 |intro(bn:Bool) hbn))
theorem Jf6(n:Int):CallR prog 71 [.int .i64 n] (.val (.agg [.int .i64 (VT n),.slice false [],.bool false,.slice false []])):=by
 have w0:=Jf3 n
 refine Jl call71 func71 rfl ntmps71 results71 fun ts hn h0=>?_
 (repeat' (first
 | (with_reducible first|refine callX.by (w0) ?_|assumption|(refine Qw hK _ ?_;clear hK K)|refine Qw ‹_› _ ?_|refine Qx ‹_› ?_|refine Qi fun K hK=>?_|refine Qj T fun K hK=>?_|refine Ql fun A B hA hB=>?_|refine Qn ?_|refine Qr ?_)
 |(with_reducible first|apply Qy|apply Qz|apply QA)<;>intro hb<;>try simp only[nr] at hb
 |simp only[go_sem,↓reduceIte,Qa,Qh,Qb,Qc,Qd,Qe,Qf,Qg,reduceCtorEq, *,-w0]
 |intro(bn:Bool) hbn))
def VF(w:Warm):Bool:=Yd w.c && decide (w.shown=VP w.c) && (w.ready || decide (w.shown=[]))
theorem Jdr(Lv:Int)(w_c_l:List Res)(Lw:Bool)(w_shown:List Res)(hl:w_c_l.length≤65536)(hs:∀r∈w_c_l,Jy r)(hl2:Jc w_shown.length)(hs2:∀r∈w_shown,Jy r):CallR prog 36 [.agg [.int .i64 Lv,.slice false (Ja w_c_l),.bool Lw,.slice false (Ja w_shown)]] (.val (.bool (VF (⟨⟨Lv,w_c_l⟩,Lw,w_shown⟩:Warm)))):=by
 have w1:=JeX Lv w_c_l hl hs
 have w2:=(Jkh Lv w_c_l hl hs).frz
 have w3:=JgZ w_shown (VP ⟨Lv,w_c_l⟩) hl2 hs2
 have hlen:decide ((w_shown.length:Int)=0)=decide (w_shown=[]):=by
  rw[Bool.eq_iff_iff];simp
 unfold VF
 simp only
 generalize VP ⟨Lv,w_c_l⟩=sh at *
 cases hb0:Yd ⟨Lv,w_c_l⟩
 ·rw[hb0] at w1
  refine Jl call36 func36 rfl ntmps36 results36 fun ts hn h0=>?_
  (repeat' (first
 | (with_reducible first|refine callX.by (w1) ?_|assumption|(refine Qw hK _ ?_;clear hK K)|refine Qw ‹_› _ ?_|refine Qx ‹_› ?_|refine Qi fun K hK=>?_|refine Qj T fun K hK=>?_|refine Qk (id:=1) T mixed JdN (by kernel_rfl) fun K hK=>?_|refine Ql fun A B hA hB=>?_|refine Qn ?_|refine Qr ?_)
 |(with_reducible first|apply Qy|apply Qz|apply QA)<;>intro hb<;>try simp only[nr] at hb
 |simp only[go_sem,↓reduceIte,Qa,Qh,Qb,Qc,Qd,Qe,Qf,Qg,reduceCtorEq, *,-hs,-hs2,-w1,-w2,-w3]
 |intro(bn:Bool) hbn))
 ·rw[hb0] at w1
  by_cases hsh:w_shown=sh
  ·rw[decide_eq_true hsh] at w3
   cases Lw
   ·refine Jl call36 func36 rfl ntmps36 results36 fun ts hn h0=>?_
    (repeat' (first
 | (with_reducible first|refine callX.by (w1) ?_|refine callX.by (w2) ?_|refine callX.by (w3) ?_|assumption|(refine Qw hK _ ?_;clear hK K)|refine Qw ‹_› _ ?_|refine Qx ‹_› ?_|refine Qi fun K hK=>?_|refine Qj T fun K hK=>?_|refine Qk (id:=1) T mixed JdN (by kernel_rfl) fun K hK=>?_|refine Ql fun A B hA hB=>?_|refine Qn ?_|refine Qr ?_)
 |(with_reducible first|apply Qy|apply Qz|apply QA)<;>intro hb<;>try simp only[nr] at hb
 |simp only[go_sem,↓reduceIte,Qa,Qh,Qb,Qc,Qd,Qe,Qf,Qg,reduceCtorEq, *,-hs,-hs2,-w1,-w2,-w3,-hsh]
 |intro(bn:Bool) hbn))
    all_goals simp_all
   ·refine Jl call36 func36 rfl ntmps36 results36 fun ts hn h0=>?_
    (repeat' (first
 | (with_reducible first|refine callX.by (w1) ?_|refine callX.by (w2) ?_|refine callX.by (w3) ?_|assumption|(refine Qw hK _ ?_;clear hK K)|refine Qw ‹_› _ ?_|refine Qx ‹_› ?_|refine Qi fun K hK=>?_|refine Qj T fun K hK=>?_|refine Qk (id:=1) T mixed JdN (by kernel_rfl) fun K hK=>?_|refine Ql fun A B hA hB=>?_|refine Qn ?_|refine Qr ?_)
 |(with_reducible first|apply Qy|apply Qz|apply QA)<;>intro hb<;>try simp only[nr] at hb
 |simp only[go_sem,↓reduceIte,Qa,Qh,Qb,Qc,Qd,Qe,Qf,Qg,reduceCtorEq, *,-hs,-hs2,-w1,-w2,-w3,-hsh]
 |intro(bn:Bool) hbn))
    all_goals simp_all
  ·rw[decide_eq_false hsh] at w3
   refine Jl call36 func36 rfl ntmps36 results36 fun ts hn h0=>?_
   (repeat' (first
 | (with_reducible first|refine callX.by (w1) ?_|refine callX.by (w2) ?_|refine callX.by (w3) ?_|assumption|(refine Qw hK _ ?_;clear hK K)|refine Qw ‹_› _ ?_|refine Qx ‹_› ?_|refine Qi fun K hK=>?_|refine Qj T fun K hK=>?_|refine Qk (id:=1) T mixed JdN (by kernel_rfl) fun K hK=>?_|refine Ql fun A B hA hB=>?_|refine Qn ?_|refine Qr ?_)
 |(with_reducible first|apply Qy|apply Qz|apply QA)<;>intro hb<;>try simp only[nr] at hb
 |simp only[go_sem,↓reduceIte,Qa,Qh,Qb,Qc,Qd,Qe,Qf,Qg,reduceCtorEq, *,-hs,-hs2,-w1,-w2,-w3,-hsh]
 |intro(bn:Bool) hbn))
   all_goals simp_all
def Yy(w:Warm):Warm:=if VF w=true then w else ⟨⟨VT w.c.cap,[]⟩,false,[]⟩
theorem Jqx(Lv:Int)(w_c_l:List Res)(Lw:Bool)(w_shown:List Res)(hl:w_c_l.length≤65536)(hs:∀r∈w_c_l,Jy r)(hl2:Jc w_shown.length)(hs2:∀r∈w_shown,Jy r):CallR prog 133 [.agg [.int .i64 Lv,.slice false (Ja w_c_l),.bool Lw,.slice false (Ja w_shown)]] (.val (.agg [.int .i64 (Yy (⟨⟨Lv,w_c_l⟩,Lw,w_shown⟩:Warm)).c.cap,.slice false (Ja (Yy (⟨⟨Lv,w_c_l⟩,Lw,w_shown⟩:Warm)).c.l),.bool (Yy (⟨⟨Lv,w_c_l⟩,Lw,w_shown⟩:Warm)).ready,.slice false (Ja (Yy (⟨⟨Lv,w_c_l⟩,Lw,w_shown⟩:Warm)).shown)])):=by
 have w1:=Jdr Lv w_c_l Lw w_shown hl hs hl2 hs2
 unfold Yy
 cases hb0:VF (⟨⟨Lv,w_c_l⟩,Lw,w_shown⟩:Warm)
 ·rw[hb0] at w1
  refine Jl call133 func133 rfl ntmps133 results133 fun ts hn h0=>?_
  (repeat' (first
 | (with_reducible first|refine callX.by (w1) ?_|refine callX.by (Jdr _ _ _ _ ?_ ?_ ?_ ?_) ?_|refine callX.by (Jf6 _) ?_|assumption|(refine Qw hK _ ?_;clear hK K)|refine Qw ‹_› _ ?_|refine Qx ‹_› ?_|refine Qi fun K hK=>?_|refine Qj T fun K hK=>?_|refine Ql fun A B hA hB=>?_|refine Qn ?_|refine Qr ?_)
 |(with_reducible first|apply Qy|apply Qz|apply QA)<;>intro hb<;>try simp only[nr] at hb
 |simp only[go_sem,↓reduceIte,Qa,Qh,Qb,Qc,Qd,Qe,Qf,Qg,reduceCtorEq, *,-hs,-hs2,-w1]
 |intro(bn:Bool) hbn))
  all_goals rfl
 ·rw[hb0] at w1
  refine Jl call133 func133 rfl ntmps133 results133 fun ts hn h0=>?_
  (repeat' (first
 | (with_reducible first|refine callX.by (w1) ?_|refine callX.by (Jdr _ _ _ _ ?_ ?_ ?_ ?_) ?_|refine callX.by (Jf6 _) ?_|assumption|(refine Qw hK _ ?_;clear hK K)|refine Qw ‹_› _ ?_|refine Qx ‹_› ?_|refine Qi fun K hK=>?_|refine Qj T fun K hK=>?_|refine Ql fun A B hA hB=>?_|refine Qn ?_|refine Qr ?_)
 |(with_reducible first|apply Qy|apply Qz|apply QA)<;>intro hb<;>try simp only[nr] at hb
 |simp only[go_sem,↓reduceIte,Qa,Qh,Qb,Qc,Qd,Qe,Qf,Qg,reduceCtorEq, *,-hs,-hs2,-w1]
 |intro(bn:Bool) hbn))
  all_goals trace_state
theorem Joh(fn:FuncId)(caps:List AV)(hc:Caps caps)(p:Mark→Bool)(xs:List Mark)(hp:∀x∈xs,CallR prog fn (.agg [.int .i64 x.k.kind,.str x.k.name,.int .i64 x.ver] :: caps) (.val (.bool (p x))))(hl:Jc xs.length):CallR prog 188 [.slice false (Ja xs),.clo (.func fn) [] caps] (.val (.int .i64 (JC p xs 0))):=by
 have hca:=hc.args
 have hcp:=hc.pure
 have hcn:=hc.nrm
 refine Jn call188 func188 rfl ntmps188 results188 fun ts hn h0 h1=>?_
 (repeat' (first
 | (with_reducible first|assumption|(refine Qw hK _ ?_;clear hK K)|refine Qw ‹_› _ ?_|refine Qx ‹_› ?_|refine Qi fun K hK=>?_|refine Qj T fun K hK=>?_|refine Ql fun A B hA hB=>?_|refine Qm ?_|refine Qn ?_|refine Qp ?_|refine Qr ?_)
 |(with_reducible first|apply Qy|apply Qz|apply QA)<;>intro hb<;>try simp only[nr] at hb
 |simp only[go_sem,↓reduceIte,Qa,Qh,Qb,Qc,Qd,Qe,Qf,Qg,reduceCtorEq, *,-hp]
 |intro(bn:Bool) hbn))
 refine Qs [0,1,7] (fun m ts'=>∃(i:Nat),m=xs.length-i∧i≤xs.length∧JC p xs 0=JC p (xs.drop i) i∧ts'.tmp 8=.int .i64 i) xs.length ?_ ?_
 ·refine⟨0,?_⟩
  simp only[go_sem,↓reduceIte,Qa,Qh,Qb,Qc,Qd,Qe,Qf,Qg,reduceCtorEq, *,-hp]
 ·rintro m A hM ts' hk ⟨i,hm,f1,f2,s1⟩
  simp only[go_sem,↓reduceIte,Qa,Qh,Qb,Qc,Qd,Qe,Qf,Qg,reduceCtorEq, *] at hk
  by_cases hlt:i<xs.length
  ·rw[List.drop_eq_getElem_cons hlt,JC] at f2
   have hpi:=hp _ (QC hlt)
   (repeat' (first
 | (with_reducible first|refine callX.by (hpi) ?_|assumption|(refine Qw hK _ ?_;clear hK K)|refine Qw ‹_› _ ?_|refine Qx ‹_› ?_|refine Qi fun K hK=>?_|refine Qj T fun K hK=>?_|refine Ql fun A B hA hB=>?_|refine Qm ?_|refine Qn ?_|refine Qp ?_|refine Qr ?_)
 |(with_reducible first|apply Qy|apply Qz|apply QA)<;>intro hb<;>try simp only[nr] at hb
 |simp only[go_sem,↓reduceIte,Qa,Qh,Qb,Qc,Qd,Qe,Qf,Qg,reduceCtorEq, *,-hp,-hpi]
 |intro(bn:Bool) hbn))
   all_goals ((repeat clear hK);(repeat clear hA);(repeat clear hB))
   rw[if_neg (by simp[hb])] at f2
   (refine hM.on (xs.length-(i+1)) (by omega) (by simp only[go_sem,↓reduceIte,Qa,Qh,Qb,Qc,Qd,Qe,Qf,Qg,reduceCtorEq, *,Jg hlt hl,-f2,-hp,-hpi]) ⟨i+1,rfl,by omega,f2,?_⟩;simp only[go_sem,↓reduceIte,Qa,Qh,Qb,Qc,Qd,Qe,Qf,Qg,reduceCtorEq, *,Jg hlt hl,-f2,-hp,-hpi];done)
  ·rw[List.drop_eq_nil_of_le (by omega),JC] at f2
   (repeat' (first
 | (with_reducible first|assumption|(refine Qw hK _ ?_;clear hK K)|refine Qw ‹_› _ ?_|refine Qx ‹_› ?_|refine Qi fun K hK=>?_|refine Qj T fun K hK=>?_|refine Ql fun A B hA hB=>?_|refine Qm ?_|refine Qn ?_|refine Qp ?_|refine Qr ?_)
 |(with_reducible first|apply Qy|apply Qz|apply QA)<;>intro hb<;>try simp only[nr] at hb
 |simp only[go_sem,↓reduceIte,Qa,Qh,Qb,Qc,Qd,Qe,Qf,Qg,reduceCtorEq, *,-hp]
 |intro(bn:Bool) hbn))
theorem Jd0(fn:FuncId)(caps:List AV)(hc:Caps caps)(p:Mark→Bool)(xs:List Mark)(hp:∀x∈xs,CallR prog fn (.agg [.int .i64 x.k.kind,.str x.k.name,.int .i64 x.ver] :: caps) (.val (.bool (p x))))(hl:Jc xs.length):CallR prog 150 [.slice false (Ja xs),.clo (.func fn) [] caps] (.val (.bool (xs.any p))):=by
 have hca:=hc.args
 have hcp:=hc.pure
 have hcn:=hc.nrm
 have hi:=Joh fn caps hc p xs hp hl
 have ha:=Jbh p xs
 refine Jn call150 func150 rfl ntmps150 results150 fun ts hn h0 h1=>?_
 (repeat' (first
 | (with_reducible first|refine callX.by (hi) ?_|assumption|(refine Qw hK _ ?_;clear hK K)|refine Qw ‹_› _ ?_|refine Qx ‹_› ?_|refine Qi fun K hK=>?_|refine Qj T fun K hK=>?_|refine Ql fun A B hA hB=>?_|refine Qn ?_|refine Qr ?_)
 |(with_reducible first|apply Qy|apply Qz|apply QA)<;>intro hb<;>try simp only[nr] at hb
 |simp only[go_sem,↓reduceIte,Qa,Qh,Qb,Qc,Qd,Qe,Qf,Qg,reduceCtorEq, *,-hp,-hi]
 |intro(bn:Bool) hbn))
theorem Jof(fn:FuncId)(caps:List AV)(hc:Caps caps)(p:Int→Bool)(xs:List Int)(hp:∀x∈xs,CallR prog fn (.int .i64 x :: caps) (.val (.bool (p x))))(hl:Jc xs.length):CallR prog 73 [.slice false (Ja xs),.clo (.func fn) [] caps] (.val (.int .i64 (JC p xs 0))):=by
 have hca:=hc.args
 have hcp:=hc.pure
 have hcn:=hc.nrm
 refine Jn call73 func73 rfl ntmps73 results73 fun ts hn h0 h1=>?_
 (repeat' (first
 | (with_reducible first|assumption|(refine Qw hK _ ?_;clear hK K)|refine Qw ‹_› _ ?_|refine Qx ‹_› ?_|refine Qi fun K hK=>?_|refine Qj T fun K hK=>?_|refine Ql fun A B hA hB=>?_|refine Qm ?_|refine Qn ?_|refine Qp ?_|refine Qr ?_)
 |(with_reducible first|apply Qy|apply Qz|apply QA)<;>intro hb<;>try simp only[nr] at hb
 |simp only[go_sem,↓reduceIte,Qa,Qh,Qb,Qc,Qd,Qe,Qf,Qg,reduceCtorEq, *,-hp]
 |intro(bn:Bool) hbn))
 refine Qs [0,1,7] (fun m ts'=>∃(i:Nat),m=xs.length-i∧i≤xs.length∧JC p xs 0=JC p (xs.drop i) i∧ts'.tmp 8=.int .i64 i) xs.length ?_ ?_
 ·refine⟨0,?_⟩
  simp only[go_sem,↓reduceIte,Qa,Qh,Qb,Qc,Qd,Qe,Qf,Qg,reduceCtorEq, *,-hp]
 ·rintro m A hM ts' hk ⟨i,hm,f1,f2,s1⟩
  simp only[go_sem,↓reduceIte,Qa,Qh,Qb,Qc,Qd,Qe,Qf,Qg,reduceCtorEq, *] at hk
  by_cases hlt:i<xs.length
  ·rw[List.drop_eq_getElem_cons hlt,JC] at f2
   have hpi:=hp _ (QC hlt)
   (repeat' (first
 | (with_reducible first|refine callX.by (hpi) ?_|assumption|(refine Qw hK _ ?_;clear hK K)|refine Qw ‹_› _ ?_|refine Qx ‹_› ?_|refine Qi fun K hK=>?_|refine Qj T fun K hK=>?_|refine Ql fun A B hA hB=>?_|refine Qm ?_|refine Qn ?_|refine Qp ?_|refine Qr ?_)
 |(with_reducible first|apply Qy|apply Qz|apply QA)<;>intro hb<;>try simp only[nr] at hb
 |simp only[go_sem,↓reduceIte,Qa,Qh,Qb,Qc,Qd,Qe,Qf,Qg,reduceCtorEq, *,-hp,-hpi]
 |intro(bn:Bool) hbn))
   all_goals ((repeat clear hK);(repeat clear hA);(repeat clear hB))
   rw[if_neg (by simp[hb])] at f2
   (refine hM.on (xs.length-(i+1)) (by omega) (by simp only[go_sem,↓reduceIte,Qa,Qh,Qb,Qc,Qd,Qe,Qf,Qg,reduceCtorEq, *,Jg hlt hl,-f2,-hp,-hpi]) ⟨i+1,rfl,by omega,f2,?_⟩;simp only[go_sem,↓reduceIte,Qa,Qh,Qb,Qc,Qd,Qe,Qf,Qg,reduceCtorEq, *,Jg hlt hl,-f2,-hp,-hpi];done)
  ·rw[List.drop_eq_nil_of_le (by omega),JC] at f2
   (repeat' (first
 | (with_reducible first|assumption|(refine Qw hK _ ?_;clear hK K)|refine Qw ‹_› _ ?_|refine Qx ‹_› ?_|refine Qi fun K hK=>?_|refine Qj T fun K hK=>?_|refine Ql fun A B hA hB=>?_|refine Qm ?_|refine Qn ?_|refine Qp ?_|refine Qr ?_)
 |(with_reducible first|apply Qy|apply Qz|apply QA)<;>intro hb<;>try simp only[nr] at hb
 |simp only[go_sem,↓reduceIte,Qa,Qh,Qb,Qc,Qd,Qe,Qf,Qg,reduceCtorEq, *,-hp]
 |intro(bn:Bool) hbn))
theorem JhP(fn:FuncId)(caps:List AV)(hc:Caps caps)(p:Int→Bool)(xs:List Int)(hp:∀x∈xs,CallR prog fn (.int .i64 x :: caps) (.val (.bool (p x))))(hl:Jc xs.length):CallR prog 33 [.slice false (Ja xs),.clo (.func fn) [] caps] (.val (.bool (xs.any p))):=by
 have hca:=hc.args
 have hcp:=hc.pure
 have hcn:=hc.nrm
 have hi:=Jof fn caps hc p xs hp hl
 have ha:=Jbh p xs
 refine Jn call33 func33 rfl ntmps33 results33 fun ts hn h0 h1=>?_
 (repeat' (first
 | (with_reducible first|refine callX.by (hi) ?_|assumption|(refine Qw hK _ ?_;clear hK K)|refine Qw ‹_› _ ?_|refine Qx ‹_› ?_|refine Qi fun K hK=>?_|refine Qj T fun K hK=>?_|refine Ql fun A B hA hB=>?_|refine Qn ?_|refine Qr ?_)
 |(with_reducible first|apply Qy|apply Qz|apply QA)<;>intro hb<;>try simp only[nr] at hb
 |simp only[go_sem,↓reduceIte,Qa,Qh,Qb,Qc,Qd,Qe,Qf,Qg,reduceCtorEq, *,-hp,-hi]
 |intro(bn:Bool) hbn))
@[go_sem] theorem JvX:Tryz.prog.eqGuardType Tryz.prog.depth 145=false:=by kernel_rfl
@[go_sem] theorem JFd:Tryz.prog.stoodInHeld 145=false:=by kernel_rfl
theorem Ja6(xs ys:List Key)(hl:Jc xs.length):CallR prog 130 [.slice false (Ja xs),.slice false (Ja ys)] (.val (.bool (decide (xs=ys)))):=by
 refine Jn call130 func130 rfl ntmps130 results130 fun ts hn h0 h1=>?_
 by_cases hll:xs.length=ys.length
 ·(repeat' (first
 | (with_reducible first|assumption|(refine Qw hK _ ?_;clear hK K)|refine Qw ‹_› _ ?_|refine Qx ‹_› ?_|refine Qi fun K hK=>?_|refine Qj T fun K hK=>?_|refine Qk (id:=6) T mixed Yg (by kernel_rfl) fun K hK=>?_|refine Ql fun A B hA hB=>?_|refine Qm ?_|refine Qn ?_|refine Qp ?_|refine Qr ?_)
 |(with_reducible first|apply Qy|apply Qz|apply QA)<;>intro hb<;>try simp only[nr] at hb
 |simp only[go_sem,↓reduceIte,Qa,Qh,Qb,Qc,Qd,Qe,Qf,Qg,reduceCtorEq, *]
 |intro(bn:Bool) hbn))
  refine Qs [0,1,12] (fun m ts'=>∃(i:Nat),m=xs.length-i∧i≤xs.length∧xs.take i=ys.take i∧ts'.tmp 13=.int .i64 i) xs.length ?_ ?_
  ·refine⟨0,?_⟩
   simp only[go_sem,↓reduceIte,Qa,Qh,Qb,Qc,Qd,Qe,Qf,Qg,reduceCtorEq, *]
  ·rintro m A hM ts' hk ⟨i,hm,f1,f2,s1⟩
   simp only[go_sem,↓reduceIte,Qa,Qh,Qb,Qc,Qd,Qe,Qf,Qg,reduceCtorEq, *] at hk
   by_cases hlt:i<xs.length
   ·have hlu:i<ys.length:=by omega
    have hne:=ZW hlt hlu
    rw[Jaw] at hne
    (repeat' (first
 | (with_reducible first|assumption|(refine Qw hK _ ?_;clear hK K)|refine Qw ‹_› _ ?_|refine Qx ‹_› ?_|refine Qi fun K hK=>?_|refine Qj T fun K hK=>?_|refine Qk (id:=6) T mixed Yg (by kernel_rfl) fun K hK=>?_|refine Ql fun A B hA hB=>?_|refine Qm ?_|refine Qn ?_|refine Qp ?_|refine Qr ?_)
 |(with_reducible first|apply Qy|apply Qz|apply QA)<;>intro hb<;>try simp only[nr] at hb
 |simp only[go_sem,↓reduceIte,Qa,Qh,Qb,Qc,Qd,Qe,Qf,Qg,reduceCtorEq, *]
 |intro(bn:Bool) hbn))
    all_goals ((repeat clear hK);(repeat clear hA);(repeat clear hB))
    all_goals first
     | (refine hM.on (xs.length-(i+1)) (by omega) (by simp only[go_sem,↓reduceIte,Qa,Qh,Qb,Qc,Qd,Qe,Qf,Qg,reduceCtorEq, *,Jg hlt hl]) ⟨i+1,rfl,by omega,by clear hM;apply ZV f2 hlt hlu;rw[Jaw];grind,?_⟩;simp only[go_sem,↓reduceIte,Qa,Qh,Qb,Qc,Qd,Qe,Qf,Qg,reduceCtorEq, *,Jg hlt hl];done)
     | (clear hM;grind)
   ·have:=ZU f2 hlt hll
    (repeat' (first
 | (with_reducible first|assumption|(refine Qw hK _ ?_;clear hK K)|refine Qw ‹_› _ ?_|refine Qx ‹_› ?_|refine Qi fun K hK=>?_|refine Qj T fun K hK=>?_|refine Qk (id:=6) T mixed Yg (by kernel_rfl) fun K hK=>?_|refine Ql fun A B hA hB=>?_|refine Qm ?_|refine Qn ?_|refine Qp ?_|refine Qr ?_)
 |(with_reducible first|apply Qy|apply Qz|apply QA)<;>intro hb<;>try simp only[nr] at hb
 |simp only[go_sem,↓reduceIte,Qa,Qh,Qb,Qc,Qd,Qe,Qf,Qg,reduceCtorEq, *]
 |intro(bn:Bool) hbn))
    all_goals ((repeat clear hK);(repeat clear hA);(repeat clear hB))
    all_goals (clear hM;grind)
 ·have:¬xs=ys:=by rintro rfl;exact hll rfl
  (repeat' (first
 | (with_reducible first|assumption|(refine Qw hK _ ?_;clear hK K)|refine Qw ‹_› _ ?_|refine Qx ‹_› ?_|refine Qi fun K hK=>?_|refine Qj T fun K hK=>?_|refine Qk (id:=6) T mixed Yg (by kernel_rfl) fun K hK=>?_|refine Ql fun A B hA hB=>?_|refine Qm ?_|refine Qn ?_|refine Qp ?_|refine Qr ?_)
 |(with_reducible first|apply Qy|apply Qz|apply QA)<;>intro hb<;>try simp only[nr] at hb
 |simp only[go_sem,↓reduceIte,Qa,Qh,Qb,Qc,Qd,Qe,Qf,Qg,reduceCtorEq, *]
 |intro(bn:Bool) hbn))
  all_goals ((repeat clear hK);(repeat clear hA);(repeat clear hB))
  all_goals grind
theorem JnG(xs ys:List Mark)(hl:Jc xs.length):CallR prog 189 [.slice false (Ja xs),.slice false (Ja ys)] (.val (.bool (decide (xs=ys)))):=by
 refine Jn call189 func189 rfl ntmps189 results189 fun ts hn h0 h1=>?_
 by_cases hll:xs.length=ys.length
 ·(repeat' (first
 | (with_reducible first|assumption|(refine Qw hK _ ?_;clear hK K)|refine Qw ‹_› _ ?_|refine Qx ‹_› ?_|refine Qi fun K hK=>?_|refine Qj T fun K hK=>?_|refine Qk (id:=6) T mixed Yg (by kernel_rfl) fun K hK=>?_|refine Ql fun A B hA hB=>?_|refine Qm ?_|refine Qn ?_|refine Qp ?_|refine Qr ?_)
 |(with_reducible first|apply Qy|apply Qz|apply QA)<;>intro hb<;>try simp only[nr] at hb
 |simp only[go_sem,↓reduceIte,Qa,Qh,Qb,Qc,Qd,Qe,Qf,Qg,reduceCtorEq, *]
 |intro(bn:Bool) hbn))
  refine Qs [0,1,12] (fun m ts'=>∃(i:Nat),m=xs.length-i∧i≤xs.length∧xs.take i=ys.take i∧ts'.tmp 13=.int .i64 i) xs.length ?_ ?_
  ·refine⟨0,?_⟩
   simp only[go_sem,↓reduceIte,Qa,Qh,Qb,Qc,Qd,Qe,Qf,Qg,reduceCtorEq, *]
  ·rintro m A hM ts' hk ⟨i,hm,f1,f2,s1⟩
   simp only[go_sem,↓reduceIte,Qa,Qh,Qb,Qc,Qd,Qe,Qf,Qg,reduceCtorEq, *] at hk
   by_cases hlt:i<xs.length
   ·have hlu:i<ys.length:=by omega
    have hne:=ZW hlt hlu
    rw[Jh6,Jaw] at hne
    (repeat' (first
 | (with_reducible first|assumption|(refine Qw hK _ ?_;clear hK K)|refine Qw ‹_› _ ?_|refine Qx ‹_› ?_|refine Qi fun K hK=>?_|refine Qj T fun K hK=>?_|refine Qk (id:=6) T mixed Yg (by kernel_rfl) fun K hK=>?_|refine Ql fun A B hA hB=>?_|refine Qm ?_|refine Qn ?_|refine Qp ?_|refine Qr ?_)
 |(with_reducible first|apply Qy|apply Qz|apply QA)<;>intro hb<;>try simp only[nr] at hb
 |simp only[go_sem,↓reduceIte,Qa,Qh,Qb,Qc,Qd,Qe,Qf,Qg,reduceCtorEq, *]
 |intro(bn:Bool) hbn))
    all_goals ((repeat clear hK);(repeat clear hA);(repeat clear hB))
    all_goals first
     | (refine hM.on (xs.length-(i+1)) (by omega) (by simp only[go_sem,↓reduceIte,Qa,Qh,Qb,Qc,Qd,Qe,Qf,Qg,reduceCtorEq, *,Jg hlt hl]) ⟨i+1,rfl,by omega,by clear hM;apply ZV f2 hlt hlu;rw[Jh6,Jaw];grind,?_⟩;simp only[go_sem,↓reduceIte,Qa,Qh,Qb,Qc,Qd,Qe,Qf,Qg,reduceCtorEq, *,Jg hlt hl];done)
     | (clear hM;grind)
   ·have:=ZU f2 hlt hll
    (repeat' (first
 | (with_reducible first|assumption|(refine Qw hK _ ?_;clear hK K)|refine Qw ‹_› _ ?_|refine Qx ‹_› ?_|refine Qi fun K hK=>?_|refine Qj T fun K hK=>?_|refine Qk (id:=6) T mixed Yg (by kernel_rfl) fun K hK=>?_|refine Ql fun A B hA hB=>?_|refine Qm ?_|refine Qn ?_|refine Qp ?_|refine Qr ?_)
 |(with_reducible first|apply Qy|apply Qz|apply QA)<;>intro hb<;>try simp only[nr] at hb
 |simp only[go_sem,↓reduceIte,Qa,Qh,Qb,Qc,Qd,Qe,Qf,Qg,reduceCtorEq, *]
 |intro(bn:Bool) hbn))
    all_goals ((repeat clear hK);(repeat clear hA);(repeat clear hB))
    all_goals (clear hM;grind)
 ·have:¬xs=ys:=by rintro rfl;exact hll rfl
  (repeat' (first
 | (with_reducible first|assumption|(refine Qw hK _ ?_;clear hK K)|refine Qw ‹_› _ ?_|refine Qx ‹_› ?_|refine Qi fun K hK=>?_|refine Qj T fun K hK=>?_|refine Qk (id:=6) T mixed Yg (by kernel_rfl) fun K hK=>?_|refine Ql fun A B hA hB=>?_|refine Qm ?_|refine Qn ?_|refine Qp ?_|refine Qr ?_)
 |(with_reducible first|apply Qy|apply Qz|apply QA)<;>intro hb<;>try simp only[nr] at hb
 |simp only[go_sem,↓reduceIte,Qa,Qh,Qb,Qc,Qd,Qe,Qf,Qg,reduceCtorEq, *]
 |intro(bn:Bool) hbn))
  all_goals ((repeat clear hK);(repeat clear hA);(repeat clear hB))
  all_goals grind
end Go.Proofs.YthjalhfmpffbjaaGreatDoor.Lg
