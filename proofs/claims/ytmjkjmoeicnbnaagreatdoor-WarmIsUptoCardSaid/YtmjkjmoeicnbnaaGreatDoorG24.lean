/- Parts of the proof, one behind the other. -/
import Derived.Test.YtmjkjmoeicnbnaaGreatDoorG23
namespace Go.Proofs.YtmjkjmoeicnbnaaGreatDoor.Lg
set_option maxRecDepth 100000
set_option linter.unusedVariables false
set_option linter.unusedSimpArgs false
open Go
open Nat renaming reduceEqDiff → Qa, reduceLT → Qb, reduceLeDiff → Qc, reduceAdd → Qd, reduceMul → Qe, reduceSub → Qf, reduceBEq → Qg
open String renaming reduceEq → Qh
open SpecC renaming seqW → Qi, regW → Qj, drawW → Qk, condW → Ql, block → Qm, skip → Qn, exit → Qp, ret → Qr
open NxK renaming out → Qw
open Nx renaming out → Qx
open condK renaming split → Qy
open gK renaming split_t → Qz, split_f → QA
open CallR renaming go1 → QD
@[go_sem] def Wd21:List (List Nat×List Nat):=[([3],[6,7,8,9,10,11,12,13,14,15,16,17,18,19,20,21]),([4],[7,8,9,10,11,12,13,14,15,16,17,18,19,20,21]),([5],[14,15,16,17,18,19,20,21]),([6],[3,15,16,17,18,19,20,21]),([7],[3,4,9,10,11,13,14,15,16,17,18,19,20,21]),([8],[3,4,9,10,11,15,16,17,18,19,20,21]),([9],[3,4,7,8,12,13,14,15,16,17,18,19,20,21]),([10],[3,4,7,8,13,14,15,16,17,18,19,20,21]),([11],[3,4,7,8,15,16,17,18,19,20,21]),([12],[3,4,9,18,19,20,21]),([13],[3,4,7,9,10,18,19,20,21]),([14],[3,4,5,7,9,10]),([15],[3,4,5,6,7,8,9,10,11,18,19,20,21]),([16],[3,4,5,6,7,8,9,10,11]),([17],[3,4,5,6,7,8,9,10,11]),([18],[3,4,5,6,7,8,9,10,11,12,13,15,21]),([19],[3,4,5,6,7,8,9,10,11,12,13,15]),([20],[3,4,5,6,7,8,9,10,11,12,13,15]),([21],[3,4,5,6,7,8,9,10,11,12,13,15,18])]
theorem eqFRes_c (fn:FuncId) (caps:List AV) (hc:Caps caps) (xs ys:List Res) (hp:∀ x∈xs,∀ y,CallR Tryz.prog fn (.agg [.int .i64 x.kind,.str x.name,.int .i64 x.ver,.int .i64 x.port,.str x.to',.slice false (avs x.rules'),.slice false (avs x.hosts)] :: .agg [.int .i64 y.kind,.str y.name,.int .i64 y.ver,.int .i64 y.port,.str y.to',.slice false (avs y.rules'),.slice false (avs y.hosts)] :: caps) (.val (.bool (decide (x=y))))) (hl:Small xs.length):CallR Tryz.prog 126 [.slice false (avs xs),.slice false (avs ys),.clo (.func fn) [] caps] (.val (.bool (decide (xs=ys)))):=by
 have hca:=hc.args
 have hcp:=hc.pure
 have hcn:=hc.nrm
 refine CallR.go3 (T:=T) Tryz.call126 Tryz.func126 rfl Tryz.ntmps126 (congrArg Array.toList Tryz.results126) (by decide) fun ts hn h0 h1 h2=>?_
 by_cases hll:xs.length=ys.length
 ·(repeat' (first
 | (with_reducible first|assumption|(refine Qw hK _ ?_; clear hK K)|refine Qw ‹_› _ ?_|refine Qx ‹_› ?_|refine Qi fun K hK=>?_|refine Qj T fun K hK=>?_|refine Ql fun A B hA hB=>?_|refine Qm ?_|refine Qn ?_|refine Qp ?_|refine Qr ?_)
 | ((with_reducible first|apply Qy|apply Qz|apply QA)<;>intro hb<;>try simp only [nr] at hb)
 | simp only [go_sem,↓reduceIte,reduceIte,Qa,Qh,Qb,Qc,Qd,Qe,Qf,Qg,reduceCtorEq, *,-hp]
 | with_reducible refine fun (bn:Bool) hbn=>?_))
  refine SpecC.loopF [1,2,15,16] (fun m ts'=>∃ (i:Nat),m=xs.length - i∧i≤xs.length∧xs.take i=ys.take i∧ts'.tmp 17=.int .i64 i) xs.length ?_ ?_
  ·refine ⟨0,?_⟩
   simp only [go_sem,↓reduceIte,reduceIte,Qa,Qh,Qb,Qc,Qd,Qe,Qf,Qg,reduceCtorEq, *,-hp]
  ·rintro m A hM ts' hk ⟨i,hm,f1,f2,s1⟩
   simp only [go_sem,↓reduceIte,reduceIte,Qa,Qh,Qb,Qc,Qd,Qe,Qf,Qg,reduceCtorEq, *] at hk
   by_cases hlt:i < xs.length
   ·have hlu:i < ys.length:=by omega
    have hne:=take_ne hlt hlu
    have hpi:=hp _ (List.getElem_mem hlt) ys[i]
    (repeat' (first
 | (with_reducible first|refine callX.by (hpi) ?_|assumption|(refine Qw hK _ ?_; clear hK K)|refine Qw ‹_› _ ?_|refine Qx ‹_› ?_|refine Qi fun K hK=>?_|refine Qj T fun K hK=>?_|refine Ql fun A B hA hB=>?_|refine Qm ?_|refine Qn ?_|refine Qp ?_|refine Qr ?_)
 | ((with_reducible first|apply Qy|apply Qz|apply QA)<;>intro hb<;>try simp only [nr] at hb)
 | simp only [go_sem,↓reduceIte,reduceIte,Qa,Qh,Qb,Qc,Qd,Qe,Qf,Qg,reduceCtorEq, *,-hp,-hpi]
 | with_reducible refine fun (bn:Bool) hbn=>?_))
    all_goals ((repeat clear hK); (repeat clear hA); (repeat clear hB))
    all_goals first
     | (refine hM.on (xs.length - (i+1)) (by omega) (by simp only [go_sem,↓reduceIte,reduceIte,Qa,Qh,Qb,Qc,Qd,Qe,Qf,Qg,reduceCtorEq, *,w64_nat hlt hl,-hp,-hpi]) ⟨i+1,rfl,by omega,take_get f2 hlt hlu (of_decide_eq_true hb),?_⟩; simp only [go_sem,↓reduceIte,reduceIte,Qa,Qh,Qb,Qc,Qd,Qe,Qf,Qg,reduceCtorEq, *,w64_nat hlt hl,-hp,-hpi]; done)
     | (clear hM hp hpi; grind)
   ·have:=take_all f2 hlt hll
    (repeat' (first
 | (with_reducible first|assumption|(refine Qw hK _ ?_; clear hK K)|refine Qw ‹_› _ ?_|refine Qx ‹_› ?_|refine Qi fun K hK=>?_|refine Qj T fun K hK=>?_|refine Ql fun A B hA hB=>?_|refine Qm ?_|refine Qn ?_|refine Qp ?_|refine Qr ?_)
 | ((with_reducible first|apply Qy|apply Qz|apply QA)<;>intro hb<;>try simp only [nr] at hb)
 | simp only [go_sem,↓reduceIte,reduceIte,Qa,Qh,Qb,Qc,Qd,Qe,Qf,Qg,reduceCtorEq, *,-hp]
 | with_reducible refine fun (bn:Bool) hbn=>?_))
    all_goals ((repeat clear hK); (repeat clear hA); (repeat clear hB))
    all_goals (clear hM hp; grind)
 ·have:¬ xs=ys:=by rintro rfl; exact hll rfl
  (repeat' (first
 | (with_reducible first|assumption|(refine Qw hK _ ?_; clear hK K)|refine Qw ‹_› _ ?_|refine Qx ‹_› ?_|refine Qi fun K hK=>?_|refine Qj T fun K hK=>?_|refine Ql fun A B hA hB=>?_|refine Qm ?_|refine Qn ?_|refine Qp ?_|refine Qr ?_)
 | ((with_reducible first|apply Qy|apply Qz|apply QA)<;>intro hb<;>try simp only [nr] at hb)
 | simp only [go_sem,↓reduceIte,reduceIte,Qa,Qh,Qb,Qc,Qd,Qe,Qf,Qg,reduceCtorEq, *,-hp]
 | with_reducible refine fun (bn:Bool) hbn=>?_))
  all_goals ((repeat clear hK); (repeat clear hA); (repeat clear hB))
  all_goals (clear hp; grind)
theorem tsame_c (xs ys:List Res) (hl:Small xs.length) (hs:∀ x∈xs,SmRes x):CallR Tryz.prog 65 [.slice false (avs xs),.slice false (avs ys)] (.val (.bool (decide (xs=ys)))):=by
 have w1:=eqFRes_c 120 [] Caps.nil xs ys (fun x hx y=>sameP_c x.kind x.name x.ver x.port x.to' x.rules' x.hosts y.kind y.name y.ver y.port y.to' y.rules' y.hosts (hs x hx).2.2.2.2 (hs x hx).2.2.1 (hs x hx).2.2.2.1) hl
 refine CallR.go2 (T:=T) Tryz.call65 Tryz.func65 rfl Tryz.ntmps65 (congrArg Array.toList Tryz.results65) (by decide) fun ts hn h0 h1=>?_
 (repeat' (first
 | (with_reducible first|refine callX.by (w1) ?_|refine callX.by (eqFRes_c _ _ ?_ _ _ ?_ ?_) ?_|refine callX.by (sameP_c _ _ _ _ _ _ _ _ _ _ _ _ _ _ ?_ ?_ ?_) ?_|refine callX.by awqm ?_|assumption|(refine Qw hK _ ?_; clear hK K)|refine Qw ‹_› _ ?_|refine Qx ‹_› ?_|refine Qi fun K hK=>?_|refine Qj T fun K hK=>?_|refine Ql fun A B hA hB=>?_|refine Qn ?_|refine Qr ?_)
 | ((with_reducible first|apply Qy|apply Qz|apply QA)<;>intro hb<;>try simp only [nr] at hb)
 | simp only [go_sem,↓reduceIte,reduceIte,Qa,Qh,Qb,Qc,Qd,Qe,Qf,Qg,reduceCtorEq, *,-hs,-w1]
 | with_reducible refine fun (bn:Bool) hbn=>?_))
theorem newW_c (n:Int):CallR Tryz.prog 52 [.int .i64 n] (.val (.agg [.int .i64 (bnd n),.slice false [],.bool false,.slice false []])):=by
 have w0:=newC_c n
 refine QD (T:=T) Tryz.call52 Tryz.func52 rfl Tryz.ntmps52 (congrArg Array.toList Tryz.results52) (by decide) fun ts hn h0=>?_
 (repeat' (first
 | (with_reducible first|refine callX.by (w0) ?_|refine callX.by (newC_c _) ?_|assumption|(refine Qw hK _ ?_; clear hK K)|refine Qw ‹_› _ ?_|refine Qx ‹_› ?_|refine Qi fun K hK=>?_|refine Qj T fun K hK=>?_|refine Ql fun A B hA hB=>?_|refine Qn ?_|refine Qr ?_)
 | ((with_reducible first|apply Qy|apply Qz|apply QA)<;>intro hb<;>try simp only [nr] at hb)
 | simp only [go_sem,↓reduceIte,reduceIte,Qa,Qh,Qb,Qc,Qd,Qe,Qf,Qg,reduceCtorEq, *,-w0]
 | with_reducible refine fun (bn:Bool) hbn=>?_))
def saneW (w:Warm):Bool:=saneC w.c && decide (w.shown=shownC w.c) && (w.ready || decide (w.shown=[]))
theorem saneW_c (w_c_cap:Int) (w_c_l:List Res) (w_ready:Bool) (w_shown:List Res) (hl:w_c_l.length≤65536) (hs:∀ r∈w_c_l,SmRes r) (hl2:Small w_shown.length) (hs2:∀ r∈w_shown,SmRes r):CallR Tryz.prog 48 [.agg [.int .i64 w_c_cap,.slice false (avs w_c_l),.bool w_ready,.slice false (avs w_shown)]] (.val (.bool (saneW (⟨⟨w_c_cap,w_c_l⟩,w_ready,w_shown⟩:Warm)))):=by
 have w1:=saneC_c w_c_cap w_c_l hl hs
 have w2:=(shownC_c w_c_cap w_c_l hl hs).frz
 have w3:=tsame_c w_shown (shownC ⟨w_c_cap,w_c_l⟩) hl2 hs2
 have hlen:decide ((w_shown.length:Int)=0)=decide (w_shown=[]):=by
  rw [Bool.eq_iff_iff]; simp
 unfold saneW
 simp only
 generalize shownC ⟨w_c_cap,w_c_l⟩=sh at *
 cases hb0:saneC ⟨w_c_cap,w_c_l⟩
 ·rw [hb0] at w1
  refine QD (T:=T) Tryz.call48 Tryz.func48 rfl Tryz.ntmps48 (congrArg Array.toList Tryz.results48) (by decide) fun ts hn h0=>?_
  (repeat' (first
 | (with_reducible first|refine callX.by (w1) ?_|refine callX.by (saneC_c _ _ ?_ ?_) ?_|refine callX.by (shownC_c _ _ ?_ ?_) ?_|refine callX.by (tsame_c _ _ ?_ ?_) ?_|assumption|(refine Qw hK _ ?_; clear hK K)|refine Qw ‹_› _ ?_|refine Qx ‹_› ?_|refine Qi fun K hK=>?_|refine Qj T fun K hK=>?_|refine Qk (id:=1) T mixed Wd21 (by kernel_rfl) fun K hK=>?_|refine Ql fun A B hA hB=>?_|refine Qn ?_|refine Qr ?_)
 | ((with_reducible first|apply Qy|apply Qz|apply QA)<;>intro hb<;>try simp only [nr] at hb)
 | simp only [go_sem,↓reduceIte,reduceIte,Qa,Qh,Qb,Qc,Qd,Qe,Qf,Qg,reduceCtorEq, *,-hs,-hs2,-w1,-w2,-w3]
 | with_reducible refine fun (bn:Bool) hbn=>?_))
 ·rw [hb0] at w1
  by_cases hsh:w_shown=sh
  ·rw [decide_eq_true hsh] at w3
   cases w_ready
   ·refine QD (T:=T) Tryz.call48 Tryz.func48 rfl Tryz.ntmps48 (congrArg Array.toList Tryz.results48) (by decide) fun ts hn h0=>?_
    (repeat' (first
 | (with_reducible first|refine callX.by (w1) ?_|refine callX.by (w2) ?_|refine callX.by (w3) ?_|refine callX.by (saneC_c _ _ ?_ ?_) ?_|refine callX.by (shownC_c _ _ ?_ ?_) ?_|refine callX.by (tsame_c _ _ ?_ ?_) ?_|assumption|(refine Qw hK _ ?_; clear hK K)|refine Qw ‹_› _ ?_|refine Qx ‹_› ?_|refine Qi fun K hK=>?_|refine Qj T fun K hK=>?_|refine Qk (id:=1) T mixed Wd21 (by kernel_rfl) fun K hK=>?_|refine Ql fun A B hA hB=>?_|refine Qn ?_|refine Qr ?_)
 | ((with_reducible first|apply Qy|apply Qz|apply QA)<;>intro hb<;>try simp only [nr] at hb)
 | simp only [go_sem,↓reduceIte,reduceIte,Qa,Qh,Qb,Qc,Qd,Qe,Qf,Qg,reduceCtorEq, *,-hs,-hs2,-w1,-w2,-w3,-hsh]
 | with_reducible refine fun (bn:Bool) hbn=>?_))
    all_goals simp_all
   ·refine QD (T:=T) Tryz.call48 Tryz.func48 rfl Tryz.ntmps48 (congrArg Array.toList Tryz.results48) (by decide) fun ts hn h0=>?_
    (repeat' (first
 | (with_reducible first|refine callX.by (w1) ?_|refine callX.by (w2) ?_|refine callX.by (w3) ?_|refine callX.by (saneC_c _ _ ?_ ?_) ?_|refine callX.by (shownC_c _ _ ?_ ?_) ?_|refine callX.by (tsame_c _ _ ?_ ?_) ?_|assumption|(refine Qw hK _ ?_; clear hK K)|refine Qw ‹_› _ ?_|refine Qx ‹_› ?_|refine Qi fun K hK=>?_|refine Qj T fun K hK=>?_|refine Qk (id:=1) T mixed Wd21 (by kernel_rfl) fun K hK=>?_|refine Ql fun A B hA hB=>?_|refine Qn ?_|refine Qr ?_)
 | ((with_reducible first|apply Qy|apply Qz|apply QA)<;>intro hb<;>try simp only [nr] at hb)
 | simp only [go_sem,↓reduceIte,reduceIte,Qa,Qh,Qb,Qc,Qd,Qe,Qf,Qg,reduceCtorEq, *,-hs,-hs2,-w1,-w2,-w3,-hsh]
 | with_reducible refine fun (bn:Bool) hbn=>?_))
    all_goals simp_all
  ·rw [decide_eq_false hsh] at w3
   refine QD (T:=T) Tryz.call48 Tryz.func48 rfl Tryz.ntmps48 (congrArg Array.toList Tryz.results48) (by decide) fun ts hn h0=>?_
   (repeat' (first
 | (with_reducible first|refine callX.by (w1) ?_|refine callX.by (w2) ?_|refine callX.by (w3) ?_|refine callX.by (saneC_c _ _ ?_ ?_) ?_|refine callX.by (shownC_c _ _ ?_ ?_) ?_|refine callX.by (tsame_c _ _ ?_ ?_) ?_|assumption|(refine Qw hK _ ?_; clear hK K)|refine Qw ‹_› _ ?_|refine Qx ‹_› ?_|refine Qi fun K hK=>?_|refine Qj T fun K hK=>?_|refine Qk (id:=1) T mixed Wd21 (by kernel_rfl) fun K hK=>?_|refine Ql fun A B hA hB=>?_|refine Qn ?_|refine Qr ?_)
 | ((with_reducible first|apply Qy|apply Qz|apply QA)<;>intro hb<;>try simp only [nr] at hb)
 | simp only [go_sem,↓reduceIte,reduceIte,Qa,Qh,Qb,Qc,Qd,Qe,Qf,Qg,reduceCtorEq, *,-hs,-hs2,-w1,-w2,-w3,-hsh]
 | with_reducible refine fun (bn:Bool) hbn=>?_))
   all_goals simp_all
def saneOfW (w:Warm):Warm:=if saneW w=true then w else ⟨⟨bnd w.c.cap,[]⟩,false,[]⟩
theorem saneOfW_c (w_c_cap:Int) (w_c_l:List Res) (w_ready:Bool) (w_shown:List Res) (hl:w_c_l.length≤65536) (hs:∀ r∈w_c_l,SmRes r) (hl2:Small w_shown.length) (hs2:∀ r∈w_shown,SmRes r):CallR Tryz.prog 104 [.agg [.int .i64 w_c_cap,.slice false (avs w_c_l),.bool w_ready,.slice false (avs w_shown)]] (.val (.agg [.int .i64 (saneOfW (⟨⟨w_c_cap,w_c_l⟩,w_ready,w_shown⟩:Warm)).c.cap,.slice false (avs (saneOfW (⟨⟨w_c_cap,w_c_l⟩,w_ready,w_shown⟩:Warm)).c.l),.bool (saneOfW (⟨⟨w_c_cap,w_c_l⟩,w_ready,w_shown⟩:Warm)).ready,.slice false (avs (saneOfW (⟨⟨w_c_cap,w_c_l⟩,w_ready,w_shown⟩:Warm)).shown)])):=by
 have w1:=saneW_c w_c_cap w_c_l w_ready w_shown hl hs hl2 hs2
 unfold saneOfW
 cases hb0:saneW (⟨⟨w_c_cap,w_c_l⟩,w_ready,w_shown⟩:Warm)
 ·rw [hb0] at w1
  refine QD (T:=T) Tryz.call104 Tryz.func104 rfl Tryz.ntmps104 (congrArg Array.toList Tryz.results104) (by decide) fun ts hn h0=>?_
  (repeat' (first
 | (with_reducible first|refine callX.by (w1) ?_|refine callX.by (saneW_c _ _ _ _ ?_ ?_ ?_ ?_) ?_|refine callX.by (newW_c _) ?_|assumption|(refine Qw hK _ ?_; clear hK K)|refine Qw ‹_› _ ?_|refine Qx ‹_› ?_|refine Qi fun K hK=>?_|refine Qj T fun K hK=>?_|refine Ql fun A B hA hB=>?_|refine Qn ?_|refine Qr ?_)
 | ((with_reducible first|apply Qy|apply Qz|apply QA)<;>intro hb<;>try simp only [nr] at hb)
 | simp only [go_sem,↓reduceIte,reduceIte,Qa,Qh,Qb,Qc,Qd,Qe,Qf,Qg,reduceCtorEq, *,-hs,-hs2,-w1]
 | with_reducible refine fun (bn:Bool) hbn=>?_))
  all_goals rfl
 ·rw [hb0] at w1
  refine QD (T:=T) Tryz.call104 Tryz.func104 rfl Tryz.ntmps104 (congrArg Array.toList Tryz.results104) (by decide) fun ts hn h0=>?_
  (repeat' (first
 | (with_reducible first|refine callX.by (w1) ?_|refine callX.by (saneW_c _ _ _ _ ?_ ?_ ?_ ?_) ?_|refine callX.by (newW_c _) ?_|assumption|(refine Qw hK _ ?_; clear hK K)|refine Qw ‹_› _ ?_|refine Qx ‹_› ?_|refine Qi fun K hK=>?_|refine Qj T fun K hK=>?_|refine Ql fun A B hA hB=>?_|refine Qn ?_|refine Qr ?_)
 | ((with_reducible first|apply Qy|apply Qz|apply QA)<;>intro hb<;>try simp only [nr] at hb)
 | simp only [go_sem,↓reduceIte,reduceIte,Qa,Qh,Qb,Qc,Qd,Qe,Qf,Qg,reduceCtorEq, *,-hs,-hs2,-w1]
 | with_reducible refine fun (bn:Bool) hbn=>?_))
  all_goals trace_state
@[go_sem] def Wd22:List (List Nat×List Nat):=[([31],[33,34]),([32],[33,34]),([33],[31,32,6]),([34],[31,32,6]),([6],[33,34])]
def takeW (c:Cache) (ready:Bool) (shown:List Res) (ch:Bool):List AV :=
 if shownC c=shown then [.int .i64 c.cap,.slice false (avs c.l),.bool ready,.slice false (avs shown),.bool ch] else [.int .i64 c.cap,.slice false (avs c.l),.bool true,.slice false (avs (shownC c)),.bool true]
theorem shownC_len (c:Cache):(shownC c).length≤c.l.length:=Nat.le_trans (reachR_len _) (saneOf_len c)
theorem shownC_mem {c:Cache} {r:Res} (h:r∈shownC c):r∈c.l:=saneOf_mem ((reachR_sub _).subset h)
theorem takeW_c (cap0:Int) (l0:List Res) (ready:Bool) (shown:List Res) (ch:Bool) (c_cap:Int) (c_l:List Res) (hl:c_l.length≤65536) (hs:∀ r∈c_l,SmRes r) :
  CallI Tryz.prog 105 [.int .i64 cap0,.slice false (avs l0),.bool ready,.slice false (avs shown),.bool ch] [.agg [.int .i64 c_cap,.slice false (avs c_l)]] (.tup []) (takeW (⟨c_cap,c_l⟩:Cache) ready shown ch):=by
 have w1:=(shownC_c c_cap c_l hl hs).frz
 have hsl:=shownC_len (⟨c_cap,c_l⟩:Cache)
 have w2:=tsame_c (shownC (⟨c_cap,c_l⟩:Cache)) shown (by simp only at hsl; unfold Small; omega) fun x hx=>hs x (shownC_mem hx)
 unfold takeW
 generalize shownC (⟨c_cap,c_l⟩:Cache)=s at *
 clear hs hl hsl
 by_cases he:s=shown
 ·rw [decide_eq_true he] at w2
  rw [if_pos he]
  refine CallI.go1 Tryz.call105 Tryz.func105 rfl Tryz.ntmps105 T (congrArg Array.toList Tryz.results105) (by decide) fun ts hn h0 hg0 ho0 h1=>?_
  (repeat' (first
 | (with_reducible first|refine callX.by (w1) ?_|refine callX.by (w2) ?_|refine callX.by (shownC_c _ _ ?_ ?_) ?_|refine callX.by (tsame_c _ _ ?_ ?_) ?_|assumption|(refine Qw hK _ ?_; clear hK K)|refine Qw ‹_› _ ?_|refine Qx ‹_› ?_|refine Qi fun K hK=>?_|refine Qj T fun K hK=>?_|refine Ql fun A B hA hB=>?_|refine Qn ?_|refine Qr ?_)
 | ((with_reducible first|apply Qy|apply Qz|apply QA)<;>intro hb<;>try simp only [nr] at hb)
 | simp only [go_sem,↓reduceIte,reduceIte,Qa,Qh,Qb,Qc,Qd,Qe,Qf,Qg,reduceCtorEq, *,-w1,-w2,-he]
 | with_reducible refine fun (bn:Bool) hbn=>?_))
  all_goals trace_state
 ·rw [decide_eq_false he] at w2
  rw [if_neg he]
  refine CallI.go1 Tryz.call105 Tryz.func105 rfl Tryz.ntmps105 T (congrArg Array.toList Tryz.results105) (by decide) fun ts hn h0 hg0 ho0 h1=>?_
  (repeat' (first
 | (with_reducible first|refine callX.by (w1) ?_|refine callX.by (w2) ?_|refine callX.by (shownC_c _ _ ?_ ?_) ?_|refine callX.by (tsame_c _ _ ?_ ?_) ?_|assumption|(refine Qw hK _ ?_; clear hK K)|refine Qw ‹_› _ ?_|refine Qx ‹_› ?_|refine Qi fun K hK=>?_|refine Qj T fun K hK=>?_|refine Ql fun A B hA hB=>?_|refine Qn ?_|refine Qr ?_)
 | ((with_reducible first|apply Qy|apply Qz|apply QA)<;>intro hb<;>try simp only [nr] at hb)
 | simp only [go_sem,↓reduceIte,reduceIte,Qa,Qh,Qb,Qc,Qd,Qe,Qf,Qg,reduceCtorEq, *,-w1,-w2,-he]
 | with_reducible refine fun (bn:Bool) hbn=>?_))
  all_goals trace_state
def stepW (w:Warm) (adds:List Res) (gone:List Key):Warm × Bool × Int :=
 let m:=saneOfW w
 let a:=applyC m.c adds gone
 if a.2=0 then (if shownC a.1=m.shown then (⟨a.1,m.ready,m.shown⟩,false,0) else (⟨a.1,true,shownC a.1⟩,true,0)) else (m,false,a.2)
theorem saneOfW_len (w:Warm):(saneOfW w).c.l.length≤w.c.l.length:=by unfold saneOfW; split<;>simp
theorem saneOfW_mem {w:Warm} {r:Res} (h:r∈(saneOfW w).c.l):r∈w.c.l:=by unfold saneOfW at h; split at h<;>simp_all
theorem stepW_c (w_c_cap:Int) (w_c_l:List Res) (w_ready:Bool) (w_shown:List Res) (adds:List Res) (gone:List Key) (hl:w_c_l.length+adds.length≤65536) (hs:∀ r∈w_c_l,SmRes r) (hl2:Small w_shown.length) (hs2:∀ r∈w_shown,SmRes r) (hg:Small gone.length) (ha:∀ r∈adds,SmRes r) :
  CallR Tryz.prog 43 [.agg [.int .i64 w_c_cap,.slice false (avs w_c_l),.bool w_ready,.slice false (avs w_shown)],.slice false (avs adds),.slice false (avs gone)]
   (.val (.tup [.agg [.int .i64 (stepW (⟨⟨w_c_cap,w_c_l⟩,w_ready,w_shown⟩:Warm) adds gone).1.c.cap,.slice false (avs (stepW (⟨⟨w_c_cap,w_c_l⟩,w_ready,w_shown⟩:Warm) adds gone).1.c.l),.bool (stepW (⟨⟨w_c_cap,w_c_l⟩,w_ready,w_shown⟩:Warm) adds gone).1.ready,.slice false (avs (stepW (⟨⟨w_c_cap,w_c_l⟩,w_ready,w_shown⟩:Warm) adds gone).1.shown)],.bool (stepW (⟨⟨w_c_cap,w_c_l⟩,w_ready,w_shown⟩:Warm) adds gone).2.1,.int .i64 (stepW (⟨⟨w_c_cap,w_c_l⟩,w_ready,w_shown⟩:Warm) adds gone).2.2])):=by
 have w1:=saneOfW_c w_c_cap w_c_l w_ready w_shown (by omega) hs hl2 hs2
 have hml:=saneOfW_len (⟨⟨w_c_cap,w_c_l⟩,w_ready,w_shown⟩:Warm)
 have hms:∀ r∈(saneOfW (⟨⟨w_c_cap,w_c_l⟩,w_ready,w_shown⟩:Warm)).c.l,SmRes r:=fun r hr=>hs r (saneOfW_mem hr)
 unfold stepW
 generalize saneOfW (⟨⟨w_c_cap,w_c_l⟩,w_ready,w_shown⟩:Warm)=m at *
 simp only at hml ⊢
 have w2:=applyC_c m.c.cap m.c.l adds gone (by omega) hg hms ha
 have w2:CallR Tryz.prog 59 [.agg [.int .i64 m.c.cap,.slice false (avs m.c.l)],.slice false (avs adds),.slice false (avs gone)] (.val (.tup [.agg [.int .i64 (applyC m.c adds gone).1.cap,.slice false (avs (applyC m.c adds gone).1.l)],.int .i64 (applyC m.c adds gone).2])):=w2
 have hal:=applyC_len m.c adds gone
 have hac:∀ r∈(applyC m.c adds gone).1.l,SmRes r:=fun r hr=>(applyC_mem' hr).elim (hms r) (ha r)
 generalize (applyC m.c adds gone).2=e at *
 generalize (applyC m.c adds gone).1=d at *
 have w3:=takeW_c m.c.cap m.c.l m.ready m.shown false d.cap d.l (by omega) hac
 have w3:CallI Tryz.prog 105 [.int .i64 m.c.cap,.slice false (avs m.c.l),.bool m.ready,.slice false (avs m.shown),.bool false] [.agg [.int .i64 d.cap,.slice false (avs d.l)]] (.tup []) (takeW d m.ready m.shown false):=w3
 unfold takeW at w3
 clear hs hs2 ha hms hac hal hml hl hl2 hg
 by_cases he:e=0
 ·subst he
  simp only [if_true]
  by_cases hsh:shownC d=m.shown
  ·rw [if_pos hsh] at w3 ⊢
   simp only
   refine CallR.go3 (T:=T) Tryz.call43 Tryz.func43 rfl Tryz.ntmps43 (congrArg Array.toList Tryz.results43) (by decide) fun ts hn h0 h1 h2=>?_
   (repeat' (first
 | (with_reducible first|refine callX.by (w1) ?_|refine callX.by (w2) ?_)
 | (with_reducible refine callX.io ?_ ?_ ?_ (w3); (focus (simp only [go_sem,↓reduceIte,reduceIte,Qa,Qh,Qb,Qc,Qd,Qe,Qf,Qg,reduceCtorEq, *,-w1,-w2,-w3,-hsh]; first|done|rfl)); (focus (simp only [go_sem,↓reduceIte,reduceIte,Qa,Qh,Qb,Qc,Qd,Qe,Qf,Qg,reduceCtorEq, *,-w1,-w2,-w3,-hsh]; first|done|rfl)))
 | (with_reducible first|refine callX.by (saneOfW_c _ _ _ _ ?_ ?_ ?_ ?_) ?_|assumption|(refine Qw hK _ ?_; clear hK K)|refine Qw ‹_› _ ?_|refine Qx ‹_› ?_|refine Qi fun K hK=>?_|refine Qj T fun K hK=>?_|refine Qk (id:=6) T mixed Wd22 (by kernel_rfl) fun K hK=>?_|refine Ql fun A B hA hB=>?_|refine Qn ?_|refine Qr ?_)
 | ((with_reducible first|apply Qy|apply Qz|apply QA)<;>intro hb<;>try simp only [nr] at hb)
 | simp only [go_sem,↓reduceIte,reduceIte,Qa,Qh,Qb,Qc,Qd,Qe,Qf,Qg,reduceCtorEq, *,-w1,-w2,-w3,-hsh]
 | with_reducible refine fun (bn:Bool) hbn=>?_))
   all_goals trace_state
  ·rw [if_neg hsh] at w3 ⊢
   simp only
   refine CallR.go3 (T:=T) Tryz.call43 Tryz.func43 rfl Tryz.ntmps43 (congrArg Array.toList Tryz.results43) (by decide) fun ts hn h0 h1 h2=>?_
   (repeat' (first
 | (with_reducible first|refine callX.by (w1) ?_|refine callX.by (w2) ?_)
 | (with_reducible refine callX.io ?_ ?_ ?_ (w3); (focus (simp only [go_sem,↓reduceIte,reduceIte,Qa,Qh,Qb,Qc,Qd,Qe,Qf,Qg,reduceCtorEq, *,-w1,-w2,-w3,-hsh]; first|done|rfl)); (focus (simp only [go_sem,↓reduceIte,reduceIte,Qa,Qh,Qb,Qc,Qd,Qe,Qf,Qg,reduceCtorEq, *,-w1,-w2,-w3,-hsh]; first|done|rfl)))
 | (with_reducible first|refine callX.by (saneOfW_c _ _ _ _ ?_ ?_ ?_ ?_) ?_|assumption|(refine Qw hK _ ?_; clear hK K)|refine Qw ‹_› _ ?_|refine Qx ‹_› ?_|refine Qi fun K hK=>?_|refine Qj T fun K hK=>?_|refine Qk (id:=6) T mixed Wd22 (by kernel_rfl) fun K hK=>?_|refine Ql fun A B hA hB=>?_|refine Qn ?_|refine Qr ?_)
 | ((with_reducible first|apply Qy|apply Qz|apply QA)<;>intro hb<;>try simp only [nr] at hb)
 | simp only [go_sem,↓reduceIte,reduceIte,Qa,Qh,Qb,Qc,Qd,Qe,Qf,Qg,reduceCtorEq, *,-w1,-w2,-w3,-hsh]
 | with_reducible refine fun (bn:Bool) hbn=>?_))
   all_goals trace_state
 ·rw [if_neg he]
  simp only
  clear w3
  refine CallR.go3 (T:=T) Tryz.call43 Tryz.func43 rfl Tryz.ntmps43 (congrArg Array.toList Tryz.results43) (by decide) fun ts hn h0 h1 h2=>?_
  (repeat' (first
 | (with_reducible first|refine callX.by (w1) ?_|refine callX.by (w2) ?_|refine callX.by (saneOfW_c _ _ _ _ ?_ ?_ ?_ ?_) ?_|assumption|(refine Qw hK _ ?_; clear hK K)|refine Qw ‹_› _ ?_|refine Qx ‹_› ?_|refine Qi fun K hK=>?_|refine Qj T fun K hK=>?_|refine Qk (id:=6) T mixed Wd22 (by kernel_rfl) fun K hK=>?_|refine Ql fun A B hA hB=>?_|refine Qn ?_|refine Qr ?_)
 | ((with_reducible first|apply Qy|apply Qz|apply QA)<;>intro hb<;>try simp only [nr] at hb)
 | simp only [go_sem,↓reduceIte,reduceIte,Qa,Qh,Qb,Qc,Qd,Qe,Qf,Qg,reduceCtorEq, *,-w1,-w2]
 | with_reducible refine fun (bn:Bool) hbn=>?_))
  all_goals trace_state
theorem warming_c (w_c_cap:Int) (w_c_l:List Res) (w_ready:Bool) (w_shown:List Res) (hl:w_c_l.length≤65536) (hs:∀ r∈w_c_l,SmRes r) (hl2:Small w_shown.length) (hs2:∀ r∈w_shown,SmRes r):CallR Tryz.prog 50 [.agg [.int .i64 w_c_cap,.slice false (avs w_c_l),.bool w_ready,.slice false (avs w_shown)]] (.own 2 (avs (orphans (saneOfW (⟨⟨w_c_cap,w_c_l⟩,w_ready,w_shown⟩:Warm)).c.l))):=by
 have w1:=saneOfW_c w_c_cap w_c_l w_ready w_shown hl hs hl2 hs2
 have hml:=saneOfW_len (⟨⟨w_c_cap,w_c_l⟩,w_ready,w_shown⟩:Warm)
 have hms:∀ r∈(saneOfW (⟨⟨w_c_cap,w_c_l⟩,w_ready,w_shown⟩:Warm)).c.l,SmRes r:=fun r hr=>hs r (saneOfW_mem hr)
 have hnd:((saneOfW (⟨⟨w_c_cap,w_c_l⟩,w_ready,w_shown⟩:Warm)).c.l.map keyOf).Nodup:=by
  unfold saneOfW
  split
  ·rename_i h
   unfold saneW at h
   simp only [Bool.and_eq_true] at h
   exact (saneC_conf h.1.1).nodup
  ·simp
 generalize saneOfW (⟨⟨w_c_cap,w_c_l⟩,w_ready,w_shown⟩:Warm)=m at *
 simp only at hml
 have w2:=orphans_c m.c.l (by omega) hms hnd
 clear hs hs2 hms hnd hl hl2 hml
 refine QD (T:=T) Tryz.call50 Tryz.func50 rfl Tryz.ntmps50 (congrArg Array.toList Tryz.results50) (by decide) fun ts hn h0=>?_
 (repeat' (first
 | (with_reducible first|refine callX.by (w1) ?_|refine callX.by (w2) ?_|refine callX.by (saneOfW_c _ _ _ _ ?_ ?_ ?_ ?_) ?_|refine callX.by (orphans_c _ ?_ ?_ ?_) ?_|assumption|(refine Qw hK _ ?_; clear hK K)|refine Qw ‹_› _ ?_|refine Qx ‹_› ?_|refine Qi fun K hK=>?_|refine Qj T fun K hK=>?_|refine Ql fun A B hA hB=>?_|refine Qn ?_|refine Qr ?_)
 | ((with_reducible first|apply Qy|apply Qz|apply QA)<;>intro hb<;>try simp only [nr] at hb)
 | simp only [go_sem,↓reduceIte,reduceIte,Qa,Qh,Qb,Qc,Qd,Qe,Qf,Qg,reduceCtorEq, *,-w1,-w2]
 | with_reducible refine fun (bn:Bool) hbn=>?_))
theorem saneW_iff {w:Warm}:saneW w=true↔saneC w.c=true∧w.shown=shownC w.c∧(w.ready=true∨w.shown=[]):=by
 unfold saneW
 simp only [Bool.and_eq_true,Bool.or_eq_true,decide_eq_true_eq,and_assoc]
theorem shownC_sane {c:Cache} (h:saneC c=true):shownC c=reachR c.l:=by unfold shownC saneOf; rw [if_pos h]
theorem stepW_sane {w:Warm} (h:saneW w=true) (adds:List Res) (gone:List Key) :
  stepW w adds gone=if (applyC w.c adds gone).2=0 then (if shownC (applyC w.c adds gone).1=w.shown then (⟨(applyC w.c adds gone).1,w.ready,w.shown⟩,false,0) else (⟨(applyC w.c adds gone).1,true,shownC (applyC w.c adds gone).1⟩,true,0)) else (w,false,(applyC w.c adds gone).2):=by
 have hof:saneOfW w=w:=by unfold saneOfW; rw [if_pos h]
 unfold stepW
 rw [hof]
theorem stepW_keeps {w:Warm} (h:saneW w=true) (adds:List Res) (gone:List Key):saneW (stepW w adds gone).1=true:=by
 rw [stepW_sane h]
 have hw:=saneW_iff.1 h
 split
 ·split
  ·rename_i hs
   exact saneW_iff.2 ⟨applyC_keeps hw.1 adds gone,hs.symm,hw.2.2⟩
  ·exact saneW_iff.2 ⟨applyC_keeps hw.1 adds gone,rfl,.inl rfl⟩
 ·exact h
theorem stepW_mem {w:Warm} (h:saneW w=true) {adds:List Res} {gone:List Key} {x:Res} (hx:x∈(stepW w adds gone).1.c.l):x∈w.c.l∨x∈adds:=by
 rw [stepW_sane h] at hx
 split at hx
 ·split at hx<;>exact applyC_mem' hx
 ·exact .inl hx
theorem saneW_len {w:Warm} (h:saneW w=true):w.c.l.length≤64:=tsane_len (saneC_iff.1 (saneW_iff.1 h).1).2.1
theorem saneW_shown {w:Warm} (h:saneW w=true):w.shown=reachR w.c.l:=by
 have hw:=saneW_iff.1 h
 rw [hw.2.1,shownC_sane hw.1]
theorem saneW_slen {w:Warm} (h:saneW w=true):w.shown.length≤64:=by
 rw [saneW_shown h]
 exact Nat.le_trans (reachR_len _) (saneW_len h)
theorem saneW_smem {w:Warm} (h:saneW w=true) {x:Res} (hx:x∈w.shown):x∈w.c.l:=by
 rw [saneW_shown h] at hx
 exact (reachR_sub _).subset hx
theorem newW_sane (n:Int):saneW ⟨⟨bnd n,[]⟩,false,[]⟩=true:=by
 refine saneW_iff.2 ⟨newC_sane n,?_,.inr rfl⟩
 rw [shownC_sane (newC_sane n)]
 show []=reachR []
 decide
theorem warm1_c (w_c_cap:Int) (w_c_l:List Res) (w_ready:Bool) (w_shown:List Res):CallR Tryz.prog 44 [.agg [.int .i64 w_c_cap,.slice false (avs w_c_l),.bool w_ready,.slice false (avs w_shown)]] (.val (.agg [.int .i64 w_c_cap,.slice false (avs w_c_l),.bool w_ready,.slice false (avs w_shown)])):=by
 refine QD (T:=T) Tryz.call44 Tryz.func44 rfl Tryz.ntmps44 (congrArg Array.toList Tryz.results44) (by decide) fun ts hn h0=>?_
 (repeat' (first
 | (with_reducible first|assumption|(refine Qw hK _ ?_; clear hK K)|refine Qw ‹_› _ ?_|refine Qx ‹_› ?_|refine Qi fun K hK=>?_|refine Qj T fun K hK=>?_|refine Ql fun A B hA hB=>?_|refine Qn ?_|refine Qr ?_)
 | ((with_reducible first|apply Qy|apply Qz|apply QA)<;>intro hb<;>try simp only [nr] at hb)
 | simp only [go_sem,↓reduceIte,reduceIte,Qa,Qh,Qb,Qc,Qd,Qe,Qf,Qg,reduceCtorEq, *]
 | with_reducible refine fun (bn:Bool) hbn=>?_))
theorem cold_c (w_c_cap:Int) (w_c_l:List Res) (w_ready:Bool) (w_shown:List Res):CallR Tryz.prog 47 [.agg [.int .i64 w_c_cap,.slice false (avs w_c_l),.bool w_ready,.slice false (avs w_shown)]] (.val (.agg [.int .i64 w_c_cap,.slice false (avs w_c_l),.bool w_ready,.slice false (avs w_shown)])):=by
 refine QD (T:=T) Tryz.call47 Tryz.func47 rfl Tryz.ntmps47 (congrArg Array.toList Tryz.results47) (by decide) fun ts hn h0=>?_
 (repeat' (first
 | (with_reducible first|assumption|(refine Qw hK _ ?_; clear hK K)|refine Qw ‹_› _ ?_|refine Qx ‹_› ?_|refine Qi fun K hK=>?_|refine Qj T fun K hK=>?_|refine Ql fun A B hA hB=>?_|refine Qn ?_|refine Qr ?_)
 | ((with_reducible first|apply Qy|apply Qz|apply QA)<;>intro hb<;>try simp only [nr] at hb)
 | simp only [go_sem,↓reduceIte,reduceIte,Qa,Qh,Qb,Qc,Qd,Qe,Qf,Qg,reduceCtorEq, *]
 | with_reducible refine fun (bn:Bool) hbn=>?_))
def same17 (a b:Warm):Bool:=same16 a.c b.c && decide (a.ready=b.ready) && decide (a.shown=b.shown)
theorem same17_c (a_c_cap:Int) (a_c_l:List Res) (a_ready:Bool) (a_shown:List Res) (b_c_cap:Int) (b_c_l:List Res) (b_ready:Bool) (b_shown:List Res) (hl:Small a_c_l.length) (hs:∀ r∈a_c_l,SmRes r) (hl2:Small a_shown.length) (hs2:∀ r∈a_shown,SmRes r):CallR Tryz.prog 46 [.agg [.int .i64 a_c_cap,.slice false (avs a_c_l),.bool a_ready,.slice false (avs a_shown)],.agg [.int .i64 b_c_cap,.slice false (avs b_c_l),.bool b_ready,.slice false (avs b_shown)]] (.val (.bool (same17 (⟨⟨a_c_cap,a_c_l⟩,a_ready,a_shown⟩:Warm) (⟨⟨b_c_cap,b_c_l⟩,b_ready,b_shown⟩:Warm)))):=by
 have w1:=same16_c a_c_cap a_c_l b_c_cap b_c_l hl hs
 have w2:=all4_c a_shown b_shown hl2 hs2
 unfold same17
 simp only
 generalize same16 ⟨a_c_cap,a_c_l⟩ ⟨b_c_cap,b_c_l⟩=s at *
 cases s
 ·refine CallR.go2 (T:=T) Tryz.call46 Tryz.func46 rfl Tryz.ntmps46 (congrArg Array.toList Tryz.results46) (by decide) fun ts hn h0 h1=>?_
  (repeat' (first
 | (with_reducible first|refine callX.by (w1) ?_|refine callX.by (w2) ?_|refine callX.by (same16_c _ _ _ _ ?_ ?_) ?_|refine callX.by (all4_c _ _ ?_ ?_) ?_|assumption|(refine Qw hK _ ?_; clear hK K)|refine Qw ‹_› _ ?_|refine Qx ‹_› ?_|refine Qi fun K hK=>?_|refine Qj T fun K hK=>?_|refine Ql fun A B hA hB=>?_|refine Qn ?_|refine Qr ?_)
 | ((with_reducible first|apply Qy|apply Qz|apply QA)<;>intro hb<;>try simp only [nr] at hb)
 | simp only [go_sem,↓reduceIte,reduceIte,Qa,Qh,Qb,Qc,Qd,Qe,Qf,Qg,reduceCtorEq, *,-hs,-hs2,-w1,-w2]
 | with_reducible refine fun (bn:Bool) hbn=>?_))
 ·by_cases hr:a_ready=b_ready
  ·subst hr
   refine CallR.go2 (T:=T) Tryz.call46 Tryz.func46 rfl Tryz.ntmps46 (congrArg Array.toList Tryz.results46) (by decide) fun ts hn h0 h1=>?_
   (repeat' (first
 | (with_reducible first|refine callX.by (w1) ?_|refine callX.by (w2) ?_|refine callX.by (same16_c _ _ _ _ ?_ ?_) ?_|refine callX.by (all4_c _ _ ?_ ?_) ?_|assumption|(refine Qw hK _ ?_; clear hK K)|refine Qw ‹_› _ ?_|refine Qx ‹_› ?_|refine Qi fun K hK=>?_|refine Qj T fun K hK=>?_|refine Ql fun A B hA hB=>?_|refine Qn ?_|refine Qr ?_)
 | ((with_reducible first|apply Qy|apply Qz|apply QA)<;>intro hb<;>try simp only [nr] at hb)
 | simp only [go_sem,↓reduceIte,reduceIte,Qa,Qh,Qb,Qc,Qd,Qe,Qf,Qg,reduceCtorEq, *,-hs,-hs2,-w1,-w2]
 | with_reducible refine fun (bn:Bool) hbn=>?_))
   all_goals simp
  ·refine CallR.go2 (T:=T) Tryz.call46 Tryz.func46 rfl Tryz.ntmps46 (congrArg Array.toList Tryz.results46) (by decide) fun ts hn h0 h1=>?_
   (repeat' (first
 | (with_reducible first|refine callX.by (w1) ?_|refine callX.by (w2) ?_|refine callX.by (same16_c _ _ _ _ ?_ ?_) ?_|refine callX.by (all4_c _ _ ?_ ?_) ?_|assumption|(refine Qw hK _ ?_; clear hK K)|refine Qw ‹_› _ ?_|refine Qx ‹_› ?_|refine Qi fun K hK=>?_|refine Qj T fun K hK=>?_|refine Ql fun A B hA hB=>?_|refine Qn ?_|refine Qr ?_)
 | ((with_reducible first|apply Qy|apply Qz|apply QA)<;>intro hb<;>try simp only [nr] at hb)
 | simp only [go_sem,↓reduceIte,reduceIte,Qa,Qh,Qb,Qc,Qd,Qe,Qf,Qg,reduceCtorEq, *,-hs,-hs2,-w1,-w2]
 | with_reducible refine fun (bn:Bool) hbn=>?_))
   all_goals simp_all
def rR:Res:=⟨1,[114],0,0,[],[],[]⟩
theorem rRs:saneR rR=0:=by decide
theorem rRr:refsR rR=[]:=by
 have e:baseR rR++keysR rR.rules'=[]:=by decide
 unfold refsR
 rw [if_pos rRs,e]
 simp [ksort,kcompact,kcT]
theorem rRsm:∀ x∈[rR],SmRes x:=oneSm rfl (by simp [Small,rR]) (by simp [Small,rR]) (by simp [Small,rR])
theorem rRn:namesM [rR]=[(⟨1,[114]⟩,[])]:=by simp only [namesM,List.map_cons,List.map_nil,rRr]; rfl
theorem rRreach:reachR [rR]=[]:=by unfold reachR reachedM; rw [rRn]; decide
theorem rRserved:served [rR]=0:=by unfold served; rw [rRreach]; rfl
theorem rRm:mustE 9 [rR]=0:=by
 unfold mustE
 rw [show tsane [rR]=0 by decide,rRserved]; decide
theorem lrn:namesM [lR,rR]=[(⟨0,[108]⟩,[⟨1,[114]⟩]),(⟨1,[114]⟩,[])]:=by simp only [namesM,List.map_cons,List.map_nil,lRr,rRr]; rfl
theorem lrreach:reachR [lR,rR]=[lR,rR]:=by unfold reachR reachedM; rw [lrn]; decide
theorem lrserved:served [lR,rR]=0:=by
 unfold served
 rw [lrreach]
 have h1:lacks (ofR [lR,rR] []) lR=false:=by unfold lacks; rw [lRr]; decide
 have h2:lacks (ofR [lR,rR] []) rR=false:=by unfold lacks; rw [rRr]; rfl
 have h3:bare lR=false:=by decide
 have h4:bare rR=false:=by decide
 simp [h1,h2,h3,h4]
theorem lrm:mustE 9 [lR,rR]=0:=by
 unfold mustE
 rw [show tsane [lR,rR]=0 by decide,lrserved]; decide
theorem apply_rR:applyC ⟨9,[]⟩ [rR] []=(⟨9,[rR]⟩,0):=by
 unfold applyC
 rw [nine]
 have e:patchR [] [rR] []=[rR]:=by decide
 simp only [e,rRm]
 rfl
theorem nineR:saneC ⟨9,[rR]⟩=true:=by unfold saneC; rw [rRm]; decide
theorem nineLR:saneC ⟨9,[lR,rR]⟩=true:=by unfold saneC; rw [lrm]; decide
theorem apply_lrR:applyC ⟨9,[rR]⟩ [lR] []=(⟨9,[lR,rR]⟩,0):=by
 rw [applyC_sane nineR]
 have e:patchR [rR] [lR] []=[lR,rR]:=by decide
 simp only [e,lrm]
 rfl
theorem step_rR:stepW ⟨⟨9,[]⟩,false,[]⟩ [rR] []=(⟨⟨9,[rR]⟩,false,[]⟩,false,0):=by
 have h9:saneW ⟨⟨9,[]⟩,false,[]⟩=true:=newW_sane 9
 rw [stepW_sane h9]
 simp only [apply_rR,shownC_sane nineR,rRreach,if_true]
theorem wR:saneW ⟨⟨9,[rR]⟩,false,[]⟩=true:=saneW_iff.2 ⟨nineR,by rw [shownC_sane nineR,rRreach],.inr rfl⟩
theorem step_lR:stepW ⟨⟨9,[rR]⟩,false,[]⟩ [lR] []=(⟨⟨9,[lR,rR]⟩,true,[lR,rR]⟩,true,0):=by
 rw [stepW_sane wR]
 simp only [apply_lrR,shownC_sane nineLR,lrreach,if_true]
 rw [if_neg (by simp)]
theorem wLR:saneW ⟨⟨9,[lR,rR]⟩,true,[lR,rR]⟩=true:=saneW_iff.2 ⟨nineLR,by rw [shownC_sane nineLR,lrreach],.inl rfl⟩
theorem orph_rR:orphans [rR]=[⟨1,[114]⟩]:=by unfold orphans reachedM; rw [rRn]; decide
theorem lrsm:∀ x∈[lR,rR],SmRes x:=by
 intro x hx
 simp only [List.mem_cons,List.not_mem_nil,or_false] at hx
 rcases hx with rfl|rfl
 ·exact lRsm lR (by simp)
 ·exact rRsm rR (by simp)
set_option maxHeartbeats 4000000 in
theorem awake17_c:CallR Tryz.prog 42 [] (.val (.bool true)):=by
 have w0:CallR Tryz.prog 52 [.int .i64 9] (.val (.agg [.int .i64 9,.slice false [],.bool false,.slice false []])):=newW_c 9
 have w1:CallR Tryz.prog 43 [.agg [.int .i64 9,.slice false [],.bool false,.slice false []],.slice false [.agg [.int .i64 1,.str [114],.int .i64 0,.int .i64 0,.str [],.slice false [],.slice false []]],.slice false []] (.val (.tup [.agg [.int .i64 9,.slice false [.agg [.int .i64 1,.str [114],.int .i64 0,.int .i64 0,.str [],.slice false [],.slice false []]],.bool false,.slice false []],.bool false,.int .i64 0])):=by
  have h:=stepW_c 9 [] false [] [rR] [] (by simp) (by simp) (by simp [Small]) (by simp) (by simp [Small]) rRsm
  rw [step_rR] at h
  exact h
 have w2:CallR Tryz.prog 43 [.agg [.int .i64 9,.slice false [.agg [.int .i64 1,.str [114],.int .i64 0,.int .i64 0,.str [],.slice false [],.slice false []]],.bool false,.slice false []],.slice false [.agg [.int .i64 0,.str [108],.int .i64 0,.int .i64 80,.str [114],.slice false [],.slice false []]],.slice false []] (.val (.tup [.agg [.int .i64 9,.slice false [.agg [.int .i64 0,.str [108],.int .i64 0,.int .i64 80,.str [114],.slice false [],.slice false []],.agg [.int .i64 1,.str [114],.int .i64 0,.int .i64 0,.str [],.slice false [],.slice false []]],.bool true,.slice false [.agg [.int .i64 0,.str [108],.int .i64 0,.int .i64 80,.str [114],.slice false [],.slice false []],.agg [.int .i64 1,.str [114],.int .i64 0,.int .i64 0,.str [],.slice false [],.slice false []]]],.bool true,.int .i64 0])):=by
  have h:=stepW_c 9 [rR] false [] [lR] [] (by simp) rRsm (by simp [Small]) (by simp) (by simp [Small]) lRsm
  rw [step_lR] at h
  exact h
 have w3:CallR Tryz.prog 50 [.agg [.int .i64 9,.slice false [.agg [.int .i64 1,.str [114],.int .i64 0,.int .i64 0,.str [],.slice false [],.slice false []]],.bool false,.slice false []]] (.own 2 [.agg [.int .i64 1,.str [114]]]):=by
  have h:=warming_c 9 [rR] false [] (by simp) rRsm (by simp [Small]) (by simp)
  have e:saneOfW ⟨⟨9,[rR]⟩,false,[]⟩=⟨⟨9,[rR]⟩,false,[]⟩:=by unfold saneOfW; rw [if_pos wR]
  rw [e,orph_rR] at h
  exact h
 have w4:CallR Tryz.prog 48 [.agg [.int .i64 9,.slice false [.agg [.int .i64 0,.str [108],.int .i64 0,.int .i64 80,.str [114],.slice false [],.slice false []],.agg [.int .i64 1,.str [114],.int .i64 0,.int .i64 0,.str [],.slice false [],.slice false []]],.bool true,.slice false [.agg [.int .i64 0,.str [108],.int .i64 0,.int .i64 80,.str [114],.slice false [],.slice false []],.agg [.int .i64 1,.str [114],.int .i64 0,.int .i64 0,.str [],.slice false [],.slice false []]]]] (.val (.bool true)):=by
  have h:=saneW_c 9 [lR,rR] true [lR,rR] (by simp) lrsm (by simp [Small]) lrsm
  rw [wLR] at h
  exact h
 refine CallR.go0 (T:=T) Tryz.call42 Tryz.func42 rfl Tryz.ntmps42 (congrArg Array.toList Tryz.results42) fun ts hn=>?_
 (repeat' (first
 | (with_reducible first|refine callX.by (w0) ?_|refine callX.fz (w1) ?_|refine callX.fz (w2) ?_|refine callX.by (w3) ?_|refine callX.by (w4) ?_|refine callX.by (newW_c _) ?_|refine callX.by (warming_c _ _ _ _ ?_ ?_ ?_ ?_) ?_|refine callX.by (saneW_c _ _ _ _ ?_ ?_ ?_ ?_) ?_|assumption|(refine Qw hK _ ?_; clear hK K)|refine Qw ‹_› _ ?_|refine Qx ‹_› ?_|refine Qi fun K hK=>?_|refine Qj T fun K hK=>?_|refine Ql fun A B hA hB=>?_|refine Qn ?_|refine Qr ?_)
 | ((with_reducible first|apply Qy|apply Qz|apply QA)<;>intro hb<;>try simp only [nr] at hb)
 | simp only [go_sem,↓reduceIte,reduceIte,Qa,Qh,Qb,Qc,Qd,Qe,Qf,Qg,reduceCtorEq, *,-w0,-w1,-w2,-w3,-w4,Int.le_refl,List.length_nil,List.length_cons,decide_true]
 | with_reducible refine fun (bn:Bool) hbn=>?_))
 all_goals trace_state
end Go.Proofs.YtmjkjmoeicnbnaaGreatDoor.Lg
