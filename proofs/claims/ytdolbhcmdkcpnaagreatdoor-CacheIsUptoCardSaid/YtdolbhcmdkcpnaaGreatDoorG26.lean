/- Parts of the proof, one behind the other. -/
import Derived.Test.YtdolbhcmdkcpnaaGreatDoorG25
namespace Go.Proofs.YtdolbhcmdkcpnaaGreatDoor.Lg
set_option maxRecDepth 100000
set_option linter.unusedVariables false
set_option linter.unusedSimpArgs false
open Go
open Nat renaming reduceEqDiff → Qa, reduceLT → Qb, reduceLeDiff → Qc, reduceAdd → Qd, reduceMul → Qe, reduceSub → Qf, reduceBEq → Qg
open String renaming reduceEq → Qh
open SpecC renaming seqW → Qi, regW → Qj, drawW → Qk, condW → Ql, skip → Qn, ret → Qr
open NxK renaming out → Qw
open Nx renaming out → Qx
open condK renaming split → Qy
open gK renaming split_t → Qz, split_f → QA
open CallR renaming go1 → QD
theorem served06_eq {l:List Res} (h:(l.map keyOf).Nodup):served06 l=served l:=by
 unfold served06 served
 rw [reach06_eq h]
 have e:lacks06 l=lacks (ofR l []):=by
  funext r
  unfold lacks06 lacks
  congr 1
  funext k
  rw [isIn_of]
  congr 1
  rw [Bool.eq_iff_iff,tget_key6,decide_eq_true_eq]
 rw [e]
theorem check16_c (cap:Int) (l:List Res) (hl:l.length≤65536) (hs:∀ r∈l,SmRes r):CallR Tryz.prog 63 [.int .i64 cap,.slice false (avs l)] (.val (.int .i64 (mustE cap l))):=by
 have w1:=sane05_c l (small_le hl) hs
 by_cases ht:tsane l=0
 ·have w2:=served06_c l hl hs
  rw [served06_eq (conf_of ht).nodup] at w2
  rw [ht] at w1
  by_cases hc:(l.length:Int)≤cap
  ·have e:mustE cap l=served l:=by unfold mustE; rw [if_neg (by simp [ht]),if_pos hc]
   have hc':¬ cap < (l.length:Int):=by omega
   rw [e]
   refine CallR.go2 (T:=T) Tryz.call63 Tryz.func63 rfl Tryz.ntmps63 (congrArg Array.toList Tryz.results63) (by decide) fun ts hn h0 h1=>?_
   (repeat' (first
 | (with_reducible first|refine callX.by (w1) ?_|refine callX.by (w2) ?_|refine callX.by (sane05_c _ ?_ ?_) ?_|refine callX.by (served06_c _ ?_ ?_) ?_|assumption|(refine Qw hK _ ?_; clear hK K)|refine Qw ‹_› _ ?_|refine Qx ‹_› ?_|refine Qi fun K hK=>?_|refine Qj T fun K hK=>?_|refine Ql fun A B hA hB=>?_|refine Qn ?_|refine Qr ?_)
 | ((with_reducible first|apply Qy|apply Qz|apply QA)<;>intro hb<;>try simp only [nr] at hb)
 | simp only [go_sem,↓reduceIte,reduceIte,Qa,Qh,Qb,Qc,Qd,Qe,Qf,Qg,reduceCtorEq, *,-hs,-w1,-w2,-ht]
 | with_reducible refine fun (bn:Bool) hbn=>?_))
  ·have e:mustE cap l=8:=by unfold mustE; rw [if_neg (by simp [ht]),if_neg hc]
   have hc':cap < (l.length:Int):=by omega
   rw [e]
   refine CallR.go2 (T:=T) Tryz.call63 Tryz.func63 rfl Tryz.ntmps63 (congrArg Array.toList Tryz.results63) (by decide) fun ts hn h0 h1=>?_
   (repeat' (first
 | (with_reducible first|refine callX.by (w1) ?_|refine callX.by (w2) ?_|refine callX.by (sane05_c _ ?_ ?_) ?_|refine callX.by (served06_c _ ?_ ?_) ?_|assumption|(refine Qw hK _ ?_; clear hK K)|refine Qw ‹_› _ ?_|refine Qx ‹_› ?_|refine Qi fun K hK=>?_|refine Qj T fun K hK=>?_|refine Ql fun A B hA hB=>?_|refine Qn ?_|refine Qr ?_)
 | ((with_reducible first|apply Qy|apply Qz|apply QA)<;>intro hb<;>try simp only [nr] at hb)
 | simp only [go_sem,↓reduceIte,reduceIte,Qa,Qh,Qb,Qc,Qd,Qe,Qf,Qg,reduceCtorEq, *,-hs,-w1,-w2,-ht]
 | with_reducible refine fun (bn:Bool) hbn=>?_))
 ·have e:mustE cap l=tsane l:=by unfold mustE; rw [if_pos ht]
  rw [e]
  refine CallR.go2 (T:=T) Tryz.call63 Tryz.func63 rfl Tryz.ntmps63 (congrArg Array.toList Tryz.results63) (by decide) fun ts hn h0 h1=>?_
  (repeat' (first
 | (with_reducible first|refine callX.by (w1) ?_|refine callX.by (sane05_c _ ?_ ?_) ?_|refine callX.by (served06_c _ ?_ ?_) ?_|assumption|(refine Qw hK _ ?_; clear hK K)|refine Qw ‹_› _ ?_|refine Qx ‹_› ?_|refine Qi fun K hK=>?_|refine Qj T fun K hK=>?_|refine Ql fun A B hA hB=>?_|refine Qn ?_|refine Qr ?_)
 | ((with_reducible first|apply Qy|apply Qz|apply QA)<;>intro hb<;>try simp only [nr] at hb)
 | simp only [go_sem,↓reduceIte,reduceIte,Qa,Qh,Qb,Qc,Qd,Qe,Qf,Qg,reduceCtorEq, *,-hs,-w1]
 | with_reducible refine fun (bn:Bool) hbn=>?_))
theorem bnd_eq (n:Int):n=bnd n↔0≤n∧n≤64:=by unfold bnd; omega
theorem sane16_c (c_cap:Int) (c_l:List Res) (hl:c_l.length≤65536) (hs:∀ r∈c_l,SmRes r):CallR Tryz.prog 22 [.agg [.int .i64 c_cap,.slice false (avs c_l)]] (.val (.bool (saneC (⟨c_cap,c_l⟩:Cache)))):=by
 have w1:=check16_c c_cap c_l hl hs
 unfold saneC
 simp only [bnd_eq]
 generalize mustE c_cap c_l=e at *
 by_cases h1:0≤c_cap
 ·by_cases h2:c_cap≤64
  ·refine QD (T:=T) Tryz.call22 Tryz.func22 rfl Tryz.ntmps22 (congrArg Array.toList Tryz.results22) (by decide) fun ts hn h0=>?_
   (repeat' (first
 | (with_reducible first|refine callX.by (w1) ?_|refine callX.by (check16_c _ _ ?_ ?_) ?_|assumption|(refine Qw hK _ ?_; clear hK K)|refine Qw ‹_› _ ?_|refine Qx ‹_› ?_|refine Qi fun K hK=>?_|refine Qj T fun K hK=>?_|refine Ql fun A B hA hB=>?_|refine Qn ?_|refine Qr ?_)
 | ((with_reducible first|apply Qy|apply Qz|apply QA)<;>intro hb<;>try simp only [nr] at hb)
 | simp only [go_sem,↓reduceIte,reduceIte,Qa,Qh,Qb,Qc,Qd,Qe,Qf,Qg,reduceCtorEq, *,-hs,-w1]
 | with_reducible refine fun (bn:Bool) hbn=>?_))
   all_goals simp [h1,h2]
  ·refine QD (T:=T) Tryz.call22 Tryz.func22 rfl Tryz.ntmps22 (congrArg Array.toList Tryz.results22) (by decide) fun ts hn h0=>?_
   (repeat' (first
 | (with_reducible first|refine callX.by (w1) ?_|refine callX.by (check16_c _ _ ?_ ?_) ?_|assumption|(refine Qw hK _ ?_; clear hK K)|refine Qw ‹_› _ ?_|refine Qx ‹_› ?_|refine Qi fun K hK=>?_|refine Qj T fun K hK=>?_|refine Ql fun A B hA hB=>?_|refine Qn ?_|refine Qr ?_)
 | ((with_reducible first|apply Qy|apply Qz|apply QA)<;>intro hb<;>try simp only [nr] at hb)
 | simp only [go_sem,↓reduceIte,reduceIte,Qa,Qh,Qb,Qc,Qd,Qe,Qf,Qg,reduceCtorEq, *,-hs,-w1]
 | with_reducible refine fun (bn:Bool) hbn=>?_))
   all_goals simp [h1,h2]
 ·refine QD (T:=T) Tryz.call22 Tryz.func22 rfl Tryz.ntmps22 (congrArg Array.toList Tryz.results22) (by decide) fun ts hn h0=>?_
  (repeat' (first
 | (with_reducible first|refine callX.by (w1) ?_|refine callX.by (check16_c _ _ ?_ ?_) ?_|assumption|(refine Qw hK _ ?_; clear hK K)|refine Qw ‹_› _ ?_|refine Qx ‹_› ?_|refine Qi fun K hK=>?_|refine Qj T fun K hK=>?_|refine Ql fun A B hA hB=>?_|refine Qn ?_|refine Qr ?_)
 | ((with_reducible first|apply Qy|apply Qz|apply QA)<;>intro hb<;>try simp only [nr] at hb)
 | simp only [go_sem,↓reduceIte,reduceIte,Qa,Qh,Qb,Qc,Qd,Qe,Qf,Qg,reduceCtorEq, *,-hs,-w1]
 | with_reducible refine fun (bn:Bool) hbn=>?_))
  all_goals simp [h1]
theorem new16_c (n:Int):CallR Tryz.prog 29 [.int .i64 n] (.val (.agg [.int .i64 (bnd n),.slice false []])):=by
 refine QD (T:=T) Tryz.call29 Tryz.func29 rfl Tryz.ntmps29 (congrArg Array.toList Tryz.results29) (by decide) fun ts hn h0=>?_
 (repeat' (first
 | (with_reducible first|assumption|(refine Qw hK _ ?_; clear hK K)|refine Qw ‹_› _ ?_|refine Qx ‹_› ?_|refine Qi fun K hK=>?_|refine Qj T fun K hK=>?_|refine Ql fun A B hA hB=>?_|refine Qn ?_|refine Qr ?_)
 | ((with_reducible first|apply Qy|apply Qz|apply QA)<;>intro hb<;>try simp only [nr] at hb)
 | simp only [go_sem,↓reduceIte,reduceIte,Qa,Qh,Qb,Qc,Qd,Qe,Qf,Qg,reduceCtorEq, *]
 | with_reducible refine fun (bn:Bool) hbn=>?_))
 all_goals rfl
theorem saneOf16_c (c_cap:Int) (c_l:List Res) (hl:c_l.length≤65536) (hs:∀ r∈c_l,SmRes r):CallR Tryz.prog 60 [.agg [.int .i64 c_cap,.slice false (avs c_l)]] (.val (.agg [.int .i64 (saneOf (⟨c_cap,c_l⟩:Cache)).cap,.slice false (avs (saneOf (⟨c_cap,c_l⟩:Cache)).l)])):=by
 have w1:=sane16_c c_cap c_l hl hs
 unfold saneOf
 cases hb0:saneC (⟨c_cap,c_l⟩:Cache)
 ·rw [hb0] at w1
  refine QD (T:=T) Tryz.call60 Tryz.func60 rfl Tryz.ntmps60 (congrArg Array.toList Tryz.results60) (by decide) fun ts hn h0=>?_
  (repeat' (first
 | (with_reducible first|refine callX.by (w1) ?_|refine callX.by (sane16_c _ _ ?_ ?_) ?_|refine callX.by (new16_c _) ?_|assumption|(refine Qw hK _ ?_; clear hK K)|refine Qw ‹_› _ ?_|refine Qx ‹_› ?_|refine Qi fun K hK=>?_|refine Qj T fun K hK=>?_|refine Ql fun A B hA hB=>?_|refine Qn ?_|refine Qr ?_)
 | ((with_reducible first|apply Qy|apply Qz|apply QA)<;>intro hb<;>try simp only [nr] at hb)
 | simp only [go_sem,↓reduceIte,reduceIte,Qa,Qh,Qb,Qc,Qd,Qe,Qf,Qg,reduceCtorEq, *,-hs,-w1]
 | with_reducible refine fun (bn:Bool) hbn=>?_))
  all_goals rfl
 ·rw [hb0] at w1
  refine QD (T:=T) Tryz.call60 Tryz.func60 rfl Tryz.ntmps60 (congrArg Array.toList Tryz.results60) (by decide) fun ts hn h0=>?_
  (repeat' (first
 | (with_reducible first|refine callX.by (w1) ?_|refine callX.by (sane16_c _ _ ?_ ?_) ?_|refine callX.by (new16_c _) ?_|assumption|(refine Qw hK _ ?_; clear hK K)|refine Qw ‹_› _ ?_|refine Qx ‹_› ?_|refine Qi fun K hK=>?_|refine Qj T fun K hK=>?_|refine Ql fun A B hA hB=>?_|refine Qn ?_|refine Qr ?_)
 | ((with_reducible first|apply Qy|apply Qz|apply QA)<;>intro hb<;>try simp only [nr] at hb)
 | simp only [go_sem,↓reduceIte,reduceIte,Qa,Qh,Qb,Qc,Qd,Qe,Qf,Qg,reduceCtorEq, *,-hs,-w1]
 | with_reducible refine fun (bn:Bool) hbn=>?_))
def takeC (d:Cache) (adds:List Res) (gone:List Key):Cache × Int :=
 if mustE d.cap (patchR d.l adds gone)=0 then (⟨d.cap,patchR d.l adds gone⟩,0) else (d,mustE d.cap (patchR d.l adds gone))
theorem takeC_apply (c:Cache) (adds:List Res) (gone:List Key):takeC (saneOf c) adds gone=applyC c adds gone:=rfl
theorem take16_c (c_cap:Int) (c_l:List Res) (adds:List Res) (gone:List Key) (hl:c_l.length+adds.length≤65536) (hg:Small gone.length) (hs:∀ r∈c_l,SmRes r) (ha:∀ r∈adds,SmRes r) :
  CallR Tryz.prog 59 [.agg [.int .i64 c_cap,.slice false (avs c_l)],.slice false (avs adds),.slice false (avs gone)] (.val (.tup [.agg [.int .i64 (takeC (⟨c_cap,c_l⟩:Cache) adds gone).1.cap,.slice false (avs (takeC (⟨c_cap,c_l⟩:Cache) adds gone).1.l)],.int .i64 (takeC (⟨c_cap,c_l⟩:Cache) adds gone).2])):=by
 have hlen:=patchR_len c_l adds gone
 have hsp:∀ r∈patchR c_l adds gone,SmRes r:=fun r hr=>(patchR_mem hr).elim (hs r) (ha r)
 have w0:=patch05_c c_l adds gone (by unfold Small; omega) (by unfold Small; omega) hg (by unfold Small; omega) hs ha
 have w1:=check16_c c_cap (patchR c_l adds gone) (by omega) hsp
 unfold takeC
 simp only
 generalize patchR c_l adds gone=p at *
 generalize mustE c_cap p=e at *
 clear hsp hs ha hlen hl hg
 by_cases he:e=0
 ·subst he
  rw [if_pos rfl]
  refine CallR.go3 (T:=T) Tryz.call59 Tryz.func59 rfl Tryz.ntmps59 (congrArg Array.toList Tryz.results59) (by decide) fun ts hn h0 h1 h2=>?_
  (repeat' (first
 | (with_reducible first|refine callX.by (w0) ?_|refine callX.by (w1) ?_|refine callX.by (check16_c _ _ ?_ ?_) ?_|assumption|(refine Qw hK _ ?_; clear hK K)|refine Qw ‹_› _ ?_|refine Qx ‹_› ?_|refine Qi fun K hK=>?_|refine Qj T fun K hK=>?_|refine Ql fun A B hA hB=>?_|refine Qn ?_|refine Qr ?_)
 | ((with_reducible first|apply Qy|apply Qz|apply QA)<;>intro hb<;>try simp only [nr] at hb)
 | simp only [go_sem,↓reduceIte,reduceIte,Qa,Qh,Qb,Qc,Qd,Qe,Qf,Qg,reduceCtorEq, *,-w0,-w1]
 | with_reducible refine fun (bn:Bool) hbn=>?_))
 ·rw [if_neg he]
  refine CallR.go3 (T:=T) Tryz.call59 Tryz.func59 rfl Tryz.ntmps59 (congrArg Array.toList Tryz.results59) (by decide) fun ts hn h0 h1 h2=>?_
  (repeat' (first
 | (with_reducible first|refine callX.by (w0) ?_|refine callX.by (w1) ?_|refine callX.by (check16_c _ _ ?_ ?_) ?_|assumption|(refine Qw hK _ ?_; clear hK K)|refine Qw ‹_› _ ?_|refine Qx ‹_› ?_|refine Qi fun K hK=>?_|refine Qj T fun K hK=>?_|refine Ql fun A B hA hB=>?_|refine Qn ?_|refine Qr ?_)
 | ((with_reducible first|apply Qy|apply Qz|apply QA)<;>intro hb<;>try simp only [nr] at hb)
 | simp only [go_sem,↓reduceIte,reduceIte,Qa,Qh,Qb,Qc,Qd,Qe,Qf,Qg,reduceCtorEq, *,-w0,-w1]
 | with_reducible refine fun (bn:Bool) hbn=>?_))
theorem apply16_c (c_cap:Int) (c_l:List Res) (adds:List Res) (gone:List Key) (hl:c_l.length+adds.length≤65536) (hg:Small gone.length) (hs:∀ r∈c_l,SmRes r) (ha:∀ r∈adds,SmRes r) :
  CallR Tryz.prog 18 [.agg [.int .i64 c_cap,.slice false (avs c_l)],.slice false (avs adds),.slice false (avs gone)] (.val (.tup [.agg [.int .i64 (applyC (⟨c_cap,c_l⟩:Cache) adds gone).1.cap,.slice false (avs (applyC (⟨c_cap,c_l⟩:Cache) adds gone).1.l)],.int .i64 (applyC (⟨c_cap,c_l⟩:Cache) adds gone).2])):=by
 have w0:=saneOf16_c c_cap c_l (by omega) hs
 have hdl:=saneOf_len (⟨c_cap,c_l⟩:Cache)
 have hdm:∀ r∈(saneOf (⟨c_cap,c_l⟩:Cache)).l,SmRes r:=fun r hr=>hs r (saneOf_mem hr)
 rw [← takeC_apply]
 generalize saneOf (⟨c_cap,c_l⟩:Cache)=d at *
 have w1:=take16_c d.cap d.l adds gone (by simp only at hdl; omega) hg hdm ha
 have w1:CallR Tryz.prog 59 [.agg [.int .i64 d.cap,.slice false (avs d.l)],.slice false (avs adds),.slice false (avs gone)] (.val (.tup [.agg [.int .i64 (takeC d adds gone).1.cap,.slice false (avs (takeC d adds gone).1.l)],.int .i64 (takeC d adds gone).2])):=w1
 generalize (takeC d adds gone).1=q at *
 generalize (takeC d adds gone).2=e at *
 clear hdl hdm hs ha hl hg
 refine CallR.go3 (T:=T) Tryz.call18 Tryz.func18 rfl Tryz.ntmps18 (congrArg Array.toList Tryz.results18) (by decide) fun ts hn h0 h1 h2=>?_
 (repeat' (first
 | (with_reducible first|refine callX.by (w0) ?_|refine callX.by (w1) ?_|refine callX.by (saneOf16_c _ _ ?_ ?_) ?_|assumption|(refine Qw hK _ ?_; clear hK K)|refine Qw ‹_› _ ?_|refine Qx ‹_› ?_|refine Qi fun K hK=>?_|refine Qj T fun K hK=>?_|refine Ql fun A B hA hB=>?_|refine Qn ?_|refine Qr ?_)
 | ((with_reducible first|apply Qy|apply Qz|apply QA)<;>intro hb<;>try simp only [nr] at hb)
 | simp only [go_sem,↓reduceIte,reduceIte,Qa,Qh,Qb,Qc,Qd,Qe,Qf,Qg,reduceCtorEq, *,-w0,-w1]
 | with_reducible refine fun (bn:Bool) hbn=>?_))
theorem shown16_c (c_cap:Int) (c_l:List Res) (hl:c_l.length≤65536) (hs:∀ r∈c_l,SmRes r):CallR Tryz.prog 25 [.agg [.int .i64 c_cap,.slice false (avs c_l)]] (.val (.slice false (avs (shownC (⟨c_cap,c_l⟩:Cache))))):=by
 have w0:=saneOf16_c c_cap c_l hl hs
 have hdl:=saneOf_len (⟨c_cap,c_l⟩:Cache)
 have hdm:∀ r∈(saneOf (⟨c_cap,c_l⟩:Cache)).l,SmRes r:=fun r hr=>hs r (saneOf_mem hr)
 have hdn:=saneOf_nodup (⟨c_cap,c_l⟩:Cache)
 unfold shownC
 generalize saneOf (⟨c_cap,c_l⟩:Cache)=d at *
 have w1:=reach06_c d.l (by simp only at hdl; omega) hdm
 rw [reach06_eq hdn] at w1
 clear hdl hdm hs hl hdn
 refine QD (T:=T) Tryz.call25 Tryz.func25 rfl Tryz.ntmps25 (congrArg Array.toList Tryz.results25) (by decide) fun ts hn h0=>?_
 (repeat' (first
 | (with_reducible first|refine callX.by (w0) ?_|refine callX.by (w1) ?_|refine callX.by (saneOf16_c _ _ ?_ ?_) ?_|refine callX.by (reach06_c _ ?_ ?_) ?_|assumption|(refine Qw hK _ ?_; clear hK K)|refine Qw ‹_› _ ?_|refine Qx ‹_› ?_|refine Qi fun K hK=>?_|refine Qj T fun K hK=>?_|refine Ql fun A B hA hB=>?_|refine Qn ?_|refine Qr ?_)
 | ((with_reducible first|apply Qy|apply Qz|apply QA)<;>intro hb<;>try simp only [nr] at hb)
 | simp only [go_sem,↓reduceIte,reduceIte,Qa,Qh,Qb,Qc,Qd,Qe,Qf,Qg,reduceCtorEq, *,-w0,-w1]
 | with_reducible refine fun (bn:Bool) hbn=>?_))
theorem has16_c (c_cap:Int) (c_l:List Res) (k_kind:Int) (k_name:List UInt8) (hl:c_l.length≤65536) (hs:∀ r∈c_l,SmRes r):CallR Tryz.prog 27 [.agg [.int .i64 c_cap,.slice false (avs c_l)],.agg [.int .i64 k_kind,.str k_name]] (.val (.bool (hasC (⟨c_cap,c_l⟩:Cache) (⟨k_kind,k_name⟩:Key)))):=by
 have w0:=saneOf16_c c_cap c_l hl hs
 have hdl:=saneOf_len (⟨c_cap,c_l⟩:Cache)
 unfold hasC
 generalize saneOf (⟨c_cap,c_l⟩:Cache)=d at *
 have w1:=get05_c d.l k_kind k_name (by simp only at hdl; unfold Small; omega)
 generalize (tget d.l (⟨k_kind,k_name⟩:Key)).isSome=b at *
 generalize (tget d.l (⟨k_kind,k_name⟩:Key)).getD zRes=z at *
 rw [av_Res] at w1
 clear hdl hs hl
 refine CallR.go2 (T:=T) Tryz.call27 Tryz.func27 rfl Tryz.ntmps27 (congrArg Array.toList Tryz.results27) (by decide) fun ts hn h0 h1=>?_
 (repeat' (first
 | (with_reducible first|refine callX.by (w0) ?_|refine callX.by (w1) ?_|refine callX.by (saneOf16_c _ _ ?_ ?_) ?_|refine callX.by (get05_c _ _ _ ?_) ?_|assumption|(refine Qw hK _ ?_; clear hK K)|refine Qw ‹_› _ ?_|refine Qx ‹_› ?_|refine Qi fun K hK=>?_|refine Qj T fun K hK=>?_|refine Qk (id:=1) T mixed [([8],[11,7,13,14,5]),([9],[11,13,14,5]),([10],[11,13,14,5]),([11],[8,9,10,13,14,5]),([12],[5]),([7],[8,5]),([13],[8,9,10,11,14,5]),([14],[8,9,10,11,13,5]),([5],[8,9,10,11,12,7,13,14]),([5],[14])] (by kernel_rfl) fun K hK=>?_|refine Ql fun A B hA hB=>?_|refine Qn ?_|refine Qr ?_)
 | ((with_reducible first|apply Qy|apply Qz|apply QA)<;>intro hb<;>try simp only [nr] at hb)
 | simp only [go_sem,↓reduceIte,reduceIte,Qa,Qh,Qb,Qc,Qd,Qe,Qf,Qg,reduceCtorEq, *,-w0,-w1]
 | with_reducible refine fun (bn:Bool) hbn=>?_))
theorem same16_self (a:Cache):same16 a a=true:=by simp [same16]
set_option maxHeartbeats 16000000 in
theorem cacheIs_c (c_cap:Int) (c_l:List Res) (adds:List Res) (gone:List Key) (k_kind:Int) (k_name:List UInt8) (hl:Small c_l.length) (hs:∀ r∈c_l,SmRes r) (hla:Small adds.length) (ha:∀ r∈adds,SmRes r) (hg:Small gone.length) :
  CallR Tryz.prog 3 [.agg [.int .i64 c_cap,.slice false (avs c_l)],.slice false (avs adds),.slice false (avs gone),.agg [.int .i64 k_kind,.str k_name]] (.val (.bool true)):=by
 have f1:=few4_c c_l hl hs
 have f2:=few4_c adds hla ha
 by_cases hf1:fewAll c_l=true
 rotate_left
 ·have hf1:fewAll c_l=false:=by simpa using hf1
  rw [hf1] at f1
  refine CallR.go4 (T:=T) Tryz.call3 Tryz.func3 rfl Tryz.ntmps3 (congrArg Array.toList Tryz.results3) (by decide) fun ts hn h0 h1 h2 h3=>?_
  (repeat' (first
 | (with_reducible first|refine callX.by (f1) ?_|refine callX.by awake16_c ?_|refine callX.by (few4_c _ ?_ ?_) ?_|refine callX.by (ours_c _ _) ?_|refine callX.by (theirs_c _ _) ?_|refine callX.by (same16_c _ _ _ _ ?_ ?_) ?_|refine callX.by (saneC_c _ _ ?_ ?_) ?_|refine callX.by (sane16_c _ _ ?_ ?_) ?_|refine callX.by (shownC_c _ _ ?_ ?_) ?_|refine callX.by (shown16_c _ _ ?_ ?_) ?_|refine callX.by (all4_c _ _ ?_ ?_) ?_|refine callX.by (hasC_c _ _ _ _ ?_ ?_) ?_|refine callX.by (has16_c _ _ _ _ ?_ ?_) ?_|refine callX.by (newC_c _) ?_|refine callX.by (new16_c _) ?_|assumption|(refine Qw hK _ ?_; clear hK K)|refine Qw ‹_› _ ?_|refine Qx ‹_› ?_|refine Qi fun K hK=>?_|refine Qj T fun K hK=>?_|refine Qk (id:=6) T mixed [([45],[52,53,54,55,56,57,58,59,60,61,62,63,64,65,66,67,68,69,70,71,72,73,74,75,76,77,78,79,80,81,82,83,84,85,86,87,88,89,90,91,92]),([46],[53,54,55,56,57,58,59,60,61,62,63,64,65,66,67,68,69,70,71,72,73,74,75,76,77,78,79,80,81,82,83,84,85,86,87,88,89,90,91,92]),([47],[49,51,52,53,54,55,56,57,58,59,60,61,62,63,64,65,66,67,68,69,70,71,72,73,74,75,76,77,78,79,80,81,82,83,84,85,86,87,88,89,90,91,92]),([48],[49,53,54,55,56,57,58,59,60,61,62,63,64,65,66,67,68,69,70,71,72,73,74,75,76,77,78,79,80,81,82,83,84,85,86,87,88,89,90,91,92]),([49],[47,48,53,54,55,56,57,58,59,60,61,62,63,64,65,66,67,68,69,70,71,72,73,74,75,76,77,78,79,80,81,82,83,84,85,86,87,88,89,90,91,92]),([50],[58,59,60,61,62,63,64,65,66,67,68,69,70,71,72,73,74,75,76,77,78,79,80,81,82,83,84,85,86,87,88,89,90,91,92]),([51],[47,58,59,60,61,62,63,64,65,66,67,68,69,70,71,72,73,74,75,76,77,78,79,80,81,82,83,84,85,86,87,88,89,90,91,92]),([52],[45,47,65,66,67,68,69,70,71,72,73,74,75,76,77,78,79,80,81,82,83,84,85,86,87,88,89,90,91,92]),([53],[45,46,47,48,49,54,57,58,59,60,61,62,63,64,65,66,67,68,69,70,71,72,73,74,75,76,77,78,79,80,81,82,83,84,85,86,87,88,89,90,91,92]),([54],[45,46,47,48,49,53,57,58,59,60,61,62,63,64,65,66,67,68,69,70,71,72,73,74,75,76,77,78,79,80,81,82,83,84,85,86,87,88,89,90,91,92]),([55],[45,46,47,48,49,58,59,60,61,62,63,64,65,66,67,68,69,70,71,72,73,74,75,76,77,78,79,80,81,82,83,84,85,86,87,88,89,90,91,92]),([56],[45,46,47,48,49,65,66,67,68,69,70,71,72,73,74,75,76,77,78,79,80,81,82,83,84,85,86,87,88,89,90,91,92]),([57],[45,46,47,48,49,53,54,66,67,68,69,70,71,72,73,74,75,76,77,78,79,80,81,82,83,84,85,86,87,88,89,90,91,92]),([58],[45,46,47,48,49,50,51,53,54,55,61,62,63,64,65,66,67,68,69,70,71,72,73,74,75,76,77,78,79,80,81,82,83,84,85,86,87,88,89,90,91,92]),([59],[45,46,47,48,49,50,51,53,54,55,61,64,65,66,67,68,69,70,71,72,73,74,75,76,77,78,79,80,81,82,83,84,85,86,87,88,89,90,91,92]),([60],[45,46,47,48,49,50,51,53,54,55,61,66,67,68,69,70,71,72,73,74,75,76,77,78,79,80,81,82,83,84,85,86,87,88,89,90,91,92]),([61],[45,46,47,48,49,50,51,53,54,55,58,59,60,64,66,67,68,69,70,71,72,73,74,75,76,77,78,79,80,81,82,83,84,85,86,87,88,89,90,91,92]),([62],[45,46,47,48,49,50,51,53,54,55,58,73,74,75,76,77,78,79,80,81,82,83,84,85,86,87,88,89,90,91,92]),([63],[45,46,47,48,49,50,51,53,54,55,58,66,67,68,69,70,71,72,73,74,75,76,77,78,79,80,81,82,83,84,85,86,87,88,89,90,91,92]),([64],[45,46,47,48,49,50,51,53,54,55,58,59,61,73,74,75,76,77,78,79,80,81,82,83,84,85,86,87,88,89,90,91,92]),([65],[45,46,47,48,49,50,51,52,53,54,55,56,58,59,74,75,76,77,78,79,80,81,82,83,84,85,86,87,88,89,90,91,92]),([66],[45,46,47,48,49,50,51,52,53,54,55,56,57,58,59,60,61,63,69,70,71,72,73,74,75,76,77,78,79,80,81,82,83,84,85,86,87,88,89,90,91,92]),([67],[45,46,47,48,49,50,51,52,53,54,55,56,57,58,59,60,61,63,69,72,73,74,75,76,77,78,79,80,81,82,83,84,85,86,87,88,89,90,91,92]),([68],[45,46,47,48,49,50,51,52,53,54,55,56,57,58,59,60,61,63,69,74,75,76,77,78,79,80,81,82,83,84,85,86,87,88,89,90,91,92]),([69],[45,46,47,48,49,50,51,52,53,54,55,56,57,58,59,60,61,63,66,67,68,72,73,74,75,76,77,78,79,80,81,82,83,84,85,86,87,88,89,90,91,92]),([70],[45,46,47,48,49,50,51,52,53,54,55,56,57,58,59,60,61,63,66,74,75,76,77,78,79,80,81,82,83,84,85,86,87,88,89,90,91,92]),([71],[45,46,47,48,49,50,51,52,53,54,55,56,57,58,59,60,61,63,66,83,84,85,86,87,88,89,90,91,92]),([72],[45,46,47,48,49,50,51,52,53,54,55,56,57,58,59,60,61,63,66,67,69,83,84,85,86,87,88,89,90,91,92]),([73],[45,46,47,48,49,50,51,52,53,54,55,56,57,58,59,60,61,62,63,64,66,67,69,84,85,86,87,88,89,90,91,92]),([74],[45,46,47,48,49,50,51,52,53,54,55,56,57,58,59,60,61,62,63,64,65,66,67,68,69,70,76,78,79,80,81,82,83,84,85,86,87,88,89,90,91,92]),([75],[45,46,47,48,49,50,51,52,53,54,55,56,57,58,59,60,61,62,63,64,65,66,67,68,69,70,76,78,79,82,83,84,85,86,87,88,89,90,91,92]),([76],[45,46,47,48,49,50,51,52,53,54,55,56,57,58,59,60,61,62,63,64,65,66,67,68,69,70,74,75,78,79,82,83,84,85,86,87,88,89,90,91,92]),([77],[45,46,47,48,49,50,51,52,53,54,55,56,57,58,59,60,61,62,63,64,65,66,67,68,69,70,78,79,84,85,86,87,88,89,90,91,92]),([78],[45,46,47,48,49,50,51,52,53,54,55,56,57,58,59,60,61,62,63,64,65,66,67,68,69,70,74,75,76,77,79,82,84,85,86,87,88,89,90,91,92]),([79],[45,46,47,48,49,50,51,52,53,54,55,56,57,58,59,60,61,62,63,64,65,66,67,68,69,70,74,75,76,77,78,82,84,85,86,87,88,89,90,91,92]),([80],[45,46,47,48,49,50,51,52,53,54,55,56,57,58,59,60,61,62,63,64,65,66,67,68,69,70,74]),([81],[45,46,47,48,49,50,51,52,53,54,55,56,57,58,59,60,61,62,63,64,65,66,67,68,69,70,74,84,85,86,87,88,89,90,91,92]),([82],[45,46,47,48,49,50,51,52,53,54,55,56,57,58,59,60,61,62,63,64,65,66,67,68,69,70,74,75,76,78,79]),([83],[45,46,47,48,49,50,51,52,53,54,55,56,57,58,59,60,61,62,63,64,65,66,67,68,69,70,71,72,74,75,76]),([84],[45,46,47,48,49,50,51,52,53,54,55,56,57,58,59,60,61,62,63,64,65,66,67,68,69,70,71,72,73,74,75,76,77,78,79,81,87,88,89,90,91,92]),([85],[45,46,47,48,49,50,51,52,53,54,55,56,57,58,59,60,61,62,63,64,65,66,67,68,69,70,71,72,73,74,75,76,77,78,79,81,88,89,90,91,92]),([86],[45,46,47,48,49,50,51,52,53,54,55,56,57,58,59,60,61,62,63,64,65,66,67,68,69,70,71,72,73,74,75,76,77,78,79,81,88,89,92]),([87],[45,46,47,48,49,50,51,52,53,54,55,56,57,58,59,60,61,62,63,64,65,66,67,68,69,70,71,72,73,74,75,76,77,78,79,81,84,88,89]),([88],[45,46,47,48,49,50,51,52,53,54,55,56,57,58,59,60,61,62,63,64,65,66,67,68,69,70,71,72,73,74,75,76,77,78,79,81,84,85,86,87,91,92]),([89],[45,46,47,48,49,50,51,52,53,54,55,56,57,58,59,60,61,62,63,64,65,66,67,68,69,70,71,72,73,74,75,76,77,78,79,81,84,85,86,87,92]),([90],[45,46,47,48,49,50,51,52,53,54,55,56,57,58,59,60,61,62,63,64,65,66,67,68,69,70,71,72,73,74,75,76,77,78,79,81,84,85]),([91],[45,46,47,48,49,50,51,52,53,54,55,56,57,58,59,60,61,62,63,64,65,66,67,68,69,70,71,72,73,74,75,76,77,78,79,81,84,85,88]),([92],[45,46,47,48,49,50,51,52,53,54,55,56,57,58,59,60,61,62,63,64,65,66,67,68,69,70,71,72,73,74,75,76,77,78,79,81,84,85,86,88,89])] (by kernel_rfl) fun K hK=>?_|refine Ql fun A B hA hB=>?_|refine Qn ?_|refine Qr ?_)
 | ((with_reducible first|apply Qy|apply Qz|apply QA)<;>intro hb<;>try simp only [nr] at hb)
 | simp only [go_sem,↓reduceIte,reduceIte,Qa,Qh,Qb,Qc,Qd,Qe,Qf,Qg,reduceCtorEq, *,-hs,-ha,-f1,-f2]
 | with_reducible refine fun (bn:Bool) hbn=>?_))
 have hl80:=few_len16 hf1
 rw [hf1] at f1
 by_cases hf2:fewAll adds=true
 rotate_left
 ·have hf2:fewAll adds=false:=by simpa using hf2
  rw [hf2] at f2
  refine CallR.go4 (T:=T) Tryz.call3 Tryz.func3 rfl Tryz.ntmps3 (congrArg Array.toList Tryz.results3) (by decide) fun ts hn h0 h1 h2 h3=>?_
  (repeat' (first
 | (with_reducible first|refine callX.by (f1) ?_|refine callX.by (f2) ?_|refine callX.by awake16_c ?_|refine callX.by (few4_c _ ?_ ?_) ?_|refine callX.by (ours_c _ _) ?_|refine callX.by (theirs_c _ _) ?_|refine callX.by (same16_c _ _ _ _ ?_ ?_) ?_|refine callX.by (saneC_c _ _ ?_ ?_) ?_|refine callX.by (sane16_c _ _ ?_ ?_) ?_|refine callX.by (shownC_c _ _ ?_ ?_) ?_|refine callX.by (shown16_c _ _ ?_ ?_) ?_|refine callX.by (all4_c _ _ ?_ ?_) ?_|refine callX.by (hasC_c _ _ _ _ ?_ ?_) ?_|refine callX.by (has16_c _ _ _ _ ?_ ?_) ?_|refine callX.by (newC_c _) ?_|refine callX.by (new16_c _) ?_|assumption|(refine Qw hK _ ?_; clear hK K)|refine Qw ‹_› _ ?_|refine Qx ‹_› ?_|refine Qi fun K hK=>?_|refine Qj T fun K hK=>?_|refine Qk (id:=6) T mixed [([45],[52,53,54,55,56,57,58,59,60,61,62,63,64,65,66,67,68,69,70,71,72,73,74,75,76,77,78,79,80,81,82,83,84,85,86,87,88,89,90,91,92]),([46],[53,54,55,56,57,58,59,60,61,62,63,64,65,66,67,68,69,70,71,72,73,74,75,76,77,78,79,80,81,82,83,84,85,86,87,88,89,90,91,92]),([47],[49,51,52,53,54,55,56,57,58,59,60,61,62,63,64,65,66,67,68,69,70,71,72,73,74,75,76,77,78,79,80,81,82,83,84,85,86,87,88,89,90,91,92]),([48],[49,53,54,55,56,57,58,59,60,61,62,63,64,65,66,67,68,69,70,71,72,73,74,75,76,77,78,79,80,81,82,83,84,85,86,87,88,89,90,91,92]),([49],[47,48,53,54,55,56,57,58,59,60,61,62,63,64,65,66,67,68,69,70,71,72,73,74,75,76,77,78,79,80,81,82,83,84,85,86,87,88,89,90,91,92]),([50],[58,59,60,61,62,63,64,65,66,67,68,69,70,71,72,73,74,75,76,77,78,79,80,81,82,83,84,85,86,87,88,89,90,91,92]),([51],[47,58,59,60,61,62,63,64,65,66,67,68,69,70,71,72,73,74,75,76,77,78,79,80,81,82,83,84,85,86,87,88,89,90,91,92]),([52],[45,47,65,66,67,68,69,70,71,72,73,74,75,76,77,78,79,80,81,82,83,84,85,86,87,88,89,90,91,92]),([53],[45,46,47,48,49,54,57,58,59,60,61,62,63,64,65,66,67,68,69,70,71,72,73,74,75,76,77,78,79,80,81,82,83,84,85,86,87,88,89,90,91,92]),([54],[45,46,47,48,49,53,57,58,59,60,61,62,63,64,65,66,67,68,69,70,71,72,73,74,75,76,77,78,79,80,81,82,83,84,85,86,87,88,89,90,91,92]),([55],[45,46,47,48,49,58,59,60,61,62,63,64,65,66,67,68,69,70,71,72,73,74,75,76,77,78,79,80,81,82,83,84,85,86,87,88,89,90,91,92]),([56],[45,46,47,48,49,65,66,67,68,69,70,71,72,73,74,75,76,77,78,79,80,81,82,83,84,85,86,87,88,89,90,91,92]),([57],[45,46,47,48,49,53,54,66,67,68,69,70,71,72,73,74,75,76,77,78,79,80,81,82,83,84,85,86,87,88,89,90,91,92]),([58],[45,46,47,48,49,50,51,53,54,55,61,62,63,64,65,66,67,68,69,70,71,72,73,74,75,76,77,78,79,80,81,82,83,84,85,86,87,88,89,90,91,92]),([59],[45,46,47,48,49,50,51,53,54,55,61,64,65,66,67,68,69,70,71,72,73,74,75,76,77,78,79,80,81,82,83,84,85,86,87,88,89,90,91,92]),([60],[45,46,47,48,49,50,51,53,54,55,61,66,67,68,69,70,71,72,73,74,75,76,77,78,79,80,81,82,83,84,85,86,87,88,89,90,91,92]),([61],[45,46,47,48,49,50,51,53,54,55,58,59,60,64,66,67,68,69,70,71,72,73,74,75,76,77,78,79,80,81,82,83,84,85,86,87,88,89,90,91,92]),([62],[45,46,47,48,49,50,51,53,54,55,58,73,74,75,76,77,78,79,80,81,82,83,84,85,86,87,88,89,90,91,92]),([63],[45,46,47,48,49,50,51,53,54,55,58,66,67,68,69,70,71,72,73,74,75,76,77,78,79,80,81,82,83,84,85,86,87,88,89,90,91,92]),([64],[45,46,47,48,49,50,51,53,54,55,58,59,61,73,74,75,76,77,78,79,80,81,82,83,84,85,86,87,88,89,90,91,92]),([65],[45,46,47,48,49,50,51,52,53,54,55,56,58,59,74,75,76,77,78,79,80,81,82,83,84,85,86,87,88,89,90,91,92]),([66],[45,46,47,48,49,50,51,52,53,54,55,56,57,58,59,60,61,63,69,70,71,72,73,74,75,76,77,78,79,80,81,82,83,84,85,86,87,88,89,90,91,92]),([67],[45,46,47,48,49,50,51,52,53,54,55,56,57,58,59,60,61,63,69,72,73,74,75,76,77,78,79,80,81,82,83,84,85,86,87,88,89,90,91,92]),([68],[45,46,47,48,49,50,51,52,53,54,55,56,57,58,59,60,61,63,69,74,75,76,77,78,79,80,81,82,83,84,85,86,87,88,89,90,91,92]),([69],[45,46,47,48,49,50,51,52,53,54,55,56,57,58,59,60,61,63,66,67,68,72,73,74,75,76,77,78,79,80,81,82,83,84,85,86,87,88,89,90,91,92]),([70],[45,46,47,48,49,50,51,52,53,54,55,56,57,58,59,60,61,63,66,74,75,76,77,78,79,80,81,82,83,84,85,86,87,88,89,90,91,92]),([71],[45,46,47,48,49,50,51,52,53,54,55,56,57,58,59,60,61,63,66,83,84,85,86,87,88,89,90,91,92]),([72],[45,46,47,48,49,50,51,52,53,54,55,56,57,58,59,60,61,63,66,67,69,83,84,85,86,87,88,89,90,91,92]),([73],[45,46,47,48,49,50,51,52,53,54,55,56,57,58,59,60,61,62,63,64,66,67,69,84,85,86,87,88,89,90,91,92]),([74],[45,46,47,48,49,50,51,52,53,54,55,56,57,58,59,60,61,62,63,64,65,66,67,68,69,70,76,78,79,80,81,82,83,84,85,86,87,88,89,90,91,92]),([75],[45,46,47,48,49,50,51,52,53,54,55,56,57,58,59,60,61,62,63,64,65,66,67,68,69,70,76,78,79,82,83,84,85,86,87,88,89,90,91,92]),([76],[45,46,47,48,49,50,51,52,53,54,55,56,57,58,59,60,61,62,63,64,65,66,67,68,69,70,74,75,78,79,82,83,84,85,86,87,88,89,90,91,92]),([77],[45,46,47,48,49,50,51,52,53,54,55,56,57,58,59,60,61,62,63,64,65,66,67,68,69,70,78,79,84,85,86,87,88,89,90,91,92]),([78],[45,46,47,48,49,50,51,52,53,54,55,56,57,58,59,60,61,62,63,64,65,66,67,68,69,70,74,75,76,77,79,82,84,85,86,87,88,89,90,91,92]),([79],[45,46,47,48,49,50,51,52,53,54,55,56,57,58,59,60,61,62,63,64,65,66,67,68,69,70,74,75,76,77,78,82,84,85,86,87,88,89,90,91,92]),([80],[45,46,47,48,49,50,51,52,53,54,55,56,57,58,59,60,61,62,63,64,65,66,67,68,69,70,74]),([81],[45,46,47,48,49,50,51,52,53,54,55,56,57,58,59,60,61,62,63,64,65,66,67,68,69,70,74,84,85,86,87,88,89,90,91,92]),([82],[45,46,47,48,49,50,51,52,53,54,55,56,57,58,59,60,61,62,63,64,65,66,67,68,69,70,74,75,76,78,79]),([83],[45,46,47,48,49,50,51,52,53,54,55,56,57,58,59,60,61,62,63,64,65,66,67,68,69,70,71,72,74,75,76]),([84],[45,46,47,48,49,50,51,52,53,54,55,56,57,58,59,60,61,62,63,64,65,66,67,68,69,70,71,72,73,74,75,76,77,78,79,81,87,88,89,90,91,92]),([85],[45,46,47,48,49,50,51,52,53,54,55,56,57,58,59,60,61,62,63,64,65,66,67,68,69,70,71,72,73,74,75,76,77,78,79,81,88,89,90,91,92]),([86],[45,46,47,48,49,50,51,52,53,54,55,56,57,58,59,60,61,62,63,64,65,66,67,68,69,70,71,72,73,74,75,76,77,78,79,81,88,89,92]),([87],[45,46,47,48,49,50,51,52,53,54,55,56,57,58,59,60,61,62,63,64,65,66,67,68,69,70,71,72,73,74,75,76,77,78,79,81,84,88,89]),([88],[45,46,47,48,49,50,51,52,53,54,55,56,57,58,59,60,61,62,63,64,65,66,67,68,69,70,71,72,73,74,75,76,77,78,79,81,84,85,86,87,91,92]),([89],[45,46,47,48,49,50,51,52,53,54,55,56,57,58,59,60,61,62,63,64,65,66,67,68,69,70,71,72,73,74,75,76,77,78,79,81,84,85,86,87,92]),([90],[45,46,47,48,49,50,51,52,53,54,55,56,57,58,59,60,61,62,63,64,65,66,67,68,69,70,71,72,73,74,75,76,77,78,79,81,84,85]),([91],[45,46,47,48,49,50,51,52,53,54,55,56,57,58,59,60,61,62,63,64,65,66,67,68,69,70,71,72,73,74,75,76,77,78,79,81,84,85,88]),([92],[45,46,47,48,49,50,51,52,53,54,55,56,57,58,59,60,61,62,63,64,65,66,67,68,69,70,71,72,73,74,75,76,77,78,79,81,84,85,86,88,89])] (by kernel_rfl) fun K hK=>?_|refine Ql fun A B hA hB=>?_|refine Qn ?_|refine Qr ?_)
 | ((with_reducible first|apply Qy|apply Qz|apply QA)<;>intro hb<;>try simp only [nr] at hb)
 | simp only [go_sem,↓reduceIte,reduceIte,Qa,Qh,Qb,Qc,Qd,Qe,Qf,Qg,reduceCtorEq, *,-hs,-ha,-f1,-f2]
 | with_reducible refine fun (bn:Bool) hbn=>?_))
 have ha80:=few_len16 hf2
 rw [hf2] at f2
 by_cases hgl:80 < gone.length
 ·have hgl':(80:Int) < (gone.length:Int):=by omega
  refine CallR.go4 (T:=T) Tryz.call3 Tryz.func3 rfl Tryz.ntmps3 (congrArg Array.toList Tryz.results3) (by decide) fun ts hn h0 h1 h2 h3=>?_
  (repeat' (first
 | (with_reducible first|refine callX.by (f1) ?_|refine callX.by (f2) ?_|refine callX.by awake16_c ?_|refine callX.by (few4_c _ ?_ ?_) ?_|refine callX.by (ours_c _ _) ?_|refine callX.by (theirs_c _ _) ?_|refine callX.by (same16_c _ _ _ _ ?_ ?_) ?_|refine callX.by (saneC_c _ _ ?_ ?_) ?_|refine callX.by (sane16_c _ _ ?_ ?_) ?_|refine callX.by (shownC_c _ _ ?_ ?_) ?_|refine callX.by (shown16_c _ _ ?_ ?_) ?_|refine callX.by (all4_c _ _ ?_ ?_) ?_|refine callX.by (hasC_c _ _ _ _ ?_ ?_) ?_|refine callX.by (has16_c _ _ _ _ ?_ ?_) ?_|refine callX.by (newC_c _) ?_|refine callX.by (new16_c _) ?_|assumption|(refine Qw hK _ ?_; clear hK K)|refine Qw ‹_› _ ?_|refine Qx ‹_› ?_|refine Qi fun K hK=>?_|refine Qj T fun K hK=>?_|refine Qk (id:=6) T mixed [([45],[52,53,54,55,56,57,58,59,60,61,62,63,64,65,66,67,68,69,70,71,72,73,74,75,76,77,78,79,80,81,82,83,84,85,86,87,88,89,90,91,92]),([46],[53,54,55,56,57,58,59,60,61,62,63,64,65,66,67,68,69,70,71,72,73,74,75,76,77,78,79,80,81,82,83,84,85,86,87,88,89,90,91,92]),([47],[49,51,52,53,54,55,56,57,58,59,60,61,62,63,64,65,66,67,68,69,70,71,72,73,74,75,76,77,78,79,80,81,82,83,84,85,86,87,88,89,90,91,92]),([48],[49,53,54,55,56,57,58,59,60,61,62,63,64,65,66,67,68,69,70,71,72,73,74,75,76,77,78,79,80,81,82,83,84,85,86,87,88,89,90,91,92]),([49],[47,48,53,54,55,56,57,58,59,60,61,62,63,64,65,66,67,68,69,70,71,72,73,74,75,76,77,78,79,80,81,82,83,84,85,86,87,88,89,90,91,92]),([50],[58,59,60,61,62,63,64,65,66,67,68,69,70,71,72,73,74,75,76,77,78,79,80,81,82,83,84,85,86,87,88,89,90,91,92]),([51],[47,58,59,60,61,62,63,64,65,66,67,68,69,70,71,72,73,74,75,76,77,78,79,80,81,82,83,84,85,86,87,88,89,90,91,92]),([52],[45,47,65,66,67,68,69,70,71,72,73,74,75,76,77,78,79,80,81,82,83,84,85,86,87,88,89,90,91,92]),([53],[45,46,47,48,49,54,57,58,59,60,61,62,63,64,65,66,67,68,69,70,71,72,73,74,75,76,77,78,79,80,81,82,83,84,85,86,87,88,89,90,91,92]),([54],[45,46,47,48,49,53,57,58,59,60,61,62,63,64,65,66,67,68,69,70,71,72,73,74,75,76,77,78,79,80,81,82,83,84,85,86,87,88,89,90,91,92]),([55],[45,46,47,48,49,58,59,60,61,62,63,64,65,66,67,68,69,70,71,72,73,74,75,76,77,78,79,80,81,82,83,84,85,86,87,88,89,90,91,92]),([56],[45,46,47,48,49,65,66,67,68,69,70,71,72,73,74,75,76,77,78,79,80,81,82,83,84,85,86,87,88,89,90,91,92]),([57],[45,46,47,48,49,53,54,66,67,68,69,70,71,72,73,74,75,76,77,78,79,80,81,82,83,84,85,86,87,88,89,90,91,92]),([58],[45,46,47,48,49,50,51,53,54,55,61,62,63,64,65,66,67,68,69,70,71,72,73,74,75,76,77,78,79,80,81,82,83,84,85,86,87,88,89,90,91,92]),([59],[45,46,47,48,49,50,51,53,54,55,61,64,65,66,67,68,69,70,71,72,73,74,75,76,77,78,79,80,81,82,83,84,85,86,87,88,89,90,91,92]),([60],[45,46,47,48,49,50,51,53,54,55,61,66,67,68,69,70,71,72,73,74,75,76,77,78,79,80,81,82,83,84,85,86,87,88,89,90,91,92]),([61],[45,46,47,48,49,50,51,53,54,55,58,59,60,64,66,67,68,69,70,71,72,73,74,75,76,77,78,79,80,81,82,83,84,85,86,87,88,89,90,91,92]),([62],[45,46,47,48,49,50,51,53,54,55,58,73,74,75,76,77,78,79,80,81,82,83,84,85,86,87,88,89,90,91,92]),([63],[45,46,47,48,49,50,51,53,54,55,58,66,67,68,69,70,71,72,73,74,75,76,77,78,79,80,81,82,83,84,85,86,87,88,89,90,91,92]),([64],[45,46,47,48,49,50,51,53,54,55,58,59,61,73,74,75,76,77,78,79,80,81,82,83,84,85,86,87,88,89,90,91,92]),([65],[45,46,47,48,49,50,51,52,53,54,55,56,58,59,74,75,76,77,78,79,80,81,82,83,84,85,86,87,88,89,90,91,92]),([66],[45,46,47,48,49,50,51,52,53,54,55,56,57,58,59,60,61,63,69,70,71,72,73,74,75,76,77,78,79,80,81,82,83,84,85,86,87,88,89,90,91,92]),([67],[45,46,47,48,49,50,51,52,53,54,55,56,57,58,59,60,61,63,69,72,73,74,75,76,77,78,79,80,81,82,83,84,85,86,87,88,89,90,91,92]),([68],[45,46,47,48,49,50,51,52,53,54,55,56,57,58,59,60,61,63,69,74,75,76,77,78,79,80,81,82,83,84,85,86,87,88,89,90,91,92]),([69],[45,46,47,48,49,50,51,52,53,54,55,56,57,58,59,60,61,63,66,67,68,72,73,74,75,76,77,78,79,80,81,82,83,84,85,86,87,88,89,90,91,92]),([70],[45,46,47,48,49,50,51,52,53,54,55,56,57,58,59,60,61,63,66,74,75,76,77,78,79,80,81,82,83,84,85,86,87,88,89,90,91,92]),([71],[45,46,47,48,49,50,51,52,53,54,55,56,57,58,59,60,61,63,66,83,84,85,86,87,88,89,90,91,92]),([72],[45,46,47,48,49,50,51,52,53,54,55,56,57,58,59,60,61,63,66,67,69,83,84,85,86,87,88,89,90,91,92]),([73],[45,46,47,48,49,50,51,52,53,54,55,56,57,58,59,60,61,62,63,64,66,67,69,84,85,86,87,88,89,90,91,92]),([74],[45,46,47,48,49,50,51,52,53,54,55,56,57,58,59,60,61,62,63,64,65,66,67,68,69,70,76,78,79,80,81,82,83,84,85,86,87,88,89,90,91,92]),([75],[45,46,47,48,49,50,51,52,53,54,55,56,57,58,59,60,61,62,63,64,65,66,67,68,69,70,76,78,79,82,83,84,85,86,87,88,89,90,91,92]),([76],[45,46,47,48,49,50,51,52,53,54,55,56,57,58,59,60,61,62,63,64,65,66,67,68,69,70,74,75,78,79,82,83,84,85,86,87,88,89,90,91,92]),([77],[45,46,47,48,49,50,51,52,53,54,55,56,57,58,59,60,61,62,63,64,65,66,67,68,69,70,78,79,84,85,86,87,88,89,90,91,92]),([78],[45,46,47,48,49,50,51,52,53,54,55,56,57,58,59,60,61,62,63,64,65,66,67,68,69,70,74,75,76,77,79,82,84,85,86,87,88,89,90,91,92]),([79],[45,46,47,48,49,50,51,52,53,54,55,56,57,58,59,60,61,62,63,64,65,66,67,68,69,70,74,75,76,77,78,82,84,85,86,87,88,89,90,91,92]),([80],[45,46,47,48,49,50,51,52,53,54,55,56,57,58,59,60,61,62,63,64,65,66,67,68,69,70,74]),([81],[45,46,47,48,49,50,51,52,53,54,55,56,57,58,59,60,61,62,63,64,65,66,67,68,69,70,74,84,85,86,87,88,89,90,91,92]),([82],[45,46,47,48,49,50,51,52,53,54,55,56,57,58,59,60,61,62,63,64,65,66,67,68,69,70,74,75,76,78,79]),([83],[45,46,47,48,49,50,51,52,53,54,55,56,57,58,59,60,61,62,63,64,65,66,67,68,69,70,71,72,74,75,76]),([84],[45,46,47,48,49,50,51,52,53,54,55,56,57,58,59,60,61,62,63,64,65,66,67,68,69,70,71,72,73,74,75,76,77,78,79,81,87,88,89,90,91,92]),([85],[45,46,47,48,49,50,51,52,53,54,55,56,57,58,59,60,61,62,63,64,65,66,67,68,69,70,71,72,73,74,75,76,77,78,79,81,88,89,90,91,92]),([86],[45,46,47,48,49,50,51,52,53,54,55,56,57,58,59,60,61,62,63,64,65,66,67,68,69,70,71,72,73,74,75,76,77,78,79,81,88,89,92]),([87],[45,46,47,48,49,50,51,52,53,54,55,56,57,58,59,60,61,62,63,64,65,66,67,68,69,70,71,72,73,74,75,76,77,78,79,81,84,88,89]),([88],[45,46,47,48,49,50,51,52,53,54,55,56,57,58,59,60,61,62,63,64,65,66,67,68,69,70,71,72,73,74,75,76,77,78,79,81,84,85,86,87,91,92]),([89],[45,46,47,48,49,50,51,52,53,54,55,56,57,58,59,60,61,62,63,64,65,66,67,68,69,70,71,72,73,74,75,76,77,78,79,81,84,85,86,87,92]),([90],[45,46,47,48,49,50,51,52,53,54,55,56,57,58,59,60,61,62,63,64,65,66,67,68,69,70,71,72,73,74,75,76,77,78,79,81,84,85]),([91],[45,46,47,48,49,50,51,52,53,54,55,56,57,58,59,60,61,62,63,64,65,66,67,68,69,70,71,72,73,74,75,76,77,78,79,81,84,85,88]),([92],[45,46,47,48,49,50,51,52,53,54,55,56,57,58,59,60,61,62,63,64,65,66,67,68,69,70,71,72,73,74,75,76,77,78,79,81,84,85,86,88,89])] (by kernel_rfl) fun K hK=>?_|refine Ql fun A B hA hB=>?_|refine Qn ?_|refine Qr ?_)
 | ((with_reducible first|apply Qy|apply Qz|apply QA)<;>intro hb<;>try simp only [nr] at hb)
 | simp only [go_sem,↓reduceIte,reduceIte,Qa,Qh,Qb,Qc,Qd,Qe,Qf,Qg,reduceCtorEq, *,-hs,-ha,-f1,-f2]
 | with_reducible refine fun (bn:Bool) hbn=>?_))
 have hgl':¬ (80:Int) < (gone.length:Int):=by omega
 have w0:=ours_c c_cap c_l
 have w1:=applyC_c c_cap c_l adds gone (by omega) hg hs ha
 have w2:=apply16_c c_cap c_l adds gone (by omega) hg hs ha
 have hml:=applyC_len (⟨c_cap,c_l⟩:Cache) adds gone
 have hmm:∀ r∈(applyC (⟨c_cap,c_l⟩:Cache) adds gone).1.l,SmRes r:=fun r hr=>(applyC_mem' hr).elim (hs r) (ha r)
 generalize (applyC (⟨c_cap,c_l⟩:Cache) adds gone).1=d at *
 generalize (applyC (⟨c_cap,c_l⟩:Cache) adds gone).2=e at *
 simp only at hml
 have w3:=theirs_c d.cap d.l
 have w4:=same16_c d.cap d.l d.cap d.l (by unfold Small; omega) hmm
 rw [same16_self] at w4
 have w5:=saneC_c c_cap c_l (by omega) hs
 have w6:=sane16_c c_cap c_l (by omega) hs
 generalize saneC (⟨c_cap,c_l⟩:Cache)=sn at *
 have w7:=(shownC_c c_cap c_l (by omega) hs).frz
 have w8:=shown16_c c_cap c_l (by omega) hs
 have hsl:(shownC (⟨c_cap,c_l⟩:Cache)).length≤c_l.length:=Nat.le_trans (reachR_len _) (saneOf_len _)
 have hsm:∀ r∈shownC (⟨c_cap,c_l⟩:Cache),SmRes r:=fun r hr=>hs r (saneOf_mem ((reachR_sub _).subset hr))
 generalize shownC (⟨c_cap,c_l⟩:Cache)=S at *
 have w9:=all4_c S S (by unfold Small; omega) hsm
 rw [decide_eq_true rfl] at w9
 have w10:=hasC_c c_cap c_l k_kind k_name (by omega) hs
 have w11:=has16_c c_cap c_l k_kind k_name (by omega) hs
 generalize hasC (⟨c_cap,c_l⟩:Cache) (⟨k_kind,k_name⟩:Key)=hb0 at *
 have w12:=newC_c c_cap
 have w13:=new16_c c_cap
 have w14:CallR Tryz.prog 20 [.agg [.int .i64 (bnd c_cap),.slice false []]] (.val (.agg [.int .i64 (bnd c_cap),.slice false []])):=theirs_c (bnd c_cap) []
 have w15:CallR Tryz.prog 19 [.agg [.int .i64 (bnd c_cap),.slice false []],.agg [.int .i64 (bnd c_cap),.slice false []]] (.val (.bool true)):=by
  have h:=same16_c (bnd c_cap) [] (bnd c_cap) [] (by simp [Small]) (by simp)
  rw [same16_self] at h
  exact h
 generalize bnd c_cap=bc at *
 clear hs ha hmm hsm
 refine CallR.go4 (T:=T) Tryz.call3 Tryz.func3 rfl Tryz.ntmps3 (congrArg Array.toList Tryz.results3) (by decide) fun ts hn h0 h1 h2 h3=>?_
 (repeat' (first
 | (with_reducible first|refine callX.by (f1) ?_|refine callX.by (f2) ?_|refine callX.by (w0) ?_|refine callX.by (w1) ?_|refine callX.by (w2) ?_|refine callX.by (w3) ?_|refine callX.by (w4) ?_|refine callX.by (w5) ?_|refine callX.by (w6) ?_|refine callX.by (w7) ?_|refine callX.by (w8) ?_|refine callX.by (w9) ?_|refine callX.by (w10) ?_|refine callX.by (w11) ?_|refine callX.by (w12) ?_|refine callX.by (w13) ?_|refine callX.by (w14) ?_|refine callX.by (w15) ?_|refine callX.by awake16_c ?_|refine callX.by (few4_c _ ?_ ?_) ?_|refine callX.by (ours_c _ _) ?_|refine callX.by (theirs_c _ _) ?_|refine callX.by (same16_c _ _ _ _ ?_ ?_) ?_|refine callX.by (saneC_c _ _ ?_ ?_) ?_|refine callX.by (sane16_c _ _ ?_ ?_) ?_|refine callX.by (shownC_c _ _ ?_ ?_) ?_|refine callX.by (shown16_c _ _ ?_ ?_) ?_|refine callX.by (all4_c _ _ ?_ ?_) ?_|refine callX.by (hasC_c _ _ _ _ ?_ ?_) ?_|refine callX.by (has16_c _ _ _ _ ?_ ?_) ?_|refine callX.by (newC_c _) ?_|refine callX.by (new16_c _) ?_|assumption|(refine Qw hK _ ?_; clear hK K)|refine Qw ‹_› _ ?_|refine Qx ‹_› ?_|refine Qi fun K hK=>?_|refine Qj T fun K hK=>?_|refine Qk (id:=6) T mixed [([45],[52,53,54,55,56,57,58,59,60,61,62,63,64,65,66,67,68,69,70,71,72,73,74,75,76,77,78,79,80,81,82,83,84,85,86,87,88,89,90,91,92]),([46],[53,54,55,56,57,58,59,60,61,62,63,64,65,66,67,68,69,70,71,72,73,74,75,76,77,78,79,80,81,82,83,84,85,86,87,88,89,90,91,92]),([47],[49,51,52,53,54,55,56,57,58,59,60,61,62,63,64,65,66,67,68,69,70,71,72,73,74,75,76,77,78,79,80,81,82,83,84,85,86,87,88,89,90,91,92]),([48],[49,53,54,55,56,57,58,59,60,61,62,63,64,65,66,67,68,69,70,71,72,73,74,75,76,77,78,79,80,81,82,83,84,85,86,87,88,89,90,91,92]),([49],[47,48,53,54,55,56,57,58,59,60,61,62,63,64,65,66,67,68,69,70,71,72,73,74,75,76,77,78,79,80,81,82,83,84,85,86,87,88,89,90,91,92]),([50],[58,59,60,61,62,63,64,65,66,67,68,69,70,71,72,73,74,75,76,77,78,79,80,81,82,83,84,85,86,87,88,89,90,91,92]),([51],[47,58,59,60,61,62,63,64,65,66,67,68,69,70,71,72,73,74,75,76,77,78,79,80,81,82,83,84,85,86,87,88,89,90,91,92]),([52],[45,47,65,66,67,68,69,70,71,72,73,74,75,76,77,78,79,80,81,82,83,84,85,86,87,88,89,90,91,92]),([53],[45,46,47,48,49,54,57,58,59,60,61,62,63,64,65,66,67,68,69,70,71,72,73,74,75,76,77,78,79,80,81,82,83,84,85,86,87,88,89,90,91,92]),([54],[45,46,47,48,49,53,57,58,59,60,61,62,63,64,65,66,67,68,69,70,71,72,73,74,75,76,77,78,79,80,81,82,83,84,85,86,87,88,89,90,91,92]),([55],[45,46,47,48,49,58,59,60,61,62,63,64,65,66,67,68,69,70,71,72,73,74,75,76,77,78,79,80,81,82,83,84,85,86,87,88,89,90,91,92]),([56],[45,46,47,48,49,65,66,67,68,69,70,71,72,73,74,75,76,77,78,79,80,81,82,83,84,85,86,87,88,89,90,91,92]),([57],[45,46,47,48,49,53,54,66,67,68,69,70,71,72,73,74,75,76,77,78,79,80,81,82,83,84,85,86,87,88,89,90,91,92]),([58],[45,46,47,48,49,50,51,53,54,55,61,62,63,64,65,66,67,68,69,70,71,72,73,74,75,76,77,78,79,80,81,82,83,84,85,86,87,88,89,90,91,92]),([59],[45,46,47,48,49,50,51,53,54,55,61,64,65,66,67,68,69,70,71,72,73,74,75,76,77,78,79,80,81,82,83,84,85,86,87,88,89,90,91,92]),([60],[45,46,47,48,49,50,51,53,54,55,61,66,67,68,69,70,71,72,73,74,75,76,77,78,79,80,81,82,83,84,85,86,87,88,89,90,91,92]),([61],[45,46,47,48,49,50,51,53,54,55,58,59,60,64,66,67,68,69,70,71,72,73,74,75,76,77,78,79,80,81,82,83,84,85,86,87,88,89,90,91,92]),([62],[45,46,47,48,49,50,51,53,54,55,58,73,74,75,76,77,78,79,80,81,82,83,84,85,86,87,88,89,90,91,92]),([63],[45,46,47,48,49,50,51,53,54,55,58,66,67,68,69,70,71,72,73,74,75,76,77,78,79,80,81,82,83,84,85,86,87,88,89,90,91,92]),([64],[45,46,47,48,49,50,51,53,54,55,58,59,61,73,74,75,76,77,78,79,80,81,82,83,84,85,86,87,88,89,90,91,92]),([65],[45,46,47,48,49,50,51,52,53,54,55,56,58,59,74,75,76,77,78,79,80,81,82,83,84,85,86,87,88,89,90,91,92]),([66],[45,46,47,48,49,50,51,52,53,54,55,56,57,58,59,60,61,63,69,70,71,72,73,74,75,76,77,78,79,80,81,82,83,84,85,86,87,88,89,90,91,92]),([67],[45,46,47,48,49,50,51,52,53,54,55,56,57,58,59,60,61,63,69,72,73,74,75,76,77,78,79,80,81,82,83,84,85,86,87,88,89,90,91,92]),([68],[45,46,47,48,49,50,51,52,53,54,55,56,57,58,59,60,61,63,69,74,75,76,77,78,79,80,81,82,83,84,85,86,87,88,89,90,91,92]),([69],[45,46,47,48,49,50,51,52,53,54,55,56,57,58,59,60,61,63,66,67,68,72,73,74,75,76,77,78,79,80,81,82,83,84,85,86,87,88,89,90,91,92]),([70],[45,46,47,48,49,50,51,52,53,54,55,56,57,58,59,60,61,63,66,74,75,76,77,78,79,80,81,82,83,84,85,86,87,88,89,90,91,92]),([71],[45,46,47,48,49,50,51,52,53,54,55,56,57,58,59,60,61,63,66,83,84,85,86,87,88,89,90,91,92]),([72],[45,46,47,48,49,50,51,52,53,54,55,56,57,58,59,60,61,63,66,67,69,83,84,85,86,87,88,89,90,91,92]),([73],[45,46,47,48,49,50,51,52,53,54,55,56,57,58,59,60,61,62,63,64,66,67,69,84,85,86,87,88,89,90,91,92]),([74],[45,46,47,48,49,50,51,52,53,54,55,56,57,58,59,60,61,62,63,64,65,66,67,68,69,70,76,78,79,80,81,82,83,84,85,86,87,88,89,90,91,92]),([75],[45,46,47,48,49,50,51,52,53,54,55,56,57,58,59,60,61,62,63,64,65,66,67,68,69,70,76,78,79,82,83,84,85,86,87,88,89,90,91,92]),([76],[45,46,47,48,49,50,51,52,53,54,55,56,57,58,59,60,61,62,63,64,65,66,67,68,69,70,74,75,78,79,82,83,84,85,86,87,88,89,90,91,92]),([77],[45,46,47,48,49,50,51,52,53,54,55,56,57,58,59,60,61,62,63,64,65,66,67,68,69,70,78,79,84,85,86,87,88,89,90,91,92]),([78],[45,46,47,48,49,50,51,52,53,54,55,56,57,58,59,60,61,62,63,64,65,66,67,68,69,70,74,75,76,77,79,82,84,85,86,87,88,89,90,91,92]),([79],[45,46,47,48,49,50,51,52,53,54,55,56,57,58,59,60,61,62,63,64,65,66,67,68,69,70,74,75,76,77,78,82,84,85,86,87,88,89,90,91,92]),([80],[45,46,47,48,49,50,51,52,53,54,55,56,57,58,59,60,61,62,63,64,65,66,67,68,69,70,74]),([81],[45,46,47,48,49,50,51,52,53,54,55,56,57,58,59,60,61,62,63,64,65,66,67,68,69,70,74,84,85,86,87,88,89,90,91,92]),([82],[45,46,47,48,49,50,51,52,53,54,55,56,57,58,59,60,61,62,63,64,65,66,67,68,69,70,74,75,76,78,79]),([83],[45,46,47,48,49,50,51,52,53,54,55,56,57,58,59,60,61,62,63,64,65,66,67,68,69,70,71,72,74,75,76]),([84],[45,46,47,48,49,50,51,52,53,54,55,56,57,58,59,60,61,62,63,64,65,66,67,68,69,70,71,72,73,74,75,76,77,78,79,81,87,88,89,90,91,92]),([85],[45,46,47,48,49,50,51,52,53,54,55,56,57,58,59,60,61,62,63,64,65,66,67,68,69,70,71,72,73,74,75,76,77,78,79,81,88,89,90,91,92]),([86],[45,46,47,48,49,50,51,52,53,54,55,56,57,58,59,60,61,62,63,64,65,66,67,68,69,70,71,72,73,74,75,76,77,78,79,81,88,89,92]),([87],[45,46,47,48,49,50,51,52,53,54,55,56,57,58,59,60,61,62,63,64,65,66,67,68,69,70,71,72,73,74,75,76,77,78,79,81,84,88,89]),([88],[45,46,47,48,49,50,51,52,53,54,55,56,57,58,59,60,61,62,63,64,65,66,67,68,69,70,71,72,73,74,75,76,77,78,79,81,84,85,86,87,91,92]),([89],[45,46,47,48,49,50,51,52,53,54,55,56,57,58,59,60,61,62,63,64,65,66,67,68,69,70,71,72,73,74,75,76,77,78,79,81,84,85,86,87,92]),([90],[45,46,47,48,49,50,51,52,53,54,55,56,57,58,59,60,61,62,63,64,65,66,67,68,69,70,71,72,73,74,75,76,77,78,79,81,84,85]),([91],[45,46,47,48,49,50,51,52,53,54,55,56,57,58,59,60,61,62,63,64,65,66,67,68,69,70,71,72,73,74,75,76,77,78,79,81,84,85,88]),([92],[45,46,47,48,49,50,51,52,53,54,55,56,57,58,59,60,61,62,63,64,65,66,67,68,69,70,71,72,73,74,75,76,77,78,79,81,84,85,86,88,89])] (by kernel_rfl) fun K hK=>?_|refine Ql fun A B hA hB=>?_|refine Qn ?_|refine Qr ?_)
 | ((with_reducible first|apply Qy|apply Qz|apply QA)<;>intro hb<;>try simp only [nr] at hb)
 | simp only [go_sem,↓reduceIte,reduceIte,Qa,Qh,Qb,Qc,Qd,Qe,Qf,Qg,reduceCtorEq, *,-f1,-f2,-w0,-w1,-w2,-w3,-w4,-w5,-w6,-w7,-w8,-w9,-w10,-w11,-w12,-w13,-w14,-w15]
 | with_reducible refine fun (bn:Bool) hbn=>?_))
 all_goals trace_state
end Go.Proofs.YtdolbhcmdkcpnaaGreatDoor.Lg
