/- Parts of the proof, one behind the other. -/
import Derived.Test.YtndnkbekhmndhaaGreatDoorG18
namespace Go.Proofs.YtndnkbekhmndhaaGreatDoor.Lg
set_option maxRecDepth 100000
set_option linter.unusedVariables false
set_option linter.unusedSimpArgs false
open Go
theorem mem_missK (l:List Res) (x:Key):x∈missK l↔(∃ r∈l,x∈refsR r)∧¬ x∈l.map keyOf:=by
 unfold missK
 rw [(kcompact_up (ksort_le _)).2,ksort_mem]
 unfold missR keepK
 rw [List.mem_flatMap]
 have hi:∀ k,(mget (ofR l []) k).getD false=decide (k∈l.map keyOf):=fun k=>isIn_of l k
 constructor
 ·rintro ⟨r,hr,hx⟩
  obtain ⟨h1,h2⟩:=List.mem_filter.1 hx
  rw [hi] at h2
  exact ⟨⟨r,hr,h1⟩,by simpa using h2⟩
 ·rintro ⟨⟨r,hr,h1⟩,h2⟩
  refine ⟨r,hr,List.mem_filter.2 ⟨h1,?_⟩⟩
  rw [hi,decide_eq_false h2]; rfl
theorem lacks_iff (l:List Res) (r:Res):lacks (ofR l []) r=true↔∃ k∈refsR r,¬ k∈l.map keyOf:=by
 unfold lacks
 rw [List.any_eq_true]
 constructor
 ·rintro ⟨k,hk,h⟩
  rw [isIn_of] at h
  exact ⟨k,hk,by simpa using h⟩
 ·rintro ⟨k,hk,h⟩
  refine ⟨k,hk,?_⟩
  rw [isIn_of,decide_eq_false h]; rfl
theorem served_ok {l:List Res}:served l=0↔(∀ r∈reachR l,∀ k∈refsR r,k∈l.map keyOf)∧∀ r∈reachR l,bare r=false:=by
 unfold served
 by_cases h1:(reachR l).any (lacks (ofR l []))=true
 ·rw [if_pos h1]
  obtain ⟨r,hr,hl⟩:=List.any_eq_true.1 h1
  obtain ⟨k,hk,hn⟩:=(lacks_iff l r).1 hl
  exact ⟨fun h=>absurd h (by decide),fun h=>absurd (h.1 r hr k hk) hn⟩
 ·rw [if_neg h1]
  have h1':∀ r∈reachR l,∀ k∈refsR r,k∈l.map keyOf:=fun r hr k hk=>by
   by_cases hn:k∈l.map keyOf
   ·exact hn
   ·exact absurd (List.any_eq_true.2 ⟨r,hr,(lacks_iff l r).2 ⟨k,hk,hn⟩⟩) h1
  by_cases h2:(reachR l).any bare=true
  ·rw [if_pos h2]
   obtain ⟨r,hr,hb⟩:=List.any_eq_true.1 h2
   exact ⟨fun h=>absurd h (by decide),fun h=>by rw [h.2 r hr] at hb; cases hb⟩
  ·rw [if_neg h2]
   exact ⟨fun _=>⟨h1',fun r hr=>by simpa using fun hb=>h2 (List.any_eq_true.2 ⟨r,hr,hb⟩)⟩,fun _=>rfl⟩
end Go.Proofs.YtndnkbekhmndhaaGreatDoor.Lg
namespace Go.Proofs.YtndnkbekhmndhaaGreatDoor.Lg
set_option maxRecDepth 100000
set_option linter.unusedVariables false
set_option linter.unusedSimpArgs false
open Go
section
variable {l:List Res} (hc:Conf l) (hv:served l=0)
include hc
include hv
end
end Go.Proofs.YtndnkbekhmndhaaGreatDoor.Lg
namespace Go.Proofs.YtndnkbekhmndhaaGreatDoor.Lg
set_option maxRecDepth 100000
set_option linter.unusedVariables false
set_option linter.unusedSimpArgs false
open Go
open Nat renaming reduceEqDiff → Qa, reduceLT → Qb, reduceLeDiff → Qc, reduceAdd → Qd, reduceMul → Qe, reduceSub → Qf, reduceBEq → Qg
open String renaming reduceEq → Qh
open SpecC renaming seqW → Qi, regW → Qj, drawW → Qk, condW → Ql, skip → Qn, ret → Qr
open NxK renaming out → Qw
open Nx renaming out → Qx
open condK renaming split → Qy
open gK renaming split_t → Qz, split_f → QA
theorem tkind0_reach {l:List Res} (h:(l.map keyOf).Nodup):tkind (reachR l) 0=tkind l 0:=by
 unfold tkind reachR
 rw [List.filter_filter]
 refine List.filter_congr fun r hr=>?_
 by_cases hk:r.kind=0
 ·rw [(reached_iff h (keyOf r)).2 (.base r hr hk)]; simp
 ·simp [hk]
theorem tsane_parts {l:List Res} (h:tsane l=0):portsM (tkind l 0) []=true:=by
 unfold tsane at h
 split at h
 ·cases h
 ·split at h
  ·rename_i h2; exact absurd h h2
  ·split at h
   ·cases h
   ·split at h
    ·cases h
    ·rename_i h4; simpa using h4
theorem tsane_of {l:List Res} (h1:l.length≤64) (h2:∀ r∈l,saneR r=0) (h3:Up (l.map keyOf)) (h4:portsM (tkind l 0) []=true):tsane l=0:=by
 unfold tsane
 rw [if_neg (by omega),if_neg (by rw [firstBad_of h2]; simp),if_neg (by rw [(upR_iff l).2 h3]; simp),if_neg (by rw [h4]; simp)]
theorem tsane_reach {l:List Res} (h:tsane l=0):tsane (reachR l)=0:=by
 have hc:=conf_of h
 refine tsane_of (Nat.le_trans (reachR_len l) hc.len) (fun r hr=>hc.sane r ((reachR_sub l).subset hr)) (hc.up.sublist ((reachR_sub l).map _)) ?_
 rw [tkind0_reach hc.nodup]
 exact tsane_parts h
theorem good_reach_good {l:List Res} (h:tsane l=0) (hv:served l=0):goodE (reachR l)=true:=by
 unfold goodE
 rw [tsane_reach h,served_reach (conf_of h).nodup,hv]; rfl
theorem mustE_iff {cap:Int} {l:List Res}:mustE cap l=0↔tsane l=0∧(l.length:Int)≤cap∧served l=0:=by
 unfold mustE
 by_cases h1:tsane l=0
 ·by_cases h2:(l.length:Int)≤cap
  ·simp [h1,h2]
  ·simp [h1,h2]
 ·simp [h1]
theorem saneC_iff {c:Cache}:saneC c=true↔c.cap=bnd c.cap∧tsane c.l=0∧(c.l.length:Int)≤c.cap∧served c.l=0:=by
 unfold saneC
 simp only [Bool.and_eq_true,decide_eq_true_eq,mustE_iff]
theorem tsane_len {l:List Res} (h:tsane l=0):l.length≤64:=by
 unfold tsane at h
 split at h
 ·cases h
 ·omega
theorem applyC_sane {c:Cache} (h:saneC c=true) (adds:List Res) (gone:List Key) :
  applyC c adds gone=if mustE c.cap (patchR c.l adds gone)=0 then (⟨c.cap,patchR c.l adds gone⟩,0) else (c,mustE c.cap (patchR c.l adds gone)):=by
 have hof:saneOf c=c:=by unfold saneOf; rw [if_pos h]
 unfold applyC
 rw [hof]
theorem applyC_keeps {c:Cache} (h:saneC c=true) (adds:List Res) (gone:List Key):saneC (applyC c adds gone).1=true:=by
 rw [applyC_sane h]
 split
 ·rename_i hm
  rw [mustE_iff] at hm
  rw [saneC_iff] at h ⊢
  exact ⟨h.1,hm⟩
 ·exact h
theorem bnd_rng (n:Int):0≤bnd n∧bnd n≤64:=by unfold bnd; omega
theorem bnd_bnd (n:Int):bnd (bnd n)=bnd n:=by unfold bnd; omega
theorem newC_sane (n:Int):saneC ⟨bnd n,[]⟩=true:=by
 rw [saneC_iff]
 have h1:tsane []=0:=by decide
 have h2:served []=0:=by decide
 exact ⟨(bnd_bnd n).symm,h1,by simp [(bnd_rng n).1],h2⟩
theorem miss_reach {l:List Res} (hc:(l.map keyOf).Nodup) (hv:served l=0):missK (reachR l)=[]:=by
 rw [List.eq_nil_iff_forall_not_mem]
 intro k hk
 obtain ⟨⟨r,hr,hkr⟩,hn⟩:=(mem_missK _ _).1 hk
 refine hn ?_
 have hr':=(mem_reachR hc r).1 hr
 have hin:=(served_ok.1 hv).1 r hr k hkr
 exact rch_key hc (.step r k hr'.1 hr'.2 hkr hin)
def same16 (a b:Cache):Bool:=decide (a.cap=b.cap) && decide (a.l=b.l)
theorem same16_c (a_cap:Int) (a_l:List Res) (b_cap:Int) (b_l:List Res) (hl:Small a_l.length) (hs:∀ r∈a_l,SmRes r):CallR Tryz.prog 79 [.agg [.int .i64 a_cap,.slice false (avs a_l)],.agg [.int .i64 b_cap,.slice false (avs b_l)]] (.val (.bool (same16 (⟨a_cap,a_l⟩:Cache) (⟨b_cap,b_l⟩:Cache)))):=by
 have w1:=all4_c a_l b_l hl hs
 by_cases h:a_cap=b_cap
 ·refine CallR.go2 (T:=T) Tryz.call79 Tryz.func79 rfl Tryz.ntmps79 (congrArg Array.toList Tryz.results79) (by decide) fun ts hn h0 h1=>?_
  (repeat' (first
 | (with_reducible first|refine callX.by (w1) ?_|refine callX.by (all4_c _ _ ?_ ?_) ?_|assumption|(refine Qw hK _ ?_; clear hK K)|refine Qw ‹_› _ ?_|refine Qx ‹_› ?_|refine Qi fun K hK=>?_|refine Qj T fun K hK=>?_|refine Ql fun A B hA hB=>?_|refine Qn ?_|refine Qr ?_)
 | ((with_reducible first|apply Qy|apply Qz|apply QA)<;>intro hb<;>try simp only [nr] at hb)
 | simp only [go_sem,↓reduceIte,reduceIte,Qa,Qh,Qb,Qc,Qd,Qe,Qf,Qg,reduceCtorEq, *,-hs,-w1]
 | with_reducible refine fun (bn:Bool) hbn=>?_))
  all_goals simp [same16,h]
 ·refine CallR.go2 (T:=T) Tryz.call79 Tryz.func79 rfl Tryz.ntmps79 (congrArg Array.toList Tryz.results79) (by decide) fun ts hn h0 h1=>?_
  (repeat' (first
 | (with_reducible first|refine callX.by (w1) ?_|refine callX.by (all4_c _ _ ?_ ?_) ?_|assumption|(refine Qw hK _ ?_; clear hK K)|refine Qw ‹_› _ ?_|refine Qx ‹_› ?_|refine Qi fun K hK=>?_|refine Qj T fun K hK=>?_|refine Ql fun A B hA hB=>?_|refine Qn ?_|refine Qr ?_)
 | ((with_reducible first|apply Qy|apply Qz|apply QA)<;>intro hb<;>try simp only [nr] at hb)
 | simp only [go_sem,↓reduceIte,reduceIte,Qa,Qh,Qb,Qc,Qd,Qe,Qf,Qg,reduceCtorEq, *,-hs,-w1]
 | with_reducible refine fun (bn:Bool) hbn=>?_))
  all_goals simp [same16,h]
structure CInv (n:Int) (c:Cache):Prop where
 sane:saneC c=true
 cap:c.cap=bnd n
 sm:∀ r∈c.l,SmRes r
theorem applyC_len (c:Cache) (adds:List Res) (gone:List Key):(applyC c adds gone).1.l.length≤c.l.length+adds.length:=by
 have h1:=saneOf_len c
 have h2:=patchR_len (saneOf c).l adds gone
 unfold applyC
 simp only
 split
 ·simp only; omega
 ·simp only; omega
theorem applyC_mem' {c:Cache} {adds:List Res} {gone:List Key} {x:Res} (h:x∈(applyC c adds gone).1.l):x∈c.l∨x∈adds:=by
 unfold applyC at h
 simp only at h
 split at h
 ·exact (patchR_mem h).imp saneOf_mem id
 ·exact .inl (saneOf_mem h)
def takeW (c:Cache) (ready:Bool) (shown:List Res) (ch:Bool):List AV :=
 if shownC c=shown then [.int .i64 c.cap,.slice false (avs c.l),.bool ready,.slice false (avs shown),.bool ch] else [.int .i64 c.cap,.slice false (avs c.l),.bool true,.slice false (avs (shownC c)),.bool true]
theorem shownC_len (c:Cache):(shownC c).length≤c.l.length:=Nat.le_trans (reachR_len _) (saneOf_len c)
theorem shownC_mem {c:Cache} {r:Res} (h:r∈shownC c):r∈c.l:=saneOf_mem ((reachR_sub _).subset h)
theorem takeW_c (cap0:Int) (l0:List Res) (ready:Bool) (shown:List Res) (ch:Bool) (c_cap:Int) (c_l:List Res) (hl:c_l.length≤65536) (hs:∀ r∈c_l,SmRes r) :
  CallI Tryz.prog 76 [.int .i64 cap0,.slice false (avs l0),.bool ready,.slice false (avs shown),.bool ch] [.agg [.int .i64 c_cap,.slice false (avs c_l)]] (.tup []) (takeW (⟨c_cap,c_l⟩:Cache) ready shown ch):=by
 have w1:=(shownC_c c_cap c_l hl hs).frz
 have hsl:=shownC_len (⟨c_cap,c_l⟩:Cache)
 have w2:=tsame_c (shownC (⟨c_cap,c_l⟩:Cache)) shown (by simp only at hsl; unfold Small; omega) fun x hx=>hs x (shownC_mem hx)
 unfold takeW
 generalize shownC (⟨c_cap,c_l⟩:Cache)=s at *
 clear hs hl hsl
 by_cases he:s=shown
 ·rw [decide_eq_true he] at w2
  rw [if_pos he]
  refine CallI.go1 Tryz.call76 Tryz.func76 rfl Tryz.ntmps76 T (congrArg Array.toList Tryz.results76) (by decide) fun ts hn h0 hg0 ho0 h1=>?_
  (repeat' (first
 | (with_reducible first|refine callX.by (w1) ?_|refine callX.by (w2) ?_|refine callX.by (shownC_c _ _ ?_ ?_) ?_|refine callX.by (tsame_c _ _ ?_ ?_) ?_|assumption|(refine Qw hK _ ?_; clear hK K)|refine Qw ‹_› _ ?_|refine Qx ‹_› ?_|refine Qi fun K hK=>?_|refine Qj T fun K hK=>?_|refine Ql fun A B hA hB=>?_|refine Qn ?_|refine Qr ?_)
 | ((with_reducible first|apply Qy|apply Qz|apply QA)<;>intro hb<;>try simp only [nr] at hb)
 | simp only [go_sem,↓reduceIte,reduceIte,Qa,Qh,Qb,Qc,Qd,Qe,Qf,Qg,reduceCtorEq, *,-w1,-w2,-he]
 | with_reducible refine fun (bn:Bool) hbn=>?_))
  all_goals trace_state
 ·rw [decide_eq_false he] at w2
  rw [if_neg he]
  refine CallI.go1 Tryz.call76 Tryz.func76 rfl Tryz.ntmps76 T (congrArg Array.toList Tryz.results76) (by decide) fun ts hn h0 hg0 ho0 h1=>?_
  (repeat' (first
 | (with_reducible first|refine callX.by (w1) ?_|refine callX.by (w2) ?_|refine callX.by (shownC_c _ _ ?_ ?_) ?_|refine callX.by (tsame_c _ _ ?_ ?_) ?_|assumption|(refine Qw hK _ ?_; clear hK K)|refine Qw ‹_› _ ?_|refine Qx ‹_› ?_|refine Qi fun K hK=>?_|refine Qj T fun K hK=>?_|refine Ql fun A B hA hB=>?_|refine Qn ?_|refine Qr ?_)
 | ((with_reducible first|apply Qy|apply Qz|apply QA)<;>intro hb<;>try simp only [nr] at hb)
 | simp only [go_sem,↓reduceIte,reduceIte,Qa,Qh,Qb,Qc,Qd,Qe,Qf,Qg,reduceCtorEq, *,-w1,-w2,-he]
 | with_reducible refine fun (bn:Bool) hbn=>?_))
  all_goals trace_state
def stepW (w:Warm) (adds:List Res) (gone:List Key):Warm × Bool × Int :=
 let m:=saneOfW w
 let a:=applyC m.c adds gone
 if a.2=0 then (if shownC a.1=m.shown then (⟨a.1,m.ready,m.shown⟩,false,0) else (⟨a.1,true,shownC a.1⟩,true,0)) else (m,false,a.2)
theorem saneOfW_len (w:Warm):(saneOfW w).c.l.length≤w.c.l.length:=by unfold saneOfW; split<;>simp
theorem saneOfW_mem {w:Warm} {r:Res} (h:r∈(saneOfW w).c.l):r∈w.c.l:=by unfold saneOfW at h; split at h<;>simp_all
theorem stepW_c (w_c_cap:Int) (w_c_l:List Res) (w_ready:Bool) (w_shown:List Res) (adds:List Res) (gone:List Key) (hl:w_c_l.length+adds.length≤65536) (hs:∀ r∈w_c_l,SmRes r) (hl2:Small w_shown.length) (hs2:∀ r∈w_shown,SmRes r) (hg:Small gone.length) (ha:∀ r∈adds,SmRes r) :
  CallR Tryz.prog 26 [.agg [.int .i64 w_c_cap,.slice false (avs w_c_l),.bool w_ready,.slice false (avs w_shown)],.slice false (avs adds),.slice false (avs gone)]
   (.val (.tup [.agg [.int .i64 (stepW (⟨⟨w_c_cap,w_c_l⟩,w_ready,w_shown⟩:Warm) adds gone).1.c.cap,.slice false (avs (stepW (⟨⟨w_c_cap,w_c_l⟩,w_ready,w_shown⟩:Warm) adds gone).1.c.l),.bool (stepW (⟨⟨w_c_cap,w_c_l⟩,w_ready,w_shown⟩:Warm) adds gone).1.ready,.slice false (avs (stepW (⟨⟨w_c_cap,w_c_l⟩,w_ready,w_shown⟩:Warm) adds gone).1.shown)],.bool (stepW (⟨⟨w_c_cap,w_c_l⟩,w_ready,w_shown⟩:Warm) adds gone).2.1,.int .i64 (stepW (⟨⟨w_c_cap,w_c_l⟩,w_ready,w_shown⟩:Warm) adds gone).2.2])):=by
 have w1:=saneOfW_c w_c_cap w_c_l w_ready w_shown (by omega) hs hl2 hs2
 have hml:=saneOfW_len (⟨⟨w_c_cap,w_c_l⟩,w_ready,w_shown⟩:Warm)
 have hms:∀ r∈(saneOfW (⟨⟨w_c_cap,w_c_l⟩,w_ready,w_shown⟩:Warm)).c.l,SmRes r:=fun r hr=>hs r (saneOfW_mem hr)
 unfold stepW
 generalize saneOfW (⟨⟨w_c_cap,w_c_l⟩,w_ready,w_shown⟩:Warm)=m at *
 simp only at hml ⊢
 have w2:=applyC_c m.c.cap m.c.l adds gone (by omega) hg hms ha
 have w2:CallR Tryz.prog 75 [.agg [.int .i64 m.c.cap,.slice false (avs m.c.l)],.slice false (avs adds),.slice false (avs gone)] (.val (.tup [.agg [.int .i64 (applyC m.c adds gone).1.cap,.slice false (avs (applyC m.c adds gone).1.l)],.int .i64 (applyC m.c adds gone).2])):=w2
 have hal:=applyC_len m.c adds gone
 have hac:∀ r∈(applyC m.c adds gone).1.l,SmRes r:=fun r hr=>(applyC_mem' hr).elim (hms r) (ha r)
 generalize (applyC m.c adds gone).2=e at *
 generalize (applyC m.c adds gone).1=d at *
 have w3:=takeW_c m.c.cap m.c.l m.ready m.shown false d.cap d.l (by omega) hac
 have w3:CallI Tryz.prog 76 [.int .i64 m.c.cap,.slice false (avs m.c.l),.bool m.ready,.slice false (avs m.shown),.bool false] [.agg [.int .i64 d.cap,.slice false (avs d.l)]] (.tup []) (takeW d m.ready m.shown false):=w3
 unfold takeW at w3
 clear hs hs2 ha hms hac hal hml hl hl2 hg
 by_cases he:e=0
 ·subst he
  simp only [if_true]
  by_cases hsh:shownC d=m.shown
  ·rw [if_pos hsh] at w3 ⊢
   simp only
   refine CallR.go3 (T:=T) Tryz.call26 Tryz.func26 rfl Tryz.ntmps26 (congrArg Array.toList Tryz.results26) (by decide) fun ts hn h0 h1 h2=>?_
   (repeat' (first
 | (with_reducible first|refine callX.by (w1) ?_|refine callX.by (w2) ?_)
 | (with_reducible refine callX.io ?_ ?_ ?_ (w3); (focus (simp only [go_sem,↓reduceIte,reduceIte,Qa,Qh,Qb,Qc,Qd,Qe,Qf,Qg,reduceCtorEq, *,-w1,-w2,-w3,-hsh]; first|done|rfl)); (focus (simp only [go_sem,↓reduceIte,reduceIte,Qa,Qh,Qb,Qc,Qd,Qe,Qf,Qg,reduceCtorEq, *,-w1,-w2,-w3,-hsh]; first|done|rfl)))
 | (with_reducible first|refine callX.by (saneOfW_c _ _ _ _ ?_ ?_ ?_ ?_) ?_|assumption|(refine Qw hK _ ?_; clear hK K)|refine Qw ‹_› _ ?_|refine Qx ‹_› ?_|refine Qi fun K hK=>?_|refine Qj T fun K hK=>?_|refine Qk (id:=6) T mixed [([31],[33,34]),([32],[33,34]),([33],[31,32,6]),([34],[31,32,6]),([6],[33,34])] (by kernel_rfl) fun K hK=>?_|refine Ql fun A B hA hB=>?_|refine Qn ?_|refine Qr ?_)
 | ((with_reducible first|apply Qy|apply Qz|apply QA)<;>intro hb<;>try simp only [nr] at hb)
 | simp only [go_sem,↓reduceIte,reduceIte,Qa,Qh,Qb,Qc,Qd,Qe,Qf,Qg,reduceCtorEq, *,-w1,-w2,-w3,-hsh]
 | with_reducible refine fun (bn:Bool) hbn=>?_))
   all_goals trace_state
  ·rw [if_neg hsh] at w3 ⊢
   simp only
   refine CallR.go3 (T:=T) Tryz.call26 Tryz.func26 rfl Tryz.ntmps26 (congrArg Array.toList Tryz.results26) (by decide) fun ts hn h0 h1 h2=>?_
   (repeat' (first
 | (with_reducible first|refine callX.by (w1) ?_|refine callX.by (w2) ?_)
 | (with_reducible refine callX.io ?_ ?_ ?_ (w3); (focus (simp only [go_sem,↓reduceIte,reduceIte,Qa,Qh,Qb,Qc,Qd,Qe,Qf,Qg,reduceCtorEq, *,-w1,-w2,-w3,-hsh]; first|done|rfl)); (focus (simp only [go_sem,↓reduceIte,reduceIte,Qa,Qh,Qb,Qc,Qd,Qe,Qf,Qg,reduceCtorEq, *,-w1,-w2,-w3,-hsh]; first|done|rfl)))
 | (with_reducible first|refine callX.by (saneOfW_c _ _ _ _ ?_ ?_ ?_ ?_) ?_|assumption|(refine Qw hK _ ?_; clear hK K)|refine Qw ‹_› _ ?_|refine Qx ‹_› ?_|refine Qi fun K hK=>?_|refine Qj T fun K hK=>?_|refine Qk (id:=6) T mixed [([31],[33,34]),([32],[33,34]),([33],[31,32,6]),([34],[31,32,6]),([6],[33,34])] (by kernel_rfl) fun K hK=>?_|refine Ql fun A B hA hB=>?_|refine Qn ?_|refine Qr ?_)
 | ((with_reducible first|apply Qy|apply Qz|apply QA)<;>intro hb<;>try simp only [nr] at hb)
 | simp only [go_sem,↓reduceIte,reduceIte,Qa,Qh,Qb,Qc,Qd,Qe,Qf,Qg,reduceCtorEq, *,-w1,-w2,-w3,-hsh]
 | with_reducible refine fun (bn:Bool) hbn=>?_))
   all_goals trace_state
 ·rw [if_neg he]
  simp only
  clear w3
  refine CallR.go3 (T:=T) Tryz.call26 Tryz.func26 rfl Tryz.ntmps26 (congrArg Array.toList Tryz.results26) (by decide) fun ts hn h0 h1 h2=>?_
  (repeat' (first
 | (with_reducible first|refine callX.by (w1) ?_|refine callX.by (w2) ?_|refine callX.by (saneOfW_c _ _ _ _ ?_ ?_ ?_ ?_) ?_|assumption|(refine Qw hK _ ?_; clear hK K)|refine Qw ‹_› _ ?_|refine Qx ‹_› ?_|refine Qi fun K hK=>?_|refine Qj T fun K hK=>?_|refine Qk (id:=6) T mixed [([31],[33,34]),([32],[33,34]),([33],[31,32,6]),([34],[31,32,6]),([6],[33,34])] (by kernel_rfl) fun K hK=>?_|refine Ql fun A B hA hB=>?_|refine Qn ?_|refine Qr ?_)
 | ((with_reducible first|apply Qy|apply Qz|apply QA)<;>intro hb<;>try simp only [nr] at hb)
 | simp only [go_sem,↓reduceIte,reduceIte,Qa,Qh,Qb,Qc,Qd,Qe,Qf,Qg,reduceCtorEq, *,-w1,-w2]
 | with_reducible refine fun (bn:Bool) hbn=>?_))
  all_goals trace_state
theorem warming_c (w_c_cap:Int) (w_c_l:List Res) (w_ready:Bool) (w_shown:List Res) (hl:w_c_l.length≤65536) (hs:∀ r∈w_c_l,SmRes r) (hl2:Small w_shown.length) (hs2:∀ r∈w_shown,SmRes r):CallR Tryz.prog 33 [.agg [.int .i64 w_c_cap,.slice false (avs w_c_l),.bool w_ready,.slice false (avs w_shown)]] (.own 2 (avs (orphans (saneOfW (⟨⟨w_c_cap,w_c_l⟩,w_ready,w_shown⟩:Warm)).c.l))):=by
 have w1:=saneOfW_c w_c_cap w_c_l w_ready w_shown hl hs hl2 hs2
 have hml:=saneOfW_len (⟨⟨w_c_cap,w_c_l⟩,w_ready,w_shown⟩:Warm)
 have hms:∀ r∈(saneOfW (⟨⟨w_c_cap,w_c_l⟩,w_ready,w_shown⟩:Warm)).c.l,SmRes r:=fun r hr=>hs r (saneOfW_mem hr)
 have hnd:((saneOfW (⟨⟨w_c_cap,w_c_l⟩,w_ready,w_shown⟩:Warm)).c.l.map keyOf).Nodup:=by
  unfold saneOfW
  split
  ·rename_i h
   unfold saneW at h
   simp only [Bool.and_eq_true] at h
   exact (saneC_conf h.1.1).nodup
  ·simp
 generalize saneOfW (⟨⟨w_c_cap,w_c_l⟩,w_ready,w_shown⟩:Warm)=m at *
 simp only at hml
 have w2:=orphans_c m.c.l (by omega) hms hnd
 clear hs hs2 hms hnd hl hl2 hml
 refine CallR.go1 (T:=T) Tryz.call33 Tryz.func33 rfl Tryz.ntmps33 (congrArg Array.toList Tryz.results33) (by decide) fun ts hn h0=>?_
 (repeat' (first
 | (with_reducible first|refine callX.by (w1) ?_|refine callX.by (w2) ?_|refine callX.by (saneOfW_c _ _ _ _ ?_ ?_ ?_ ?_) ?_|refine callX.by (orphans_c _ ?_ ?_ ?_) ?_|assumption|(refine Qw hK _ ?_; clear hK K)|refine Qw ‹_› _ ?_|refine Qx ‹_› ?_|refine Qi fun K hK=>?_|refine Qj T fun K hK=>?_|refine Ql fun A B hA hB=>?_|refine Qn ?_|refine Qr ?_)
 | ((with_reducible first|apply Qy|apply Qz|apply QA)<;>intro hb<;>try simp only [nr] at hb)
 | simp only [go_sem,↓reduceIte,reduceIte,Qa,Qh,Qb,Qc,Qd,Qe,Qf,Qg,reduceCtorEq, *,-w1,-w2]
 | with_reducible refine fun (bn:Bool) hbn=>?_))
theorem saneW_iff {w:Warm}:saneW w=true↔saneC w.c=true∧w.shown=shownC w.c∧(w.ready=true∨w.shown=[]):=by
 unfold saneW
 simp only [Bool.and_eq_true,Bool.or_eq_true,decide_eq_true_eq,and_assoc]
theorem shownC_sane {c:Cache} (h:saneC c=true):shownC c=reachR c.l:=by unfold shownC saneOf; rw [if_pos h]
theorem stepW_sane {w:Warm} (h:saneW w=true) (adds:List Res) (gone:List Key) :
  stepW w adds gone=if (applyC w.c adds gone).2=0 then (if shownC (applyC w.c adds gone).1=w.shown then (⟨(applyC w.c adds gone).1,w.ready,w.shown⟩,false,0) else (⟨(applyC w.c adds gone).1,true,shownC (applyC w.c adds gone).1⟩,true,0)) else (w,false,(applyC w.c adds gone).2):=by
 have hof:saneOfW w=w:=by unfold saneOfW; rw [if_pos h]
 unfold stepW
 rw [hof]
theorem stepW_keeps {w:Warm} (h:saneW w=true) (adds:List Res) (gone:List Key):saneW (stepW w adds gone).1=true:=by
 rw [stepW_sane h]
 have hw:=saneW_iff.1 h
 split
 ·split
  ·rename_i hs
   exact saneW_iff.2 ⟨applyC_keeps hw.1 adds gone,hs.symm,hw.2.2⟩
  ·exact saneW_iff.2 ⟨applyC_keeps hw.1 adds gone,rfl,.inl rfl⟩
 ·exact h
theorem stepW_no {w:Warm} (h:saneW w=true) {adds:List Res} {gone:List Key} (he:¬ (stepW w adds gone).2.2=0):(stepW w adds gone).1=w∧(stepW w adds gone).2.1=false:=by
 rw [stepW_sane h] at he ⊢
 split
 ·rename_i h0
  rw [if_pos h0] at he
  split at he<;>exact absurd rfl he
 ·exact ⟨rfl,rfl⟩
theorem stepW_told {w:Warm} (h:saneW w=true) (adds:List Res) (gone:List Key):(stepW w adds gone).2.1=!decide (w.shown=(stepW w adds gone).1.shown):=by
 rw [stepW_sane h]
 split
 ·split
  ·simp
  ·rename_i hs
   simp [Ne.symm hs]
 ·simp
theorem stepW_mem {w:Warm} (h:saneW w=true) {adds:List Res} {gone:List Key} {x:Res} (hx:x∈(stepW w adds gone).1.c.l):x∈w.c.l∨x∈adds:=by
 rw [stepW_sane h] at hx
 split at hx
 ·split at hx<;>exact applyC_mem' hx
 ·exact .inl hx
theorem stepW_ready {w:Warm} (h:saneW w=true) (adds:List Res) (gone:List Key):(stepW w adds gone).1.ready=(w.ready || (stepW w adds gone).2.1):=by
 rw [stepW_sane h]
 split
 ·split<;>simp
 ·simp
theorem saneW_good {w:Warm} (h:saneW w=true):goodE w.shown=true:=by
 have hw:=saneW_iff.1 h
 have hc:=saneC_iff.1 hw.1
 rw [hw.2.1,shownC_sane hw.1]
 exact good_reach_good hc.2.1 hc.2.2.2
theorem saneW_len {w:Warm} (h:saneW w=true):w.c.l.length≤64:=tsane_len (saneC_iff.1 (saneW_iff.1 h).1).2.1
theorem saneW_shown {w:Warm} (h:saneW w=true):w.shown=reachR w.c.l:=by
 have hw:=saneW_iff.1 h
 rw [hw.2.1,shownC_sane hw.1]
theorem saneW_slen {w:Warm} (h:saneW w=true):w.shown.length≤64:=by
 rw [saneW_shown h]
 exact Nat.le_trans (reachR_len _) (saneW_len h)
theorem saneW_smem {w:Warm} (h:saneW w=true) {x:Res} (hx:x∈w.shown):x∈w.c.l:=by
 rw [saneW_shown h] at hx
 exact (reachR_sub _).subset hx
theorem newW_sane (n:Int):saneW ⟨⟨bnd n,[]⟩,false,[]⟩=true:=by
 refine saneW_iff.2 ⟨newC_sane n,?_,.inr rfl⟩
 rw [shownC_sane (newC_sane n)]
 show []=reachR []
 decide
theorem cold_c (w_c_cap:Int) (w_c_l:List Res) (w_ready:Bool) (w_shown:List Res):CallR Tryz.prog 30 [.agg [.int .i64 w_c_cap,.slice false (avs w_c_l),.bool w_ready,.slice false (avs w_shown)]] (.val (.agg [.int .i64 w_c_cap,.slice false (avs w_c_l),.bool w_ready,.slice false (avs w_shown)])):=by
 refine CallR.go1 (T:=T) Tryz.call30 Tryz.func30 rfl Tryz.ntmps30 (congrArg Array.toList Tryz.results30) (by decide) fun ts hn h0=>?_
 (repeat' (first
 | (with_reducible first|assumption|(refine Qw hK _ ?_; clear hK K)|refine Qw ‹_› _ ?_|refine Qx ‹_› ?_|refine Qi fun K hK=>?_|refine Qj T fun K hK=>?_|refine Ql fun A B hA hB=>?_|refine Qn ?_|refine Qr ?_)
 | ((with_reducible first|apply Qy|apply Qz|apply QA)<;>intro hb<;>try simp only [nr] at hb)
 | simp only [go_sem,↓reduceIte,reduceIte,Qa,Qh,Qb,Qc,Qd,Qe,Qf,Qg,reduceCtorEq, *]
 | with_reducible refine fun (bn:Bool) hbn=>?_))
def same17 (a b:Warm):Bool:=same16 a.c b.c && decide (a.ready=b.ready) && decide (a.shown=b.shown)
theorem same17_c (a_c_cap:Int) (a_c_l:List Res) (a_ready:Bool) (a_shown:List Res) (b_c_cap:Int) (b_c_l:List Res) (b_ready:Bool) (b_shown:List Res) (hl:Small a_c_l.length) (hs:∀ r∈a_c_l,SmRes r) (hl2:Small a_shown.length) (hs2:∀ r∈a_shown,SmRes r):CallR Tryz.prog 29 [.agg [.int .i64 a_c_cap,.slice false (avs a_c_l),.bool a_ready,.slice false (avs a_shown)],.agg [.int .i64 b_c_cap,.slice false (avs b_c_l),.bool b_ready,.slice false (avs b_shown)]] (.val (.bool (same17 (⟨⟨a_c_cap,a_c_l⟩,a_ready,a_shown⟩:Warm) (⟨⟨b_c_cap,b_c_l⟩,b_ready,b_shown⟩:Warm)))):=by
 have w1:=same16_c a_c_cap a_c_l b_c_cap b_c_l hl hs
 have w2:=all4_c a_shown b_shown hl2 hs2
 unfold same17
 simp only
 generalize same16 ⟨a_c_cap,a_c_l⟩ ⟨b_c_cap,b_c_l⟩=s at *
 cases s
 ·refine CallR.go2 (T:=T) Tryz.call29 Tryz.func29 rfl Tryz.ntmps29 (congrArg Array.toList Tryz.results29) (by decide) fun ts hn h0 h1=>?_
  (repeat' (first
 | (with_reducible first|refine callX.by (w1) ?_|refine callX.by (w2) ?_|refine callX.by (same16_c _ _ _ _ ?_ ?_) ?_|refine callX.by (all4_c _ _ ?_ ?_) ?_|assumption|(refine Qw hK _ ?_; clear hK K)|refine Qw ‹_› _ ?_|refine Qx ‹_› ?_|refine Qi fun K hK=>?_|refine Qj T fun K hK=>?_|refine Ql fun A B hA hB=>?_|refine Qn ?_|refine Qr ?_)
 | ((with_reducible first|apply Qy|apply Qz|apply QA)<;>intro hb<;>try simp only [nr] at hb)
 | simp only [go_sem,↓reduceIte,reduceIte,Qa,Qh,Qb,Qc,Qd,Qe,Qf,Qg,reduceCtorEq, *,-hs,-hs2,-w1,-w2]
 | with_reducible refine fun (bn:Bool) hbn=>?_))
 ·by_cases hr:a_ready=b_ready
  ·subst hr
   refine CallR.go2 (T:=T) Tryz.call29 Tryz.func29 rfl Tryz.ntmps29 (congrArg Array.toList Tryz.results29) (by decide) fun ts hn h0 h1=>?_
   (repeat' (first
 | (with_reducible first|refine callX.by (w1) ?_|refine callX.by (w2) ?_|refine callX.by (same16_c _ _ _ _ ?_ ?_) ?_|refine callX.by (all4_c _ _ ?_ ?_) ?_|assumption|(refine Qw hK _ ?_; clear hK K)|refine Qw ‹_› _ ?_|refine Qx ‹_› ?_|refine Qi fun K hK=>?_|refine Qj T fun K hK=>?_|refine Ql fun A B hA hB=>?_|refine Qn ?_|refine Qr ?_)
 | ((with_reducible first|apply Qy|apply Qz|apply QA)<;>intro hb<;>try simp only [nr] at hb)
 | simp only [go_sem,↓reduceIte,reduceIte,Qa,Qh,Qb,Qc,Qd,Qe,Qf,Qg,reduceCtorEq, *,-hs,-hs2,-w1,-w2]
 | with_reducible refine fun (bn:Bool) hbn=>?_))
   all_goals simp
  ·refine CallR.go2 (T:=T) Tryz.call29 Tryz.func29 rfl Tryz.ntmps29 (congrArg Array.toList Tryz.results29) (by decide) fun ts hn h0 h1=>?_
   (repeat' (first
 | (with_reducible first|refine callX.by (w1) ?_|refine callX.by (w2) ?_|refine callX.by (same16_c _ _ _ _ ?_ ?_) ?_|refine callX.by (all4_c _ _ ?_ ?_) ?_|assumption|(refine Qw hK _ ?_; clear hK K)|refine Qw ‹_› _ ?_|refine Qx ‹_› ?_|refine Qi fun K hK=>?_|refine Qj T fun K hK=>?_|refine Ql fun A B hA hB=>?_|refine Qn ?_|refine Qr ?_)
 | ((with_reducible first|apply Qy|apply Qz|apply QA)<;>intro hb<;>try simp only [nr] at hb)
 | simp only [go_sem,↓reduceIte,reduceIte,Qa,Qh,Qb,Qc,Qd,Qe,Qf,Qg,reduceCtorEq, *,-hs,-hs2,-w1,-w2]
 | with_reducible refine fun (bn:Bool) hbn=>?_))
   all_goals simp_all
def rR:Res:=⟨1,[114],0,0,[],[],[]⟩
theorem rRs:saneR rR=0:=by decide
theorem rRr:refsR rR=[]:=by
 have e:baseR rR++keysR rR.rules'=[]:=by decide
 unfold refsR
 rw [if_pos rRs,e]
 simp [ksort,kcompact,kcT]
theorem rRsm:∀ x∈[rR],SmRes x:=oneSm rfl (by simp [Small,rR]) (by simp [Small,rR]) (by simp [Small,rR])
theorem rRn:namesM [rR]=[(⟨1,[114]⟩,[])]:=by simp only [namesM,List.map_cons,List.map_nil,rRr]; rfl
theorem rRreach:reachR [rR]=[]:=by unfold reachR reachedM; rw [rRn]; decide
theorem rRserved:served [rR]=0:=by unfold served; rw [rRreach]; rfl
theorem rRm:mustE 9 [rR]=0:=by
 unfold mustE
 rw [show tsane [rR]=0 by decide,rRserved]; decide
theorem lrn:namesM [lR,rR]=[(⟨0,[108]⟩,[⟨1,[114]⟩]),(⟨1,[114]⟩,[])]:=by simp only [namesM,List.map_cons,List.map_nil,lRr,rRr]; rfl
theorem lrreach:reachR [lR,rR]=[lR,rR]:=by unfold reachR reachedM; rw [lrn]; decide
theorem lrserved:served [lR,rR]=0:=by
 unfold served
 rw [lrreach]
 have h1:lacks (ofR [lR,rR] []) lR=false:=by unfold lacks; rw [lRr]; decide
 have h2:lacks (ofR [lR,rR] []) rR=false:=by unfold lacks; rw [rRr]; rfl
 have h3:bare lR=false:=by decide
 have h4:bare rR=false:=by decide
 simp [h1,h2,h3,h4]
theorem lrm:mustE 9 [lR,rR]=0:=by
 unfold mustE
 rw [show tsane [lR,rR]=0 by decide,lrserved]; decide
theorem apply_rR:applyC ⟨9,[]⟩ [rR] []=(⟨9,[rR]⟩,0):=by
 unfold applyC
 rw [nine]
 have e:patchR [] [rR] []=[rR]:=by decide
 simp only [e,rRm]
 rfl
theorem nineR:saneC ⟨9,[rR]⟩=true:=by unfold saneC; rw [rRm]; decide
theorem nineLR:saneC ⟨9,[lR,rR]⟩=true:=by unfold saneC; rw [lrm]; decide
theorem apply_lrR:applyC ⟨9,[rR]⟩ [lR] []=(⟨9,[lR,rR]⟩,0):=by
 rw [applyC_sane nineR]
 have e:patchR [rR] [lR] []=[lR,rR]:=by decide
 simp only [e,lrm]
 rfl
theorem step_rR:stepW ⟨⟨9,[]⟩,false,[]⟩ [rR] []=(⟨⟨9,[rR]⟩,false,[]⟩,false,0):=by
 have h9:saneW ⟨⟨9,[]⟩,false,[]⟩=true:=newW_sane 9
 rw [stepW_sane h9]
 simp only [apply_rR,shownC_sane nineR,rRreach,if_true]
theorem wR:saneW ⟨⟨9,[rR]⟩,false,[]⟩=true:=saneW_iff.2 ⟨nineR,by rw [shownC_sane nineR,rRreach],.inr rfl⟩
theorem step_lR:stepW ⟨⟨9,[rR]⟩,false,[]⟩ [lR] []=(⟨⟨9,[lR,rR]⟩,true,[lR,rR]⟩,true,0):=by
 rw [stepW_sane wR]
 simp only [apply_lrR,shownC_sane nineLR,lrreach,if_true]
 rw [if_neg (by simp)]
theorem wLR:saneW ⟨⟨9,[lR,rR]⟩,true,[lR,rR]⟩=true:=saneW_iff.2 ⟨nineLR,by rw [shownC_sane nineLR,lrreach],.inl rfl⟩
theorem orph_rR:orphans [rR]=[⟨1,[114]⟩]:=by unfold orphans reachedM; rw [rRn]; decide
theorem lrsm:∀ x∈[lR,rR],SmRes x:=by
 intro x hx
 simp only [List.mem_cons,List.not_mem_nil,or_false] at hx
 rcases hx with rfl|rfl
 ·exact lRsm lR (by simp)
 ·exact rRsm rR (by simp)
set_option maxHeartbeats 4000000 in
theorem awake17_c:CallR Tryz.prog 25 [] (.val (.bool true)):=by
 have w0:CallR Tryz.prog 35 [.int .i64 9] (.val (.agg [.int .i64 9,.slice false [],.bool false,.slice false []])):=newW_c 9
 have w1:CallR Tryz.prog 26 [.agg [.int .i64 9,.slice false [],.bool false,.slice false []],.slice false [.agg [.int .i64 1,.str [114],.int .i64 0,.int .i64 0,.str [],.slice false [],.slice false []]],.slice false []] (.val (.tup [.agg [.int .i64 9,.slice false [.agg [.int .i64 1,.str [114],.int .i64 0,.int .i64 0,.str [],.slice false [],.slice false []]],.bool false,.slice false []],.bool false,.int .i64 0])):=by
  have h:=stepW_c 9 [] false [] [rR] [] (by simp) (by simp) (by simp [Small]) (by simp) (by simp [Small]) rRsm
  rw [step_rR] at h
  exact h
 have w2:CallR Tryz.prog 26 [.agg [.int .i64 9,.slice false [.agg [.int .i64 1,.str [114],.int .i64 0,.int .i64 0,.str [],.slice false [],.slice false []]],.bool false,.slice false []],.slice false [.agg [.int .i64 0,.str [108],.int .i64 0,.int .i64 80,.str [114],.slice false [],.slice false []]],.slice false []] (.val (.tup [.agg [.int .i64 9,.slice false [.agg [.int .i64 0,.str [108],.int .i64 0,.int .i64 80,.str [114],.slice false [],.slice false []],.agg [.int .i64 1,.str [114],.int .i64 0,.int .i64 0,.str [],.slice false [],.slice false []]],.bool true,.slice false [.agg [.int .i64 0,.str [108],.int .i64 0,.int .i64 80,.str [114],.slice false [],.slice false []],.agg [.int .i64 1,.str [114],.int .i64 0,.int .i64 0,.str [],.slice false [],.slice false []]]],.bool true,.int .i64 0])):=by
  have h:=stepW_c 9 [rR] false [] [lR] [] (by simp) rRsm (by simp [Small]) (by simp) (by simp [Small]) lRsm
  rw [step_lR] at h
  exact h
 have w3:CallR Tryz.prog 33 [.agg [.int .i64 9,.slice false [.agg [.int .i64 1,.str [114],.int .i64 0,.int .i64 0,.str [],.slice false [],.slice false []]],.bool false,.slice false []]] (.own 2 [.agg [.int .i64 1,.str [114]]]):=by
  have h:=warming_c 9 [rR] false [] (by simp) rRsm (by simp [Small]) (by simp)
  have e:saneOfW ⟨⟨9,[rR]⟩,false,[]⟩=⟨⟨9,[rR]⟩,false,[]⟩:=by unfold saneOfW; rw [if_pos wR]
  rw [e,orph_rR] at h
  exact h
 have w4:CallR Tryz.prog 31 [.agg [.int .i64 9,.slice false [.agg [.int .i64 0,.str [108],.int .i64 0,.int .i64 80,.str [114],.slice false [],.slice false []],.agg [.int .i64 1,.str [114],.int .i64 0,.int .i64 0,.str [],.slice false [],.slice false []]],.bool true,.slice false [.agg [.int .i64 0,.str [108],.int .i64 0,.int .i64 80,.str [114],.slice false [],.slice false []],.agg [.int .i64 1,.str [114],.int .i64 0,.int .i64 0,.str [],.slice false [],.slice false []]]]] (.val (.bool true)):=by
  have h:=saneW_c 9 [lR,rR] true [lR,rR] (by simp) lrsm (by simp [Small]) lrsm
  rw [wLR] at h
  exact h
 refine CallR.go0 (T:=T) Tryz.call25 Tryz.func25 rfl Tryz.ntmps25 (congrArg Array.toList Tryz.results25) fun ts hn=>?_
 (repeat' (first
 | (with_reducible first|refine callX.by (w0) ?_|refine callX.fz (w1) ?_|refine callX.fz (w2) ?_|refine callX.by (w3) ?_|refine callX.by (w4) ?_|refine callX.by (newW_c _) ?_|refine callX.by (warming_c _ _ _ _ ?_ ?_ ?_ ?_) ?_|refine callX.by (saneW_c _ _ _ _ ?_ ?_ ?_ ?_) ?_|assumption|(refine Qw hK _ ?_; clear hK K)|refine Qw ‹_› _ ?_|refine Qx ‹_› ?_|refine Qi fun K hK=>?_|refine Qj T fun K hK=>?_|refine Ql fun A B hA hB=>?_|refine Qn ?_|refine Qr ?_)
 | ((with_reducible first|apply Qy|apply Qz|apply QA)<;>intro hb<;>try simp only [nr] at hb)
 | simp only [go_sem,↓reduceIte,reduceIte,Qa,Qh,Qb,Qc,Qd,Qe,Qf,Qg,reduceCtorEq, *,-w0,-w1,-w2,-w3,-w4,Int.le_refl,List.length_nil,List.length_cons,decide_true]
 | with_reducible refine fun (bn:Bool) hbn=>?_))
 all_goals trace_state
theorem same17_self (a:Warm):same17 a a=true:=by simp [same17,same16]
end Go.Proofs.YtndnkbekhmndhaaGreatDoor.Lg
