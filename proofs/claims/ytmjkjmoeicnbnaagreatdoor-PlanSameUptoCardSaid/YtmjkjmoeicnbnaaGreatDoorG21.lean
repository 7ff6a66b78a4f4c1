/- Parts of the proof, one behind the other. -/
import Derived.Test.YtmjkjmoeicnbnaaGreatDoorG20
namespace Go.Proofs.YtmjkjmoeicnbnaaGreatDoor.Lg
set_option maxRecDepth 100000
set_option linter.unusedVariables false
set_option linter.unusedSimpArgs false
open Go
open Nat renaming reduceEqDiff → Qa, reduceLT → Qb, reduceLeDiff → Qc, reduceAdd → Qd, reduceMul → Qe, reduceSub → Qf, reduceBEq → Qg
open String renaming reduceEq → Qh
open SpecC renaming seqW → Qi, regW → Qj, drawW → Qk, condW → Ql, block → Qm, skip → Qn, exit → Qp, ret → Qr, loopF → Qs
open NxK renaming out → Qw
open Nx renaming out → Qx
open condK renaming split → Qy
open gK renaming split_t → Qz, split_f → QA
open List renaming getElem_mem → QC
structure At (a b:List Res) (H:List Key) (e x:List Res) (l:List Step):Prop where
 chain:Chain b H x l e
 up:Up (x.map keyOf)
 len:x.length+(diffA x b).length≤a.length+b.length
 mem:∀ r∈x,r∈a∨r∈b
theorem At.start {a b:List Res} {H:List Key} (ha:Up (a.map keyOf)) (hb:Up (b.map keyOf)) (hl:a.length+b.length < 400):∃ e,At a b H e a (runP b H 400 a)∧(runP b H 400 a).length≤a.length+b.length:=by
 have h1:=(diffA_sub a b).length_le
 have h2:=(diffG_sub a b).length_le
 rw [List.length_map] at h2
 obtain ⟨e,he⟩:=run_chain (held:=H) hb 400 a ha (by omega)
 have:=chain_size hb he ha
 exact ⟨e,⟨he,ha,by omega,fun r hr=>.inl hr⟩,by omega⟩
theorem At.step {a b:List Res} {H:List Key} {e x:List Res} {s:Step} {l:List Step} (hb:Up (b.map keyOf)) (h:At a b H e x (s :: l)):nextP x b H=some s∧At a b H e (applyP x s) l:=by
 cases h.chain with
 | cons _ _ _ _ h1 h2 =>
  obtain ⟨q1,q2,q3,q4⟩:=next_less h.up hb h1
  have hl:(applyP x s).length≤x.length+s.adds.length:=patchR_len _ _ _
  have:=h.len
  exact ⟨h1,h2,q4,by omega,fun r hr=>(patchR_mem hr).elim (h.mem r) fun hr=>.inr ((next_sub h1).1.subset hr)⟩
theorem At.stop {a b:List Res} {H:List Key} {e x:List Res} (h:At a b H e x []):x=e∧nextP x b H=none:=by
 cases h.chain with
 | nil _ h1=>exact ⟨rfl,h1⟩
theorem At.kin {a b:List Res} {H:List Key} {e x:List Res} {l:List Step} (h:At a b H e x l) (ka:Kin a) (kb:Kin b):Kin x:=fun r hr=>(h.mem r hr).elim (ka r) (kb r)
theorem At.sm {a b:List Res} {H:List Key} {e x:List Res} {l:List Step} (h:At a b H e x l) (ha:∀ r∈a,SmRes r) (hb:∀ r∈b,SmRes r):∀ r∈x,SmRes r:=fun r hr=>(h.mem r hr).elim (ha r) (hb r)
set_option maxHeartbeats 8000000 in
theorem planWaits_c (a b:List Res) (H:List Key) (hl:Small a.length) (hs:∀ r∈a,SmRes r) (hl2:Small b.length) (hs2:∀ r∈b,SmRes r) (hH:Small H.length):CallR Tryz.prog 9 [.slice false (avs a),.slice false (avs b),.slice false (avs H)] (.val (.bool true)):=by
 have w0:=awake15_c
 have w1:=fewP_c a b H hl hs hl2 hs2
 by_cases hf:fewP a b H=true
 rotate_left
 ·have hf:fewP a b H=false:=by simpa using hf
  rw [hf] at w1
  refine CallR.go3 (T:=T) Tryz.call9 Tryz.func9 rfl Tryz.ntmps9 (congrArg Array.toList Tryz.results9) (by decide) fun ts hn h0 h1 h2=>?_
  (repeat' (first
 | (with_reducible first|refine callX.by (w0) ?_|refine callX.by (w1) ?_|refine callX.by awake15_c ?_|refine callX.by (fewP_c _ _ _ ?_ ?_ ?_ ?_) ?_|refine callX.by (tsane_c _ ?_ ?_) ?_|refine callX.by (allP_c _ _ _ ?_ ?_ ?_ ?_ ?_ ?_) ?_|refine callX.by (applyP_c _ _ _ _ ?_ ?_ ?_ ?_) ?_|refine callX.by (waitsP_c _ _ _ ?_ ?_ ?_ ?_ ?_) ?_|refine callX.by (tget_c _ _ _ ?_) ?_|refine callX.by (has6_c _ _ _ ?_) ?_|refine callX.by (referrers_c _ _ _ ?_ ?_) ?_|assumption|(refine Qw hK _ ?_; clear hK K)|refine Qw ‹_› _ ?_|refine Qx ‹_› ?_|refine Qi fun K hK=>?_|refine Qj T fun K hK=>?_|refine Ql fun A B hA hB=>?_|refine Qm ?_|refine Qn ?_|refine Qp ?_|refine Qr ?_)
 | ((with_reducible first|apply Qy|apply Qz|apply QA)<;>intro hb<;>try simp only [nr] at hb)
 | simp only [go_sem,↓reduceIte,reduceIte,Qa,Qh,Qb,Qc,Qd,Qe,Qf,Qg,reduceCtorEq, *,-hs,-hs2,-w0,-w1]
 | with_reducible refine fun (bn:Bool) hbn=>?_))
 rw [hf] at w1
 obtain ⟨hl8,hm8,hH8⟩:=fewP_t hf
 have w2:=tsane_c a hl hs
 by_cases ht:tsane a=0
 rotate_left
 ·refine CallR.go3 (T:=T) Tryz.call9 Tryz.func9 rfl Tryz.ntmps9 (congrArg Array.toList Tryz.results9) (by decide) fun ts hn h0 h1 h2=>?_
  (repeat' (first
 | (with_reducible first|refine callX.by (w0) ?_|refine callX.by (w1) ?_|refine callX.by (w2) ?_|refine callX.by awake15_c ?_|refine callX.by (fewP_c _ _ _ ?_ ?_ ?_ ?_) ?_|refine callX.by (tsane_c _ ?_ ?_) ?_|refine callX.by (allP_c _ _ _ ?_ ?_ ?_ ?_ ?_ ?_) ?_|refine callX.by (applyP_c _ _ _ _ ?_ ?_ ?_ ?_) ?_|refine callX.by (waitsP_c _ _ _ ?_ ?_ ?_ ?_ ?_) ?_|refine callX.by (tget_c _ _ _ ?_) ?_|refine callX.by (has6_c _ _ _ ?_) ?_|refine callX.by (referrers_c _ _ _ ?_ ?_) ?_|assumption|(refine Qw hK _ ?_; clear hK K)|refine Qw ‹_› _ ?_|refine Qx ‹_› ?_|refine Qi fun K hK=>?_|refine Qj T fun K hK=>?_|refine Ql fun A B hA hB=>?_|refine Qm ?_|refine Qn ?_|refine Qp ?_|refine Qr ?_)
 | ((with_reducible first|apply Qy|apply Qz|apply QA)<;>intro hb<;>try simp only [nr] at hb)
 | simp only [go_sem,↓reduceIte,reduceIte,Qa,Qh,Qb,Qc,Qd,Qe,Qf,Qg,reduceCtorEq, *,-hs,-hs2,-w0,-w1,-w2]
 | with_reducible refine fun (bn:Bool) hbn=>?_))
 have w3:=tsane_c b hl2 hs2
 by_cases ht2:tsane b=0
 rotate_left
 ·rw [ht] at w2
  refine CallR.go3 (T:=T) Tryz.call9 Tryz.func9 rfl Tryz.ntmps9 (congrArg Array.toList Tryz.results9) (by decide) fun ts hn h0 h1 h2=>?_
  (repeat' (first
 | (with_reducible first|refine callX.by (w0) ?_|refine callX.by (w1) ?_|refine callX.by (w2) ?_|refine callX.by (w3) ?_|refine callX.by awake15_c ?_|refine callX.by (fewP_c _ _ _ ?_ ?_ ?_ ?_) ?_|refine callX.by (tsane_c _ ?_ ?_) ?_|refine callX.by (allP_c _ _ _ ?_ ?_ ?_ ?_ ?_ ?_) ?_|refine callX.by (applyP_c _ _ _ _ ?_ ?_ ?_ ?_) ?_|refine callX.by (waitsP_c _ _ _ ?_ ?_ ?_ ?_ ?_) ?_|refine callX.by (tget_c _ _ _ ?_) ?_|refine callX.by (has6_c _ _ _ ?_) ?_|refine callX.by (referrers_c _ _ _ ?_ ?_) ?_|assumption|(refine Qw hK _ ?_; clear hK K)|refine Qw ‹_› _ ?_|refine Qx ‹_› ?_|refine Qi fun K hK=>?_|refine Qj T fun K hK=>?_|refine Ql fun A B hA hB=>?_|refine Qm ?_|refine Qn ?_|refine Qp ?_|refine Qr ?_)
 | ((with_reducible first|apply Qy|apply Qz|apply QA)<;>intro hb<;>try simp only [nr] at hb)
 | simp only [go_sem,↓reduceIte,reduceIte,Qa,Qh,Qb,Qc,Qd,Qe,Qf,Qg,reduceCtorEq, *,-hs,-hs2,-w0,-w1,-w2,-w3]
 | with_reducible refine fun (bn:Bool) hbn=>?_))
 rw [ht] at w2
 rw [ht2] at w3
 have hca:=conf_of ht
 have hcb:=conf_of ht2
 have hla:=hca.len
 have hlb:=hcb.len
 have hre:=reachOk_of (l:=b) (by omega) hs2 hcb.up
 have w4:=(allP_c a b H hl8 hm8 hs hs2 hH hre).frz
 obtain ⟨e,hat,hXl⟩:=At.start (H:=H) hca.up hcb.up (show a.length+b.length < 400 by omega)
 generalize runP b H 400 a=X at *
 have hXs:Small X.length:=by unfold Small; omega
 have hupb:=hcb.up
 have hka:=hca.kin
 have hkb:=hcb.kin
 clear hca hcb hf ht ht2
 refine CallR.go3 (T:=T) Tryz.call9 Tryz.func9 rfl Tryz.ntmps9 (congrArg Array.toList Tryz.results9) (by decide) fun ts hn h0 h1 h2=>?_
 (repeat' (first
 | (with_reducible first|refine callX.by (w0) ?_|refine callX.by (w1) ?_|refine callX.by (w2) ?_|refine callX.by (w3) ?_|refine callX.by (w4) ?_|refine callX.by awake15_c ?_|refine callX.by (fewP_c _ _ _ ?_ ?_ ?_ ?_) ?_|refine callX.by (tsane_c _ ?_ ?_) ?_|refine callX.by (allP_c _ _ _ ?_ ?_ ?_ ?_ ?_ ?_) ?_|refine callX.by (applyP_c _ _ _ _ ?_ ?_ ?_ ?_) ?_|refine callX.by (waitsP_c _ _ _ ?_ ?_ ?_ ?_ ?_) ?_|refine callX.by (tget_c _ _ _ ?_) ?_|refine callX.by (has6_c _ _ _ ?_) ?_|refine callX.by (referrers_c _ _ _ ?_ ?_) ?_|assumption|(refine Qw hK _ ?_; clear hK K)|refine Qw ‹_› _ ?_|refine Qx ‹_› ?_|refine Qi fun K hK=>?_|refine Qj T fun K hK=>?_|refine Ql fun A B hA hB=>?_|refine Qm ?_|refine Qn ?_|refine Qp ?_|refine Qr ?_)
 | ((with_reducible first|apply Qy|apply Qz|apply QA)<;>intro hb<;>try simp only [nr] at hb)
 | simp only [go_sem,↓reduceIte,reduceIte,Qa,Qh,Qb,Qc,Qd,Qe,Qf,Qg,reduceCtorEq, *,-hs,-hs2,-hre,-w0,-w1,-w2,-w3,-w4]
 | with_reducible refine fun (bn:Bool) hbn=>?_))
 refine Qs [1,2,7,8] (fun m ts'=>∃ (i:Nat),∃ (x:List Res),m=X.length - i∧i≤X.length∧At a b H e x (X.drop i)∧ts'.tmp 9=.slice false (avs x)∧ts'.tmp 10=.int .i64 i) X.length ?_ ?_
 ·refine ⟨0,a,rfl,Nat.zero_le _,hat,?_⟩
  simp only [go_sem,↓reduceIte,reduceIte,Qa,Qh,Qb,Qc,Qd,Qe,Qf,Qg,reduceCtorEq, *,-hs,-hs2,-hre,-w0,-w1,-w2,-w3,-w4]
 ·rintro m A hM ts' hk ⟨i,x,hm,f1,f2,s1,s2⟩
  simp only [go_sem,↓reduceIte,reduceIte,Qa,Qh,Qb,Qc,Qd,Qe,Qf,Qg,reduceCtorEq, *] at hk
  by_cases hlt:i < X.length
  ·rw [List.drop_eq_getElem_cons hlt] at f2
   have hxl:x.length≤128:=by have:=f2.len; omega
   obtain ⟨q1,q2⟩:=f2.step hupb
   obtain ⟨_,q3,q4⟩:=next_sub q1
   have w5:=applyP_c x X[i].kind X[i].adds X[i].gone (by unfold Small; omega) (by unfold Small; omega) (by unfold Small; omega) (by unfold Small; omega)
   rw [show (⟨X[i].kind,X[i].adds,X[i].gone⟩:Step)=X[i] from rfl] at w5
   (repeat' (first
 | (with_reducible first|refine callX.by (w5) ?_|refine callX.by awake15_c ?_|refine callX.by (fewP_c _ _ _ ?_ ?_ ?_ ?_) ?_|refine callX.by (tsane_c _ ?_ ?_) ?_|refine callX.by (allP_c _ _ _ ?_ ?_ ?_ ?_ ?_ ?_) ?_|refine callX.by (applyP_c _ _ _ _ ?_ ?_ ?_ ?_) ?_|refine callX.by (waitsP_c _ _ _ ?_ ?_ ?_ ?_ ?_) ?_|refine callX.by (tget_c _ _ _ ?_) ?_|refine callX.by (has6_c _ _ _ ?_) ?_|refine callX.by (referrers_c _ _ _ ?_ ?_) ?_|assumption|(refine Qw hK _ ?_; clear hK K)|refine Qw ‹_› _ ?_|refine Qx ‹_› ?_|refine Qi fun K hK=>?_|refine Qj T fun K hK=>?_|refine Ql fun A B hA hB=>?_|refine Qm ?_|refine Qn ?_|refine Qp ?_|refine Qr ?_)
 | ((with_reducible first|apply Qy|apply Qz|apply QA)<;>intro hb<;>try simp only [nr] at hb)
 | simp only [go_sem,↓reduceIte,reduceIte,Qa,Qh,Qb,Qc,Qd,Qe,Qf,Qg,reduceCtorEq, *,-hs,-hs2,-hre,-w0,-w1,-w2,-w3,-w4,-w5,-q1,-q2,-f2]
 | with_reducible refine fun (bn:Bool) hbn=>?_))
   all_goals ((repeat clear hK); (repeat clear hA); (repeat clear hB))
   all_goals (refine hM.on (X.length - (i+1)) (by omega) (by simp only [go_sem,↓reduceIte,reduceIte,Qa,Qh,Qb,Qc,Qd,Qe,Qf,Qg,reduceCtorEq, *,w64_nat hlt hXs,-hs,-hs2,-hre,-w0,-w1,-w2,-w3,-w4,-w5,-q1,-q2,-f2]) ⟨i+1,applyP x X[i],rfl,by omega,q2,?_⟩; simp only [go_sem,↓reduceIte,reduceIte,Qa,Qh,Qb,Qc,Qd,Qe,Qf,Qg,reduceCtorEq, *,w64_nat hlt hXs,-hs,-hs2,-hre,-w0,-w1,-w2,-w3,-w4,-w5,-q1,-q2,-f2]; done)
  ·rw [List.drop_eq_nil_of_le (by omega)] at f2
   obtain ⟨rfl,hno⟩:=f2.stop
   have hxl:x.length≤128:=by have:=f2.len; omega
   have hxs:=f2.sm hs hs2
   have w5:=waitsP_c x b H (by omega) hl2 hxs hH hre
   have eW:waitsP x b H=diffG x b:=by unfold waitsP; rw [hno]; rfl
   rw [eW] at w5
   have hWl:=(diffG_sub x b).length_le
   rw [List.length_map] at hWl
   have hlen:=len_left f2.up hupb (none_A f2.up hkb hno)
   have hW:∀ k∈diffG x b,(tget b k).isSome=false∧(k∈H∨0 < (referrers x k).length):=fun k hk=>by
    refine ⟨by rw [tget_is,decide_eq_false (mem_diffG.1 hk).2],?_⟩
    rw [ref_pos]
    exact (none_G (f2.kin hka hkb) hno hk).2
   clear eW f2 hno
   generalize diffG x b=V at *
   have hVs:Small V.length:=by unfold Small; omega
   (repeat' (first
 | (with_reducible first|refine callX.by (w5) ?_|refine callX.by awake15_c ?_|refine callX.by (fewP_c _ _ _ ?_ ?_ ?_ ?_) ?_|refine callX.by (tsane_c _ ?_ ?_) ?_|refine callX.by (allP_c _ _ _ ?_ ?_ ?_ ?_ ?_ ?_) ?_|refine callX.by (applyP_c _ _ _ _ ?_ ?_ ?_ ?_) ?_|refine callX.by (waitsP_c _ _ _ ?_ ?_ ?_ ?_ ?_) ?_|refine callX.by (tget_c _ _ _ ?_) ?_|refine callX.by (has6_c _ _ _ ?_) ?_|refine callX.by (referrers_c _ _ _ ?_ ?_) ?_|assumption|(refine Qw hK _ ?_; clear hK K)|refine Qw ‹_› _ ?_|refine Qx ‹_› ?_|refine Qi fun K hK=>?_|refine Qj T fun K hK=>?_|refine Ql fun A B hA hB=>?_|refine Qm ?_|refine Qn ?_|refine Qp ?_|refine Qr ?_)
 | ((with_reducible first|apply Qy|apply Qz|apply QA)<;>intro hb<;>try simp only [nr] at hb)
 | simp only [go_sem,↓reduceIte,reduceIte,Qa,Qh,Qb,Qc,Qd,Qe,Qf,Qg,reduceCtorEq, *,-hs,-hs2,-hre,-w0,-w1,-w2,-w3,-w4,-w5,-hW,-hxs,-hlen]
 | with_reducible refine fun (bn:Bool) hbn=>?_))
   clear hM hm
   refine Qs [1,2,7,9,11] (fun m ts'=>∃ (j:Nat),m=V.length - j∧j≤V.length∧ts'.tmp 12=.int .i64 j) V.length ?_ ?_
   ·refine ⟨0,rfl,Nat.zero_le _,?_⟩
    simp only [go_sem,↓reduceIte,reduceIte,Qa,Qh,Qb,Qc,Qd,Qe,Qf,Qg,reduceCtorEq, *,-hs,-hs2,-hre,-w0,-w1,-w2,-w3,-w4,-w5,-hW,-hxs,-hlen]
   ·rintro m A hM ts' hk ⟨j,hm,f1,s1⟩
    simp only [go_sem,↓reduceIte,reduceIte,Qa,Qh,Qb,Qc,Qd,Qe,Qf,Qg,reduceCtorEq, *] at hk
    by_cases hlt2:j < V.length
    ·have w6:=tget_c b V[j].kind V[j].name hl2
     have w7:=has6_c H V[j].kind V[j].name hH
     have w8:=(referrers_c x V[j].kind V[j].name (by omega) hxs).frz
     obtain ⟨v1,v2⟩:=hW _ (QC hlt2)
     have v1:(tget b ⟨V[j].kind,V[j].name⟩).isSome=false:=v1
     rw [v1,av_Res] at w6
     generalize (tget b ⟨V[j].kind,V[j].name⟩).getD zRes=z at *
     by_cases hmem:V[j]∈H
     ·rw [show decide ((⟨V[j].kind,V[j].name⟩:Key)∈H)=true from decide_eq_true hmem] at w7
      (repeat' (first
 | (with_reducible first|refine callX.by (w6) ?_|refine callX.by (w7) ?_|refine callX.by (w8) ?_|refine callX.by awake15_c ?_|refine callX.by (fewP_c _ _ _ ?_ ?_ ?_ ?_) ?_|refine callX.by (tsane_c _ ?_ ?_) ?_|refine callX.by (allP_c _ _ _ ?_ ?_ ?_ ?_ ?_ ?_) ?_|refine callX.by (applyP_c _ _ _ _ ?_ ?_ ?_ ?_) ?_|refine callX.by (waitsP_c _ _ _ ?_ ?_ ?_ ?_ ?_) ?_|refine callX.by (tget_c _ _ _ ?_) ?_|refine callX.by (has6_c _ _ _ ?_) ?_|refine callX.by (referrers_c _ _ _ ?_ ?_) ?_|assumption|(refine Qw hK _ ?_; clear hK K)|refine Qw ‹_› _ ?_|refine Qx ‹_› ?_|refine Qi fun K hK=>?_|refine Qj T fun K hK=>?_|refine Ql fun A B hA hB=>?_|refine Qm ?_|refine Qn ?_|refine Qp ?_|refine Qr ?_)
 | ((with_reducible first|apply Qy|apply Qz|apply QA)<;>intro hb<;>try simp only [nr] at hb)
 | simp only [go_sem,↓reduceIte,reduceIte,Qa,Qh,Qb,Qc,Qd,Qe,Qf,Qg,reduceCtorEq, *,-hs,-hs2,-hre,-w0,-w1,-w2,-w3,-w4,-w5,-hW,-hxs,-hlen,-w6,-w7,-w8,-v2,-v1,-hmem]
 | with_reducible refine fun (bn:Bool) hbn=>?_))
      all_goals ((repeat clear hK); (repeat clear hA); (repeat clear hB))
      all_goals (refine hM.on (V.length - (j+1)) (by omega) (by simp only [go_sem,↓reduceIte,reduceIte,Qa,Qh,Qb,Qc,Qd,Qe,Qf,Qg,reduceCtorEq, *,w64_nat hlt2 hVs,-hs,-hs2,-hre,-w0,-w1,-w2,-w3,-w4,-w5,-hW,-hxs,-hlen,-w6,-w7,-w8,-v2,-v1,-hmem]) ⟨j+1,rfl,by omega,?_⟩; simp only [go_sem,↓reduceIte,reduceIte,Qa,Qh,Qb,Qc,Qd,Qe,Qf,Qg,reduceCtorEq, *,w64_nat hlt2 hVs,-hs,-hs2,-hre,-w0,-w1,-w2,-w3,-w4,-w5,-hW,-hxs,-hlen,-w6,-w7,-w8,-v2,-v1,-hmem]; done)
     ·rw [show decide ((⟨V[j].kind,V[j].name⟩:Key)∈H)=false from decide_eq_false hmem] at w7
      have v3:0 < (referrers x ⟨V[j].kind,V[j].name⟩).length:=v2.resolve_left hmem
      clear v2
      generalize referrers x ⟨V[j].kind,V[j].name⟩=R at *
      have v4:¬ (R.length:Int)=0:=by omega
      (repeat' (first
 | (with_reducible first|refine callX.by (w6) ?_|refine callX.by (w7) ?_|refine callX.by (w8) ?_|refine callX.by awake15_c ?_|refine callX.by (fewP_c _ _ _ ?_ ?_ ?_ ?_) ?_|refine callX.by (tsane_c _ ?_ ?_) ?_|refine callX.by (allP_c _ _ _ ?_ ?_ ?_ ?_ ?_ ?_) ?_|refine callX.by (applyP_c _ _ _ _ ?_ ?_ ?_ ?_) ?_|refine callX.by (waitsP_c _ _ _ ?_ ?_ ?_ ?_ ?_) ?_|refine callX.by (tget_c _ _ _ ?_) ?_|refine callX.by (has6_c _ _ _ ?_) ?_|refine callX.by (referrers_c _ _ _ ?_ ?_) ?_|assumption|(refine Qw hK _ ?_; clear hK K)|refine Qw ‹_› _ ?_|refine Qx ‹_› ?_|refine Qi fun K hK=>?_|refine Qj T fun K hK=>?_|refine Ql fun A B hA hB=>?_|refine Qm ?_|refine Qn ?_|refine Qp ?_|refine Qr ?_)
 | ((with_reducible first|apply Qy|apply Qz|apply QA)<;>intro hb<;>try simp only [nr] at hb)
 | simp only [go_sem,↓reduceIte,reduceIte,Qa,Qh,Qb,Qc,Qd,Qe,Qf,Qg,reduceCtorEq, *,-hs,-hs2,-hre,-w0,-w1,-w2,-w3,-w4,-w5,-hW,-hxs,-hlen,-w6,-w7,-w8,-v1,-hmem]
 | with_reducible refine fun (bn:Bool) hbn=>?_))
      all_goals ((repeat clear hK); (repeat clear hA); (repeat clear hB))
      all_goals first|(exfalso; have:=of_decide_eq_true hb; omega)|(refine hM.on (V.length - (j+1)) (by omega) (by simp only [go_sem,↓reduceIte,reduceIte,Qa,Qh,Qb,Qc,Qd,Qe,Qf,Qg,reduceCtorEq, *,w64_nat hlt2 hVs,-hs,-hs2,-hre,-w0,-w1,-w2,-w3,-w4,-w5,-hW,-hxs,-hlen,-w6,-w7,-w8,-v1,-hmem]) ⟨j+1,rfl,by omega,?_⟩; simp only [go_sem,↓reduceIte,reduceIte,Qa,Qh,Qb,Qc,Qd,Qe,Qf,Qg,reduceCtorEq, *,w64_nat hlt2 hVs,-hs,-hs2,-hre,-w0,-w1,-w2,-w3,-w4,-w5,-hW,-hxs,-hlen,-w6,-w7,-w8,-v1,-hmem]; done)
    ·have hw:=w64_addN (a:=b.length) (b:=V.length) (n:=x.length) (by omega) (by unfold Small; omega)
     have hlen':(x.length:Int)=((b.length+V.length:Nat):Int):=by omega
     (repeat' (first
 | (with_reducible first|refine callX.by awake15_c ?_|refine callX.by (fewP_c _ _ _ ?_ ?_ ?_ ?_) ?_|refine callX.by (tsane_c _ ?_ ?_) ?_|refine callX.by (allP_c _ _ _ ?_ ?_ ?_ ?_ ?_ ?_) ?_|refine callX.by (applyP_c _ _ _ _ ?_ ?_ ?_ ?_) ?_|refine callX.by (waitsP_c _ _ _ ?_ ?_ ?_ ?_ ?_) ?_|refine callX.by (tget_c _ _ _ ?_) ?_|refine callX.by (has6_c _ _ _ ?_) ?_|refine callX.by (referrers_c _ _ _ ?_ ?_) ?_|assumption|(refine Qw hK _ ?_; clear hK K)|refine Qw ‹_› _ ?_|refine Qx ‹_› ?_|refine Qi fun K hK=>?_|refine Qj T fun K hK=>?_|refine Ql fun A B hA hB=>?_|refine Qm ?_|refine Qn ?_|refine Qp ?_|refine Qr ?_)
 | ((with_reducible first|apply Qy|apply Qz|apply QA)<;>intro hb<;>try simp only [nr] at hb)
 | simp only [go_sem,↓reduceIte,reduceIte,Qa,Qh,Qb,Qc,Qd,Qe,Qf,Qg,reduceCtorEq, *,-hs,-hs2,-hre,-w0,-w1,-w2,-w3,-w4,-w5,-hW,-hxs,-hlen]
 | with_reducible refine fun (bn:Bool) hbn=>?_))
     all_goals ((repeat clear hK); (repeat clear hA); (repeat clear hB))
     all_goals trace_state
theorem eqFRes_c (fn:FuncId) (caps:List AV) (hc:Caps caps) (xs ys:List Res) (hp:∀ x∈xs,∀ y,CallR Tryz.prog fn (.agg [.int .i64 x.kind,.str x.name,.int .i64 x.ver,.int .i64 x.port,.str x.to',.slice false (avs x.rules'),.slice false (avs x.hosts)] :: .agg [.int .i64 y.kind,.str y.name,.int .i64 y.ver,.int .i64 y.port,.str y.to',.slice false (avs y.rules'),.slice false (avs y.hosts)] :: caps) (.val (.bool (decide (x=y))))) (hl:Small xs.length):CallR Tryz.prog 126 [.slice false (avs xs),.slice false (avs ys),.clo (.func fn) [] caps] (.val (.bool (decide (xs=ys)))):=by
 have hca:=hc.args
 have hcp:=hc.pure
 have hcn:=hc.nrm
 refine CallR.go3 (T:=T) Tryz.call126 Tryz.func126 rfl Tryz.ntmps126 (congrArg Array.toList Tryz.results126) (by decide) fun ts hn h0 h1 h2=>?_
 by_cases hll:xs.length=ys.length
 ·(repeat' (first
 | (with_reducible first|assumption|(refine Qw hK _ ?_; clear hK K)|refine Qw ‹_› _ ?_|refine Qx ‹_› ?_|refine Qi fun K hK=>?_|refine Qj T fun K hK=>?_|refine Ql fun A B hA hB=>?_|refine Qm ?_|refine Qn ?_|refine Qp ?_|refine Qr ?_)
 | ((with_reducible first|apply Qy|apply Qz|apply QA)<;>intro hb<;>try simp only [nr] at hb)
 | simp only [go_sem,↓reduceIte,reduceIte,Qa,Qh,Qb,Qc,Qd,Qe,Qf,Qg,reduceCtorEq, *,-hp]
 | with_reducible refine fun (bn:Bool) hbn=>?_))
  refine Qs [1,2,15,16] (fun m ts'=>∃ (i:Nat),m=xs.length - i∧i≤xs.length∧xs.take i=ys.take i∧ts'.tmp 17=.int .i64 i) xs.length ?_ ?_
  ·refine ⟨0,?_⟩
   simp only [go_sem,↓reduceIte,reduceIte,Qa,Qh,Qb,Qc,Qd,Qe,Qf,Qg,reduceCtorEq, *,-hp]
  ·rintro m A hM ts' hk ⟨i,hm,f1,f2,s1⟩
   simp only [go_sem,↓reduceIte,reduceIte,Qa,Qh,Qb,Qc,Qd,Qe,Qf,Qg,reduceCtorEq, *] at hk
   by_cases hlt:i < xs.length
   ·have hlu:i < ys.length:=by omega
    have hne:=take_ne hlt hlu
    have hpi:=hp _ (QC hlt) ys[i]
    (repeat' (first
 | (with_reducible first|refine callX.by (hpi) ?_|assumption|(refine Qw hK _ ?_; clear hK K)|refine Qw ‹_› _ ?_|refine Qx ‹_› ?_|refine Qi fun K hK=>?_|refine Qj T fun K hK=>?_|refine Ql fun A B hA hB=>?_|refine Qm ?_|refine Qn ?_|refine Qp ?_|refine Qr ?_)
 | ((with_reducible first|apply Qy|apply Qz|apply QA)<;>intro hb<;>try simp only [nr] at hb)
 | simp only [go_sem,↓reduceIte,reduceIte,Qa,Qh,Qb,Qc,Qd,Qe,Qf,Qg,reduceCtorEq, *,-hp,-hpi]
 | with_reducible refine fun (bn:Bool) hbn=>?_))
    all_goals ((repeat clear hK); (repeat clear hA); (repeat clear hB))
    all_goals first
     | (refine hM.on (xs.length - (i+1)) (by omega) (by simp only [go_sem,↓reduceIte,reduceIte,Qa,Qh,Qb,Qc,Qd,Qe,Qf,Qg,reduceCtorEq, *,w64_nat hlt hl,-hp,-hpi]) ⟨i+1,rfl,by omega,take_get f2 hlt hlu (of_decide_eq_true hb),?_⟩; simp only [go_sem,↓reduceIte,reduceIte,Qa,Qh,Qb,Qc,Qd,Qe,Qf,Qg,reduceCtorEq, *,w64_nat hlt hl,-hp,-hpi]; done)
     | (clear hM hp hpi; grind)
   ·have:=take_all f2 hlt hll
    (repeat' (first
 | (with_reducible first|assumption|(refine Qw hK _ ?_; clear hK K)|refine Qw ‹_› _ ?_|refine Qx ‹_› ?_|refine Qi fun K hK=>?_|refine Qj T fun K hK=>?_|refine Ql fun A B hA hB=>?_|refine Qm ?_|refine Qn ?_|refine Qp ?_|refine Qr ?_)
 | ((with_reducible first|apply Qy|apply Qz|apply QA)<;>intro hb<;>try simp only [nr] at hb)
 | simp only [go_sem,↓reduceIte,reduceIte,Qa,Qh,Qb,Qc,Qd,Qe,Qf,Qg,reduceCtorEq, *,-hp]
 | with_reducible refine fun (bn:Bool) hbn=>?_))
    all_goals ((repeat clear hK); (repeat clear hA); (repeat clear hB))
    all_goals (clear hM hp; grind)
 ·have:¬ xs=ys:=by rintro rfl; exact hll rfl
  (repeat' (first
 | (with_reducible first|assumption|(refine Qw hK _ ?_; clear hK K)|refine Qw ‹_› _ ?_|refine Qx ‹_› ?_|refine Qi fun K hK=>?_|refine Qj T fun K hK=>?_|refine Ql fun A B hA hB=>?_|refine Qm ?_|refine Qn ?_|refine Qp ?_|refine Qr ?_)
 | ((with_reducible first|apply Qy|apply Qz|apply QA)<;>intro hb<;>try simp only [nr] at hb)
 | simp only [go_sem,↓reduceIte,reduceIte,Qa,Qh,Qb,Qc,Qd,Qe,Qf,Qg,reduceCtorEq, *,-hp]
 | with_reducible refine fun (bn:Bool) hbn=>?_))
  all_goals ((repeat clear hK); (repeat clear hA); (repeat clear hB))
  all_goals (clear hp; grind)
theorem tsame_c (xs ys:List Res) (hl:Small xs.length) (hs:∀ x∈xs,SmRes x):CallR Tryz.prog 65 [.slice false (avs xs),.slice false (avs ys)] (.val (.bool (decide (xs=ys)))):=by
 have w1:=eqFRes_c 120 [] Caps.nil xs ys (fun x hx y=>sameP_c x.kind x.name x.ver x.port x.to' x.rules' x.hosts y.kind y.name y.ver y.port y.to' y.rules' y.hosts (hs x hx).2.2.2.2 (hs x hx).2.2.1 (hs x hx).2.2.2.1) hl
 refine CallR.go2 (T:=T) Tryz.call65 Tryz.func65 rfl Tryz.ntmps65 (congrArg Array.toList Tryz.results65) (by decide) fun ts hn h0 h1=>?_
 (repeat' (first
 | (with_reducible first|refine callX.by (w1) ?_|refine callX.by (eqFRes_c _ _ ?_ _ _ ?_ ?_) ?_|refine callX.by (sameP_c _ _ _ _ _ _ _ _ _ _ _ _ _ _ ?_ ?_ ?_) ?_|refine callX.by awqm ?_|assumption|(refine Qw hK _ ?_; clear hK K)|refine Qw ‹_› _ ?_|refine Qx ‹_› ?_|refine Qi fun K hK=>?_|refine Qj T fun K hK=>?_|refine Ql fun A B hA hB=>?_|refine Qn ?_|refine Qr ?_)
 | ((with_reducible first|apply Qy|apply Qz|apply QA)<;>intro hb<;>try simp only [nr] at hb)
 | simp only [go_sem,↓reduceIte,reduceIte,Qa,Qh,Qb,Qc,Qd,Qe,Qf,Qg,reduceCtorEq, *,-hs,-w1]
 | with_reducible refine fun (bn:Bool) hbn=>?_))
@[go_sem] def Wd12:List (List Nat×List Nat):=[([57],[58,59,60,61,62,63,64,65,66,67,68,69,70,71,72,73,74,75,76,78,79,12]),([58],[57,59,62,63,64,65,66,67,68,69,70,71,72,73,74,75,76,77,56,78,79,12]),([59],[57,58,62,63,64,65,66,67,68,69,70,71,72,73,74,75,76,77,56,78,79,12]),([60],[57,63,64,65,66,67,68,69,70,71,72,73,74,75,76,77,56,78,79,12]),([61],[57,63,65,66,67,68,69,70,71,72,73,74,75,76,77,56,78,79,12]),([62],[57,58,59,63,66,67,68,69,70,71,72,73,74,75,76,77,56,78,79,12]),([63],[57,58,59,60,61,62,66,67,68,69,70,71,72,73,74,75,76,77,56,78,79,12]),([64],[57,58,59,60,67,68,69,70,71,72,73,74,75,76,77,56,78,79,12]),([65],[57,58,59,60,61,67,68,69,70,71,72,73,74,75,77,56,78,79,12]),([66],[57,58,59,60,61,62,63,67,68,69,70,71,72,73,74,75,56,78,79,12]),([67],[57,58,59,60,61,62,63,64,65,66,68,71,72,73,74,75,76,77,56,78,79,12]),([68],[57,58,59,60,61,62,63,64,65,66,67,71,72,73,74,75,76,77,56,78,79,12]),([69],[57,58,59,60,61,62,63,64,65,66,72,73,74,75,76,77,56,78,79,12]),([70],[57,58,59,60,61,62,63,64,65,66,72,74,75,76,77,56,78,79,12]),([71],[57,58,59,60,61,62,63,64,65,66,67,68,72,75,76,77,56,78,79,12]),([72],[57,58,59,60,61,62,63,64,65,66,67,68,69,70,71,75,76,77,56,78,79,12]),([73],[57,58,59,60,61,62,63,64,65,66,67,68,69,76,77,56,78,79,12]),([74],[57,58,59,60,61,62,63,64,65,66,67,68,69,70,77,56,78,79,12]),([75],[57,58,59,60,61,62,63,64,65,66,67,68,69,70,71,72,56,78,79,12]),([76],[57,58,59,60,61,62,63,64,67,68,69,70,71,72,73,78,79,12]),([77],[58,59,60,61,62,63,64,65,67,68,69,70,71,72,73,74,12]),([56],[58,59,60,61,62,63,64,65,66,67,68,69,70,71,72,73,74,75,12]),([78],[57,58,59,60,61,62,63,64,65,66,67,68,69,70,71,72,73,74,75,76,79,12]),([79],[57,58,59,60,61,62,63,64,65,66,67,68,69,70,71,72,73,74,75,76,78,12]),([12],[57,58,59,60,61,62,63,64,65,66,67,68,69,70,71,72,73,74,75,76,77,56,78,79]),([12],[79])]
@[go_sem] def Wd13:List (List Nat×List Nat):=[([80],[]),([81],[]),([82],[84,85,86,87,88,89,90,91,92]),([83],[84,85,86,87,88,89,90,91,92]),([84],[82,83,85,88,89,90,91,92]),([85],[82,83,84,88,89,90,91,92]),([86],[82,83,89,90,91,92]),([87],[82,83,89,90,91]),([88],[82,83,84,85,89,90,91]),([89],[82,83,84,85,86,87,88,90,91]),([90],[82,83,84,85,86,87,88,89]),([91],[82,83,84,85,86,87,88,89]),([92],[82,83,84,85,86])]
theorem step_other {x b:List Res} {H:List Key} {s:Step} (hx:Up (x.map keyOf)) (hb:Up (b.map keyOf)) (h:nextP x b H=some s):applyP x s≠x:=fun e=>by
 obtain ⟨q1,q2,q3,_⟩:=next_less hx hb h
 rw [e] at q1 q2
 omega
set_option maxHeartbeats 8000000 in
theorem planKeeps_c (a b:List Res) (H:List Key) (hl:Small a.length) (hs:∀ r∈a,SmRes r) (hl2:Small b.length) (hs2:∀ r∈b,SmRes r) (hH:Small H.length):CallR Tryz.prog 10 [.slice false (avs a),.slice false (avs b),.slice false (avs H)] (.val (.bool true)):=by
 have w0:=awake15_c
 have w1:=fewP_c a b H hl hs hl2 hs2
 by_cases hf:fewP a b H=true
 rotate_left
 ·have hf:fewP a b H=false:=by simpa using hf
  rw [hf] at w1
  refine CallR.go3 (T:=T) Tryz.call10 Tryz.func10 rfl Tryz.ntmps10 (congrArg Array.toList Tryz.results10) (by decide) fun ts hn h0 h1 h2=>?_
  (repeat' (first
 | (with_reducible first|refine callX.by (w0) ?_|refine callX.by (w1) ?_|refine callX.by awake15_c ?_|refine callX.by (fewP_c _ _ _ ?_ ?_ ?_ ?_) ?_|refine callX.by (tsane_c _ ?_ ?_) ?_|refine callX.by (allP_c _ _ _ ?_ ?_ ?_ ?_ ?_ ?_) ?_|refine callX.by (tget_c _ _ _ ?_) ?_|refine callX.by (tsame_c _ _ ?_ ?_) ?_|refine callX.by (applyP_c _ _ _ _ ?_ ?_ ?_ ?_) ?_|assumption|(refine Qw hK _ ?_; clear hK K)|refine Qw ‹_› _ ?_|refine Qx ‹_› ?_|refine Qi fun K hK=>?_|refine Qj T fun K hK=>?_|refine Qk (id:=12) T mixed Wd12 (by kernel_rfl) fun K hK=>?_|refine Qk (id:=13) T mixed Wd13 (by kernel_rfl) fun K hK=>?_|refine Ql fun A B hA hB=>?_|refine Qm ?_|refine Qn ?_|refine Qp ?_|refine Qr ?_)
 | ((with_reducible first|apply Qy|apply Qz|apply QA)<;>intro hb<;>try simp only [nr] at hb)
 | simp only [go_sem,↓reduceIte,reduceIte,Qa,Qh,Qb,Qc,Qd,Qe,Qf,Qg,reduceCtorEq, *,-hs,-hs2,-w0,-w1]
 | with_reducible refine fun (bn:Bool) hbn=>?_))
 rw [hf] at w1
 obtain ⟨hl8,hm8,hH8⟩:=fewP_t hf
 have w2:=tsane_c a hl hs
 by_cases ht:tsane a=0
 rotate_left
 ·refine CallR.go3 (T:=T) Tryz.call10 Tryz.func10 rfl Tryz.ntmps10 (congrArg Array.toList Tryz.results10) (by decide) fun ts hn h0 h1 h2=>?_
  (repeat' (first
 | (with_reducible first|refine callX.by (w0) ?_|refine callX.by (w1) ?_|refine callX.by (w2) ?_|refine callX.by awake15_c ?_|refine callX.by (fewP_c _ _ _ ?_ ?_ ?_ ?_) ?_|refine callX.by (tsane_c _ ?_ ?_) ?_|refine callX.by (allP_c _ _ _ ?_ ?_ ?_ ?_ ?_ ?_) ?_|refine callX.by (tget_c _ _ _ ?_) ?_|refine callX.by (tsame_c _ _ ?_ ?_) ?_|refine callX.by (applyP_c _ _ _ _ ?_ ?_ ?_ ?_) ?_|assumption|(refine Qw hK _ ?_; clear hK K)|refine Qw ‹_› _ ?_|refine Qx ‹_› ?_|refine Qi fun K hK=>?_|refine Qj T fun K hK=>?_|refine Qk (id:=12) T mixed Wd12 (by kernel_rfl) fun K hK=>?_|refine Qk (id:=13) T mixed Wd13 (by kernel_rfl) fun K hK=>?_|refine Ql fun A B hA hB=>?_|refine Qm ?_|refine Qn ?_|refine Qp ?_|refine Qr ?_)
 | ((with_reducible first|apply Qy|apply Qz|apply QA)<;>intro hb<;>try simp only [nr] at hb)
 | simp only [go_sem,↓reduceIte,reduceIte,Qa,Qh,Qb,Qc,Qd,Qe,Qf,Qg,reduceCtorEq, *,-hs,-hs2,-w0,-w1,-w2]
 | with_reducible refine fun (bn:Bool) hbn=>?_))
 have w3:=tsane_c b hl2 hs2
 by_cases ht2:tsane b=0
 rotate_left
 ·rw [ht] at w2
  refine CallR.go3 (T:=T) Tryz.call10 Tryz.func10 rfl Tryz.ntmps10 (congrArg Array.toList Tryz.results10) (by decide) fun ts hn h0 h1 h2=>?_
  (repeat' (first
 | (with_reducible first|refine callX.by (w0) ?_|refine callX.by (w1) ?_|refine callX.by (w2) ?_|refine callX.by (w3) ?_|refine callX.by awake15_c ?_|refine callX.by (fewP_c _ _ _ ?_ ?_ ?_ ?_) ?_|refine callX.by (tsane_c _ ?_ ?_) ?_|refine callX.by (allP_c _ _ _ ?_ ?_ ?_ ?_ ?_ ?_) ?_|refine callX.by (tget_c _ _ _ ?_) ?_|refine callX.by (tsame_c _ _ ?_ ?_) ?_|refine callX.by (applyP_c _ _ _ _ ?_ ?_ ?_ ?_) ?_|assumption|(refine Qw hK _ ?_; clear hK K)|refine Qw ‹_› _ ?_|refine Qx ‹_› ?_|refine Qi fun K hK=>?_|refine Qj T fun K hK=>?_|refine Qk (id:=12) T mixed Wd12 (by kernel_rfl) fun K hK=>?_|refine Qk (id:=13) T mixed Wd13 (by kernel_rfl) fun K hK=>?_|refine Ql fun A B hA hB=>?_|refine Qm ?_|refine Qn ?_|refine Qp ?_|refine Qr ?_)
 | ((with_reducible first|apply Qy|apply Qz|apply QA)<;>intro hb<;>try simp only [nr] at hb)
 | simp only [go_sem,↓reduceIte,reduceIte,Qa,Qh,Qb,Qc,Qd,Qe,Qf,Qg,reduceCtorEq, *,-hs,-hs2,-w0,-w1,-w2,-w3]
 | with_reducible refine fun (bn:Bool) hbn=>?_))
 rw [ht] at w2
 rw [ht2] at w3
 have hca:=conf_of ht
 have hcb:=conf_of ht2
 have hla:=hca.len
 have hlb:=hcb.len
 have hre:=reachOk_of (l:=b) (by omega) hs2 hcb.up
 have w4:=(allP_c a b H hl8 hm8 hs hs2 hH hre).frz
 obtain ⟨e,hat,hXl⟩:=At.start (H:=H) hca.up hcb.up (show a.length+b.length < 400 by omega)
 generalize runP b H 400 a=X at *
 have hXs:Small X.length:=by unfold Small; omega
 have hupb:=hcb.up
 clear hca hcb hf ht ht2 hre
 refine CallR.go3 (T:=T) Tryz.call10 Tryz.func10 rfl Tryz.ntmps10 (congrArg Array.toList Tryz.results10) (by decide) fun ts hn h0 h1 h2=>?_
 (repeat' (first
 | (with_reducible first|refine callX.by (w0) ?_|refine callX.by (w1) ?_|refine callX.by (w2) ?_|refine callX.by (w3) ?_|refine callX.by (w4) ?_|refine callX.by awake15_c ?_|refine callX.by (fewP_c _ _ _ ?_ ?_ ?_ ?_) ?_|refine callX.by (tsane_c _ ?_ ?_) ?_|refine callX.by (allP_c _ _ _ ?_ ?_ ?_ ?_ ?_ ?_) ?_|refine callX.by (tget_c _ _ _ ?_) ?_|refine callX.by (tsame_c _ _ ?_ ?_) ?_|refine callX.by (applyP_c _ _ _ _ ?_ ?_ ?_ ?_) ?_|assumption|(refine Qw hK _ ?_; clear hK K)|refine Qw ‹_› _ ?_|refine Qx ‹_› ?_|refine Qi fun K hK=>?_|refine Qj T fun K hK=>?_|refine Qk (id:=12) T mixed Wd12 (by kernel_rfl) fun K hK=>?_|refine Qk (id:=13) T mixed Wd13 (by kernel_rfl) fun K hK=>?_|refine Ql fun A B hA hB=>?_|refine Qm ?_|refine Qn ?_|refine Qp ?_|refine Qr ?_)
 | ((with_reducible first|apply Qy|apply Qz|apply QA)<;>intro hb<;>try simp only [nr] at hb)
 | simp only [go_sem,↓reduceIte,reduceIte,Qa,Qh,Qb,Qc,Qd,Qe,Qf,Qg,reduceCtorEq, *,-hs,-hs2,-w0,-w1,-w2,-w3,-w4]
 | with_reducible refine fun (bn:Bool) hbn=>?_))
 refine Qs [1,7,8] (fun m ts'=>∃ (i:Nat),∃ (x:List Res),m=X.length - i∧i≤X.length∧At a b H e x (X.drop i)∧ts'.tmp 9=.slice false (avs x)∧ts'.tmp 10=.int .i64 i) X.length ?_ ?_
 ·refine ⟨0,a,rfl,Nat.zero_le _,hat,?_⟩
  simp only [go_sem,↓reduceIte,reduceIte,Qa,Qh,Qb,Qc,Qd,Qe,Qf,Qg,reduceCtorEq, *,-hs,-hs2,-w0,-w1,-w2,-w3,-w4]
 ·rintro m A hM ts' hk ⟨i,x,hm,f1,f2,s1,s2⟩
  simp only [go_sem,↓reduceIte,reduceIte,Qa,Qh,Qb,Qc,Qd,Qe,Qf,Qg,reduceCtorEq, *] at hk
  by_cases hlt:i < X.length
  ·rw [List.drop_eq_getElem_cons hlt] at f2
   have hxl:x.length≤128:=by have:=f2.len; omega
   have hxs:=f2.sm hs hs2
   obtain ⟨q1,q2⟩:=f2.step hupb
   obtain ⟨_,q3,q4⟩:=next_sub q1
   have hp:=next_part f2.up hupb q1
   have w5:=applyP_c x X[i].kind X[i].adds X[i].gone (by unfold Small; omega) (by unfold Small; omega) (by unfold Small; omega) (by unfold Small; omega)
   rw [show (⟨X[i].kind,X[i].adds,X[i].gone⟩:Step)=X[i] from rfl] at w5
   have hx2:(applyP x X[i]).length≤128:=by have:=q2.len; omega
   have w6:=tsame_c (applyP x X[i]) x (by unfold Small; omega) (q2.sm hs hs2)
   rw [decide_eq_false (step_other f2.up hupb q1)] at w6
   have F1:∀ r∈X[i].adds,∀ z,tget x ⟨r.kind,r.name⟩=some z→[z]≠[r]:=fun r hr z hz e=>by
    obtain ⟨z1,_⟩:=tget_in hz
    have e:z=r:=by simpa using e
    subst e
    exact (hp.memA hr).2 z1
   have F2:∀ k∈X[i].gone,(tget b ⟨k.kind,k.name⟩).isSome=false:=fun k hk=>by
    rw [tget_is]; exact decide_eq_false (hp.memG hk).2
   have hxsm:Small x.length:=by unfold Small; omega
   have hAs:Small X[i].adds.length:=by unfold Small; omega
   have hGs:Small X[i].gone.length:=by unfold Small; omega
   clear f2 hp q1
   generalize applyP x X[i]=Z at *
   (repeat' (first
 | (with_reducible first|refine callX.by awake15_c ?_|refine callX.by (fewP_c _ _ _ ?_ ?_ ?_ ?_) ?_|refine callX.by (tsane_c _ ?_ ?_) ?_|refine callX.by (allP_c _ _ _ ?_ ?_ ?_ ?_ ?_ ?_) ?_|refine callX.by (tget_c _ _ _ ?_) ?_|refine callX.by (tsame_c _ _ ?_ ?_) ?_|refine callX.by (applyP_c _ _ _ _ ?_ ?_ ?_ ?_) ?_|assumption|(refine Qw hK _ ?_; clear hK K)|refine Qw ‹_› _ ?_|refine Qx ‹_› ?_|refine Qi fun K hK=>?_|refine Qj T fun K hK=>?_|refine Qk (id:=12) T mixed Wd12 (by kernel_rfl) fun K hK=>?_|refine Qk (id:=13) T mixed Wd13 (by kernel_rfl) fun K hK=>?_|refine Ql fun A B hA hB=>?_|refine Qm ?_|refine Qn ?_|refine Qp ?_|refine Qr ?_)
 | ((with_reducible first|apply Qy|apply Qz|apply QA)<;>intro hb<;>try simp only [nr] at hb)
 | simp only [go_sem,↓reduceIte,reduceIte,Qa,Qh,Qb,Qc,Qd,Qe,Qf,Qg,reduceCtorEq, *,-hs,-hs2,-w0,-w1,-w2,-w3,-w4,-w5,-w6,-F1,-F2,-q2,-hxs]
 | with_reducible refine fun (bn:Bool) hbn=>?_))
   have hMo:=hM
   have hmo:=hm
   clear hM hm
   refine Qs [1,7,8,9,10] (fun m ts'=>∃ (k:Nat),m=X[i].adds.length - k∧k≤X[i].adds.length∧ts'.tmp 11=.int .i64 k) X[i].adds.length ?_ ?_
   ·refine ⟨0,rfl,Nat.zero_le _,?_⟩
    simp only [go_sem,↓reduceIte,reduceIte,Qa,Qh,Qb,Qc,Qd,Qe,Qf,Qg,reduceCtorEq, *,-hs,-hs2,-w0,-w1,-w2,-w3,-w4,-w5,-w6,-F1,-F2,-q2,-hxs]
   ·rintro m A hM ts' hk ⟨k,hm,f1,s1⟩
    simp only [go_sem,↓reduceIte,reduceIte,Qa,Qh,Qb,Qc,Qd,Qe,Qf,Qg,reduceCtorEq, *] at hk
    by_cases hkt:k < X[i].adds.length
    ·have v1:=F1 _ (QC hkt)
     have w7:=tget_c x X[i].adds[k].kind X[i].adds[k].name hxsm
     have k1:(k:Int)≤((k+1:Nat):Int):=by omega
     have k2:((k+1:Nat):Int)≤(X[i].adds.length:Int):=by omega
     cases ho:tget x ⟨X[i].adds[k].kind,X[i].adds[k].name⟩ with
     | none =>
      rw [ho] at w7
      rw [Option.getD_none,Option.isSome_none,av_Res] at w7
      generalize zRes=z at *
      (repeat' (first
 | (with_reducible first|refine callX.by (w7) ?_|refine callX.by awake15_c ?_|refine callX.by (fewP_c _ _ _ ?_ ?_ ?_ ?_) ?_|refine callX.by (tsane_c _ ?_ ?_) ?_|refine callX.by (allP_c _ _ _ ?_ ?_ ?_ ?_ ?_ ?_) ?_|refine callX.by (tget_c _ _ _ ?_) ?_|refine callX.by (tsame_c _ _ ?_ ?_) ?_|refine callX.by (applyP_c _ _ _ _ ?_ ?_ ?_ ?_) ?_|assumption|(refine Qw hK _ ?_; clear hK K)|refine Qw ‹_› _ ?_|refine Qx ‹_› ?_|refine Qi fun K hK=>?_|refine Qj T fun K hK=>?_|refine Qk (id:=12) T mixed Wd12 (by kernel_rfl) fun K hK=>?_|refine Qk (id:=13) T mixed Wd13 (by kernel_rfl) fun K hK=>?_|refine Ql fun A B hA hB=>?_|refine Qm ?_|refine Qn ?_|refine Qp ?_|refine Qr ?_)
 | ((with_reducible first|apply Qy|apply Qz|apply QA)<;>intro hb<;>try simp only [nr] at hb)
 | simp only [go_sem,↓reduceIte,reduceIte,Qa,Qh,Qb,Qc,Qd,Qe,Qf,Qg,reduceCtorEq, *,-hs,-hs2,-w0,-w1,-w2,-w3,-w4,-w5,-w6,-F1,-F2,-q2,-hxs,-w7,-v1,-ho]
 | with_reducible refine fun (bn:Bool) hbn=>?_))
      all_goals ((repeat clear hK); (repeat clear hA); (repeat clear hB))
      all_goals (refine hM.on (X[i].adds.length - (k+1)) (by omega) (by simp only [go_sem,↓reduceIte,reduceIte,Qa,Qh,Qb,Qc,Qd,Qe,Qf,Qg,reduceCtorEq, *,w64_nat hkt hAs,-hs,-hs2,-w0,-w1,-w2,-w3,-w4,-w5,-w6,-F1,-F2,-q2,-hxs,-w7,-v1,-ho]) ⟨k+1,rfl,by omega,?_⟩; simp only [go_sem,↓reduceIte,reduceIte,Qa,Qh,Qb,Qc,Qd,Qe,Qf,Qg,reduceCtorEq, *,w64_nat hkt hAs,-hs,-hs2,-w0,-w1,-w2,-w3,-w4,-w5,-w6,-F1,-F2,-q2,-hxs,-w7,-v1,-ho]; done)
     | some z =>
      rw [ho] at w7
      rw [Option.getD_some,Option.isSome_some,av_Res] at w7
      have v2:=v1 z ho
      have hz:SmRes z:=hxs z (tget_in ho).1
      have e8:(X[i].adds.take (k+1)).drop k=[X[i].adds[k]]:=by
       rw [List.take_succ_eq_append_getElem hkt,List.drop_append_of_le_length (by simp; omega),List.drop_of_length_le (by rw [List.length_take]; omega)]; rfl
      have w8:=tsame_c [z] [X[i].adds[k]] (by simp [Small]) (fun r hr=>by rw [List.mem_singleton] at hr; rw [hr]; exact hz)
      rw [decide_eq_false v2,show avs [z]=[.agg [.int .i64 z.kind,.str z.name,.int .i64 z.ver,.int .i64 z.port,.str z.to',.slice false (avs z.rules'),.slice false (avs z.hosts)]] from rfl,← e8] at w8
      (repeat' (first
 | (with_reducible first|refine callX.by (w7) ?_|refine callX.by (w8) ?_|refine callX.by awake15_c ?_|refine callX.by (fewP_c _ _ _ ?_ ?_ ?_ ?_) ?_|refine callX.by (tsane_c _ ?_ ?_) ?_|refine callX.by (allP_c _ _ _ ?_ ?_ ?_ ?_ ?_ ?_) ?_|refine callX.by (tget_c _ _ _ ?_) ?_|refine callX.by (tsame_c _ _ ?_ ?_) ?_|refine callX.by (applyP_c _ _ _ _ ?_ ?_ ?_ ?_) ?_|assumption|(refine Qw hK _ ?_; clear hK K)|refine Qw ‹_› _ ?_|refine Qx ‹_› ?_|refine Qi fun K hK=>?_|refine Qj T fun K hK=>?_|refine Qk (id:=12) T mixed Wd12 (by kernel_rfl) fun K hK=>?_|refine Qk (id:=13) T mixed Wd13 (by kernel_rfl) fun K hK=>?_|refine Ql fun A B hA hB=>?_|refine Qm ?_|refine Qn ?_|refine Qp ?_|refine Qr ?_)
 | ((with_reducible first|apply Qy|apply Qz|apply QA)<;>intro hb<;>try simp only [nr] at hb)
 | simp only [go_sem,↓reduceIte,reduceIte,Qa,Qh,Qb,Qc,Qd,Qe,Qf,Qg,reduceCtorEq, *,-hs,-hs2,-w0,-w1,-w2,-w3,-w4,-w5,-w6,-F1,-F2,-q2,-hxs,-w7,-w8,-v1,-v2,-hz,-ho,-e8,w64_nat hkt hAs,Int.toNat_natCast]
 | with_reducible refine fun (bn:Bool) hbn=>?_))
      all_goals ((repeat clear hK); (repeat clear hA); (repeat clear hB))
      all_goals (refine hM.on (X[i].adds.length - (k+1)) (by omega) (by simp only [go_sem,↓reduceIte,reduceIte,Qa,Qh,Qb,Qc,Qd,Qe,Qf,Qg,reduceCtorEq, *,w64_nat hkt hAs,-hs,-hs2,-w0,-w1,-w2,-w3,-w4,-w5,-w6,-F1,-F2,-q2,-hxs,-w7,-w8,-v1,-v2,-hz,-ho,-e8]) ⟨k+1,rfl,by omega,?_⟩; simp only [go_sem,↓reduceIte,reduceIte,Qa,Qh,Qb,Qc,Qd,Qe,Qf,Qg,reduceCtorEq, *,w64_nat hkt hAs,-hs,-hs2,-w0,-w1,-w2,-w3,-w4,-w5,-w6,-F1,-F2,-q2,-hxs,-w7,-w8,-v1,-v2,-hz,-ho,-e8]; done)
    ·(repeat' (first
 | (with_reducible first|refine callX.by awake15_c ?_|refine callX.by (fewP_c _ _ _ ?_ ?_ ?_ ?_) ?_|refine callX.by (tsane_c _ ?_ ?_) ?_|refine callX.by (allP_c _ _ _ ?_ ?_ ?_ ?_ ?_ ?_) ?_|refine callX.by (tget_c _ _ _ ?_) ?_|refine callX.by (tsame_c _ _ ?_ ?_) ?_|refine callX.by (applyP_c _ _ _ _ ?_ ?_ ?_ ?_) ?_|assumption|(refine Qw hK _ ?_; clear hK K)|refine Qw ‹_› _ ?_|refine Qx ‹_› ?_|refine Qi fun K hK=>?_|refine Qj T fun K hK=>?_|refine Qk (id:=12) T mixed Wd12 (by kernel_rfl) fun K hK=>?_|refine Qk (id:=13) T mixed Wd13 (by kernel_rfl) fun K hK=>?_|refine Ql fun A B hA hB=>?_|refine Qm ?_|refine Qn ?_|refine Qp ?_|refine Qr ?_)
 | ((with_reducible first|apply Qy|apply Qz|apply QA)<;>intro hb<;>try simp only [nr] at hb)
 | simp only [go_sem,↓reduceIte,reduceIte,Qa,Qh,Qb,Qc,Qd,Qe,Qf,Qg,reduceCtorEq, *,-hs,-hs2,-w0,-w1,-w2,-w3,-w4,-w5,-w6,-F1,-F2,-q2,-hxs]
 | with_reducible refine fun (bn:Bool) hbn=>?_))
     clear hM hm
     refine Qs [1,7,8,9,10] (fun m ts'=>∃ (j:Nat),m=X[i].gone.length - j∧j≤X[i].gone.length∧ts'.tmp 14=.int .i64 j) X[i].gone.length ?_ ?_
     ·refine ⟨0,rfl,Nat.zero_le _,?_⟩
      simp only [go_sem,↓reduceIte,reduceIte,Qa,Qh,Qb,Qc,Qd,Qe,Qf,Qg,reduceCtorEq, *,-hs,-hs2,-w0,-w1,-w2,-w3,-w4,-w5,-w6,-F1,-F2,-q2,-hxs]
     ·rintro m A hM ts' hk ⟨j,hm,f1,s1⟩
      simp only [go_sem,↓reduceIte,reduceIte,Qa,Qh,Qb,Qc,Qd,Qe,Qf,Qg,reduceCtorEq, *] at hk
      by_cases hjt:j < X[i].gone.length
      ·have v1:=F2 _ (QC hjt)
       have w7:=tget_c b X[i].gone[j].kind X[i].gone[j].name hl2
       rw [v1,av_Res] at w7
       generalize (tget b ⟨X[i].gone[j].kind,X[i].gone[j].name⟩).getD zRes=z at *
       (repeat' (first
 | (with_reducible first|refine callX.by (w7) ?_|refine callX.by awake15_c ?_|refine callX.by (fewP_c _ _ _ ?_ ?_ ?_ ?_) ?_|refine callX.by (tsane_c _ ?_ ?_) ?_|refine callX.by (allP_c _ _ _ ?_ ?_ ?_ ?_ ?_ ?_) ?_|refine callX.by (tget_c _ _ _ ?_) ?_|refine callX.by (tsame_c _ _ ?_ ?_) ?_|refine callX.by (applyP_c _ _ _ _ ?_ ?_ ?_ ?_) ?_|assumption|(refine Qw hK _ ?_; clear hK K)|refine Qw ‹_› _ ?_|refine Qx ‹_› ?_|refine Qi fun K hK=>?_|refine Qj T fun K hK=>?_|refine Qk (id:=12) T mixed Wd12 (by kernel_rfl) fun K hK=>?_|refine Qk (id:=13) T mixed Wd13 (by kernel_rfl) fun K hK=>?_|refine Ql fun A B hA hB=>?_|refine Qm ?_|refine Qn ?_|refine Qp ?_|refine Qr ?_)
 | ((with_reducible first|apply Qy|apply Qz|apply QA)<;>intro hb<;>try simp only [nr] at hb)
 | simp only [go_sem,↓reduceIte,reduceIte,Qa,Qh,Qb,Qc,Qd,Qe,Qf,Qg,reduceCtorEq, *,-hs,-hs2,-w0,-w1,-w2,-w3,-w4,-w5,-w6,-F1,-F2,-q2,-hxs,-w7,-v1]
 | with_reducible refine fun (bn:Bool) hbn=>?_))
       all_goals ((repeat clear hK); (repeat clear hA); (repeat clear hB))
       all_goals (refine hM.on (X[i].gone.length - (j+1)) (by omega) (by simp only [go_sem,↓reduceIte,reduceIte,Qa,Qh,Qb,Qc,Qd,Qe,Qf,Qg,reduceCtorEq, *,w64_nat hjt hGs,-hs,-hs2,-w0,-w1,-w2,-w3,-w4,-w5,-w6,-F1,-F2,-q2,-hxs,-w7,-v1]) ⟨j+1,rfl,by omega,?_⟩; simp only [go_sem,↓reduceIte,reduceIte,Qa,Qh,Qb,Qc,Qd,Qe,Qf,Qg,reduceCtorEq, *,w64_nat hjt hGs,-hs,-hs2,-w0,-w1,-w2,-w3,-w4,-w5,-w6,-F1,-F2,-q2,-hxs,-w7,-v1]; done)
      ·clear hM hm
       have hM:=hMo
       have hm:=hmo
       (repeat' (first
 | (with_reducible first|refine callX.by (w5) ?_|refine callX.by (w6) ?_|refine callX.by awake15_c ?_|refine callX.by (fewP_c _ _ _ ?_ ?_ ?_ ?_) ?_|refine callX.by (tsane_c _ ?_ ?_) ?_|refine callX.by (allP_c _ _ _ ?_ ?_ ?_ ?_ ?_ ?_) ?_|refine callX.by (tget_c _ _ _ ?_) ?_|refine callX.by (tsame_c _ _ ?_ ?_) ?_|refine callX.by (applyP_c _ _ _ _ ?_ ?_ ?_ ?_) ?_|assumption|(refine Qw hK _ ?_; clear hK K)|refine Qw ‹_› _ ?_|refine Qx ‹_› ?_|refine Qi fun K hK=>?_|refine Qj T fun K hK=>?_|refine Qk (id:=12) T mixed Wd12 (by kernel_rfl) fun K hK=>?_|refine Qk (id:=13) T mixed Wd13 (by kernel_rfl) fun K hK=>?_|refine Ql fun A B hA hB=>?_|refine Qm ?_|refine Qn ?_|refine Qp ?_|refine Qr ?_)
 | ((with_reducible first|apply Qy|apply Qz|apply QA)<;>intro hb<;>try simp only [nr] at hb)
 | simp only [go_sem,↓reduceIte,reduceIte,Qa,Qh,Qb,Qc,Qd,Qe,Qf,Qg,reduceCtorEq, *,-hs,-hs2,-w0,-w1,-w2,-w3,-w4,-w5,-w6,-F1,-F2,-q2,-hxs]
 | with_reducible refine fun (bn:Bool) hbn=>?_))
       all_goals ((repeat clear hK); (repeat clear hA); (repeat clear hB))
       all_goals (refine hM.on (X.length - (i+1)) (by omega) (by simp only [go_sem,↓reduceIte,reduceIte,Qa,Qh,Qb,Qc,Qd,Qe,Qf,Qg,reduceCtorEq, *,w64_nat hlt hXs,-hs,-hs2,-w0,-w1,-w2,-w3,-w4,-w5,-w6,-F1,-F2,-q2,-hxs]) ⟨i+1,Z,rfl,by omega,q2,?_⟩; simp only [go_sem,↓reduceIte,reduceIte,Qa,Qh,Qb,Qc,Qd,Qe,Qf,Qg,reduceCtorEq, *,w64_nat hlt hXs,-hs,-hs2,-w0,-w1,-w2,-w3,-w4,-w5,-w6,-F1,-F2,-q2,-hxs]; done)
  ·clear f2
   (repeat' (first
 | (with_reducible first|refine callX.by awake15_c ?_|refine callX.by (fewP_c _ _ _ ?_ ?_ ?_ ?_) ?_|refine callX.by (tsane_c _ ?_ ?_) ?_|refine callX.by (allP_c _ _ _ ?_ ?_ ?_ ?_ ?_ ?_) ?_|refine callX.by (tget_c _ _ _ ?_) ?_|refine callX.by (tsame_c _ _ ?_ ?_) ?_|refine callX.by (applyP_c _ _ _ _ ?_ ?_ ?_ ?_) ?_|assumption|(refine Qw hK _ ?_; clear hK K)|refine Qw ‹_› _ ?_|refine Qx ‹_› ?_|refine Qi fun K hK=>?_|refine Qj T fun K hK=>?_|refine Qk (id:=12) T mixed Wd12 (by kernel_rfl) fun K hK=>?_|refine Qk (id:=13) T mixed Wd13 (by kernel_rfl) fun K hK=>?_|refine Ql fun A B hA hB=>?_|refine Qm ?_|refine Qn ?_|refine Qp ?_|refine Qr ?_)
 | ((with_reducible first|apply Qy|apply Qz|apply QA)<;>intro hb<;>try simp only [nr] at hb)
 | simp only [go_sem,↓reduceIte,reduceIte,Qa,Qh,Qb,Qc,Qd,Qe,Qf,Qg,reduceCtorEq, *,-hs,-hs2,-w0,-w1,-w2,-w3,-w4]
 | with_reducible refine fun (bn:Bool) hbn=>?_))
   all_goals ((repeat clear hK); (repeat clear hA); (repeat clear hB))
   all_goals trace_state
end Go.Proofs.YtmjkjmoeicnbnaaGreatDoor.Lg
