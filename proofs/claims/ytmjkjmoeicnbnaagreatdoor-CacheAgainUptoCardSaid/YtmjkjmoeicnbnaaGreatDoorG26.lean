/- Parts of the proof, one behind the other. -/
import Derived.Test.YtmjkjmoeicnbnaaGreatDoorG25
namespace Go.Proofs.YtmjkjmoeicnbnaaGreatDoor.Lg
set_option maxRecDepth 100000
set_option linter.unusedVariables false
set_option linter.unusedSimpArgs false
open Go
open Nat renaming reduceEqDiff → Qa, reduceLT → Qb, reduceLeDiff → Qc, reduceAdd → Qd, reduceMul → Qe, reduceSub → Qf, reduceBEq → Qg
open String renaming reduceEq → Qh
open SpecC renaming seqW → Qi, regW → Qj, drawW → Qk, condW → Ql, block → Qm, skip → Qn, exit → Qp, ret → Qr, loopF → Qs
open NxK renaming out → Qw
open Nx renaming out → Qx
open condK renaming split → Qy
open gK renaming split_t → Qz, split_f → QA
@[go_sem] def Wd19:List (List Nat×List Nat):=[([75],[76,77,78,79,80,81,82,83,84,85,87,88,11]),([76],[75,77,80,81,82,83,84,85,86,74,87,88,11]),([77],[75,76,80,81,82,83,84,85,86,74,87,88,11]),([78],[75,81,82,83,84,85,86,74,87,88,11]),([79],[75,81,82,83,84,85,74,87,88,11]),([80],[75,76,77,81,82,83,84,85,87,88,11]),([81],[75,76,77,78,79,80,82,85,86,74,87,88,11]),([82],[75,76,77,78,79,80,81,85,86,74,87,88,11]),([83],[75,76,77,78,79,80,86,74,87,88,11]),([84],[75,76,77,78,79,80,74,87,88,11]),([85],[75,76,77,78,79,80,81,82,87,88,11]),([86],[76,77,78,81,82,83,11]),([74],[76,77,78,79,81,82,83,84,11]),([87],[75,76,77,78,79,80,81,82,83,84,85,88,11]),([88],[75,76,77,78,79,80,81,82,83,84,85,87,11]),([11],[75,76,77,78,79,80,81,82,83,84,85,86,74,87,88]),([11],[88])]
@[go_sem] def Wd20:List (List Nat×List Nat):=[([103],[104,105,106,107,108,109,110,111,112,113,115,116,15]),([104],[103,105,108,109,110,111,112,113,114,102,115,116,15]),([105],[103,104,108,109,110,111,112,113,114,102,115,116,15]),([106],[103,109,110,111,112,113,114,102,115,116,15]),([107],[103,109,110,111,112,113,102,115,116,15]),([108],[103,104,105,109,110,111,112,113,115,116,15]),([109],[103,104,105,106,107,108,110,113,114,102,115,116,15]),([110],[103,104,105,106,107,108,109,113,114,102,115,116,15]),([111],[103,104,105,106,107,108,114,102,115,116,15]),([112],[103,104,105,106,107,108,102,115,116,15]),([113],[103,104,105,106,107,108,109,110,115,116,15]),([114],[104,105,106,109,110,111,15]),([102],[104,105,106,107,109,110,111,112,15]),([115],[103,104,105,106,107,108,109,110,111,112,113,116,15]),([116],[103,104,105,106,107,108,109,110,111,112,113,115,15]),([15],[103,104,105,106,107,108,109,110,111,112,113,114,102,115,116]),([15],[116])]
theorem zero_tkind {a b:List Res} (ha:Up (a.map keyOf)) (hb:Up (b.map keyOf)) (h:∀ x:Res,x.kind=0→(x∈a↔x∈b)):tkind a 0=tkind b 0 :=
 res_ext (up_sub ha List.filter_sublist) (up_sub hb List.filter_sublist) fun x=>by
  rw [mem_tkind,mem_tkind]
  exact ⟨fun ⟨h1,h2⟩=>⟨(h x h2).1 h1,h2⟩,fun ⟨h1,h2⟩=>⟨(h x h2).2 h1,h2⟩⟩
theorem inv_tsane {h b x:List Res} (hh:tsane h=0) (hb:tsane b=0) (i:InvA h b x∨InvB b x) (hl:x.length≤64) (hm:∀ r∈x,r∈h∨r∈b):tsane x=0:=by
 have ch:=conf_of hh
 have cb:=conf_of hb
 refine tsane_of hl (fun r hr=>(hm r hr).elim (ch.sane r) (cb.sane r)) (inv_up i) ?_
 rcases i with i|i
 ·rw [zero_tkind i.up ch.up i.zero]; exact tsane_parts hh
 ·rw [zero_tkind i.up cb.up i.zero]; exact tsane_parts hb
theorem goodE_sane {l:List Res} (h:goodE l=true):tsane l=0:=by
 unfold goodE at h
 simp only [Bool.and_eq_true,decide_eq_true_eq] at h
 exact h.1
structure AtC (a b:List Res) (H:List Key) (e x:List Res) (l:List Step):Prop where
 at':At a b H e x l
 inv:InvA a b x∨InvB b x
theorem AtC.ok {a b:List Res} {H:List Key} {e x:List Res} {l:List Step} (fa:Fit a) (fb:Fit b) (ha:tsane a=0) (hb:tsane b=0) (hl:a.length+b.length≤64) (h:AtC a b H e x l):mustE 64 x=0:=by
 have h1:=h.at'.len
 exact mustE_iff.2 ⟨inv_tsane ha hb h.inv (by omega) h.at'.mem,by omega,inv_served fa fb h.inv⟩
theorem AtC.step {a b:List Res} {H:List Key} {e x:List Res} {s:Step} {l:List Step} (fb:Fit b) (h:AtC a b H e x (s :: l)):nextP x b H=some s∧AtC a b H e (applyP x s) l:=by
 obtain ⟨q1,q2⟩:=h.at'.step fb.up
 exact ⟨q1,q2,inv_step fb h.inv q1⟩
theorem bnd64:bnd 64=64:=by decide
theorem AtC.apply {a b:List Res} {H:List Key} {e x:List Res} {s:Step} {l:List Step} (fa:Fit a) (fb:Fit b) (ha:tsane a=0) (hb:tsane b=0) (hl:a.length+b.length≤64) (h:AtC a b H e x (s :: l)):applyC ⟨64,x⟩ s.adds s.gone=(⟨64,applyP x s⟩,0):=by
 have h1:=h.ok fa fb ha hb hl
 have h2:=(h.step fb).2.ok fa fb ha hb hl
 have hs:saneC ⟨64,x⟩=true:=saneC_iff.2 ⟨bnd64.symm,mustE_iff.1 h1⟩
 rw [applyC_sane hs]
 exact if_pos h2
theorem AtC.start {a b:List Res} {H:List Key} (fa:Fit a) (fb:Fit b) (hl:a.length+b.length≤64):∃ e,AtC a b H e a (runP b H 400 a)∧(runP b H 400 a).length≤128:=by
 obtain ⟨e,h1,h2⟩:=At.start (H:=H) fa.up fb.up (show a.length+b.length < 400 by omega)
 exact ⟨e,⟨h1,.inl (invA_refl fa.up)⟩,by omega⟩
theorem AtC.on {a b:List Res} {H:List Key} {e x:List Res} {l:List Step} (hl:a.length+b.length≤64) (fb:Fit b) (h:AtC a b H e x l):∃ e2,AtC a b [] e2 x (runP b [] 400 x)∧(runP b [] 400 x).length≤128:=by
 have h0:=h.at'.len
 have h1:=(diffA_sub x b).length_le
 have h2:=(diffG_sub x b).length_le
 rw [List.length_map] at h2
 obtain ⟨e2,he⟩:=run_chain (held:=[]) fb.up 400 x h.at'.up (by omega)
 have:=chain_size fb.up he h.at'.up
 exact ⟨e2,⟨⟨he,h.at'.up,h.at'.len,h.at'.mem⟩,h.inv⟩,by omega⟩
set_option maxHeartbeats 8000000 in
theorem cachePlans_c (a b:List Res) (H:List Key) (hl:Small a.length) (hs:∀ r∈a,SmRes r) (hl2:Small b.length) (hs2:∀ r∈b,SmRes r) (hH:Small H.length):CallR Tryz.prog 12 [.slice false (avs a),.slice false (avs b),.slice false (avs H)] (.val (.bool true)):=by
 have v1:=few4_c a hl hs
 have v2:=few4_c b hl2 hs2
 by_cases hf1:fewAll a=true
 rotate_left
 ·have hf1:fewAll a=false:=by simpa using hf1
  rw [hf1] at v1
  refine CallR.go3 (T:=T) Tryz.call12 Tryz.func12 rfl Tryz.ntmps12 (congrArg Array.toList Tryz.results12) (by decide) fun ts hn h0 h1 h2=>?_
  (repeat' (first
 | (with_reducible first|refine callX.by (v1) ?_|refine callX.by awake16_c ?_|refine callX.by (few4_c _ ?_ ?_) ?_|refine callX.by (goodN_c _ ?_ ?_ ?_) ?_|refine callX.by (goodS_c _ ?_ ?_ ?_ ?_) ?_|refine callX.by (goodE_c _ ?_ ?_ ?_) ?_|refine callX.by sm8gc ?_|refine callX.by (missing_c _ ?_ ?_) ?_|refine callX.by a6mc ?_|refine callX.by (allP_c _ _ _ ?_ ?_ ?_ ?_ ?_ ?_) ?_|refine callX.by (all4_c _ _ ?_ ?_) ?_|assumption|(refine Qw hK _ ?_; clear hK K)|refine Qw ‹_› _ ?_|refine Qx ‹_› ?_|refine Qi fun K hK=>?_|refine Qj T fun K hK=>?_|refine Qk (id:=9) T mixed Wd19 (by kernel_rfl) fun K hK=>?_|refine Qk (id:=17) T mixed Wd20 (by kernel_rfl) fun K hK=>?_|refine Ql fun A B hA hB=>?_|refine Qm ?_|refine Qn ?_|refine Qp ?_|refine Qr ?_)
 | ((with_reducible first|apply Qy|apply Qz|apply QA)<;>intro hb<;>try simp only [nr] at hb)
 | simp only [go_sem,↓reduceIte,reduceIte,Qa,Qh,Qb,Qc,Qd,Qe,Qf,Qg,reduceCtorEq, *,-hs,-hs2,-v1,-v2]
 | with_reducible refine fun (bn:Bool) hbn=>?_))
 have hl80:=few_len16 hf1
 rw [hf1] at v1
 by_cases hf2:fewAll b=true
 rotate_left
 ·have hf2:fewAll b=false:=by simpa using hf2
  rw [hf2] at v2
  refine CallR.go3 (T:=T) Tryz.call12 Tryz.func12 rfl Tryz.ntmps12 (congrArg Array.toList Tryz.results12) (by decide) fun ts hn h0 h1 h2=>?_
  (repeat' (first
 | (with_reducible first|refine callX.by (v1) ?_|refine callX.by (v2) ?_|refine callX.by awake16_c ?_|refine callX.by (few4_c _ ?_ ?_) ?_|refine callX.by (goodN_c _ ?_ ?_ ?_) ?_|refine callX.by (goodS_c _ ?_ ?_ ?_ ?_) ?_|refine callX.by (goodE_c _ ?_ ?_ ?_) ?_|refine callX.by sm8gc ?_|refine callX.by (missing_c _ ?_ ?_) ?_|refine callX.by a6mc ?_|refine callX.by (allP_c _ _ _ ?_ ?_ ?_ ?_ ?_ ?_) ?_|refine callX.by (all4_c _ _ ?_ ?_) ?_|assumption|(refine Qw hK _ ?_; clear hK K)|refine Qw ‹_› _ ?_|refine Qx ‹_› ?_|refine Qi fun K hK=>?_|refine Qj T fun K hK=>?_|refine Qk (id:=9) T mixed Wd19 (by kernel_rfl) fun K hK=>?_|refine Qk (id:=17) T mixed Wd20 (by kernel_rfl) fun K hK=>?_|refine Ql fun A B hA hB=>?_|refine Qm ?_|refine Qn ?_|refine Qp ?_|refine Qr ?_)
 | ((with_reducible first|apply Qy|apply Qz|apply QA)<;>intro hb<;>try simp only [nr] at hb)
 | simp only [go_sem,↓reduceIte,reduceIte,Qa,Qh,Qb,Qc,Qd,Qe,Qf,Qg,reduceCtorEq, *,-hs,-hs2,-v1,-v2]
 | with_reducible refine fun (bn:Bool) hbn=>?_))
 have ha80:=few_len16 hf2
 rw [hf2] at v2
 by_cases hg:60 < H.length
 ·have hg':(60:Int) < (H.length:Int):=by omega
  refine CallR.go3 (T:=T) Tryz.call12 Tryz.func12 rfl Tryz.ntmps12 (congrArg Array.toList Tryz.results12) (by decide) fun ts hn h0 h1 h2=>?_
  (repeat' (first
 | (with_reducible first|refine callX.by (v1) ?_|refine callX.by (v2) ?_|refine callX.by awake16_c ?_|refine callX.by (few4_c _ ?_ ?_) ?_|refine callX.by (goodN_c _ ?_ ?_ ?_) ?_|refine callX.by (goodS_c _ ?_ ?_ ?_ ?_) ?_|refine callX.by (goodE_c _ ?_ ?_ ?_) ?_|refine callX.by sm8gc ?_|refine callX.by (missing_c _ ?_ ?_) ?_|refine callX.by a6mc ?_|refine callX.by (allP_c _ _ _ ?_ ?_ ?_ ?_ ?_ ?_) ?_|refine callX.by (all4_c _ _ ?_ ?_) ?_|assumption|(refine Qw hK _ ?_; clear hK K)|refine Qw ‹_› _ ?_|refine Qx ‹_› ?_|refine Qi fun K hK=>?_|refine Qj T fun K hK=>?_|refine Qk (id:=9) T mixed Wd19 (by kernel_rfl) fun K hK=>?_|refine Qk (id:=17) T mixed Wd20 (by kernel_rfl) fun K hK=>?_|refine Ql fun A B hA hB=>?_|refine Qm ?_|refine Qn ?_|refine Qp ?_|refine Qr ?_)
 | ((with_reducible first|apply Qy|apply Qz|apply QA)<;>intro hb<;>try simp only [nr] at hb)
 | simp only [go_sem,↓reduceIte,reduceIte,Qa,Qh,Qb,Qc,Qd,Qe,Qf,Qg,reduceCtorEq, *,-hs,-hs2,-v1,-v2]
 | with_reducible refine fun (bn:Bool) hbn=>?_))
 have hg':¬ (60:Int) < (H.length:Int):=by omega
 have hw:IntKind.i64.wrap ((a.length:Int)+(b.length:Int))=((a.length+b.length:Nat):Int):=by
  rw [← Int.natCast_add]; exact IntWalk.i64_in _ (by omega)
 by_cases hab:64 < a.length+b.length
 ·have hab':(64:Int) < ((a.length+b.length:Nat):Int):=by omega
  refine CallR.go3 (T:=T) Tryz.call12 Tryz.func12 rfl Tryz.ntmps12 (congrArg Array.toList Tryz.results12) (by decide) fun ts hn h0 h1 h2=>?_
  (repeat' (first
 | (with_reducible first|refine callX.by (v1) ?_|refine callX.by (v2) ?_|refine callX.by awake16_c ?_|refine callX.by (few4_c _ ?_ ?_) ?_|refine callX.by (goodN_c _ ?_ ?_ ?_) ?_|refine callX.by (goodS_c _ ?_ ?_ ?_ ?_) ?_|refine callX.by (goodE_c _ ?_ ?_ ?_) ?_|refine callX.by sm8gc ?_|refine callX.by (missing_c _ ?_ ?_) ?_|refine callX.by a6mc ?_|refine callX.by (allP_c _ _ _ ?_ ?_ ?_ ?_ ?_ ?_) ?_|refine callX.by (all4_c _ _ ?_ ?_) ?_|assumption|(refine Qw hK _ ?_; clear hK K)|refine Qw ‹_› _ ?_|refine Qx ‹_› ?_|refine Qi fun K hK=>?_|refine Qj T fun K hK=>?_|refine Qk (id:=9) T mixed Wd19 (by kernel_rfl) fun K hK=>?_|refine Qk (id:=17) T mixed Wd20 (by kernel_rfl) fun K hK=>?_|refine Ql fun A B hA hB=>?_|refine Qm ?_|refine Qn ?_|refine Qp ?_|refine Qr ?_)
 | ((with_reducible first|apply Qy|apply Qz|apply QA)<;>intro hb<;>try simp only [nr] at hb)
 | simp only [go_sem,↓reduceIte,reduceIte,Qa,Qh,Qb,Qc,Qd,Qe,Qf,Qg,reduceCtorEq, *,-hs,-hs2,-v1,-v2]
 | with_reducible refine fun (bn:Bool) hbn=>?_))
 have hab':¬ (64:Int) < ((a.length+b.length:Nat):Int):=by omega
 have w2:=goodE_c a (by omega) hs (fun h=>(conf_of h).nodup)
 cases hga:goodE a with
 | false =>
  rw [hga] at w2
  refine CallR.go3 (T:=T) Tryz.call12 Tryz.func12 rfl Tryz.ntmps12 (congrArg Array.toList Tryz.results12) (by decide) fun ts hn h0 h1 h2=>?_
  (repeat' (first
 | (with_reducible first|refine callX.by (v1) ?_|refine callX.by (v2) ?_|refine callX.by (w2) ?_|refine callX.by awake16_c ?_|refine callX.by (few4_c _ ?_ ?_) ?_|refine callX.by (goodN_c _ ?_ ?_ ?_) ?_|refine callX.by (goodS_c _ ?_ ?_ ?_ ?_) ?_|refine callX.by (goodE_c _ ?_ ?_ ?_) ?_|refine callX.by sm8gc ?_|refine callX.by (missing_c _ ?_ ?_) ?_|refine callX.by a6mc ?_|refine callX.by (allP_c _ _ _ ?_ ?_ ?_ ?_ ?_ ?_) ?_|refine callX.by (all4_c _ _ ?_ ?_) ?_|assumption|(refine Qw hK _ ?_; clear hK K)|refine Qw ‹_› _ ?_|refine Qx ‹_› ?_|refine Qi fun K hK=>?_|refine Qj T fun K hK=>?_|refine Qk (id:=9) T mixed Wd19 (by kernel_rfl) fun K hK=>?_|refine Qk (id:=17) T mixed Wd20 (by kernel_rfl) fun K hK=>?_|refine Ql fun A B hA hB=>?_|refine Qm ?_|refine Qn ?_|refine Qp ?_|refine Qr ?_)
 | ((with_reducible first|apply Qy|apply Qz|apply QA)<;>intro hb<;>try simp only [nr] at hb)
 | simp only [go_sem,↓reduceIte,reduceIte,Qa,Qh,Qb,Qc,Qd,Qe,Qf,Qg,reduceCtorEq, *,-hs,-hs2,-v1,-v2,-w2]
 | with_reducible refine fun (bn:Bool) hbn=>?_))
 | true =>
 rw [hga] at w2
 have w3:=goodE_c b (by omega) hs2 (fun h=>(conf_of h).nodup)
 cases hgb:goodE b with
 | false =>
  rw [hgb] at w3
  refine CallR.go3 (T:=T) Tryz.call12 Tryz.func12 rfl Tryz.ntmps12 (congrArg Array.toList Tryz.results12) (by decide) fun ts hn h0 h1 h2=>?_
  (repeat' (first
 | (with_reducible first|refine callX.by (v1) ?_|refine callX.by (v2) ?_|refine callX.by (w2) ?_|refine callX.by (w3) ?_|refine callX.by awake16_c ?_|refine callX.by (few4_c _ ?_ ?_) ?_|refine callX.by (goodN_c _ ?_ ?_ ?_) ?_|refine callX.by (goodS_c _ ?_ ?_ ?_ ?_) ?_|refine callX.by (goodE_c _ ?_ ?_ ?_) ?_|refine callX.by sm8gc ?_|refine callX.by (missing_c _ ?_ ?_) ?_|refine callX.by a6mc ?_|refine callX.by (allP_c _ _ _ ?_ ?_ ?_ ?_ ?_ ?_) ?_|refine callX.by (all4_c _ _ ?_ ?_) ?_|assumption|(refine Qw hK _ ?_; clear hK K)|refine Qw ‹_› _ ?_|refine Qx ‹_› ?_|refine Qi fun K hK=>?_|refine Qj T fun K hK=>?_|refine Qk (id:=9) T mixed Wd19 (by kernel_rfl) fun K hK=>?_|refine Qk (id:=17) T mixed Wd20 (by kernel_rfl) fun K hK=>?_|refine Ql fun A B hA hB=>?_|refine Qm ?_|refine Qn ?_|refine Qp ?_|refine Qr ?_)
 | ((with_reducible first|apply Qy|apply Qz|apply QA)<;>intro hb<;>try simp only [nr] at hb)
 | simp only [go_sem,↓reduceIte,reduceIte,Qa,Qh,Qb,Qc,Qd,Qe,Qf,Qg,reduceCtorEq, *,-hs,-hs2,-v1,-v2,-w2,-w3]
 | with_reducible refine fun (bn:Bool) hbn=>?_))
 | true =>
 rw [hgb] at w3
 have w4:=(missing_c a (by omega) hs).frz
 have w5:=(missing_c b (by omega) hs2).frz
 have hml:=missK_len b
 have hml2:=missK_len a
 by_cases hm1:missK a=[]
 rotate_left
 ·generalize missK a=M1 at *
  have hp:(0:Int) < (M1.length:Int):=by have:=List.length_pos_iff.2 hm1; omega
  refine CallR.go3 (T:=T) Tryz.call12 Tryz.func12 rfl Tryz.ntmps12 (congrArg Array.toList Tryz.results12) (by decide) fun ts hn h0 h1 h2=>?_
  (repeat' (first
 | (with_reducible first|refine callX.by (v1) ?_|refine callX.by (v2) ?_|refine callX.by (w2) ?_|refine callX.by (w3) ?_|refine callX.by (w4) ?_|refine callX.by awake16_c ?_|refine callX.by (few4_c _ ?_ ?_) ?_|refine callX.by (goodN_c _ ?_ ?_ ?_) ?_|refine callX.by (goodS_c _ ?_ ?_ ?_ ?_) ?_|refine callX.by (goodE_c _ ?_ ?_ ?_) ?_|refine callX.by sm8gc ?_|refine callX.by (missing_c _ ?_ ?_) ?_|refine callX.by a6mc ?_|refine callX.by (allP_c _ _ _ ?_ ?_ ?_ ?_ ?_ ?_) ?_|refine callX.by (all4_c _ _ ?_ ?_) ?_|assumption|(refine Qw hK _ ?_; clear hK K)|refine Qw ‹_› _ ?_|refine Qx ‹_› ?_|refine Qi fun K hK=>?_|refine Qj T fun K hK=>?_|refine Qk (id:=9) T mixed Wd19 (by kernel_rfl) fun K hK=>?_|refine Qk (id:=17) T mixed Wd20 (by kernel_rfl) fun K hK=>?_|refine Ql fun A B hA hB=>?_|refine Qm ?_|refine Qn ?_|refine Qp ?_|refine Qr ?_)
 | ((with_reducible first|apply Qy|apply Qz|apply QA)<;>intro hb<;>try simp only [nr] at hb)
 | simp only [go_sem,↓reduceIte,reduceIte,Qa,Qh,Qb,Qc,Qd,Qe,Qf,Qg,reduceCtorEq, *,-hs,-hs2,-v1,-v2,-w2,-w3,-w4,-w5,-hm1]
 | with_reducible refine fun (bn:Bool) hbn=>?_))
 by_cases hm2:missK b=[]
 rotate_left
 ·rw [hm1,avs_nil] at w4
  generalize missK b=M1 at *
  have hp:(0:Int) < (M1.length:Int):=by have:=List.length_pos_iff.2 hm2; omega
  refine CallR.go3 (T:=T) Tryz.call12 Tryz.func12 rfl Tryz.ntmps12 (congrArg Array.toList Tryz.results12) (by decide) fun ts hn h0 h1 h2=>?_
  (repeat' (first
 | (with_reducible first|refine callX.by (v1) ?_|refine callX.by (v2) ?_|refine callX.by (w2) ?_|refine callX.by (w3) ?_|refine callX.by (w4) ?_|refine callX.by (w5) ?_|refine callX.by awake16_c ?_|refine callX.by (few4_c _ ?_ ?_) ?_|refine callX.by (goodN_c _ ?_ ?_ ?_) ?_|refine callX.by (goodS_c _ ?_ ?_ ?_ ?_) ?_|refine callX.by (goodE_c _ ?_ ?_ ?_) ?_|refine callX.by sm8gc ?_|refine callX.by (missing_c _ ?_ ?_) ?_|refine callX.by a6mc ?_|refine callX.by (allP_c _ _ _ ?_ ?_ ?_ ?_ ?_ ?_) ?_|refine callX.by (all4_c _ _ ?_ ?_) ?_|assumption|(refine Qw hK _ ?_; clear hK K)|refine Qw ‹_› _ ?_|refine Qx ‹_› ?_|refine Qi fun K hK=>?_|refine Qj T fun K hK=>?_|refine Qk (id:=9) T mixed Wd19 (by kernel_rfl) fun K hK=>?_|refine Qk (id:=17) T mixed Wd20 (by kernel_rfl) fun K hK=>?_|refine Ql fun A B hA hB=>?_|refine Qm ?_|refine Qn ?_|refine Qp ?_|refine Qr ?_)
 | ((with_reducible first|apply Qy|apply Qz|apply QA)<;>intro hb<;>try simp only [nr] at hb)
 | simp only [go_sem,↓reduceIte,reduceIte,Qa,Qh,Qb,Qc,Qd,Qe,Qf,Qg,reduceCtorEq, *,-hs,-hs2,-v1,-v2,-w2,-w3,-w4,-w5,-hm1,-hm2,List.length_nil,Int.lt_irrefl]
 | with_reducible refine fun (bn:Bool) hbn=>?_))
 obtain ⟨fa,hca⟩:=good_fit hga hm1
 obtain ⟨fb,hcb⟩:=good_fit hgb hm2
 have ta:=goodE_sane hga
 have tb:=goodE_sane hgb
 have hab:a.length+b.length≤64:=by omega
 rw [hm1,avs_nil] at w4
 rw [hm2,avs_nil] at w5
 clear hm1 hm2 hml hml2 hga hgb
 have hre:=reachOk_of (l:=b) (by omega) hs2 hcb.up
 have w6:=(allP_c a b H hl80 ha80 hs hs2 hH hre).frz
 obtain ⟨e,hat,hXl⟩:=AtC.start (H:=H) fa fb hab
 generalize runP b H 400 a=X at *
 have hXs:Small X.length:=by unfold Small; omega
 clear hca hcb hf1 hf2
 refine CallR.go3 (T:=T) Tryz.call12 Tryz.func12 rfl Tryz.ntmps12 (congrArg Array.toList Tryz.results12) (by decide) fun ts hn h0 h1 h2=>?_
 (repeat' (first
 | (with_reducible first|refine callX.by (v1) ?_|refine callX.by (v2) ?_|refine callX.by (w2) ?_|refine callX.by (w3) ?_|refine callX.by (w4) ?_|refine callX.by (w5) ?_|refine callX.by (w6) ?_|refine callX.by awake16_c ?_|refine callX.by (few4_c _ ?_ ?_) ?_|refine callX.by (goodN_c _ ?_ ?_ ?_) ?_|refine callX.by (goodS_c _ ?_ ?_ ?_ ?_) ?_|refine callX.by (goodE_c _ ?_ ?_ ?_) ?_|refine callX.by sm8gc ?_|refine callX.by (missing_c _ ?_ ?_) ?_|refine callX.by a6mc ?_|refine callX.by (allP_c _ _ _ ?_ ?_ ?_ ?_ ?_ ?_) ?_|refine callX.by (all4_c _ _ ?_ ?_) ?_|assumption|(refine Qw hK _ ?_; clear hK K)|refine Qw ‹_› _ ?_|refine Qx ‹_› ?_|refine Qi fun K hK=>?_|refine Qj T fun K hK=>?_|refine Qk (id:=9) T mixed Wd19 (by kernel_rfl) fun K hK=>?_|refine Qk (id:=17) T mixed Wd20 (by kernel_rfl) fun K hK=>?_|refine Ql fun A B hA hB=>?_|refine Qm ?_|refine Qn ?_|refine Qp ?_|refine Qr ?_)
 | ((with_reducible first|apply Qy|apply Qz|apply QA)<;>intro hb<;>try simp only [nr] at hb)
 | simp only [go_sem,↓reduceIte,reduceIte,Qa,Qh,Qb,Qc,Qd,Qe,Qf,Qg,reduceCtorEq, *,-hs,-hs2,-hre,-v1,-v2,-w2,-w3,-w4,-w5,-w6,List.length_nil,Int.lt_irrefl]
 | with_reducible refine fun (bn:Bool) hbn=>?_))
 refine Qs [1,7,9] (fun m ts'=>∃ (i:Nat),∃ (u:Nat),∃ (x:List Res),m=X.length - i∧i≤X.length∧AtC a b H e x (X.drop i)∧ts'.tmp 8=.ref 8 u 0∧ts'.gen 8=u∧ts'.obj 8=.box [.int .i64 64,.slice false (avs x)]∧ts'.tmp 10=.int .i64 i) X.length ?_ ?_
 ·refine ⟨0,ts.gen 8+1,a,rfl,Nat.zero_le _,hat,?_⟩
  simp only [go_sem,↓reduceIte,reduceIte,Qa,Qh,Qb,Qc,Qd,Qe,Qf,Qg,reduceCtorEq, *,-hs,-hs2,-hre,-v1,-v2,-w2,-w3,-w4,-w5,-w6]
 ·rintro m A hM ts' hk ⟨i,u,x,hm,f1,f2,s1,s2,s3,s4⟩
  simp only [go_sem,↓reduceIte,reduceIte,Qa,Qh,Qb,Qc,Qd,Qe,Qf,Qg,reduceCtorEq, *] at hk
  by_cases hlt:i < X.length
  ·rw [List.drop_eq_getElem_cons hlt] at f2
   have hxl:x.length≤64:=by have:=f2.at'.len; omega
   obtain ⟨q1,q2⟩:=f2.step fb
   obtain ⟨q0,q3,q4⟩:=next_sub q1
   have w8:=applyC_c 64 x X[i].adds X[i].gone (by omega) (by unfold Small; omega) (f2.at'.sm hs hs2) (fun r hr=>hs2 r (q0.subset hr))
   rw [f2.apply fa fb ta tb hab] at w8
   simp only at w8
   (repeat' (first
 | (with_reducible first|refine callX.by (w8) ?_|refine callX.by awake16_c ?_|refine callX.by (few4_c _ ?_ ?_) ?_|refine callX.by (goodN_c _ ?_ ?_ ?_) ?_|refine callX.by (goodS_c _ ?_ ?_ ?_ ?_) ?_|refine callX.by (goodE_c _ ?_ ?_ ?_) ?_|refine callX.by sm8gc ?_|refine callX.by (missing_c _ ?_ ?_) ?_|refine callX.by a6mc ?_|refine callX.by (allP_c _ _ _ ?_ ?_ ?_ ?_ ?_ ?_) ?_|refine callX.by (all4_c _ _ ?_ ?_) ?_|assumption|(refine Qw hK _ ?_; clear hK K)|refine Qw ‹_› _ ?_|refine Qx ‹_› ?_|refine Qi fun K hK=>?_|refine Qj T fun K hK=>?_|refine Qk (id:=9) T mixed Wd19 (by kernel_rfl) fun K hK=>?_|refine Qk (id:=17) T mixed Wd20 (by kernel_rfl) fun K hK=>?_|refine Ql fun A B hA hB=>?_|refine Qm ?_|refine Qn ?_|refine Qp ?_|refine Qr ?_)
 | ((with_reducible first|apply Qy|apply Qz|apply QA)<;>intro hb<;>try simp only [nr] at hb)
 | simp only [go_sem,↓reduceIte,reduceIte,Qa,Qh,Qb,Qc,Qd,Qe,Qf,Qg,reduceCtorEq, *,-hs,-hs2,-hre,-v1,-v2,-w2,-w3,-w4,-w5,-w6,-w8,-q0,-q1,-q2,-f2]
 | with_reducible refine fun (bn:Bool) hbn=>?_))
   all_goals ((repeat clear hK); (repeat clear hA); (repeat clear hB))
   all_goals (refine hM.on (X.length - (i+1)) (by omega) (by simp only [go_sem,↓reduceIte,reduceIte,Qa,Qh,Qb,Qc,Qd,Qe,Qf,Qg,reduceCtorEq, *,w64_nat hlt hXs,-hs,-hs2,-hre,-v1,-v2,-w2,-w3,-w4,-w5,-w6,-w8,-q0,-q1,-q2,-f2]) ⟨i+1,u,applyP x X[i],rfl,by omega,q2,?_⟩; simp only [go_sem,↓reduceIte,reduceIte,Qa,Qh,Qb,Qc,Qd,Qe,Qf,Qg,reduceCtorEq, *,w64_nat hlt hXs,-hs,-hs2,-hre,-v1,-v2,-w2,-w3,-w4,-w5,-w6,-w8,-q0,-q1,-q2,-f2]; done)
  ·rw [List.drop_eq_nil_of_le (by omega)] at f2
   have hxl:x.length≤64:=by have:=f2.at'.len; omega
   have w7:CallR Tryz.prog 34 [.slice false (avs x),.slice false (avs b),.slice false []] (.val (.slice false (avs (runP b [] 400 x)))):=(allP_c x b [] (by omega) ha80 (f2.at'.sm hs hs2) hs2 (by simp [Small]) hre).frz
   obtain ⟨e2,hat2,hYl⟩:=f2.on hab fb
   generalize runP b [] 400 x=Y at *
   have hYs:Small Y.length:=by unfold Small; omega
   clear f2
   (repeat' (first
 | (with_reducible first|refine callX.by (w7) ?_|refine callX.by awake16_c ?_|refine callX.by (few4_c _ ?_ ?_) ?_|refine callX.by (goodN_c _ ?_ ?_ ?_) ?_|refine callX.by (goodS_c _ ?_ ?_ ?_ ?_) ?_|refine callX.by (goodE_c _ ?_ ?_ ?_) ?_|refine callX.by sm8gc ?_|refine callX.by (missing_c _ ?_ ?_) ?_|refine callX.by a6mc ?_|refine callX.by (allP_c _ _ _ ?_ ?_ ?_ ?_ ?_ ?_) ?_|refine callX.by (all4_c _ _ ?_ ?_) ?_|assumption|(refine Qw hK _ ?_; clear hK K)|refine Qw ‹_› _ ?_|refine Qx ‹_› ?_|refine Qi fun K hK=>?_|refine Qj T fun K hK=>?_|refine Qk (id:=9) T mixed Wd19 (by kernel_rfl) fun K hK=>?_|refine Qk (id:=17) T mixed Wd20 (by kernel_rfl) fun K hK=>?_|refine Ql fun A B hA hB=>?_|refine Qm ?_|refine Qn ?_|refine Qp ?_|refine Qr ?_)
 | ((with_reducible first|apply Qy|apply Qz|apply QA)<;>intro hb<;>try simp only [nr] at hb)
 | simp only [go_sem,↓reduceIte,reduceIte,Qa,Qh,Qb,Qc,Qd,Qe,Qf,Qg,reduceCtorEq, *,-hs,-hs2,-hre,-v1,-v2,-w2,-w3,-w4,-w5,-w6,-w7]
 | with_reducible refine fun (bn:Bool) hbn=>?_))
   clear hM hm
   refine Qs [1,7,13] (fun m ts'=>∃ (j:Nat),∃ (u2:Nat),∃ (y:List Res),m=Y.length - j∧j≤Y.length∧AtC a b [] e2 y (Y.drop j)∧ts'.tmp 8=.ref 8 u2 0∧ts'.gen 8=u2∧ts'.obj 8=.box [.int .i64 64,.slice false (avs y)]∧ts'.tmp 14=.int .i64 j) Y.length ?_ ?_
   ·refine ⟨0,u,x,rfl,Nat.zero_le _,hat2,?_⟩
    simp only [go_sem,↓reduceIte,reduceIte,Qa,Qh,Qb,Qc,Qd,Qe,Qf,Qg,reduceCtorEq, *,-hs,-hs2,-hre,-v1,-v2,-w2,-w3,-w4,-w5,-w6,-w7]
   ·rintro m A hM ts' hk ⟨j,u2,y,hm,f1,f2,s1,s2,s3,s4⟩
    simp only [go_sem,↓reduceIte,reduceIte,Qa,Qh,Qb,Qc,Qd,Qe,Qf,Qg,reduceCtorEq, *] at hk
    by_cases hlt2:j < Y.length
    ·rw [List.drop_eq_getElem_cons hlt2] at f2
     have hyl:y.length≤64:=by have:=f2.at'.len; omega
     obtain ⟨q1,q2⟩:=f2.step fb
     obtain ⟨q0,q3,q4⟩:=next_sub q1
     have w8:=applyC_c 64 y Y[j].adds Y[j].gone (by omega) (by unfold Small; omega) (f2.at'.sm hs hs2) (fun r hr=>hs2 r (q0.subset hr))
     rw [f2.apply fa fb ta tb hab] at w8
     simp only at w8
     (repeat' (first
 | (with_reducible first|refine callX.by (w8) ?_|refine callX.by awake16_c ?_|refine callX.by (few4_c _ ?_ ?_) ?_|refine callX.by (goodN_c _ ?_ ?_ ?_) ?_|refine callX.by (goodS_c _ ?_ ?_ ?_ ?_) ?_|refine callX.by (goodE_c _ ?_ ?_ ?_) ?_|refine callX.by sm8gc ?_|refine callX.by (missing_c _ ?_ ?_) ?_|refine callX.by a6mc ?_|refine callX.by (allP_c _ _ _ ?_ ?_ ?_ ?_ ?_ ?_) ?_|refine callX.by (all4_c _ _ ?_ ?_) ?_|assumption|(refine Qw hK _ ?_; clear hK K)|refine Qw ‹_› _ ?_|refine Qx ‹_› ?_|refine Qi fun K hK=>?_|refine Qj T fun K hK=>?_|refine Qk (id:=9) T mixed Wd19 (by kernel_rfl) fun K hK=>?_|refine Qk (id:=17) T mixed Wd20 (by kernel_rfl) fun K hK=>?_|refine Ql fun A B hA hB=>?_|refine Qm ?_|refine Qn ?_|refine Qp ?_|refine Qr ?_)
 | ((with_reducible first|apply Qy|apply Qz|apply QA)<;>intro hb<;>try simp only [nr] at hb)
 | simp only [go_sem,↓reduceIte,reduceIte,Qa,Qh,Qb,Qc,Qd,Qe,Qf,Qg,reduceCtorEq, *,-hs,-hs2,-hre,-v1,-v2,-w2,-w3,-w4,-w5,-w6,-w7,-w8,-q0,-q1,-q2,-f2]
 | with_reducible refine fun (bn:Bool) hbn=>?_))
     all_goals ((repeat clear hK); (repeat clear hA); (repeat clear hB))
     all_goals (refine hM.on (Y.length - (j+1)) (by omega) (by simp only [go_sem,↓reduceIte,reduceIte,Qa,Qh,Qb,Qc,Qd,Qe,Qf,Qg,reduceCtorEq, *,w64_nat hlt2 hYs,-hs,-hs2,-hre,-v1,-v2,-w2,-w3,-w4,-w5,-w6,-w7,-w8,-q0,-q1,-q2,-f2]) ⟨j+1,u2,applyP y Y[j],rfl,by omega,q2,?_⟩; simp only [go_sem,↓reduceIte,reduceIte,Qa,Qh,Qb,Qc,Qd,Qe,Qf,Qg,reduceCtorEq, *,w64_nat hlt2 hYs,-hs,-hs2,-hre,-v1,-v2,-w2,-w3,-w4,-w5,-w6,-w7,-w8,-q0,-q1,-q2,-f2]; done)
    ·rw [List.drop_eq_nil_of_le (by omega)] at f2
     obtain ⟨e0,hno⟩:=f2.at'.stop
     have eb:y=b:=end_eq f2.at'.up fb.up (f2.at'.kin fa.kin fb.kin) fb.kin fb.miss (by rw [e0] at hno ⊢; exact hno)
     have w8:=all4_c b b hl2 hs2
     rw [decide_eq_true rfl] at w8
     clear f2 e0 hno
     subst eb
     (repeat' (first
 | (with_reducible first|refine callX.by (w8) ?_|refine callX.by awake16_c ?_|refine callX.by (few4_c _ ?_ ?_) ?_|refine callX.by (goodN_c _ ?_ ?_ ?_) ?_|refine callX.by (goodS_c _ ?_ ?_ ?_ ?_) ?_|refine callX.by (goodE_c _ ?_ ?_ ?_) ?_|refine callX.by sm8gc ?_|refine callX.by (missing_c _ ?_ ?_) ?_|refine callX.by a6mc ?_|refine callX.by (allP_c _ _ _ ?_ ?_ ?_ ?_ ?_ ?_) ?_|refine callX.by (all4_c _ _ ?_ ?_) ?_|assumption|(refine Qw hK _ ?_; clear hK K)|refine Qw ‹_› _ ?_|refine Qx ‹_› ?_|refine Qi fun K hK=>?_|refine Qj T fun K hK=>?_|refine Qk (id:=9) T mixed Wd19 (by kernel_rfl) fun K hK=>?_|refine Qk (id:=17) T mixed Wd20 (by kernel_rfl) fun K hK=>?_|refine Ql fun A B hA hB=>?_|refine Qm ?_|refine Qn ?_|refine Qp ?_|refine Qr ?_)
 | ((with_reducible first|apply Qy|apply Qz|apply QA)<;>intro hb<;>try simp only [nr] at hb)
 | simp only [go_sem,↓reduceIte,reduceIte,Qa,Qh,Qb,Qc,Qd,Qe,Qf,Qg,reduceCtorEq, *,-hs,-hs2,-hre,-v1,-v2,-w2,-w3,-w4,-w5,-w6,-w7,-w8]
 | with_reducible refine fun (bn:Bool) hbn=>?_))
     all_goals ((repeat clear hK); (repeat clear hA); (repeat clear hB))
     all_goals trace_state
@[go_sem] def Wd21:List (List Nat×List Nat):=[([31],[33,34]),([32],[33,34]),([33],[31,32,6]),([34],[31,32,6]),([6],[33,34])]
def takeW (c:Cache) (ready:Bool) (shown:List Res) (ch:Bool):List AV :=
 if shownC c=shown then [.int .i64 c.cap,.slice false (avs c.l),.bool ready,.slice false (avs shown),.bool ch] else [.int .i64 c.cap,.slice false (avs c.l),.bool true,.slice false (avs (shownC c)),.bool true]
theorem shownC_len (c:Cache):(shownC c).length≤c.l.length:=Nat.le_trans (reachR_len _) (saneOf_len c)
theorem shownC_mem {c:Cache} {r:Res} (h:r∈shownC c):r∈c.l:=saneOf_mem ((reachR_sub _).subset h)
theorem takeW_c (cap0:Int) (l0:List Res) (ready:Bool) (shown:List Res) (ch:Bool) (c_cap:Int) (c_l:List Res) (hl:c_l.length≤65536) (hs:∀ r∈c_l,SmRes r) :
  CallI Tryz.prog 105 [.int .i64 cap0,.slice false (avs l0),.bool ready,.slice false (avs shown),.bool ch] [.agg [.int .i64 c_cap,.slice false (avs c_l)]] (.tup []) (takeW (⟨c_cap,c_l⟩:Cache) ready shown ch):=by
 have w1:=(shownC_c c_cap c_l hl hs).frz
 have hsl:=shownC_len (⟨c_cap,c_l⟩:Cache)
 have w2:=tsame_c (shownC (⟨c_cap,c_l⟩:Cache)) shown (by simp only at hsl; unfold Small; omega) fun x hx=>hs x (shownC_mem hx)
 unfold takeW
 generalize shownC (⟨c_cap,c_l⟩:Cache)=s at *
 clear hs hl hsl
 by_cases he:s=shown
 ·rw [decide_eq_true he] at w2
  rw [if_pos he]
  refine CallI.go1 Tryz.call105 Tryz.func105 rfl Tryz.ntmps105 T (congrArg Array.toList Tryz.results105) (by decide) fun ts hn h0 hg0 ho0 h1=>?_
  (repeat' (first
 | (with_reducible first|refine callX.by (w1) ?_|refine callX.by (w2) ?_|refine callX.by (shownC_c _ _ ?_ ?_) ?_|refine callX.by (tsame_c _ _ ?_ ?_) ?_|assumption|(refine Qw hK _ ?_; clear hK K)|refine Qw ‹_› _ ?_|refine Qx ‹_› ?_|refine Qi fun K hK=>?_|refine Qj T fun K hK=>?_|refine Ql fun A B hA hB=>?_|refine Qn ?_|refine Qr ?_)
 | ((with_reducible first|apply Qy|apply Qz|apply QA)<;>intro hb<;>try simp only [nr] at hb)
 | simp only [go_sem,↓reduceIte,reduceIte,Qa,Qh,Qb,Qc,Qd,Qe,Qf,Qg,reduceCtorEq, *,-w1,-w2,-he]
 | with_reducible refine fun (bn:Bool) hbn=>?_))
  all_goals trace_state
 ·rw [decide_eq_false he] at w2
  rw [if_neg he]
  refine CallI.go1 Tryz.call105 Tryz.func105 rfl Tryz.ntmps105 T (congrArg Array.toList Tryz.results105) (by decide) fun ts hn h0 hg0 ho0 h1=>?_
  (repeat' (first
 | (with_reducible first|refine callX.by (w1) ?_|refine callX.by (w2) ?_|refine callX.by (shownC_c _ _ ?_ ?_) ?_|refine callX.by (tsame_c _ _ ?_ ?_) ?_|assumption|(refine Qw hK _ ?_; clear hK K)|refine Qw ‹_› _ ?_|refine Qx ‹_› ?_|refine Qi fun K hK=>?_|refine Qj T fun K hK=>?_|refine Ql fun A B hA hB=>?_|refine Qn ?_|refine Qr ?_)
 | ((with_reducible first|apply Qy|apply Qz|apply QA)<;>intro hb<;>try simp only [nr] at hb)
 | simp only [go_sem,↓reduceIte,reduceIte,Qa,Qh,Qb,Qc,Qd,Qe,Qf,Qg,reduceCtorEq, *,-w1,-w2,-he]
 | with_reducible refine fun (bn:Bool) hbn=>?_))
  all_goals trace_state
def stepW (w:Warm) (adds:List Res) (gone:List Key):Warm × Bool × Int :=
 let m:=saneOfW w
 let a:=applyC m.c adds gone
 if a.2=0 then (if shownC a.1=m.shown then (⟨a.1,m.ready,m.shown⟩,false,0) else (⟨a.1,true,shownC a.1⟩,true,0)) else (m,false,a.2)
theorem saneOfW_len (w:Warm):(saneOfW w).c.l.length≤w.c.l.length:=by unfold saneOfW; split<;>simp
theorem saneOfW_mem {w:Warm} {r:Res} (h:r∈(saneOfW w).c.l):r∈w.c.l:=by unfold saneOfW at h; split at h<;>simp_all
theorem stepW_c (w_c_cap:Int) (w_c_l:List Res) (w_ready:Bool) (w_shown:List Res) (adds:List Res) (gone:List Key) (hl:w_c_l.length+adds.length≤65536) (hs:∀ r∈w_c_l,SmRes r) (hl2:Small w_shown.length) (hs2:∀ r∈w_shown,SmRes r) (hg:Small gone.length) (ha:∀ r∈adds,SmRes r) :
  CallR Tryz.prog 43 [.agg [.int .i64 w_c_cap,.slice false (avs w_c_l),.bool w_ready,.slice false (avs w_shown)],.slice false (avs adds),.slice false (avs gone)]
   (.val (.tup [.agg [.int .i64 (stepW (⟨⟨w_c_cap,w_c_l⟩,w_ready,w_shown⟩:Warm) adds gone).1.c.cap,.slice false (avs (stepW (⟨⟨w_c_cap,w_c_l⟩,w_ready,w_shown⟩:Warm) adds gone).1.c.l),.bool (stepW (⟨⟨w_c_cap,w_c_l⟩,w_ready,w_shown⟩:Warm) adds gone).1.ready,.slice false (avs (stepW (⟨⟨w_c_cap,w_c_l⟩,w_ready,w_shown⟩:Warm) adds gone).1.shown)],.bool (stepW (⟨⟨w_c_cap,w_c_l⟩,w_ready,w_shown⟩:Warm) adds gone).2.1,.int .i64 (stepW (⟨⟨w_c_cap,w_c_l⟩,w_ready,w_shown⟩:Warm) adds gone).2.2])):=by
 have w1:=saneOfW_c w_c_cap w_c_l w_ready w_shown (by omega) hs hl2 hs2
 have hml:=saneOfW_len (⟨⟨w_c_cap,w_c_l⟩,w_ready,w_shown⟩:Warm)
 have hms:∀ r∈(saneOfW (⟨⟨w_c_cap,w_c_l⟩,w_ready,w_shown⟩:Warm)).c.l,SmRes r:=fun r hr=>hs r (saneOfW_mem hr)
 unfold stepW
 generalize saneOfW (⟨⟨w_c_cap,w_c_l⟩,w_ready,w_shown⟩:Warm)=m at *
 simp only at hml ⊢
 have w2:=applyC_c m.c.cap m.c.l adds gone (by omega) hg hms ha
 have w2:CallR Tryz.prog 59 [.agg [.int .i64 m.c.cap,.slice false (avs m.c.l)],.slice false (avs adds),.slice false (avs gone)] (.val (.tup [.agg [.int .i64 (applyC m.c adds gone).1.cap,.slice false (avs (applyC m.c adds gone).1.l)],.int .i64 (applyC m.c adds gone).2])):=w2
 have hal:=applyC_len m.c adds gone
 have hac:∀ r∈(applyC m.c adds gone).1.l,SmRes r:=fun r hr=>(applyC_mem' hr).elim (hms r) (ha r)
 generalize (applyC m.c adds gone).2=e at *
 generalize (applyC m.c adds gone).1=d at *
 have w3:=takeW_c m.c.cap m.c.l m.ready m.shown false d.cap d.l (by omega) hac
 have w3:CallI Tryz.prog 105 [.int .i64 m.c.cap,.slice false (avs m.c.l),.bool m.ready,.slice false (avs m.shown),.bool false] [.agg [.int .i64 d.cap,.slice false (avs d.l)]] (.tup []) (takeW d m.ready m.shown false):=w3
 unfold takeW at w3
 clear hs hs2 ha hms hac hal hml hl hl2 hg
 by_cases he:e=0
 ·subst he
  simp only [if_true]
  by_cases hsh:shownC d=m.shown
  ·rw [if_pos hsh] at w3 ⊢
   simp only
   refine CallR.go3 (T:=T) Tryz.call43 Tryz.func43 rfl Tryz.ntmps43 (congrArg Array.toList Tryz.results43) (by decide) fun ts hn h0 h1 h2=>?_
   (repeat' (first
 | (with_reducible first|refine callX.by (w1) ?_|refine callX.by (w2) ?_)
 | (with_reducible refine callX.io ?_ ?_ ?_ (w3); (focus (simp only [go_sem,↓reduceIte,reduceIte,Qa,Qh,Qb,Qc,Qd,Qe,Qf,Qg,reduceCtorEq, *,-w1,-w2,-w3,-hsh]; first|done|rfl)); (focus (simp only [go_sem,↓reduceIte,reduceIte,Qa,Qh,Qb,Qc,Qd,Qe,Qf,Qg,reduceCtorEq, *,-w1,-w2,-w3,-hsh]; first|done|rfl)))
 | (with_reducible first|refine callX.by (saneOfW_c _ _ _ _ ?_ ?_ ?_ ?_) ?_|assumption|(refine Qw hK _ ?_; clear hK K)|refine Qw ‹_› _ ?_|refine Qx ‹_› ?_|refine Qi fun K hK=>?_|refine Qj T fun K hK=>?_|refine Qk (id:=6) T mixed Wd21 (by kernel_rfl) fun K hK=>?_|refine Ql fun A B hA hB=>?_|refine Qn ?_|refine Qr ?_)
 | ((with_reducible first|apply Qy|apply Qz|apply QA)<;>intro hb<;>try simp only [nr] at hb)
 | simp only [go_sem,↓reduceIte,reduceIte,Qa,Qh,Qb,Qc,Qd,Qe,Qf,Qg,reduceCtorEq, *,-w1,-w2,-w3,-hsh]
 | with_reducible refine fun (bn:Bool) hbn=>?_))
   all_goals trace_state
  ·rw [if_neg hsh] at w3 ⊢
   simp only
   refine CallR.go3 (T:=T) Tryz.call43 Tryz.func43 rfl Tryz.ntmps43 (congrArg Array.toList Tryz.results43) (by decide) fun ts hn h0 h1 h2=>?_
   (repeat' (first
 | (with_reducible first|refine callX.by (w1) ?_|refine callX.by (w2) ?_)
 | (with_reducible refine callX.io ?_ ?_ ?_ (w3); (focus (simp only [go_sem,↓reduceIte,reduceIte,Qa,Qh,Qb,Qc,Qd,Qe,Qf,Qg,reduceCtorEq, *,-w1,-w2,-w3,-hsh]; first|done|rfl)); (focus (simp only [go_sem,↓reduceIte,reduceIte,Qa,Qh,Qb,Qc,Qd,Qe,Qf,Qg,reduceCtorEq, *,-w1,-w2,-w3,-hsh]; first|done|rfl)))
 | (with_reducible first|refine callX.by (saneOfW_c _ _ _ _ ?_ ?_ ?_ ?_) ?_|assumption|(refine Qw hK _ ?_; clear hK K)|refine Qw ‹_› _ ?_|refine Qx ‹_› ?_|refine Qi fun K hK=>?_|refine Qj T fun K hK=>?_|refine Qk (id:=6) T mixed Wd21 (by kernel_rfl) fun K hK=>?_|refine Ql fun A B hA hB=>?_|refine Qn ?_|refine Qr ?_)
 | ((with_reducible first|apply Qy|apply Qz|apply QA)<;>intro hb<;>try simp only [nr] at hb)
 | simp only [go_sem,↓reduceIte,reduceIte,Qa,Qh,Qb,Qc,Qd,Qe,Qf,Qg,reduceCtorEq, *,-w1,-w2,-w3,-hsh]
 | with_reducible refine fun (bn:Bool) hbn=>?_))
   all_goals trace_state
 ·rw [if_neg he]
  simp only
  clear w3
  refine CallR.go3 (T:=T) Tryz.call43 Tryz.func43 rfl Tryz.ntmps43 (congrArg Array.toList Tryz.results43) (by decide) fun ts hn h0 h1 h2=>?_
  (repeat' (first
 | (with_reducible first|refine callX.by (w1) ?_|refine callX.by (w2) ?_|refine callX.by (saneOfW_c _ _ _ _ ?_ ?_ ?_ ?_) ?_|assumption|(refine Qw hK _ ?_; clear hK K)|refine Qw ‹_› _ ?_|refine Qx ‹_› ?_|refine Qi fun K hK=>?_|refine Qj T fun K hK=>?_|refine Qk (id:=6) T mixed Wd21 (by kernel_rfl) fun K hK=>?_|refine Ql fun A B hA hB=>?_|refine Qn ?_|refine Qr ?_)
 | ((with_reducible first|apply Qy|apply Qz|apply QA)<;>intro hb<;>try simp only [nr] at hb)
 | simp only [go_sem,↓reduceIte,reduceIte,Qa,Qh,Qb,Qc,Qd,Qe,Qf,Qg,reduceCtorEq, *,-w1,-w2]
 | with_reducible refine fun (bn:Bool) hbn=>?_))
  all_goals trace_state
theorem warming_c (w_c_cap:Int) (w_c_l:List Res) (w_ready:Bool) (w_shown:List Res) (hl:w_c_l.length≤65536) (hs:∀ r∈w_c_l,SmRes r) (hl2:Small w_shown.length) (hs2:∀ r∈w_shown,SmRes r):CallR Tryz.prog 50 [.agg [.int .i64 w_c_cap,.slice false (avs w_c_l),.bool w_ready,.slice false (avs w_shown)]] (.own 2 (avs (orphans (saneOfW (⟨⟨w_c_cap,w_c_l⟩,w_ready,w_shown⟩:Warm)).c.l))):=by
 have w1:=saneOfW_c w_c_cap w_c_l w_ready w_shown hl hs hl2 hs2
 have hml:=saneOfW_len (⟨⟨w_c_cap,w_c_l⟩,w_ready,w_shown⟩:Warm)
 have hms:∀ r∈(saneOfW (⟨⟨w_c_cap,w_c_l⟩,w_ready,w_shown⟩:Warm)).c.l,SmRes r:=fun r hr=>hs r (saneOfW_mem hr)
 have hnd:((saneOfW (⟨⟨w_c_cap,w_c_l⟩,w_ready,w_shown⟩:Warm)).c.l.map keyOf).Nodup:=by
  unfold saneOfW
  split
  ·rename_i h
   unfold saneW at h
   simp only [Bool.and_eq_true] at h
   exact (saneC_conf h.1.1).nodup
  ·simp
 generalize saneOfW (⟨⟨w_c_cap,w_c_l⟩,w_ready,w_shown⟩:Warm)=m at *
 simp only at hml
 have w2:=orphans_c m.c.l (by omega) hms hnd
 clear hs hs2 hms hnd hl hl2 hml
 refine CallR.go1 (T:=T) Tryz.call50 Tryz.func50 rfl Tryz.ntmps50 (congrArg Array.toList Tryz.results50) (by decide) fun ts hn h0=>?_
 (repeat' (first
 | (with_reducible first|refine callX.by (w1) ?_|refine callX.by (w2) ?_|refine callX.by (saneOfW_c _ _ _ _ ?_ ?_ ?_ ?_) ?_|refine callX.by (orphans_c _ ?_ ?_ ?_) ?_|assumption|(refine Qw hK _ ?_; clear hK K)|refine Qw ‹_› _ ?_|refine Qx ‹_› ?_|refine Qi fun K hK=>?_|refine Qj T fun K hK=>?_|refine Ql fun A B hA hB=>?_|refine Qn ?_|refine Qr ?_)
 | ((with_reducible first|apply Qy|apply Qz|apply QA)<;>intro hb<;>try simp only [nr] at hb)
 | simp only [go_sem,↓reduceIte,reduceIte,Qa,Qh,Qb,Qc,Qd,Qe,Qf,Qg,reduceCtorEq, *,-w1,-w2]
 | with_reducible refine fun (bn:Bool) hbn=>?_))
theorem saneW_iff {w:Warm}:saneW w=true↔saneC w.c=true∧w.shown=shownC w.c∧(w.ready=true∨w.shown=[]):=by
 unfold saneW
 simp only [Bool.and_eq_true,Bool.or_eq_true,decide_eq_true_eq,and_assoc]
theorem shownC_sane {c:Cache} (h:saneC c=true):shownC c=reachR c.l:=by unfold shownC saneOf; rw [if_pos h]
theorem stepW_sane {w:Warm} (h:saneW w=true) (adds:List Res) (gone:List Key) :
  stepW w adds gone=if (applyC w.c adds gone).2=0 then (if shownC (applyC w.c adds gone).1=w.shown then (⟨(applyC w.c adds gone).1,w.ready,w.shown⟩,false,0) else (⟨(applyC w.c adds gone).1,true,shownC (applyC w.c adds gone).1⟩,true,0)) else (w,false,(applyC w.c adds gone).2):=by
 have hof:saneOfW w=w:=by unfold saneOfW; rw [if_pos h]
 unfold stepW
 rw [hof]
theorem newW_sane (n:Int):saneW ⟨⟨bnd n,[]⟩,false,[]⟩=true:=by
 refine saneW_iff.2 ⟨newC_sane n,?_,.inr rfl⟩
 rw [shownC_sane (newC_sane n)]
 show []=reachR []
 decide
def rR:Res:=⟨1,[114],0,0,[],[],[]⟩
theorem rRs:saneR rR=0:=by decide
theorem rRr:refsR rR=[]:=by
 have e:baseR rR++keysR rR.rules'=[]:=by decide
 unfold refsR
 rw [if_pos rRs,e]
 simp [ksort,kcompact,kcT]
theorem rRsm:∀ x∈[rR],SmRes x:=oneSm rfl (by simp [Small,rR]) (by simp [Small,rR]) (by simp [Small,rR])
theorem rRn:namesM [rR]=[(⟨1,[114]⟩,[])]:=by simp only [namesM,List.map_cons,List.map_nil,rRr]; rfl
theorem rRreach:reachR [rR]=[]:=by unfold reachR reachedM; rw [rRn]; decide
theorem rRserved:served [rR]=0:=by unfold served; rw [rRreach]; rfl
theorem rRm:mustE 9 [rR]=0:=by
 unfold mustE
 rw [show tsane [rR]=0 by decide,rRserved]; decide
theorem lrn:namesM [lR,rR]=[(⟨0,[108]⟩,[⟨1,[114]⟩]),(⟨1,[114]⟩,[])]:=by simp only [namesM,List.map_cons,List.map_nil,lRr,rRr]; rfl
theorem lrreach:reachR [lR,rR]=[lR,rR]:=by unfold reachR reachedM; rw [lrn]; decide
theorem lrserved:served [lR,rR]=0:=by
 unfold served
 rw [lrreach]
 have h1:lacks (ofR [lR,rR] []) lR=false:=by unfold lacks; rw [lRr]; decide
 have h2:lacks (ofR [lR,rR] []) rR=false:=by unfold lacks; rw [rRr]; rfl
 have h3:bare lR=false:=by decide
 have h4:bare rR=false:=by decide
 simp [h1,h2,h3,h4]
theorem lrm:mustE 9 [lR,rR]=0:=by
 unfold mustE
 rw [show tsane [lR,rR]=0 by decide,lrserved]; decide
theorem apply_rR:applyC ⟨9,[]⟩ [rR] []=(⟨9,[rR]⟩,0):=by
 unfold applyC
 rw [nine]
 have e:patchR [] [rR] []=[rR]:=by decide
 simp only [e,rRm]
 rfl
theorem nineR:saneC ⟨9,[rR]⟩=true:=by unfold saneC; rw [rRm]; decide
theorem nineLR:saneC ⟨9,[lR,rR]⟩=true:=by unfold saneC; rw [lrm]; decide
theorem apply_lrR:applyC ⟨9,[rR]⟩ [lR] []=(⟨9,[lR,rR]⟩,0):=by
 rw [applyC_sane nineR]
 have e:patchR [rR] [lR] []=[lR,rR]:=by decide
 simp only [e,lrm]
 rfl
theorem step_rR:stepW ⟨⟨9,[]⟩,false,[]⟩ [rR] []=(⟨⟨9,[rR]⟩,false,[]⟩,false,0):=by
 have h9:saneW ⟨⟨9,[]⟩,false,[]⟩=true:=newW_sane 9
 rw [stepW_sane h9]
 simp only [apply_rR,shownC_sane nineR,rRreach,if_true]
theorem wR:saneW ⟨⟨9,[rR]⟩,false,[]⟩=true:=saneW_iff.2 ⟨nineR,by rw [shownC_sane nineR,rRreach],.inr rfl⟩
theorem step_lR:stepW ⟨⟨9,[rR]⟩,false,[]⟩ [lR] []=(⟨⟨9,[lR,rR]⟩,true,[lR,rR]⟩,true,0):=by
 rw [stepW_sane wR]
 simp only [apply_lrR,shownC_sane nineLR,lrreach,if_true]
 rw [if_neg (by simp)]
theorem wLR:saneW ⟨⟨9,[lR,rR]⟩,true,[lR,rR]⟩=true:=saneW_iff.2 ⟨nineLR,by rw [shownC_sane nineLR,lrreach],.inl rfl⟩
theorem orph_rR:orphans [rR]=[⟨1,[114]⟩]:=by unfold orphans reachedM; rw [rRn]; decide
theorem lrsm:∀ x∈[lR,rR],SmRes x:=by
 intro x hx
 simp only [List.mem_cons,List.not_mem_nil,or_false] at hx
 rcases hx with rfl|rfl
 ·exact lRsm lR (by simp)
 ·exact rRsm rR (by simp)
set_option maxHeartbeats 4000000 in
theorem awake17_c:CallR Tryz.prog 42 [] (.val (.bool true)):=by
 have w0:CallR Tryz.prog 52 [.int .i64 9] (.val (.agg [.int .i64 9,.slice false [],.bool false,.slice false []])):=newW_c 9
 have w1:CallR Tryz.prog 43 [.agg [.int .i64 9,.slice false [],.bool false,.slice false []],.slice false [.agg [.int .i64 1,.str [114],.int .i64 0,.int .i64 0,.str [],.slice false [],.slice false []]],.slice false []] (.val (.tup [.agg [.int .i64 9,.slice false [.agg [.int .i64 1,.str [114],.int .i64 0,.int .i64 0,.str [],.slice false [],.slice false []]],.bool false,.slice false []],.bool false,.int .i64 0])):=by
  have h:=stepW_c 9 [] false [] [rR] [] (by simp) (by simp) (by simp [Small]) (by simp) (by simp [Small]) rRsm
  rw [step_rR] at h
  exact h
 have w2:CallR Tryz.prog 43 [.agg [.int .i64 9,.slice false [.agg [.int .i64 1,.str [114],.int .i64 0,.int .i64 0,.str [],.slice false [],.slice false []]],.bool false,.slice false []],.slice false [.agg [.int .i64 0,.str [108],.int .i64 0,.int .i64 80,.str [114],.slice false [],.slice false []]],.slice false []] (.val (.tup [.agg [.int .i64 9,.slice false [.agg [.int .i64 0,.str [108],.int .i64 0,.int .i64 80,.str [114],.slice false [],.slice false []],.agg [.int .i64 1,.str [114],.int .i64 0,.int .i64 0,.str [],.slice false [],.slice false []]],.bool true,.slice false [.agg [.int .i64 0,.str [108],.int .i64 0,.int .i64 80,.str [114],.slice false [],.slice false []],.agg [.int .i64 1,.str [114],.int .i64 0,.int .i64 0,.str [],.slice false [],.slice false []]]],.bool true,.int .i64 0])):=by
  have h:=stepW_c 9 [rR] false [] [lR] [] (by simp) rRsm (by simp [Small]) (by simp) (by simp [Small]) lRsm
  rw [step_lR] at h
  exact h
 have w3:CallR Tryz.prog 50 [.agg [.int .i64 9,.slice false [.agg [.int .i64 1,.str [114],.int .i64 0,.int .i64 0,.str [],.slice false [],.slice false []]],.bool false,.slice false []]] (.own 2 [.agg [.int .i64 1,.str [114]]]):=by
  have h:=warming_c 9 [rR] false [] (by simp) rRsm (by simp [Small]) (by simp)
  have e:saneOfW ⟨⟨9,[rR]⟩,false,[]⟩=⟨⟨9,[rR]⟩,false,[]⟩:=by unfold saneOfW; rw [if_pos wR]
  rw [e,orph_rR] at h
  exact h
 have w4:CallR Tryz.prog 48 [.agg [.int .i64 9,.slice false [.agg [.int .i64 0,.str [108],.int .i64 0,.int .i64 80,.str [114],.slice false [],.slice false []],.agg [.int .i64 1,.str [114],.int .i64 0,.int .i64 0,.str [],.slice false [],.slice false []]],.bool true,.slice false [.agg [.int .i64 0,.str [108],.int .i64 0,.int .i64 80,.str [114],.slice false [],.slice false []],.agg [.int .i64 1,.str [114],.int .i64 0,.int .i64 0,.str [],.slice false [],.slice false []]]]] (.val (.bool true)):=by
  have h:=saneW_c 9 [lR,rR] true [lR,rR] (by simp) lrsm (by simp [Small]) lrsm
  rw [wLR] at h
  exact h
 refine CallR.go0 (T:=T) Tryz.call42 Tryz.func42 rfl Tryz.ntmps42 (congrArg Array.toList Tryz.results42) fun ts hn=>?_
 (repeat' (first
 | (with_reducible first|refine callX.by (w0) ?_|refine callX.fz (w1) ?_|refine callX.fz (w2) ?_|refine callX.by (w3) ?_|refine callX.by (w4) ?_|refine callX.by (newW_c _) ?_|refine callX.by (warming_c _ _ _ _ ?_ ?_ ?_ ?_) ?_|refine callX.by (saneW_c _ _ _ _ ?_ ?_ ?_ ?_) ?_|assumption|(refine Qw hK _ ?_; clear hK K)|refine Qw ‹_› _ ?_|refine Qx ‹_› ?_|refine Qi fun K hK=>?_|refine Qj T fun K hK=>?_|refine Ql fun A B hA hB=>?_|refine Qn ?_|refine Qr ?_)
 | ((with_reducible first|apply Qy|apply Qz|apply QA)<;>intro hb<;>try simp only [nr] at hb)
 | simp only [go_sem,↓reduceIte,reduceIte,Qa,Qh,Qb,Qc,Qd,Qe,Qf,Qg,reduceCtorEq, *,-w0,-w1,-w2,-w3,-w4,Int.le_refl,List.length_nil,List.length_cons,decide_true]
 | with_reducible refine fun (bn:Bool) hbn=>?_))
 all_goals trace_state
end Go.Proofs.YtmjkjmoeicnbnaaGreatDoor.Lg
