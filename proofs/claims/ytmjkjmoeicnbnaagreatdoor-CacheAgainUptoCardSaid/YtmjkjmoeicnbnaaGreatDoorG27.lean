/- Parts of the proof, one behind the other. -/
import Derived.Test.YtmjkjmoeicnbnaaGreatDoorG26
namespace Go.Proofs.YtmjkjmoeicnbnaaGreatDoor.Lg
set_option maxRecDepth 100000
set_option linter.unusedVariables false
set_option linter.unusedSimpArgs false
open Go
open Nat renaming reduceEqDiff → Qa, reduceLT → Qb, reduceLeDiff → Qc, reduceAdd → Qd, reduceMul → Qe, reduceSub → Qf, reduceBEq → Qg
open String renaming reduceEq → Qh
open SpecC renaming seqW → Qi, regW → Qj, drawW → Qk, condW → Ql, block → Qm, skip → Qn, exit → Qp, ret → Qr, loopF → Qs
open NxK renaming out → Qw
open Nx renaming out → Qx
open condK renaming split → Qy
open gK renaming split_t → Qz, split_f → QA
@[go_sem] def Wd22:List (List Nat×List Nat):=[([69],[70,71,72,73,74,75,76,77,78,79,81,82,83,10]),([70],[69,71,74,75,76,77,78,79,80,68,81,82,83,10]),([71],[69,70,74,75,76,77,78,79,80,68,81,82,83,10]),([72],[69,75,76,77,78,79,80,68,81,82,83,10]),([73],[69,75,76,77,78,79,68,81,82,83,10]),([74],[69,70,71,75,76,77,78,79,81,82,83,10]),([75],[69,70,71,72,73,74,76,79,80,68,81,82,83,10]),([76],[69,70,71,72,73,74,75,79,80,68,81,82,83,10]),([77],[69,70,71,72,73,74,80,68,81,82,83,10]),([78],[69,70,71,72,73,74,68,81,82,83,10]),([79],[69,70,71,72,73,74,75,76,81,82,83,10]),([80],[70,71,72,75,76,77,10]),([68],[70,71,72,73,75,76,77,78,10]),([81],[69,70,71,72,73,74,75,76,77,78,79,82,83,10]),([82],[69,70,71,72,73,74,75,76,77,78,79,81,83,10]),([83],[69,70,71,72,73,74,75,76,77,78,79,81,82,10,11]),([10],[69,70,71,72,73,74,75,76,77,78,79,80,68,81,82,83]),([10],[82,83]),([11],[83])]
@[go_sem] def Wd23:List (List Nat×List Nat):=[([94],[96,97,99,100,101,102,103,104,105,106,107,108,109,110,111,112,113]),([95],[96,97,101,102,103,104,105,106,107,108,109,110,111,112,113]),([96],[94,95,99,100,101,102,103,104,105,106,107,108,109,110,111,112,113]),([97],[94,95,101,102,103,104,105,106,107,108,109,110,111,112,113]),([98],[107,108,109,110,111,112,113]),([99],[94,96,107,108,109,110,111,112,113]),([100],[94,96,111,112,113]),([101],[94,95,96,97,103,105,106,107,108,109,110,111,112,113]),([102],[94,95,96,97,103,106,107,108,109,110,111,112,113]),([103],[94,95,96,97,101,102,106,107,108,109,110,111,112,113]),([104],[94,95,96,97,107,108,109,110,111,112,113]),([105],[94,95,96,97,101,111,112,113]),([106],[94,95,96,97,101,102,103]),([107],[94,95,96,97,98,99,101,102,103,104,110,111,112,113]),([108],[94,95,96,97,98,99,101,102,103,104,111,112,113]),([109],[94,95,96,97,98,99,101,102,103,104]),([110],[94,95,96,97,98,99,101,102,103,104,107]),([111],[94,95,96,97,98,99,100,101,102,103,104,105,107,108,113]),([112],[94,95,96,97,98,99,100,101,102,103,104,105,107,108,113]),([113],[94,95,96,97,98,99,100,101,102,103,104,105,107,108,111,112])]
@[go_sem] def Wd24:List (List Nat×List Nat):=[([128],[129,130,131,132,133,134,135,136,137,138,140,141,142,16]),([129],[128,130,133,134,135,136,137,138,139,127,140,141,142,16]),([130],[128,129,133,134,135,136,137,138,139,127,140,141,142,16]),([131],[128,134,135,136,137,138,139,127,140,141,142,16]),([132],[128,134,135,136,137,138,127,140,141,142,16]),([133],[128,129,130,134,135,136,137,138,140,141,142,16]),([134],[128,129,130,131,132,133,135,138,139,127,140,141,142,16]),([135],[128,129,130,131,132,133,134,138,139,127,140,141,142,16]),([136],[128,129,130,131,132,133,139,127,140,141,142,16]),([137],[128,129,130,131,132,133,127,140,141,142,16]),([138],[128,129,130,131,132,133,134,135,140,141,142,16]),([139],[129,130,131,134,135,136,16]),([127],[129,130,131,132,134,135,136,137,16]),([140],[128,129,130,131,132,133,134,135,136,137,138,141,142,16]),([141],[128,129,130,131,132,133,134,135,136,137,138,140,142,16]),([142],[128,129,130,131,132,133,134,135,136,137,138,140,141,16,17]),([16],[128,129,130,131,132,133,134,135,136,137,138,139,127,140,141,142]),([16],[141,142]),([17],[142])]
@[go_sem] def Wd25:List (List Nat×List Nat):=[([152],[160,161,162,163,164,165]),([153],[161,162,163,164,165]),([154],[156,157,159,160,161,162,163,164,165]),([155],[156,157,161,162,163,164,165]),([156],[154,155,159,160,161,162,163,164,165]),([157],[154,155,161,162,163,164,165]),([158],[]),([159],[154,156]),([160],[152,154,156]),([161],[152,153,154,155,156,157,164,165]),([162],[152,153,154,155,156,157,164,165]),([163],[152,153,154,155,156,157,164,165]),([164],[152,153,154,155,156,157,161,162,163]),([165],[152,153,154,155,156,157,161,162,163])]
theorem fit_nil:Fit []:=⟨up_nil,kin_nil,by decide,by simp⟩
theorem reach_zero {x:List Res} (hx:Up (x.map keyOf)) (h:∀ r∈x,r.kind≠0):reachR x=[]:=by
 rw [List.eq_nil_iff_forall_not_mem]
 intro r hr
 have key:∀ k,Rch x k→False:=fun k hk=>by
  induction hk with
  | base r hr h0=>exact h r hr h0
  | step r y hr _ _ _ ih=>exact ih
 exact key _ ((mem_reachR (up_nodup hx) r).1 hr).2
theorem reach_nil_iff {b:List Res} (hb:Up (b.map keyOf)):reachR b=[]↔tkind b 0=[]:=by
 constructor
 ·intro h
  rw [List.eq_nil_iff_forall_not_mem]
  intro r hr
  obtain ⟨h1,h2⟩:=mem_tkind.1 hr
  have:r∈reachR b:=(mem_reachR (up_nodup hb) r).2 ⟨h1,.base r h1 h2⟩
  rw [h] at this; simp at this
 ·intro h
  refine reach_zero hb fun r hr h0=>?_
  have:r∈tkind b 0:=mem_tkind.2 ⟨hr,h0⟩
  rw [h] at this; simp at this
theorem invA_none {b x:List Res} (i:InvA [] b x):reachR x=[]:=reach_zero i.up fun r hr h0=>by
 have:=(i.zero r h0).1 hr
 simp at this
def ToldP (b x:List Res) (n:Nat) (rd:Bool):Prop:=(InvA [] b x∧n=0∧rd=false)∨(InvB b x∧n=(if reachR b=[] then 0 else 1)∧rd=!decide (reachR b=[]))
theorem ToldP.start {b:List Res}:ToldP b [] 0 false:=.inl ⟨invA_refl up_nil,rfl,rfl⟩
theorem ToldP.step {b x:List Res} {n:Nat} {rd:Bool} {H:List Key} {s:Step} (fb:Fit b) (h:ToldP b x n rd) (hs:nextP x b H=some s) :
  (reachR (applyP x s)=reachR x∧ToldP b (applyP x s) n rd)∨(¬ reachR (applyP x s)=reachR x∧ToldP b (applyP x s) (n+1) true∧n=0):=by
 rcases h with ⟨i,h1,h2⟩|⟨i,h1,h2⟩
 ·have hx:=invA_none i
  rcases inv_step fb (.inl i) hs with j|j
  ·exact .inl ⟨(invA_none j).trans hx.symm,.inl ⟨j,h1,h2⟩⟩
  ·have hy:=reach_invB fb j
   by_cases hb:reachR b=[]
   ·exact .inl ⟨by rw [hy,hx,hb],.inr ⟨j,by rw [if_pos hb]; exact h1,by rw [decide_eq_true hb,h2]; rfl⟩⟩
   ·exact .inr ⟨by rw [hy,hx]; exact hb,.inr ⟨j,by rw [if_neg hb,h1],by rw [decide_eq_false hb]; rfl⟩,h1⟩
 ·have j:InvB b (applyP x s):=invB_part (next_part i.up fb.up hs) i
  exact .inl ⟨by rw [reach_invB fb j,reach_invB fb i],.inr ⟨j,h1,h2⟩⟩
theorem ToldP.fin {b:List Res} {n:Nat} {rd:Bool} (h:ToldP b b n rd):n=(if reachR b=[] then 0 else 1)∧rd=!decide (reachR b=[]):=by
 rcases h with ⟨i,h1,h2⟩|⟨_,h1,h2⟩
 ·have hx:=invA_none i
  exact ⟨by rw [if_pos hx]; exact h1,by rw [decide_eq_true hx,h2]; rfl⟩
 ·exact ⟨h1,h2⟩
theorem ToldP.ready {b x:List Res} {n:Nat} {rd:Bool} (fb:Fit b) (h:ToldP b x n rd):rd=true∨reachR x=[]:=by
 rcases h with ⟨i,_,_⟩|⟨i,_,h2⟩
 ·exact .inr (invA_none i)
 ·rw [reach_invB fb i,h2]
  by_cases hb:reachR b=[]
  ·exact .inr hb
  ·exact .inl (by rw [decide_eq_false hb]; rfl)
theorem AtC.sane {a b:List Res} {H:List Key} {e x:List Res} {l:List Step} (fa:Fit a) (fb:Fit b) (ha:tsane a=0) (hb:tsane b=0) (hl:a.length+b.length≤64) (h:AtC a b H e x l):saneC ⟨64,x⟩=true :=
 saneC_iff.2 ⟨bnd64.symm,mustE_iff.1 (h.ok fa fb ha hb hl)⟩
theorem AtC.stepW {a b:List Res} {H:List Key} {e x:List Res} {s:Step} {l:List Step} {rd:Bool} (fa:Fit a) (fb:Fit b) (ha:tsane a=0) (hb:tsane b=0) (hl:a.length+b.length≤64) (h:AtC a b H e x (s :: l)) (hr:rd=true∨reachR x=[]) :
  Lg.stepW ⟨⟨64,x⟩,rd,reachR x⟩ s.adds s.gone=(⟨⟨64,applyP x s⟩,rd || !decide (reachR (applyP x s)=reachR x),reachR (applyP x s)⟩,!decide (reachR (applyP x s)=reachR x),0) ∧
   ((rd || !decide (reachR (applyP x s)=reachR x))=true∨reachR (applyP x s)=[]):=by
 have hs:=h.sane fa fb ha hb hl
 have hs2:=(h.step fb).2.sane fa fb ha hb hl
 have hw:saneW ⟨⟨64,x⟩,rd,reachR x⟩=true:=saneW_iff.2 ⟨hs,(shownC_sane hs).symm,hr⟩
 constructor
 ·rw [stepW_sane hw]
  simp only [h.apply fa fb ha hb hl,if_true]
  rw [shownC_sane hs2]
  by_cases he:reachR (applyP x s)=reachR x
  ·simp [he]
  ·simp [he]
 ·by_cases he:reachR (applyP x s)=reachR x
  ·rcases hr with hr|hr
   ·exact .inl (by rw [hr]; rfl)
   ·exact .inr (he.trans hr)
  ·exact .inl (by rw [decide_eq_false he]; simp)
set_option maxHeartbeats 16000000 in
theorem warmPlans_c (a b:List Res) (hl:Small a.length) (hs:∀ r∈a,SmRes r) (hl2:Small b.length) (hs2:∀ r∈b,SmRes r):CallR Tryz.prog 13 [.slice false (avs a),.slice false (avs b)] (.val (.bool true)):=by
 have v1:=few4_c a hl hs
 have v2:=few4_c b hl2 hs2
 by_cases hf1:fewAll a=true
 rotate_left
 ·have hf1:fewAll a=false:=by simpa using hf1
  rw [hf1] at v1
  refine CallR.go2 (T:=T) Tryz.call13 Tryz.func13 rfl Tryz.ntmps13 (congrArg Array.toList Tryz.results13) (by decide) fun ts hn h0 h1=>?_
  (repeat' (first
 | (with_reducible first|refine callX.by (v1) ?_|refine callX.by awake17_c ?_|refine callX.by (few4_c _ ?_ ?_) ?_|refine callX.by (goodN_c _ ?_ ?_ ?_) ?_|refine callX.by (goodS_c _ ?_ ?_ ?_ ?_) ?_|refine callX.by (goodE_c _ ?_ ?_ ?_) ?_|refine callX.by sm8gc ?_|refine callX.by (missing_c _ ?_ ?_) ?_|refine callX.by a6mc ?_|refine callX.by (newW_c _) ?_|refine callX.by (allP_c _ _ _ ?_ ?_ ?_ ?_ ?_ ?_) ?_|refine callX.by (tkind_c _ _ ?_) ?_|refine callX.by (reach_c _ ?_ ?_ ?_) ?_|refine callX.by a6rc ?_|refine callX.by (all4_c _ _ ?_ ?_) ?_|refine callX.by (shownC_c _ _ ?_ ?_) ?_|assumption|(refine Qw hK _ ?_; clear hK K)|refine Qw ‹_› _ ?_|refine Qx ‹_› ?_|refine Qi fun K hK=>?_|refine Qj T fun K hK=>?_|refine Qk (id:=10) T mixed Wd22 (by kernel_rfl) fun K hK=>?_|refine Qk (id:=17) T mixed Wd23 (by kernel_rfl) fun K hK=>?_|refine Qk (id:=23) T mixed Wd24 (by kernel_rfl) fun K hK=>?_|refine Qk (id:=27) T mixed Wd25 (by kernel_rfl) fun K hK=>?_|refine Ql fun A B hA hB=>?_|refine Qm ?_|refine Qn ?_|refine Qp ?_|refine Qr ?_)
 | ((with_reducible first|apply Qy|apply Qz|apply QA)<;>intro hb<;>try simp only [nr] at hb)
 | simp only [go_sem,↓reduceIte,reduceIte,Qa,Qh,Qb,Qc,Qd,Qe,Qf,Qg,reduceCtorEq, *,-hs,-hs2,-v1,-v2]
 | with_reducible refine fun (bn:Bool) hbn=>?_))
 have hl80:=few_len16 hf1
 rw [hf1] at v1
 by_cases hf2:fewAll b=true
 rotate_left
 ·have hf2:fewAll b=false:=by simpa using hf2
  rw [hf2] at v2
  refine CallR.go2 (T:=T) Tryz.call13 Tryz.func13 rfl Tryz.ntmps13 (congrArg Array.toList Tryz.results13) (by decide) fun ts hn h0 h1=>?_
  (repeat' (first
 | (with_reducible first|refine callX.by (v1) ?_|refine callX.by (v2) ?_|refine callX.by awake17_c ?_|refine callX.by (few4_c _ ?_ ?_) ?_|refine callX.by (goodN_c _ ?_ ?_ ?_) ?_|refine callX.by (goodS_c _ ?_ ?_ ?_ ?_) ?_|refine callX.by (goodE_c _ ?_ ?_ ?_) ?_|refine callX.by sm8gc ?_|refine callX.by (missing_c _ ?_ ?_) ?_|refine callX.by a6mc ?_|refine callX.by (newW_c _) ?_|refine callX.by (allP_c _ _ _ ?_ ?_ ?_ ?_ ?_ ?_) ?_|refine callX.by (tkind_c _ _ ?_) ?_|refine callX.by (reach_c _ ?_ ?_ ?_) ?_|refine callX.by a6rc ?_|refine callX.by (all4_c _ _ ?_ ?_) ?_|refine callX.by (shownC_c _ _ ?_ ?_) ?_|assumption|(refine Qw hK _ ?_; clear hK K)|refine Qw ‹_› _ ?_|refine Qx ‹_› ?_|refine Qi fun K hK=>?_|refine Qj T fun K hK=>?_|refine Qk (id:=10) T mixed Wd22 (by kernel_rfl) fun K hK=>?_|refine Qk (id:=17) T mixed Wd23 (by kernel_rfl) fun K hK=>?_|refine Qk (id:=23) T mixed Wd24 (by kernel_rfl) fun K hK=>?_|refine Qk (id:=27) T mixed Wd25 (by kernel_rfl) fun K hK=>?_|refine Ql fun A B hA hB=>?_|refine Qm ?_|refine Qn ?_|refine Qp ?_|refine Qr ?_)
 | ((with_reducible first|apply Qy|apply Qz|apply QA)<;>intro hb<;>try simp only [nr] at hb)
 | simp only [go_sem,↓reduceIte,reduceIte,Qa,Qh,Qb,Qc,Qd,Qe,Qf,Qg,reduceCtorEq, *,-hs,-hs2,-v1,-v2]
 | with_reducible refine fun (bn:Bool) hbn=>?_))
 have ha80:=few_len16 hf2
 rw [hf2] at v2
 have hw:IntKind.i64.wrap ((a.length:Int)+(b.length:Int))=((a.length+b.length:Nat):Int):=by
  rw [← Int.natCast_add]; exact IntWalk.i64_in _ (by omega)
 by_cases hab:64 < a.length+b.length
 ·have hab':(64:Int) < ((a.length+b.length:Nat):Int):=by omega
  refine CallR.go2 (T:=T) Tryz.call13 Tryz.func13 rfl Tryz.ntmps13 (congrArg Array.toList Tryz.results13) (by decide) fun ts hn h0 h1=>?_
  (repeat' (first
 | (with_reducible first|refine callX.by (v1) ?_|refine callX.by (v2) ?_|refine callX.by awake17_c ?_|refine callX.by (few4_c _ ?_ ?_) ?_|refine callX.by (goodN_c _ ?_ ?_ ?_) ?_|refine callX.by (goodS_c _ ?_ ?_ ?_ ?_) ?_|refine callX.by (goodE_c _ ?_ ?_ ?_) ?_|refine callX.by sm8gc ?_|refine callX.by (missing_c _ ?_ ?_) ?_|refine callX.by a6mc ?_|refine callX.by (newW_c _) ?_|refine callX.by (allP_c _ _ _ ?_ ?_ ?_ ?_ ?_ ?_) ?_|refine callX.by (tkind_c _ _ ?_) ?_|refine callX.by (reach_c _ ?_ ?_ ?_) ?_|refine callX.by a6rc ?_|refine callX.by (all4_c _ _ ?_ ?_) ?_|refine callX.by (shownC_c _ _ ?_ ?_) ?_|assumption|(refine Qw hK _ ?_; clear hK K)|refine Qw ‹_› _ ?_|refine Qx ‹_› ?_|refine Qi fun K hK=>?_|refine Qj T fun K hK=>?_|refine Qk (id:=10) T mixed Wd22 (by kernel_rfl) fun K hK=>?_|refine Qk (id:=17) T mixed Wd23 (by kernel_rfl) fun K hK=>?_|refine Qk (id:=23) T mixed Wd24 (by kernel_rfl) fun K hK=>?_|refine Qk (id:=27) T mixed Wd25 (by kernel_rfl) fun K hK=>?_|refine Ql fun A B hA hB=>?_|refine Qm ?_|refine Qn ?_|refine Qp ?_|refine Qr ?_)
 | ((with_reducible first|apply Qy|apply Qz|apply QA)<;>intro hb<;>try simp only [nr] at hb)
 | simp only [go_sem,↓reduceIte,reduceIte,Qa,Qh,Qb,Qc,Qd,Qe,Qf,Qg,reduceCtorEq, *,-hs,-hs2,-v1,-v2]
 | with_reducible refine fun (bn:Bool) hbn=>?_))
 have hab':¬ (64:Int) < ((a.length+b.length:Nat):Int):=by omega
 have w2:=goodE_c a (by omega) hs (fun h=>(conf_of h).nodup)
 cases hga:goodE a with
 | false =>
  rw [hga] at w2
  refine CallR.go2 (T:=T) Tryz.call13 Tryz.func13 rfl Tryz.ntmps13 (congrArg Array.toList Tryz.results13) (by decide) fun ts hn h0 h1=>?_
  (repeat' (first
 | (with_reducible first|refine callX.by (v1) ?_|refine callX.by (v2) ?_|refine callX.by (w2) ?_|refine callX.by awake17_c ?_|refine callX.by (few4_c _ ?_ ?_) ?_|refine callX.by (goodN_c _ ?_ ?_ ?_) ?_|refine callX.by (goodS_c _ ?_ ?_ ?_ ?_) ?_|refine callX.by (goodE_c _ ?_ ?_ ?_) ?_|refine callX.by sm8gc ?_|refine callX.by (missing_c _ ?_ ?_) ?_|refine callX.by a6mc ?_|refine callX.by (newW_c _) ?_|refine callX.by (allP_c _ _ _ ?_ ?_ ?_ ?_ ?_ ?_) ?_|refine callX.by (tkind_c _ _ ?_) ?_|refine callX.by (reach_c _ ?_ ?_ ?_) ?_|refine callX.by a6rc ?_|refine callX.by (all4_c _ _ ?_ ?_) ?_|refine callX.by (shownC_c _ _ ?_ ?_) ?_|assumption|(refine Qw hK _ ?_; clear hK K)|refine Qw ‹_› _ ?_|refine Qx ‹_› ?_|refine Qi fun K hK=>?_|refine Qj T fun K hK=>?_|refine Qk (id:=10) T mixed Wd22 (by kernel_rfl) fun K hK=>?_|refine Qk (id:=17) T mixed Wd23 (by kernel_rfl) fun K hK=>?_|refine Qk (id:=23) T mixed Wd24 (by kernel_rfl) fun K hK=>?_|refine Qk (id:=27) T mixed Wd25 (by kernel_rfl) fun K hK=>?_|refine Ql fun A B hA hB=>?_|refine Qm ?_|refine Qn ?_|refine Qp ?_|refine Qr ?_)
 | ((with_reducible first|apply Qy|apply Qz|apply QA)<;>intro hb<;>try simp only [nr] at hb)
 | simp only [go_sem,↓reduceIte,reduceIte,Qa,Qh,Qb,Qc,Qd,Qe,Qf,Qg,reduceCtorEq, *,-hs,-hs2,-v1,-v2,-w2]
 | with_reducible refine fun (bn:Bool) hbn=>?_))
 | true =>
 rw [hga] at w2
 have w3:=goodE_c b (by omega) hs2 (fun h=>(conf_of h).nodup)
 cases hgb:goodE b with
 | false =>
  rw [hgb] at w3
  refine CallR.go2 (T:=T) Tryz.call13 Tryz.func13 rfl Tryz.ntmps13 (congrArg Array.toList Tryz.results13) (by decide) fun ts hn h0 h1=>?_
  (repeat' (first
 | (with_reducible first|refine callX.by (v1) ?_|refine callX.by (v2) ?_|refine callX.by (w2) ?_|refine callX.by (w3) ?_|refine callX.by awake17_c ?_|refine callX.by (few4_c _ ?_ ?_) ?_|refine callX.by (goodN_c _ ?_ ?_ ?_) ?_|refine callX.by (goodS_c _ ?_ ?_ ?_ ?_) ?_|refine callX.by (goodE_c _ ?_ ?_ ?_) ?_|refine callX.by sm8gc ?_|refine callX.by (missing_c _ ?_ ?_) ?_|refine callX.by a6mc ?_|refine callX.by (newW_c _) ?_|refine callX.by (allP_c _ _ _ ?_ ?_ ?_ ?_ ?_ ?_) ?_|refine callX.by (tkind_c _ _ ?_) ?_|refine callX.by (reach_c _ ?_ ?_ ?_) ?_|refine callX.by a6rc ?_|refine callX.by (all4_c _ _ ?_ ?_) ?_|refine callX.by (shownC_c _ _ ?_ ?_) ?_|assumption|(refine Qw hK _ ?_; clear hK K)|refine Qw ‹_› _ ?_|refine Qx ‹_› ?_|refine Qi fun K hK=>?_|refine Qj T fun K hK=>?_|refine Qk (id:=10) T mixed Wd22 (by kernel_rfl) fun K hK=>?_|refine Qk (id:=17) T mixed Wd23 (by kernel_rfl) fun K hK=>?_|refine Qk (id:=23) T mixed Wd24 (by kernel_rfl) fun K hK=>?_|refine Qk (id:=27) T mixed Wd25 (by kernel_rfl) fun K hK=>?_|refine Ql fun A B hA hB=>?_|refine Qm ?_|refine Qn ?_|refine Qp ?_|refine Qr ?_)
 | ((with_reducible first|apply Qy|apply Qz|apply QA)<;>intro hb<;>try simp only [nr] at hb)
 | simp only [go_sem,↓reduceIte,reduceIte,Qa,Qh,Qb,Qc,Qd,Qe,Qf,Qg,reduceCtorEq, *,-hs,-hs2,-v1,-v2,-w2,-w3]
 | with_reducible refine fun (bn:Bool) hbn=>?_))
 | true =>
 rw [hgb] at w3
 have w4:=(missing_c a (by omega) hs).frz
 have w5:=(missing_c b (by omega) hs2).frz
 have hml:=missK_len b
 have hml2:=missK_len a
 by_cases hm1:missK a=[]
 rotate_left
 ·generalize missK a=M1 at *
  have hp:(0:Int) < (M1.length:Int):=by have:=List.length_pos_iff.2 hm1; omega
  refine CallR.go2 (T:=T) Tryz.call13 Tryz.func13 rfl Tryz.ntmps13 (congrArg Array.toList Tryz.results13) (by decide) fun ts hn h0 h1=>?_
  (repeat' (first
 | (with_reducible first|refine callX.by (v1) ?_|refine callX.by (v2) ?_|refine callX.by (w2) ?_|refine callX.by (w3) ?_|refine callX.by (w4) ?_|refine callX.by awake17_c ?_|refine callX.by (few4_c _ ?_ ?_) ?_|refine callX.by (goodN_c _ ?_ ?_ ?_) ?_|refine callX.by (goodS_c _ ?_ ?_ ?_ ?_) ?_|refine callX.by (goodE_c _ ?_ ?_ ?_) ?_|refine callX.by sm8gc ?_|refine callX.by (missing_c _ ?_ ?_) ?_|refine callX.by a6mc ?_|refine callX.by (newW_c _) ?_|refine callX.by (allP_c _ _ _ ?_ ?_ ?_ ?_ ?_ ?_) ?_|refine callX.by (tkind_c _ _ ?_) ?_|refine callX.by (reach_c _ ?_ ?_ ?_) ?_|refine callX.by a6rc ?_|refine callX.by (all4_c _ _ ?_ ?_) ?_|refine callX.by (shownC_c _ _ ?_ ?_) ?_|assumption|(refine Qw hK _ ?_; clear hK K)|refine Qw ‹_› _ ?_|refine Qx ‹_› ?_|refine Qi fun K hK=>?_|refine Qj T fun K hK=>?_|refine Qk (id:=10) T mixed Wd22 (by kernel_rfl) fun K hK=>?_|refine Qk (id:=17) T mixed Wd23 (by kernel_rfl) fun K hK=>?_|refine Qk (id:=23) T mixed Wd24 (by kernel_rfl) fun K hK=>?_|refine Qk (id:=27) T mixed Wd25 (by kernel_rfl) fun K hK=>?_|refine Ql fun A B hA hB=>?_|refine Qm ?_|refine Qn ?_|refine Qp ?_|refine Qr ?_)
 | ((with_reducible first|apply Qy|apply Qz|apply QA)<;>intro hb<;>try simp only [nr] at hb)
 | simp only [go_sem,↓reduceIte,reduceIte,Qa,Qh,Qb,Qc,Qd,Qe,Qf,Qg,reduceCtorEq, *,-hs,-hs2,-v1,-v2,-w2,-w3,-w4,-w5,-hm1]
 | with_reducible refine fun (bn:Bool) hbn=>?_))
 by_cases hm2:missK b=[]
 rotate_left
 ·rw [hm1,avs_nil] at w4
  generalize missK b=M1 at *
  have hp:(0:Int) < (M1.length:Int):=by have:=List.length_pos_iff.2 hm2; omega
  refine CallR.go2 (T:=T) Tryz.call13 Tryz.func13 rfl Tryz.ntmps13 (congrArg Array.toList Tryz.results13) (by decide) fun ts hn h0 h1=>?_
  (repeat' (first
 | (with_reducible first|refine callX.by (v1) ?_|refine callX.by (v2) ?_|refine callX.by (w2) ?_|refine callX.by (w3) ?_|refine callX.by (w4) ?_|refine callX.by (w5) ?_|refine callX.by awake17_c ?_|refine callX.by (few4_c _ ?_ ?_) ?_|refine callX.by (goodN_c _ ?_ ?_ ?_) ?_|refine callX.by (goodS_c _ ?_ ?_ ?_ ?_) ?_|refine callX.by (goodE_c _ ?_ ?_ ?_) ?_|refine callX.by sm8gc ?_|refine callX.by (missing_c _ ?_ ?_) ?_|refine callX.by a6mc ?_|refine callX.by (newW_c _) ?_|refine callX.by (allP_c _ _ _ ?_ ?_ ?_ ?_ ?_ ?_) ?_|refine callX.by (tkind_c _ _ ?_) ?_|refine callX.by (reach_c _ ?_ ?_ ?_) ?_|refine callX.by a6rc ?_|refine callX.by (all4_c _ _ ?_ ?_) ?_|refine callX.by (shownC_c _ _ ?_ ?_) ?_|assumption|(refine Qw hK _ ?_; clear hK K)|refine Qw ‹_› _ ?_|refine Qx ‹_› ?_|refine Qi fun K hK=>?_|refine Qj T fun K hK=>?_|refine Qk (id:=10) T mixed Wd22 (by kernel_rfl) fun K hK=>?_|refine Qk (id:=17) T mixed Wd23 (by kernel_rfl) fun K hK=>?_|refine Qk (id:=23) T mixed Wd24 (by kernel_rfl) fun K hK=>?_|refine Qk (id:=27) T mixed Wd25 (by kernel_rfl) fun K hK=>?_|refine Ql fun A B hA hB=>?_|refine Qm ?_|refine Qn ?_|refine Qp ?_|refine Qr ?_)
 | ((with_reducible first|apply Qy|apply Qz|apply QA)<;>intro hb<;>try simp only [nr] at hb)
 | simp only [go_sem,↓reduceIte,reduceIte,Qa,Qh,Qb,Qc,Qd,Qe,Qf,Qg,reduceCtorEq, *,-hs,-hs2,-v1,-v2,-w2,-w3,-w4,-w5,-hm1,-hm2,List.length_nil,Int.lt_irrefl]
 | with_reducible refine fun (bn:Bool) hbn=>?_))
 obtain ⟨fa,hca⟩:=good_fit hga hm1
 obtain ⟨fb,hcb⟩:=good_fit hgb hm2
 have ta:=goodE_sane hga
 have tb:=goodE_sane hgb
 have t0:tsane []=0:=by decide
 have hab:a.length+b.length≤64:=by omega
 have hab0:([]:List Res).length+a.length≤64:=by simp; omega
 rw [hm1,avs_nil] at w4
 rw [hm2,avs_nil] at w5
 clear hm1 hm2 hml hml2 hga hgb
 have hre:=reachOk_of (l:=a) (by omega) hs hca.up
 have hre2:=reachOk_of (l:=b) (by omega) hs2 hcb.up
 have w6:CallR Tryz.prog 34 [.slice false [],.slice false (avs a),.slice false []] (.val (.slice false (avs (runP a [] 400 [])))):=(allP_c [] a [] (by simp) hl80 (by simp) hs (by simp [Small]) hre).frz
 obtain ⟨e,hat,hXl⟩:=AtC.start (H:=[]) fit_nil fa hab0
 generalize runP a [] 400 []=X at *
 have hXs:Small X.length:=by unfold Small; omega
 have w7:CallR Tryz.prog 52 [.int .i64 64] (.val (.agg [.int .i64 64,.slice false [],.bool false,.slice false []])):=newW_c 64
 have hr0:reachR []=[]:=rfl
 clear hca hcb hf1 hf2
 refine CallR.go2 (T:=T) Tryz.call13 Tryz.func13 rfl Tryz.ntmps13 (congrArg Array.toList Tryz.results13) (by decide) fun ts hn h0 h1=>?_
 (repeat' (first
 | (with_reducible first|refine callX.by (v1) ?_|refine callX.by (v2) ?_|refine callX.by (w2) ?_|refine callX.by (w3) ?_|refine callX.by (w4) ?_|refine callX.by (w5) ?_|refine callX.by (w7) ?_|refine callX.by (w6) ?_|refine callX.by awake17_c ?_|refine callX.by (few4_c _ ?_ ?_) ?_|refine callX.by (goodN_c _ ?_ ?_ ?_) ?_|refine callX.by (goodS_c _ ?_ ?_ ?_ ?_) ?_|refine callX.by (goodE_c _ ?_ ?_ ?_) ?_|refine callX.by sm8gc ?_|refine callX.by (missing_c _ ?_ ?_) ?_|refine callX.by a6mc ?_|refine callX.by (newW_c _) ?_|refine callX.by (allP_c _ _ _ ?_ ?_ ?_ ?_ ?_ ?_) ?_|refine callX.by (tkind_c _ _ ?_) ?_|refine callX.by (reach_c _ ?_ ?_ ?_) ?_|refine callX.by a6rc ?_|refine callX.by (all4_c _ _ ?_ ?_) ?_|refine callX.by (shownC_c _ _ ?_ ?_) ?_|assumption|(refine Qw hK _ ?_; clear hK K)|refine Qw ‹_› _ ?_|refine Qx ‹_› ?_|refine Qi fun K hK=>?_|refine Qj T fun K hK=>?_|refine Qk (id:=10) T mixed Wd22 (by kernel_rfl) fun K hK=>?_|refine Qk (id:=17) T mixed Wd23 (by kernel_rfl) fun K hK=>?_|refine Qk (id:=23) T mixed Wd24 (by kernel_rfl) fun K hK=>?_|refine Qk (id:=27) T mixed Wd25 (by kernel_rfl) fun K hK=>?_|refine Ql fun A B hA hB=>?_|refine Qm ?_|refine Qn ?_|refine Qp ?_|refine Qr ?_)
 | ((with_reducible first|apply Qy|apply Qz|apply QA)<;>intro hb<;>try simp only [nr] at hb)
 | simp only [go_sem,↓reduceIte,reduceIte,Qa,Qh,Qb,Qc,Qd,Qe,Qf,Qg,reduceCtorEq, *,-hs,-hs2,-hre,-hre2,-v1,-v2,-w2,-w3,-w4,-w5,-w6,-w7,-hr0,List.length_nil,Int.lt_irrefl]
 | with_reducible refine fun (bn:Bool) hbn=>?_))
 refine Qs [0,1,5,7] (fun m ts'=>∃ (i:Nat),∃ (u:Nat),∃ (x:List Res),∃ (n:Nat),∃ (rd:Bool),m=X.length - i∧i≤X.length∧AtC [] a [] e x (X.drop i)∧ToldP a x n rd∧ts'.tmp 6=.ref 6 u 0∧ts'.gen 6=u∧ts'.obj 6=.box [.int .i64 64,.slice false (avs x),.bool rd,.slice false (avs (reachR x))]∧ts'.tmp 8=.int .i64 n∧ts'.tmp 9=.int .i64 i) X.length ?_ ?_
 ·refine ⟨0,ts.gen 6+1,[],0,false,rfl,Nat.zero_le _,hat,ToldP.start,?_⟩
  simp only [go_sem,↓reduceIte,reduceIte,Qa,Qh,Qb,Qc,Qd,Qe,Qf,Qg,reduceCtorEq, *,-hs,-hs2,-hre,-hre2,-v1,-v2,-w2,-w3,-w4,-w5,-w6,-w7,avs_nil]
  all_goals trace_state
 ·rintro m A hM ts' hk ⟨i,u,x,n,rd,hm,f1,f2,f3,s1,s2,s3,s4,s5⟩
  simp only [go_sem,↓reduceIte,reduceIte,Qa,Qh,Qb,Qc,Qd,Qe,Qf,Qg,reduceCtorEq, *] at hk
  by_cases hlt:i < X.length
  ·rw [List.drop_eq_getElem_cons hlt] at f2
   have hxl:x.length≤64:=by have:=f2.at'.len; omega
   obtain ⟨q1,q2⟩:=f2.step fa
   obtain ⟨q0,q3,q4⟩:=next_sub q1
   have xsm:=f2.at'.sm (by simp) hs
   have hrl:=reachR_len x
   have w8:=stepW_c 64 x rd (reachR x) X[i].adds X[i].gone (by omega) xsm (by unfold Small; omega) (fun r hr=>xsm r ((reachR_sub x).subset hr)) (by unfold Small; omega) (fun r hr=>hs r (q0.subset hr))
   rw [(f2.stepW fit_nil fa t0 ta hab0 (f3.ready fa)).1] at w8
   have hn1:n≤1:=by
    rcases f3 with ⟨_,h,_⟩|⟨_,h,_⟩
    ·omega
    ·rw [h]; split<;>omega
   rcases f3.step fa q1 with ⟨g1,g2⟩|⟨g1,g2,g3⟩
   ·simp only [decide_eq_true g1,Bool.not_true,Bool.or_false] at w8
    clear xsm hrl
    (repeat' (first
 | (with_reducible first|refine callX.by (w8) ?_|refine callX.by awake17_c ?_|refine callX.by (few4_c _ ?_ ?_) ?_|refine callX.by (goodN_c _ ?_ ?_ ?_) ?_|refine callX.by (goodS_c _ ?_ ?_ ?_ ?_) ?_|refine callX.by (goodE_c _ ?_ ?_ ?_) ?_|refine callX.by sm8gc ?_|refine callX.by (missing_c _ ?_ ?_) ?_|refine callX.by a6mc ?_|refine callX.by (newW_c _) ?_|refine callX.by (allP_c _ _ _ ?_ ?_ ?_ ?_ ?_ ?_) ?_|refine callX.by (tkind_c _ _ ?_) ?_|refine callX.by (reach_c _ ?_ ?_ ?_) ?_|refine callX.by a6rc ?_|refine callX.by (all4_c _ _ ?_ ?_) ?_|refine callX.by (shownC_c _ _ ?_ ?_) ?_|assumption|(refine Qw hK _ ?_; clear hK K)|refine Qw ‹_› _ ?_|refine Qx ‹_› ?_|refine Qi fun K hK=>?_|refine Qj T fun K hK=>?_|refine Qk (id:=10) T mixed Wd22 (by kernel_rfl) fun K hK=>?_|refine Qk (id:=17) T mixed Wd23 (by kernel_rfl) fun K hK=>?_|refine Qk (id:=23) T mixed Wd24 (by kernel_rfl) fun K hK=>?_|refine Qk (id:=27) T mixed Wd25 (by kernel_rfl) fun K hK=>?_|refine Ql fun A B hA hB=>?_|refine Qm ?_|refine Qn ?_|refine Qp ?_|refine Qr ?_)
 | ((with_reducible first|apply Qy|apply Qz|apply QA)<;>intro hb<;>try simp only [nr] at hb)
 | simp only [go_sem,↓reduceIte,reduceIte,Qa,Qh,Qb,Qc,Qd,Qe,Qf,Qg,reduceCtorEq, *,-hs,-hs2,-hre,-hre2,-v1,-v2,-w2,-w3,-w4,-w5,-w6,-w7,-w8,-q0,-q1,-q2,-f2,-f3,-g1,-g2,-hr0]
 | with_reducible refine fun (bn:Bool) hbn=>?_))
    all_goals ((repeat clear hK); (repeat clear hA); (repeat clear hB))
    all_goals (refine hM.on (X.length - (i+1)) (by omega) (by simp only [go_sem,↓reduceIte,reduceIte,Qa,Qh,Qb,Qc,Qd,Qe,Qf,Qg,reduceCtorEq, *,w64_nat hlt hXs,-hs,-hs2,-hre,-hre2,-v1,-v2,-w2,-w3,-w4,-w5,-w6,-w7,-w8,-q0,-q1,-q2,-f2,-f3,-g1,-g2,-hr0]) ⟨i+1,u,applyP x X[i],n,rd,rfl,by omega,q2,g2,?_⟩; simp only [go_sem,↓reduceIte,reduceIte,Qa,Qh,Qb,Qc,Qd,Qe,Qf,Qg,reduceCtorEq, *,w64_nat hlt hXs,-hs,-hs2,-hre,-hre2,-v1,-v2,-w2,-w3,-w4,-w5,-w6,-w7,-w8,-q0,-q1,-q2,-f2,-f3,-g1,-g2,-hr0]; done)
   ·simp only [decide_eq_false g1,Bool.not_false,Bool.or_true] at w8
    subst g3
    have hq1:IntKind.i64.wrap ((0:Int)+1)=((1:Nat):Int):=by decide
    clear xsm hrl
    (repeat' (first
 | (with_reducible first|refine callX.by (w8) ?_|refine callX.by awake17_c ?_|refine callX.by (few4_c _ ?_ ?_) ?_|refine callX.by (goodN_c _ ?_ ?_ ?_) ?_|refine callX.by (goodS_c _ ?_ ?_ ?_ ?_) ?_|refine callX.by (goodE_c _ ?_ ?_ ?_) ?_|refine callX.by sm8gc ?_|refine callX.by (missing_c _ ?_ ?_) ?_|refine callX.by a6mc ?_|refine callX.by (newW_c _) ?_|refine callX.by (allP_c _ _ _ ?_ ?_ ?_ ?_ ?_ ?_) ?_|refine callX.by (tkind_c _ _ ?_) ?_|refine callX.by (reach_c _ ?_ ?_ ?_) ?_|refine callX.by a6rc ?_|refine callX.by (all4_c _ _ ?_ ?_) ?_|refine callX.by (shownC_c _ _ ?_ ?_) ?_|assumption|(refine Qw hK _ ?_; clear hK K)|refine Qw ‹_› _ ?_|refine Qx ‹_› ?_|refine Qi fun K hK=>?_|refine Qj T fun K hK=>?_|refine Qk (id:=10) T mixed Wd22 (by kernel_rfl) fun K hK=>?_|refine Qk (id:=17) T mixed Wd23 (by kernel_rfl) fun K hK=>?_|refine Qk (id:=23) T mixed Wd24 (by kernel_rfl) fun K hK=>?_|refine Qk (id:=27) T mixed Wd25 (by kernel_rfl) fun K hK=>?_|refine Ql fun A B hA hB=>?_|refine Qm ?_|refine Qn ?_|refine Qp ?_|refine Qr ?_)
 | ((with_reducible first|apply Qy|apply Qz|apply QA)<;>intro hb<;>try simp only [nr] at hb)
 | simp only [go_sem,↓reduceIte,reduceIte,Qa,Qh,Qb,Qc,Qd,Qe,Qf,Qg,reduceCtorEq, *,-hs,-hs2,-hre,-hre2,-v1,-v2,-w2,-w3,-w4,-w5,-w6,-w7,-w8,-q0,-q1,-q2,-f2,-f3,-g1,-g2,-hr0]
 | with_reducible refine fun (bn:Bool) hbn=>?_))
    all_goals ((repeat clear hK); (repeat clear hA); (repeat clear hB))
    all_goals (refine hM.on (X.length - (i+1)) (by omega) (by simp only [go_sem,↓reduceIte,reduceIte,Qa,Qh,Qb,Qc,Qd,Qe,Qf,Qg,reduceCtorEq, *,w64_nat hlt hXs,-hs,-hs2,-hre,-hre2,-v1,-v2,-w2,-w3,-w4,-w5,-w6,-w7,-w8,-q0,-q1,-q2,-f2,-f3,-g1,-g2,-hr0]) ⟨i+1,u,applyP x X[i],1,true,rfl,by omega,q2,g2,?_⟩; simp only [go_sem,↓reduceIte,reduceIte,Qa,Qh,Qb,Qc,Qd,Qe,Qf,Qg,reduceCtorEq, *,w64_nat hlt hXs,-hs,-hs2,-hre,-hre2,-v1,-v2,-w2,-w3,-w4,-w5,-w6,-w7,-w8,-q0,-q1,-q2,-f2,-f3,-g1,-g2,-hr0]; done)
  ·rw [List.drop_eq_nil_of_le (by omega)] at f2
   obtain ⟨e0,hno⟩:=f2.at'.stop
   have ea:x=a:=end_eq f2.at'.up fa.up (f2.at'.kin kin_nil fa.kin) fa.kin fa.miss (by rw [e0] at hno ⊢; exact hno)
   clear f2 e0 hno hat
   subst ea
   obtain ⟨k1,k2⟩:=f3.fin
   have hrl:=reachR_len x
   have hk:(n=0∧rd=false∧¬ (0:Int) < ((tkind x 0).length:Int))∨(n=1∧rd=true∧(0:Int) < ((tkind x 0).length:Int)):=by
    by_cases hb:reachR x=[]
    ·rw [if_pos hb] at k1
     rw [decide_eq_true hb] at k2
     exact .inl ⟨k1,k2,by rw [(reach_nil_iff fa.up).1 hb]; simp⟩
    ·rw [if_neg hb] at k1
     rw [decide_eq_false hb] at k2
     have:=List.length_pos_iff.2 (fun h=>hb ((reach_nil_iff fa.up).2 h))
     exact .inr ⟨k1,k2,by omega⟩
   have hrd:rd=true∨reachR x=[]:=f3.ready fa
   have w8:=(tkind_c x 0 hl).frz
   have w9:=CallR.frz hre
   have w10:=all4_c (reachR x) (reachR x) (by unfold Small; omega) (fun r hr=>hs r ((reachR_sub x).subset hr))
   rw [decide_eq_true rfl] at w10
   have w11:CallR Tryz.prog 34 [.slice false (avs x),.slice false (avs b),.slice false []] (.val (.slice false (avs (runP b [] 400 x)))):=(allP_c x b [] hl80 ha80 hs hs2 (by simp [Small]) hre2).frz
   obtain ⟨e2,hat2,hYl⟩:=AtC.start (H:=[]) fa fb hab
   generalize runP b [] 400 x=Y at *
   generalize tkind x 0=Tk at *
   have hYs:Small Y.length:=by unfold Small; omega
   clear k1 k2 f3 hrl
   have h01:¬ (0:Int)=1:=by decide
   have h10:¬ (1:Int) < 0:=by decide
   rcases hk with ⟨k1,k2,k3⟩|⟨k1,k2,k3⟩
   all_goals
    subst k1
    (repeat' (first
 | (with_reducible first|refine callX.by (w8) ?_|refine callX.by (w9) ?_|refine callX.by (w10) ?_|refine callX.by (w11) ?_|refine callX.by awake17_c ?_|refine callX.by (few4_c _ ?_ ?_) ?_|refine callX.by (goodN_c _ ?_ ?_ ?_) ?_|refine callX.by (goodS_c _ ?_ ?_ ?_ ?_) ?_|refine callX.by (goodE_c _ ?_ ?_ ?_) ?_|refine callX.by sm8gc ?_|refine callX.by (missing_c _ ?_ ?_) ?_|refine callX.by a6mc ?_|refine callX.by (newW_c _) ?_|refine callX.by (allP_c _ _ _ ?_ ?_ ?_ ?_ ?_ ?_) ?_|refine callX.by (tkind_c _ _ ?_) ?_|refine callX.by (reach_c _ ?_ ?_ ?_) ?_|refine callX.by a6rc ?_|refine callX.by (all4_c _ _ ?_ ?_) ?_|refine callX.by (shownC_c _ _ ?_ ?_) ?_|assumption|(refine Qw hK _ ?_; clear hK K)|refine Qw ‹_› _ ?_|refine Qx ‹_› ?_|refine Qi fun K hK=>?_|refine Qj T fun K hK=>?_|refine Qk (id:=10) T mixed Wd22 (by kernel_rfl) fun K hK=>?_|refine Qk (id:=17) T mixed Wd23 (by kernel_rfl) fun K hK=>?_|refine Qk (id:=23) T mixed Wd24 (by kernel_rfl) fun K hK=>?_|refine Qk (id:=27) T mixed Wd25 (by kernel_rfl) fun K hK=>?_|refine Ql fun A B hA hB=>?_|refine Qm ?_|refine Qn ?_|refine Qp ?_|refine Qr ?_)
 | ((with_reducible first|apply Qy|apply Qz|apply QA)<;>intro hb<;>try simp only [nr] at hb)
 | simp only [go_sem,↓reduceIte,reduceIte,Qa,Qh,Qb,Qc,Qd,Qe,Qf,Qg,reduceCtorEq, *,-hs,-hs2,-hre,-hre2,-v1,-v2,-w2,-w3,-w4,-w5,-w6,-w7,-w8,-w9,-w10,-w11,-hr0,-hrd,decide_false]
 | with_reducible refine fun (bn:Bool) hbn=>?_))
    clear hM hm
    refine Qs [1,5,14] (fun m ts'=>∃ (j:Nat),∃ (u2:Nat),∃ (y:List Res),∃ (rd2:Bool),m=Y.length - j∧j≤Y.length∧AtC x b [] e2 y (Y.drop j)∧(rd2=true∨reachR y=[])∧ts'.tmp 6=.ref 6 u2 0∧ts'.gen 6=u2∧ts'.obj 6=.box [.int .i64 64,.slice false (avs y),.bool rd2,.slice false (avs (reachR y))]∧ts'.tmp 15=.int .i64 j) Y.length ?_ ?_
    ·refine ⟨0,u,x,rd,rfl,Nat.zero_le _,hat2,hrd,?_⟩
     simp only [go_sem,↓reduceIte,reduceIte,Qa,Qh,Qb,Qc,Qd,Qe,Qf,Qg,reduceCtorEq, *,-hs,-hs2,-hre,-hre2,-v1,-v2,-w2,-w3,-w4,-w5,-w6,-w7,-w8,-w9,-w10,-w11,-hr0,-hrd]
    ·rintro m A hM ts' hk ⟨j,u2,y,rd2,hm,f1,f2,f3,s1,s2,s3,s4⟩
     simp only [go_sem,↓reduceIte,reduceIte,Qa,Qh,Qb,Qc,Qd,Qe,Qf,Qg,reduceCtorEq, *] at hk
     clear hrd k2 k3 w8 w9 w10 w11
     by_cases hlt2:j < Y.length
     ·rw [List.drop_eq_getElem_cons hlt2] at f2
      have hyl:y.length≤64:=by have:=f2.at'.len; omega
      obtain ⟨q1,q2⟩:=f2.step fb
      obtain ⟨q0,q3,q4⟩:=next_sub q1
      have ysm:=f2.at'.sm hs hs2
      have hrl:=reachR_len y
      have w8:=stepW_c 64 y rd2 (reachR y) Y[j].adds Y[j].gone (by omega) ysm (by unfold Small; omega) (fun r hr=>ysm r ((reachR_sub y).subset hr)) (by unfold Small; omega) (fun r hr=>hs2 r (q0.subset hr))
      rw [(f2.stepW fa fb ta tb hab f3).1] at w8
      have g3:=(f2.stepW fa fb ta tb hab f3).2
      have hok:=mustE_iff.1 (q2.ok fa fb ta tb hab)
      have ysm2:=q2.at'.sm hs hs2
      have hy2:=tsane_len hok.1
      have hrl2:=reachR_len (applyP y Y[j])
      have w9:=goodE_c (reachR (applyP y Y[j])) (by omega) (fun r hr=>ysm2 r ((reachR_sub _).subset hr)) (fun h=>(conf_of h).nodup)
      rw [good_reach_good hok.1 hok.2.2] at w9
      simp only at w8
      generalize (rd2 || !decide (reachR (applyP y Y[j])=reachR y))=rd3 at *
      generalize (!decide (reachR (applyP y Y[j])=reachR y))=ch at *
      clear ysm ysm2 hrl hok hrl2 f3
      (repeat' (first
 | (with_reducible first|refine callX.by (w8) ?_|refine callX.by (w9) ?_|refine callX.by awake17_c ?_|refine callX.by (few4_c _ ?_ ?_) ?_|refine callX.by (goodN_c _ ?_ ?_ ?_) ?_|refine callX.by (goodS_c _ ?_ ?_ ?_ ?_) ?_|refine callX.by (goodE_c _ ?_ ?_ ?_) ?_|refine callX.by sm8gc ?_|refine callX.by (missing_c _ ?_ ?_) ?_|refine callX.by a6mc ?_|refine callX.by (newW_c _) ?_|refine callX.by (allP_c _ _ _ ?_ ?_ ?_ ?_ ?_ ?_) ?_|refine callX.by (tkind_c _ _ ?_) ?_|refine callX.by (reach_c _ ?_ ?_ ?_) ?_|refine callX.by a6rc ?_|refine callX.by (all4_c _ _ ?_ ?_) ?_|refine callX.by (shownC_c _ _ ?_ ?_) ?_|assumption|(refine Qw hK _ ?_; clear hK K)|refine Qw ‹_› _ ?_|refine Qx ‹_› ?_|refine Qi fun K hK=>?_|refine Qj T fun K hK=>?_|refine Qk (id:=10) T mixed Wd22 (by kernel_rfl) fun K hK=>?_|refine Qk (id:=17) T mixed Wd23 (by kernel_rfl) fun K hK=>?_|refine Qk (id:=23) T mixed Wd24 (by kernel_rfl) fun K hK=>?_|refine Qk (id:=27) T mixed Wd25 (by kernel_rfl) fun K hK=>?_|refine Ql fun A B hA hB=>?_|refine Qm ?_|refine Qn ?_|refine Qp ?_|refine Qr ?_)
 | ((with_reducible first|apply Qy|apply Qz|apply QA)<;>intro hb<;>try simp only [nr] at hb)
 | simp only [go_sem,↓reduceIte,reduceIte,Qa,Qh,Qb,Qc,Qd,Qe,Qf,Qg,reduceCtorEq, *,-hs,-hs2,-hre,-hre2,-v1,-v2,-w2,-w3,-w4,-w5,-w6,-w7,-w8,-w9,-q0,-q1,-q2,-f2,-g3,-hr0]
 | with_reducible refine fun (bn:Bool) hbn=>?_))
      all_goals ((repeat clear hK); (repeat clear hA); (repeat clear hB))
      all_goals (refine hM.on (Y.length - (j+1)) (by omega) (by simp only [go_sem,↓reduceIte,reduceIte,Qa,Qh,Qb,Qc,Qd,Qe,Qf,Qg,reduceCtorEq, *,w64_nat hlt2 hYs,-hs,-hs2,-hre,-hre2,-v1,-v2,-w2,-w3,-w4,-w5,-w6,-w7,-w8,-w9,-q0,-q1,-q2,-f2,-g3,-hr0]) ⟨j+1,u2,applyP y Y[j],rd3,rfl,by omega,q2,g3,?_⟩; simp only [go_sem,↓reduceIte,reduceIte,Qa,Qh,Qb,Qc,Qd,Qe,Qf,Qg,reduceCtorEq, *,w64_nat hlt2 hYs,-hs,-hs2,-hre,-hre2,-v1,-v2,-w2,-w3,-w4,-w5,-w6,-w7,-w8,-w9,-q0,-q1,-q2,-f2,-g3,-hr0]; done)
     ·rw [List.drop_eq_nil_of_le (by omega)] at f2
      obtain ⟨e0,hno⟩:=f2.at'.stop
      have eb:y=b:=end_eq f2.at'.up fb.up (f2.at'.kin fa.kin fb.kin) fb.kin fb.miss (by rw [e0] at hno ⊢; exact hno)
      have hsy:=f2.sane fa fb ta tb hab
      clear f2 e0 hno hat2 f3
      subst eb
      have hrl:=reachR_len y
      have w8:=CallR.frz hre2
      have w9:=all4_c (reachR y) (reachR y) (by unfold Small; omega) (fun r hr=>hs2 r ((reachR_sub y).subset hr))
      rw [decide_eq_true rfl] at w9
      have w10:=(shownC_c 64 y (by omega) hs2).frz
      rw [shownC_sane hsy] at w10
      (repeat' (first
 | (with_reducible first|refine callX.by (w8) ?_|refine callX.by (w9) ?_|refine callX.by (w10) ?_|refine callX.by awake17_c ?_|refine callX.by (few4_c _ ?_ ?_) ?_|refine callX.by (goodN_c _ ?_ ?_ ?_) ?_|refine callX.by (goodS_c _ ?_ ?_ ?_ ?_) ?_|refine callX.by (goodE_c _ ?_ ?_ ?_) ?_|refine callX.by sm8gc ?_|refine callX.by (missing_c _ ?_ ?_) ?_|refine callX.by a6mc ?_|refine callX.by (newW_c _) ?_|refine callX.by (allP_c _ _ _ ?_ ?_ ?_ ?_ ?_ ?_) ?_|refine callX.by (tkind_c _ _ ?_) ?_|refine callX.by (reach_c _ ?_ ?_ ?_) ?_|refine callX.by a6rc ?_|refine callX.by (all4_c _ _ ?_ ?_) ?_|refine callX.by (shownC_c _ _ ?_ ?_) ?_|assumption|(refine Qw hK _ ?_; clear hK K)|refine Qw ‹_› _ ?_|refine Qx ‹_› ?_|refine Qi fun K hK=>?_|refine Qj T fun K hK=>?_|refine Qk (id:=10) T mixed Wd22 (by kernel_rfl) fun K hK=>?_|refine Qk (id:=17) T mixed Wd23 (by kernel_rfl) fun K hK=>?_|refine Qk (id:=23) T mixed Wd24 (by kernel_rfl) fun K hK=>?_|refine Qk (id:=27) T mixed Wd25 (by kernel_rfl) fun K hK=>?_|refine Ql fun A B hA hB=>?_|refine Qm ?_|refine Qn ?_|refine Qp ?_|refine Qr ?_)
 | ((with_reducible first|apply Qy|apply Qz|apply QA)<;>intro hb<;>try simp only [nr] at hb)
 | simp only [go_sem,↓reduceIte,reduceIte,Qa,Qh,Qb,Qc,Qd,Qe,Qf,Qg,reduceCtorEq, *,-hs,-hs2,-hre,-hre2,-v1,-v2,-w2,-w3,-w4,-w5,-w6,-w7,-w8,-w9,-w10,-hr0,-hsy]
 | with_reducible refine fun (bn:Bool) hbn=>?_))
      all_goals ((repeat clear hK); (repeat clear hA); (repeat clear hB))
      all_goals trace_state
end Go.Proofs.YtmjkjmoeicnbnaaGreatDoor.Lg
