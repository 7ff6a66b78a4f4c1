/- Parts of the proof, one behind the other. -/
import Derived.Test.YtmjkjmoeicnbnaaGreatDoorG15
namespace Go.Proofs.YtmjkjmoeicnbnaaGreatDoor.Lg
set_option maxRecDepth 100000
set_option linter.unusedVariables false
set_option linter.unusedSimpArgs false
open Go
open Nat renaming reduceEqDiff → Qa, reduceLT → Qb, reduceLeDiff → Qc, reduceAdd → Qd, reduceMul → Qe, reduceSub → Qf, reduceBEq → Qg
open String renaming reduceEq → Qh
@[go_sem] def Wd12:List (List Nat×List Nat):=[([16],[17,19,20]),([17],[16,19,20]),([19],[16,17]),([20],[16,17]),([21,7],[]),([18],[23]),([22],[23]),([23],[18,22])]
instance:Dat (List Key) where
 av l:=.slice false (avs l)
 sz:=1
 len _:=rfl
 pure l:=by simp only [go_sem]
 nrm l:=by simp only [go_sem]
 one _:=rfl
 known _:=rfl
theorem av_keys (l:List Key):Dat.av l=.slice false (avs l):=rfl
section
variable {α β:Type}
theorem mks_snoc [Dat α] (M:List (α × β)) (p:α × β):mks (M++[p])=mks M++[Dat.av p.1]:=by simp [mks,avs]
theorem mvs_snoc [Dat β] (M:List (α × β)) (p:α × β):mvs (M++[p])=mvs M++[Dat.av p.2]:=by simp [mvs,avs]
theorem set_snoc {γ:Type} (l:List γ) (x y:γ) (n:Nat) (h:n=l.length):(l++[x]).set n y=l++[y]:=by subst h; simp
end
def namesM (l:List Res):List (Key × List Key):=l.map fun r=>(keyOf r,refsR r)
set_option maxHeartbeats 4000000 in
theorem rnames_c (xs:List Res) (hl:xs.length≤65536) (hs:∀ r∈xs,SmRes r) (hnd:(xs.map keyOf).Nodup):CallR Tryz.prog 138 [.slice false (avs xs)] (.val (.mp (mks (namesM xs)) (mvs (namesM xs)))):=by
 have hsl:=small_le hl
 refine CallR.go1 (T:=T) Tryz.call138 Tryz.func138 rfl Tryz.ntmps138 (congrArg Array.toList Tryz.results138) (by decide) fun ts hn h0=>?_
 (repeat' (first
 | (with_reducible first|refine callX.by (rkey_c _ _ _ _ _ _ _) ?_|refine callX.by (refsR_c _ _ _ _ _ _ _ ?_ ?_ ?_) ?_|refine callX.by awqc ?_|assumption|(refine NxK.out hK _ ?_; clear hK K)|refine NxK.out ‹_› _ ?_|refine Nx.out ‹_› ?_|refine SpecC.seqW fun K hK=>?_|refine SpecC.regW T fun K hK=>?_|refine SpecC.drawW (id:=6) T mixed Wd12 (by kernel_rfl) fun K hK=>?_|refine SpecC.condW fun A B hA hB=>?_|refine SpecC.block ?_|refine SpecC.skip ?_|refine SpecC.exit ?_|refine SpecC.ret ?_)
 | ((with_reducible first|apply condK.split|apply gK.split_t|apply gK.split_f)<;>intro hb<;>try simp only [nr] at hb)
 | simp only [go_sem,↓reduceIte,reduceIte,Qa,Qh,Qb,Qc,Qd,Qe,Qf,Qg,reduceCtorEq, *,-hs,-hnd]
 | with_reducible refine fun (bn:Bool) hbn=>?_))
 refine SpecC.loopF [8,9] (fun m ts'=>∃ (i:Nat),∃ (g:Nat),m=xs.length - i∧i≤xs.length∧ts'.tmp 3=.mref 7 g∧ts'.gen 7=g∧ts'.obj 7=.mp (mks (namesM (xs.take i))) (mvs (namesM (xs.take i)))∧ts'.tmp 10=.int .i64 i) xs.length ?_ ?_
 ·refine ⟨0,ts.gen 7+1,rfl,Nat.zero_le _,?_⟩
  simp only [go_sem,↓reduceIte,reduceIte,Qa,Qh,Qb,Qc,Qd,Qe,Qf,Qg,reduceCtorEq, *,-hs,-hnd,show namesM []=[] from rfl]
 ·rintro m A hM ts' hk ⟨i,g,hm,f1,s1,s2,s3,s4⟩
  simp only [go_sem,↓reduceIte,reduceIte,Qa,Qh,Qb,Qc,Qd,Qe,Qf,Qg,reduceCtorEq, *] at hk
  by_cases hlt:i < xs.length
  ·obtain ⟨_,_,hx1,hx2,hx3⟩:=hs _ (List.getElem_mem hlt)
   have hrl:=refs_len xs[i]
   have hrs:Small (refsR xs[i]).length:=by unfold Small; omega
   have hr1:Room (refsR xs[i]).length 24:=room_big (by omega) (by decide)
   have hix:ixOf ⟨xs[i].kind,xs[i].name⟩ (namesM (xs.take i))=none:=by
    refine mget_ix_none (mget_none_iff.2 fun p hp he=>?_)
    obtain ⟨r,hr,rfl⟩:=List.mem_map.1 hp
    obtain ⟨j,hj,rfl⟩:=List.getElem_of_mem hr
    simp only [List.length_take] at hj
    rw [List.getElem_take] at he
    have:=(List.pairwise_iff_getElem.1 hnd) j i (by simp; omega) (by simpa using hlt) (by omega)
    exact this (by simpa [keyOf] using he)
   have hnl:(namesM (xs.take i)).length=i:=by simp [namesM]; omega
   have e:namesM (xs.take (i+1))=namesM (xs.take i)++[(keyOf xs[i],refsR xs[i])]:=by
    unfold namesM
    rw [List.take_succ_eq_append_getElem hlt,List.map_append]; rfl
   (repeat' (first
 | (with_reducible first|refine callX.by (rkey_c _ _ _ _ _ _ _) ?_|refine callX.by (refsR_c _ _ _ _ _ _ _ ?_ ?_ ?_) ?_|refine callX.by awqc ?_|assumption|(refine NxK.out hK _ ?_; clear hK K)|refine NxK.out ‹_› _ ?_|refine Nx.out ‹_› ?_|refine SpecC.seqW fun K hK=>?_|refine SpecC.regW T fun K hK=>?_|refine SpecC.drawW (id:=6) T mixed Wd12 (by kernel_rfl) fun K hK=>?_|refine SpecC.condW fun A B hA hB=>?_|refine SpecC.block ?_|refine SpecC.skip ?_|refine SpecC.exit ?_|refine SpecC.ret ?_)
 | ((with_reducible first|apply condK.split|apply gK.split_t|apply gK.split_f)<;>intro hb<;>try simp only [nr] at hb)
 | simp only [go_sem,↓reduceIte,reduceIte,Qa,Qh,Qb,Qc,Qd,Qe,Qf,Qg,reduceCtorEq, *,-hs,-hnd,-hx2,-e]
 | with_reducible refine fun (bn:Bool) hbn=>?_))
   all_goals ((repeat clear hK); (repeat clear hA); (repeat clear hB))
   have hvl:(mvs (namesM (xs.take i))).length=i:=by rw [len_mvs,hnl]
   have hset:∀ y x:AV,(mvs (namesM (xs.take i))++[y]).set i x=mvs (namesM (xs.take i))++[x]:=fun y x=>set_snoc _ _ _ _ hvl.symm
   have hgd:∀ x:AV,(mvs (namesM (xs.take i))++[x]).getD i .any=x:=fun x=>by simp [List.getD_eq_getElem?_getD,hvl]
   have ek:mks (namesM (xs.take i))++[.agg [.int .i64 xs[i].kind,.str xs[i].name]]=mks (namesM (xs.take (i+1))):=by rw [e,mks_snoc]; rfl
   have ev:mvs (namesM (xs.take i))++[.slice false (avs (refsR xs[i]))]=mvs (namesM (xs.take (i+1))):=by rw [e,mvs_snoc]; rfl
   (refine hM.onE (xs.length - (i+1)) (Ent.frzM2 7 (i) 22 ?_) ?_ ?_ ?_; (focus (simp only [go_sem,↓reduceIte,reduceIte,Qa,Qh,Qb,Qc,Qd,Qe,Qf,Qg,reduceCtorEq, *,w64_nat hlt hsl,-hs,-hnd,-hx2,-e]; first|done|rfl)); omega; (focus (simp only [go_sem,↓reduceIte,reduceIte,Qa,Qh,Qb,Qc,Qd,Qe,Qf,Qg,reduceCtorEq, *,w64_nat hlt hsl,-hs,-hnd,-hx2,-e]; done)); refine ⟨i+1,g,rfl,by omega,?_⟩; simp only [go_sem,↓reduceIte,reduceIte,Qa,Qh,Qb,Qc,Qd,Qe,Qf,Qg,reduceCtorEq, *,w64_nat hlt hsl,-hs,-hnd,-hx2,-e]; done)
  ·have e:xs.take i=xs:=List.take_of_length_le (by omega)
   (repeat' (first
 | (with_reducible first|refine callX.by (rkey_c _ _ _ _ _ _ _) ?_|refine callX.by (refsR_c _ _ _ _ _ _ _ ?_ ?_ ?_) ?_|refine callX.by awqc ?_|assumption|(refine NxK.out hK _ ?_; clear hK K)|refine NxK.out ‹_› _ ?_|refine Nx.out ‹_› ?_|refine SpecC.seqW fun K hK=>?_|refine SpecC.regW T fun K hK=>?_|refine SpecC.drawW (id:=6) T mixed Wd12 (by kernel_rfl) fun K hK=>?_|refine SpecC.condW fun A B hA hB=>?_|refine SpecC.block ?_|refine SpecC.skip ?_|refine SpecC.exit ?_|refine SpecC.ret ?_)
 | ((with_reducible first|apply condK.split|apply gK.split_t|apply gK.split_f)<;>intro hb<;>try simp only [nr] at hb)
 | simp only [go_sem,↓reduceIte,reduceIte,Qa,Qh,Qb,Qc,Qd,Qe,Qf,Qg,reduceCtorEq, *,-hs,-hnd]
 | with_reducible refine fun (bn:Bool) hbn=>?_))
end Go.Proofs.YtmjkjmoeicnbnaaGreatDoor.Lg
namespace Go.Proofs.YtmjkjmoeicnbnaaGreatDoor.Lg
set_option maxRecDepth 100000
set_option linter.unusedVariables false
set_option linter.unusedSimpArgs false
open Go
open Nat renaming reduceEqDiff → Qa, reduceLT → Qb, reduceLeDiff → Qc, reduceAdd → Qd, reduceMul → Qe, reduceSub → Qf, reduceBEq → Qg
open String renaming reduceEq → Qh
open SpecC renaming seqW → Qi, regW → Qj, drawW → Qk, condW → Ql, block → Qm, skip → Qn, exit → Qp, ret → Qr, loopF → Qs
open NxK renaming out → Qw
open Nx renaming out → Qx
open condK renaming split → Qy
open gK renaming split_t → Qz, split_f → QA
open CallR renaming go1 → QD
@[go_sem] def Wd13:List (List Nat×List Nat):=[([24],[25,26]),([25],[24]),([26],[24])]
abbrev KS:=List (Key × Bool)
def isIn (M:KS) (k:Key):Bool:=(mget M k).getD false
def visF (T0:KS) (N:List (Key × List Key)):Nat→Key→KS→KS
 | 0,_,M=>M
 | n+1,k,M=>if isIn T0 k=true∧isIn M k=false then ((mget N k).getD []).foldl (fun M x=>visF T0 N n x M) (mput M k true) else M
def muV (T0 M:KS):Nat:=(T0.filter fun p=>p.2 && !isIn M p.1).length
theorem isIn_put (M:KS) (k x:Key):isIn (mput M k true) x=(decide (x=k) || isIn M x):=by
 unfold isIn
 rw [mget_mput]
 by_cases h:x=k<;>simp [h]
theorem visF_grow (T0:KS) (N:List (Key × List Key)):∀ (n:Nat) (k:Key) (M:KS) (x:Key),isIn M x=true→isIn (visF T0 N n k M) x=true
 | 0,_,_,_,h=>h
 | n+1,k,M,x,h=>by
  unfold visF
  split
  ·have:∀ (l:List Key) (M:KS),isIn M x=true→isIn (l.foldl (fun M y=>visF T0 N n y M) M) x=true:=by
    intro l
    induction l with
    | nil=>exact fun M h=>h
    | cons y l ih=>exact fun M h=>ih _ (visF_grow T0 N n y M x h)
   exact this _ _ (by rw [isIn_put]; simp [h])
  ·exact h
theorem mu_le {T0 M M':KS} (h:∀ x,isIn M x=true→isIn M' x=true):muV T0 M'≤muV T0 M:=by
 unfold muV
 rw [← List.countP_eq_length_filter,← List.countP_eq_length_filter]
 refine List.countP_mono_left fun p _ hp=>?_
 simp only [Bool.and_eq_true,Bool.not_eq_true'] at hp ⊢
 refine ⟨hp.1,?_⟩
 cases hm:isIn M p.1 with
 | false=>rfl
 | true=>rw [h _ hm] at hp; simp at hp
theorem mget_mem {α β:Type} [DecidableEq α] {M:List (α × β)} {x:α} {v:β} (h:mget M x=some v):(x,v)∈M:=by
 unfold mget at h
 obtain ⟨p,h1,h2⟩:=Option.map_eq_some_iff.1 h
 have h3:=List.find?_some h1
 have h4:=List.mem_of_find?_eq_some h1
 have:p.1=x:=by simpa using (of_decide_eq_true h3).symm
 rw [← this,← h2]; exact h4
theorem isIn_mem {M:KS} {k:Key} (h:isIn M k=true):(k,true)∈M:=by
 unfold isIn at h
 cases hm:mget M k with
 | none=>rw [hm] at h; simp at h
 | some b=>rw [hm] at h; simp at h; subst h; exact mget_mem hm
theorem mu_lt {T0 M:KS} {k:Key} (h1:isIn T0 k=true) (h2:isIn M k=false):muV T0 (mput M k true) < muV T0 M:=by
 have hm:=isIn_mem h1
 unfold muV
 have key:∀ (l:KS),(l.filter fun p=>p.2 && !isIn (mput M k true) p.1).length≤(l.filter fun p=>p.2 && !isIn M p.1).length∧((k,true)∈l→(l.filter fun p=>p.2 && !isIn (mput M k true) p.1).length < (l.filter fun p=>p.2 && !isIn M p.1).length):=by
  intro l
  induction l with
  | nil=>simp
  | cons p l ih =>
   obtain ⟨i1,i2⟩:=ih
   have hp:(p.2 && !isIn (mput M k true) p.1)=true→(p.2 && !isIn M p.1)=true:=by
    rw [isIn_put]
    simp only [Bool.and_eq_true,Bool.not_eq_true',Bool.or_eq_false_iff]
    exact fun ⟨a,_,b⟩=>⟨a,b⟩
   refine ⟨?_,fun hmem=>?_⟩
   ·rw [List.filter_cons,List.filter_cons]
    by_cases q1:(p.2 && !isIn (mput M k true) p.1)=true
    ·rw [if_pos q1,if_pos (hp q1)]; simp; exact i1
    ·rw [if_neg q1]
     split
     ·simp; omega
     ·exact i1
   ·rw [List.filter_cons,List.filter_cons]
    rcases List.mem_cons.1 hmem with rfl|hmem
    ·rw [if_neg (by rw [isIn_put]; simp),if_pos (by simp [h2])]
     simp; omega
    ·have:=i2 hmem
     by_cases q1:(p.2 && !isIn (mput M k true) p.1)=true
     ·rw [if_pos q1,if_pos (hp q1)]; simp; exact this
     ·rw [if_neg q1]
      split
      ·simp; omega
      ·exact this
 exact (key T0).2 hm
theorem look_keys {N:List (Key × List Key)} {k:Key} {v:List Key} (h:mget N k=some v) (z:AV):lookA false z (mvs N) (ixOf k N)=.slice false (avs v):=by
 cases hi:ixOf k N with
 | none=>rw [ix_none hi] at h; cases h
 | some i =>
  obtain ⟨h1,h2⟩:=ix_get hi
  rw [h2] at h
  cases h
  show (mvs N).getD i .any=_
  unfold mvs
  rw [avs_get _ i (by simpa using h1)]
  simp [av_keys]
set_option maxHeartbeats 4000000 in
theorem visit_c (T0:KS) (N:List (Key × List Key)) (hTN:∀ k,isIn T0 k=true→∃ ks,mget N k=some ks∧Small ks.length):∀ (n:Nat) (k_kind:Int) (k_name:List UInt8) (M:KS),muV T0 M≤n →
  CallH Tryz.prog 139 1000 [.agg [.int .i64 k_kind,.str k_name],.ro [.mp (mks T0) (mvs T0)],.ro [.mref 1000 0],.ro [.mp (mks N) (mvs N)],recV 139 (.ro [.mp (mks T0) (mvs T0)]) (.ro [.mref 1000 0]) (.ro [.mp (mks N) (mvs N)]) n] (mks M) (mvs M) (.tup [])
   (mks (visF T0 N n (⟨k_kind,k_name⟩:Key) M)) (mvs (visF T0 N n (⟨k_kind,k_name⟩:Key) M)):=by
 intro n
 induction n with
 | zero =>
  intro k_kind k_name M hmu
  have hno:¬ (isIn T0 (⟨k_kind,k_name⟩:Key)=true∧isIn M (⟨k_kind,k_name⟩:Key)=false):=fun ⟨h1,h2⟩=>by have:=mu_lt h1 h2; omega
  have e:visF T0 N 0 (⟨k_kind,k_name⟩:Key) M=M:=rfl
  rw [e]
  refine CallH.go5 (T:=T) Tryz.call139 Tryz.func139 rfl Tryz.ntmps139 (congrArg Array.toList Tryz.results139) (by decide) fun ts hn h0 h1 h2 h3 h4 hg ho=>?_
  by_cases hT:(mget T0 (⟨k_kind,k_name⟩:Key)).getD false=true
  ·have hO:(mget M (⟨k_kind,k_name⟩:Key)).getD false=true:=by
    cases hm:(mget M (⟨k_kind,k_name⟩:Key)).getD false with
    | true=>rfl
    | false=>exact absurd ⟨hT,hm⟩ hno
   (repeat' (first
 | (with_reducible first|assumption|(refine Qw hK _ ?_; clear hK K)|refine Qw ‹_› _ ?_|refine Qx ‹_› ?_|refine Qi fun K hK=>?_|refine Qj T fun K hK=>?_|refine Ql fun A B hA hB=>?_|refine Qm ?_|refine Qn ?_|refine Qp ?_|refine Qr ?_)
 | ((with_reducible first|apply Qy|apply Qz|apply QA)<;>intro hb<;>try simp only [nr] at hb)
 | simp only [go_sem,↓reduceIte,reduceIte,Qa,Qh,Qb,Qc,Qd,Qe,Qf,Qg,reduceCtorEq, *,-hTN,-hno,-h4]
 | with_reducible refine fun (bn:Bool) hbn=>?_))
  ·have hT:(mget T0 (⟨k_kind,k_name⟩:Key)).getD false=false:=by simpa using hT
   (repeat' (first
 | (with_reducible first|assumption|(refine Qw hK _ ?_; clear hK K)|refine Qw ‹_› _ ?_|refine Qx ‹_› ?_|refine Qi fun K hK=>?_|refine Qj T fun K hK=>?_|refine Ql fun A B hA hB=>?_|refine Qm ?_|refine Qn ?_|refine Qp ?_|refine Qr ?_)
 | ((with_reducible first|apply Qy|apply Qz|apply QA)<;>intro hb<;>try simp only [nr] at hb)
 | simp only [go_sem,↓reduceIte,reduceIte,Qa,Qh,Qb,Qc,Qd,Qe,Qf,Qg,reduceCtorEq, *,-hTN,-hno,-h4]
 | with_reducible refine fun (bn:Bool) hbn=>?_))
 | succ n ih =>
  intro k_kind k_name M hmu
  by_cases hT:(mget T0 (⟨k_kind,k_name⟩:Key)).getD false=true
  rotate_left
  ·have hT:(mget T0 (⟨k_kind,k_name⟩:Key)).getD false=false:=by simpa using hT
   have e:visF T0 N (n+1) (⟨k_kind,k_name⟩:Key) M=M:=by unfold visF; rw [if_neg (by simp [isIn,hT])]
   rw [e]
   refine CallH.go5 (T:=T) Tryz.call139 Tryz.func139 rfl Tryz.ntmps139 (congrArg Array.toList Tryz.results139) (by decide) fun ts hn h0 h1 h2 h3 h4 hg ho=>?_
   (repeat' (first
 | (with_reducible first|assumption|(refine Qw hK _ ?_; clear hK K)|refine Qw ‹_› _ ?_|refine Qx ‹_› ?_|refine Qi fun K hK=>?_|refine Qj T fun K hK=>?_|refine Ql fun A B hA hB=>?_|refine Qm ?_|refine Qn ?_|refine Qp ?_|refine Qr ?_)
 | ((with_reducible first|apply Qy|apply Qz|apply QA)<;>intro hb<;>try simp only [nr] at hb)
 | simp only [go_sem,↓reduceIte,reduceIte,Qa,Qh,Qb,Qc,Qd,Qe,Qf,Qg,reduceCtorEq, *,-hTN,-h4]
 | with_reducible refine fun (bn:Bool) hbn=>?_))
  by_cases hO:(mget M (⟨k_kind,k_name⟩:Key)).getD false=true
  ·have e:visF T0 N (n+1) (⟨k_kind,k_name⟩:Key) M=M:=by unfold visF; rw [if_neg (by simp [isIn,hO])]
   rw [e]
   refine CallH.go5 (T:=T) Tryz.call139 Tryz.func139 rfl Tryz.ntmps139 (congrArg Array.toList Tryz.results139) (by decide) fun ts hn h0 h1 h2 h3 h4 hg ho=>?_
   (repeat' (first
 | (with_reducible first|assumption|(refine Qw hK _ ?_; clear hK K)|refine Qw ‹_› _ ?_|refine Qx ‹_› ?_|refine Qi fun K hK=>?_|refine Qj T fun K hK=>?_|refine Ql fun A B hA hB=>?_|refine Qm ?_|refine Qn ?_|refine Qp ?_|refine Qr ?_)
 | ((with_reducible first|apply Qy|apply Qz|apply QA)<;>intro hb<;>try simp only [nr] at hb)
 | simp only [go_sem,↓reduceIte,reduceIte,Qa,Qh,Qb,Qc,Qd,Qe,Qf,Qg,reduceCtorEq, *,-hTN,-h4]
 | with_reducible refine fun (bn:Bool) hbn=>?_))
  have hO:(mget M (⟨k_kind,k_name⟩:Key)).getD false=false:=by simpa using hO
  obtain ⟨v,hv,hvs⟩:=hTN (⟨k_kind,k_name⟩:Key) hT
  have hlk:=look_keys hv
  have e:visF T0 N (n+1) (⟨k_kind,k_name⟩:Key) M=v.foldl (fun M x=>visF T0 N n x M) (mput M (⟨k_kind,k_name⟩:Key) true):=by
   rw [visF,if_pos ⟨hT,hO⟩,hv]; rfl
  rw [e]
  have hmu1:muV T0 (mput M (⟨k_kind,k_name⟩:Key) true)≤n:=by have:=mu_lt (T0:=T0) (M:=M) hT hO; omega
  refine CallH.go5 (T:=T) Tryz.call139 Tryz.func139 rfl Tryz.ntmps139 (congrArg Array.toList Tryz.results139) (by decide) fun ts hn h0 h1 h2 h3 h4 hg ho=>?_
  rw [recV_succ] at h4
  (repeat' (first
 | (with_reducible first|assumption|(refine Qw hK _ ?_; clear hK K)|refine Qw ‹_› _ ?_|refine Qx ‹_› ?_|refine Qi fun K hK=>?_|refine Qj T fun K hK=>?_|refine Ql fun A B hA hB=>?_|refine Qm ?_|refine Qn ?_|refine Qp ?_|refine Qr ?_)
 | ((with_reducible first|apply Qy|apply Qz|apply QA)<;>intro hb<;>try simp only [nr] at hb)
 | simp only [go_sem,↓reduceIte,reduceIte,Qa,Qh,Qb,Qc,Qd,Qe,Qf,Qg,reduceCtorEq, *,-hTN,-ih]
 | with_reducible refine fun (bn:Bool) hbn=>?_))
  have hre:(recV 139 (.ro [.mp (mks T0) (mvs T0)]) (.ro [.mref 1000 0]) (.ro [.mp (mks N) (mvs N)]) n).renM 1000 0 1000=recV 139 (.ro [.mp (mks T0) (mvs T0)]) (.ro [.mref 1000 0]) (.ro [.mp (mks N) (mvs N)]) n :=
   renM_recV _ _ _ _ _ _ _ _ (by simp only [go_sem,Bool.and_self]) (by simp only [go_sem,Bool.and_self])
  have hpe:(recV 139 (.ro [.mp (mks T0) (mvs T0)]) (.ro [.mref 1000 0]) (.ro [.mp (mks N) (mvs N)]) n).pureH 1000 0=true :=
   pureH_recV _ _ _ _ _ _ _ (by simp only [go_sem,Bool.and_self]) (by decide) (by simp only [go_sem,Bool.and_self])
  refine Qs [4,21,22] (fun m ts'=>∃ (i:Nat),∃ (M2:KS),m=v.length - i∧i≤v.length∧muV T0 M2≤n∧v.foldl (fun M x=>visF T0 N n x M) (mput M (⟨k_kind,k_name⟩:Key) true)=(v.drop i).foldl (fun M x=>visF T0 N n x M) M2∧ts'.gen 1000=0∧ts'.obj 1000=.mp (mks M2) (mvs M2)∧ts'.tmp 23=.int .i64 i) v.length ?_ ?_
  ·refine ⟨0,mput M (⟨k_kind,k_name⟩:Key) true,rfl,Nat.zero_le _,hmu1,rfl,?_⟩
   simp only [go_sem,↓reduceIte,reduceIte,Qa,Qh,Qb,Qc,Qd,Qe,Qf,Qg,reduceCtorEq, *,-hTN,-ih,-e]
  ·rintro m A hM ts' hk ⟨i,M2,hm,f1,f2,f3,s1,s2,s3⟩
   simp only [go_sem,↓reduceIte,reduceIte,Qa,Qh,Qb,Qc,Qd,Qe,Qf,Qg,reduceCtorEq, *] at hk
   by_cases hlt:i < v.length
   ·rw [List.drop_eq_getElem_cons hlt,List.foldl_cons] at f3
    (repeat' (first
 | (with_reducible first|refine callX.hm (d:=1000) (g:=0) ?_ ?_ (ih v[i].kind v[i].name M2 f2) ?_|assumption|(refine Qw hK _ ?_; clear hK K)|refine Qw ‹_› _ ?_|refine Qx ‹_› ?_|refine Qi fun K hK=>?_|refine Qj T fun K hK=>?_|refine Ql fun A B hA hB=>?_|refine Qm ?_|refine Qn ?_|refine Qp ?_|refine Qr ?_)
 | ((with_reducible first|apply Qy|apply Qz|apply QA)<;>intro hb<;>try simp only [nr] at hb)
 | simp only [go_sem,↓reduceIte,reduceIte,Qa,Qh,Qb,Qc,Qd,Qe,Qf,Qg,reduceCtorEq, *,-hTN,-ih,-f3,-e]
 | with_reducible refine fun (bn:Bool) hbn=>?_))
    all_goals ((repeat clear hK); (repeat clear hA); (repeat clear hB))
    (refine hM.on (v.length - (i+1)) (by omega) (by simp only [go_sem,↓reduceIte,reduceIte,Qa,Qh,Qb,Qc,Qd,Qe,Qf,Qg,reduceCtorEq, *,w64_nat hlt hvs,-hTN,-ih,-f3,-e]) ⟨i+1,visF T0 N n v[i] M2,rfl,by omega,Nat.le_trans (mu_le fun x hx=>visF_grow T0 N n _ M2 x hx) f2,f3,?_⟩; simp only [go_sem,↓reduceIte,reduceIte,Qa,Qh,Qb,Qc,Qd,Qe,Qf,Qg,reduceCtorEq, *,w64_nat hlt hvs,-hTN,-ih,-f3,-e]; done)
   ·rw [List.drop_eq_nil_of_le (by omega),List.foldl_nil] at f3
    (repeat' (first
 | (with_reducible first|assumption|(refine Qw hK _ ?_; clear hK K)|refine Qw ‹_› _ ?_|refine Qx ‹_› ?_|refine Qi fun K hK=>?_|refine Qj T fun K hK=>?_|refine Ql fun A B hA hB=>?_|refine Qm ?_|refine Qn ?_|refine Qp ?_|refine Qr ?_)
 | ((with_reducible first|apply Qy|apply Qz|apply QA)<;>intro hb<;>try simp only [nr] at hb)
 | simp only [go_sem,↓reduceIte,reduceIte,Qa,Qh,Qb,Qc,Qd,Qe,Qf,Qg,reduceCtorEq, *,-hTN,-ih,-e]
 | with_reducible refine fun (bn:Bool) hbn=>?_))
theorem mem_ofR (l:List Res) (k:Key):∀ M:KS,isIn (ofR l M) k=(decide (k∈l.map keyOf) || isIn M k):=by
 unfold ofR
 induction l with
 | nil=>intro M; simp
 | cons r l ih =>
  intro M
  rw [List.foldl_cons,ih,isIn_put]
  by_cases h1:k=keyOf r<;>by_cases h2:k∈l.map keyOf<;>simp_all
theorem mget_names (l:List Res) (k:Key) (h:k∈l.map keyOf):∃ r∈l,mget (namesM l) k=some (refsR r):=by
 unfold mget namesM
 induction l with
 | nil=>simp at h
 | cons r l ih =>
  rw [List.map_cons,List.find?_cons]
  by_cases he:k=keyOf r
  ·exact ⟨r,by simp,by simp [he]⟩
  ·obtain ⟨q,h1,h2⟩:=ih (by rw [List.map_cons,List.mem_cons] at h; exact h.resolve_left he)
   exact ⟨q,by simp [h1],by simpa [he] using h2⟩
def reachF (T0:KS) (N:List (Key × List Key)) (n:Nat) (l:List Res) (M:KS):KS:=l.foldl (fun M r=>if r.kind=0 then visF T0 N n (keyOf r) M else M) M
def reachedM (l:List Res):KS:=reachF (ofR l []) (namesM l) (ofR l []).length l []
set_option maxHeartbeats 4000000 in
theorem reached_c (xs:List Res) (hl:xs.length≤65536) (hs:∀ r∈xs,SmRes r) (hnd:(xs.map keyOf).Nodup):CallR Tryz.prog 81 [.slice false (avs xs)] (.val (.mp (mks (reachedM xs)) (mvs (reachedM xs)))):=by
 have hsl:=small_le hl
 obtain ⟨T0,hT0⟩:∃ T0,ofR xs []=T0:=⟨_,rfl⟩
 obtain ⟨N,hN⟩:∃ N,namesM xs=N:=⟨_,rfl⟩
 have hTN:∀ k,isIn T0 k=true→∃ ks,mget N k=some ks∧Small ks.length:=fun k hk=>by
  rw [← hT0,mem_ofR] at hk
  have hk':k∈xs.map keyOf:=by simpa [isIn] using hk
  obtain ⟨r,_,h2⟩:=mget_names xs k hk'
  have:=refs_len r
  exact ⟨_,by rw [← hN]; exact h2,by unfold Small; omega⟩
 have hmu:∀ M,muV T0 M≤T0.length:=fun M=>List.length_filter_le _ _
 have hR:reachedM xs=reachF T0 N T0.length xs []:=by rw [← hT0,← hN]; rfl
 rw [hR]
 clear hR
 have hof:=refsOf_c xs hsl
 have hna:=rnames_c xs hl hs hnd
 rw [hT0] at hof
 rw [hN] at hna
 refine QD (T:=T) Tryz.call81 Tryz.func81 rfl Tryz.ntmps81 (congrArg Array.toList Tryz.results81) (by decide) fun ts hn h0=>?_
 (repeat' (first
 | (with_reducible first|refine SpecC.mkRec T 3 fun K hK=>?_|refine callX.by (hof) ?_|refine callX.by (hna) ?_|refine callX.by (refsOf_c _ ?_) ?_|refine callX.by (rnames_c _ ?_ ?_ ?_) ?_|refine callX.by (namesD_c _ ?_ ?_) ?_|refine callX.by (rkey_c _ _ _ _ _ _ _) ?_|assumption|(refine Qw hK _ ?_; clear hK K)|refine Qw ‹_› _ ?_|refine Qx ‹_› ?_|refine Qi fun K hK=>?_|refine Qj T fun K hK=>?_|refine Qk (id:=8) T mixed Wd13 (by kernel_rfl) fun K hK=>?_|refine Ql fun A B hA hB=>?_|refine Qm ?_|refine Qn ?_|refine Qp ?_|refine Qr ?_)
 | ((with_reducible first|apply Qy|apply Qz|apply QA)<;>intro hb<;>try simp only [nr] at hb)
 | simp only [go_sem,↓reduceIte,reduceIte,Qa,Qh,Qb,Qc,Qd,Qe,Qf,Qg,reduceCtorEq, *,-hs,-hnd,-hTN,-hmu,-hof,-hna,-hT0,-hN]
 | with_reducible refine fun (bn:Bool) hbn=>?_))
 have hp1:AV.pure (.ro [.mp (mks T0) (mvs T0)])=true:=by simp only [go_sem,Bool.and_self]
 have hp2:AV.pure (.ro [.mp (mks N) (mvs N)])=true:=by simp only [go_sem,Bool.and_self]
 have hre:∀ g n,(recV 139 (.ro [.mp (mks T0) (mvs T0)]) (.ro [.mref 13 g]) (.ro [.mp (mks N) (mvs N)]) n).renM 13 g 1000=recV 139 (.ro [.mp (mks T0) (mvs T0)]) (.ro [.mref 1000 0]) (.ro [.mp (mks N) (mvs N)]) n:=fun g n=>by
  rw [renM_recV _ _ _ _ _ _ _ _ hp1 hp2]; simp [AV.renM,AV.renM.renML]
 have hpe:∀ g n,(recV 139 (.ro [.mp (mks T0) (mvs T0)]) (.ro [.mref 13 g]) (.ro [.mp (mks N) (mvs N)]) n).pureH 13 g=true:=fun g n =>
  pureH_recV _ _ _ _ _ _ _ hp1 (by simp [AV.pureH,AV.pureH.pureHL]) hp2
 refine SpecC.ent (Ent.frzRec 139 (T0.length+1) 3 5 4 6 (x:=.mp (mks T0) (mvs T0)) (y:=.mref 13 (ts.gen 13+1)) (z:=.mp (mks N) (mvs N)) (by simp only [go_sem,↓reduceIte,reduceIte,Qa,Qh,Qb,Qc,Qd,Qe,Qf,Qg,reduceCtorEq, *,-hs,-hnd,-hTN,-hmu,-hof,-hna,-hT0,-hN,-hp1,-hp2]; done) (by simp only [go_sem,↓reduceIte,reduceIte,Qa,Qh,Qb,Qc,Qd,Qe,Qf,Qg,reduceCtorEq, *,-hs,-hnd,-hTN,-hmu,-hof,-hna,-hT0,-hN,-hp1,-hp2]; done) (by simp only [go_sem,↓reduceIte,reduceIte,Qa,Qh,Qb,Qc,Qd,Qe,Qf,Qg,reduceCtorEq, *,-hs,-hnd,-hTN,-hmu,-hof,-hna,-hT0,-hN,-hp1,-hp2]; done) (by simp only [go_sem,↓reduceIte,reduceIte,Qa,Qh,Qb,Qc,Qd,Qe,Qf,Qg,reduceCtorEq, *,-hs,-hnd,-hTN,-hmu,-hof,-hna,-hT0,-hN,-hp1,-hp2]; done)) ?_
 refine Qs [5,6,15,16] (fun m ts'=>∃ (i:Nat),∃ (M:KS),m=xs.length - i∧i≤xs.length∧reachF T0 N T0.length xs []=reachF T0 N T0.length (xs.drop i) M∧ts'.gen 13=ts.gen 13+1∧ts'.obj 13=.mp (mks M) (mvs M)∧ts'.tmp 17=.int .i64 i) xs.length ?_ ?_
 ·refine ⟨0,[],rfl,Nat.zero_le _,rfl,?_⟩
  simp only [go_sem,↓reduceIte,reduceIte,Qa,Qh,Qb,Qc,Qd,Qe,Qf,Qg,reduceCtorEq, *,-hs,-hnd,-hTN,-hmu,-hof,-hna,-hT0,-hN,-hp1,-hp2]
 ·rintro m A hM ts' hk ⟨i,M,hm,f1,f2,s1,s2,s3⟩
  simp only [go_sem,↓reduceIte,reduceIte,Qa,Qh,Qb,Qc,Qd,Qe,Qf,Qg,reduceCtorEq, *] at hk
  have hxx:∀ x∈xs,True:=fun _ _=>trivial
  clear hof hna hnd hs hxx
  by_cases hlt:i < xs.length
  ·have hstep:reachF T0 N T0.length (xs.drop i) M=reachF T0 N T0.length (xs.drop (i+1)) (if xs[i].kind=0 then visF T0 N T0.length (keyOf xs[i]) M else M):=by
    rw [List.drop_eq_getElem_cons hlt]; rfl
   rw [hstep] at f2
   clear hstep
   (repeat' (first
 | (with_reducible first|refine callX.hm (d:=13) (g:=ts.gen 13+1) ?_ ?_ (visit_c T0 N hTN T0.length xs[i].kind xs[i].name M (hmu M)) ?_|refine callX.by (refsOf_c _ ?_) ?_|refine callX.by (rnames_c _ ?_ ?_ ?_) ?_|refine callX.by (namesD_c _ ?_ ?_) ?_|refine callX.by (rkey_c _ _ _ _ _ _ _) ?_|assumption|(refine Qw hK _ ?_; clear hK K)|refine Qw ‹_› _ ?_|refine Qx ‹_› ?_|refine Qi fun K hK=>?_|refine Qj T fun K hK=>?_|refine Qk (id:=8) T mixed Wd13 (by kernel_rfl) fun K hK=>?_|refine Ql fun A B hA hB=>?_|refine Qm ?_|refine Qn ?_|refine Qp ?_|refine Qr ?_)
 | ((with_reducible first|apply Qy|apply Qz|apply QA)<;>intro hb<;>try simp only [nr] at hb)
 | simp only [go_sem,↓reduceIte,reduceIte,Qa,Qh,Qb,Qc,Qd,Qe,Qf,Qg,reduceCtorEq, *,-hTN,-hmu,-hT0,-hN,-hp1,-hp2,-f2,recV_succ,false_and,true_and]
 | with_reducible refine fun (bn:Bool) hbn=>?_))
   all_goals ((repeat clear hK); (repeat clear hA); (repeat clear hB))
   ·rw [if_pos (of_decide_eq_true hb)] at f2
    (refine hM.on (xs.length - (i+1)) (by omega) (by simp only [go_sem,↓reduceIte,reduceIte,Qa,Qh,Qb,Qc,Qd,Qe,Qf,Qg,reduceCtorEq, *,w64_nat hlt hsl,keyOf,-hTN,-hmu,-hT0,-hN,-hp1,-hp2,-f2]) ⟨i+1,visF T0 N T0.length (keyOf xs[i]) M,rfl,by omega,f2,?_⟩; simp only [go_sem,↓reduceIte,reduceIte,Qa,Qh,Qb,Qc,Qd,Qe,Qf,Qg,reduceCtorEq, *,w64_nat hlt hsl,keyOf,-hTN,-hmu,-hT0,-hN,-hp1,-hp2,-f2]; done)
   ·rw [if_neg (of_decide_eq_false hb)] at f2
    (refine hM.on (xs.length - (i+1)) (by omega) (by simp only [go_sem,↓reduceIte,reduceIte,Qa,Qh,Qb,Qc,Qd,Qe,Qf,Qg,reduceCtorEq, *,w64_nat hlt hsl,keyOf,-hTN,-hmu,-hT0,-hN,-hp1,-hp2,-f2]) ⟨i+1,M,rfl,by omega,f2,?_⟩; simp only [go_sem,↓reduceIte,reduceIte,Qa,Qh,Qb,Qc,Qd,Qe,Qf,Qg,reduceCtorEq, *,w64_nat hlt hsl,keyOf,-hTN,-hmu,-hT0,-hN,-hp1,-hp2,-f2]; done)
  ·rw [List.drop_eq_nil_of_le (by omega)] at f2
   have f3:reachF T0 N T0.length xs []=M:=f2
   clear f2
   (repeat' (first
 | (with_reducible first|refine callX.by (refsOf_c _ ?_) ?_|refine callX.by (rnames_c _ ?_ ?_ ?_) ?_|refine callX.by (namesD_c _ ?_ ?_) ?_|refine callX.by (rkey_c _ _ _ _ _ _ _) ?_|assumption|(refine Qw hK _ ?_; clear hK K)|refine Qw ‹_› _ ?_|refine Qx ‹_› ?_|refine Qi fun K hK=>?_|refine Qj T fun K hK=>?_|refine Qk (id:=8) T mixed Wd13 (by kernel_rfl) fun K hK=>?_|refine Ql fun A B hA hB=>?_|refine Qm ?_|refine Qn ?_|refine Qp ?_|refine Qr ?_)
 | ((with_reducible first|apply Qy|apply Qz|apply QA)<;>intro hb<;>try simp only [nr] at hb)
 | simp only [go_sem,↓reduceIte,reduceIte,Qa,Qh,Qb,Qc,Qd,Qe,Qf,Qg,reduceCtorEq, *,-hTN,-hmu,-hT0,-hN,-hp1,-hp2,false_and,true_and]
 | with_reducible refine fun (bn:Bool) hbn=>?_))
theorem caps_map (M:KS):Caps [.ro [.mp (mks M) (mvs M)]]:=⟨by simp only [go_sem,Bool.and_self],by simp only [go_sem]⟩
theorem reach1_c (r_kind:Int) (r_name:List UInt8) (r_ver:Int) (r_port:Int) (r_to:List UInt8) (r_rules:List Rule) (r_hosts:List Int) (M:KS):CallR Tryz.prog 84 [.agg [.int .i64 r_kind,.str r_name,.int .i64 r_ver,.int .i64 r_port,.str r_to,.slice false (avs r_rules),.slice false (avs r_hosts)],.ro [.mp (mks M) (mvs M)]] (.val (.bool (!isIn M (keyOf (⟨r_kind,r_name,r_ver,r_port,r_to,r_rules,r_hosts⟩:Res))))):=by
 refine CallR.go2 (T:=T) Tryz.call84 Tryz.func84 rfl Tryz.ntmps84 (congrArg Array.toList Tryz.results84) (by decide) fun ts hn h0 h1=>?_
 (repeat' (first
 | (with_reducible first|refine callX.by (rkey_c _ _ _ _ _ _ _) ?_|assumption|(refine Qw hK _ ?_; clear hK K)|refine Qw ‹_› _ ?_|refine Qx ‹_› ?_|refine Qi fun K hK=>?_|refine Qj T fun K hK=>?_|refine Qk (id:=1) T mixed [([4],[5,6]),([5],[4]),([6],[4])] (by kernel_rfl) fun K hK=>?_|refine Ql fun A B hA hB=>?_|refine Qn ?_|refine Qr ?_)
 | ((with_reducible first|apply Qy|apply Qz|apply QA)<;>intro hb<;>try simp only [nr] at hb)
 | simp only [go_sem,↓reduceIte,reduceIte,Qa,Qh,Qb,Qc,Qd,Qe,Qf,Qg,reduceCtorEq, *]
 | with_reducible refine fun (bn:Bool) hbn=>?_))
 all_goals rfl
def reachR (l:List Res):List Res:=l.filter fun r=>isIn (reachedM l) (keyOf r)
theorem reachR_len (l:List Res):(reachR l).length≤l.length:=List.length_filter_le _ _
theorem reach_c (xs:List Res) (hl:xs.length≤65536) (hs:∀ r∈xs,SmRes r) (hnd:(xs.map keyOf).Nodup):CallR Tryz.prog 22 [.slice false (avs xs)] (.own 7 (avs (reachR xs))):=by
 have hsl:=small_le hl
 have hd:=deleteFRes_c 84 [.ro [.mp (mks (reachedM xs)) (mvs (reachedM xs))]] (caps_map _) (fun r=>!isIn (reachedM xs) (keyOf r)) xs (fun x _=>reach1_c x.kind x.name x.ver x.port x.to' x.rules' x.hosts _) hsl
 simp only [Bool.not_not] at hd
 have e:xs.filter (fun x=>isIn (reachedM xs) (keyOf x))=reachR xs:=rfl
 rw [e] at hd
 refine QD (T:=T) Tryz.call22 Tryz.func22 rfl Tryz.ntmps22 (congrArg Array.toList Tryz.results22) (by decide) fun ts hn h0=>?_
 (repeat' (first
 | (with_reducible refine callX.mv ?_ ?_ ?_ (hd); (focus (simp only [go_sem,↓reduceIte,reduceIte,Qa,Qh,Qb,Qc,Qd,Qe,Qf,Qg,reduceCtorEq, *,-hs,-hnd,-hd,-e]; first|done|rfl)); (focus (simp only [go_sem,↓reduceIte,reduceIte,Qa,Qh,Qb,Qc,Qd,Qe,Qf,Qg,reduceCtorEq, *,-hs,-hnd,-hd,-e]; first|done|rfl)))
 | (with_reducible first|refine callX.by (reached_c _ ?_ ?_ ?_) ?_|refine callX.by (cloneRes_c _ _ ?_) ?_)
 | (with_reducible refine callX.mv ?_ ?_ ?_ (deleteFRes_c ?_ ?_ ?_ ?_ ?_ ?_ ?_); (focus (simp only [go_sem,↓reduceIte,reduceIte,Qa,Qh,Qb,Qc,Qd,Qe,Qf,Qg,reduceCtorEq, *,-hs,-hnd,-hd,-e]; first|done|rfl)); (focus (simp only [go_sem,↓reduceIte,reduceIte,Qa,Qh,Qb,Qc,Qd,Qe,Qf,Qg,reduceCtorEq, *,-hs,-hnd,-hd,-e]; first|done|rfl)))
 | (with_reducible first|assumption|(refine Qw hK _ ?_; clear hK K)|refine Qw ‹_› _ ?_|refine Qx ‹_› ?_|refine Qi fun K hK=>?_|refine Qj T fun K hK=>?_|refine Ql fun A B hA hB=>?_|refine Qn ?_|refine Qr ?_)
 | ((with_reducible first|apply Qy|apply Qz|apply QA)<;>intro hb<;>try simp only [nr] at hb)
 | simp only [go_sem,↓reduceIte,reduceIte,Qa,Qh,Qb,Qc,Qd,Qe,Qf,Qg,reduceCtorEq, *,-hs,-hnd,-hd,-e]
 | with_reducible refine fun (bn:Bool) hbn=>?_))
theorem orph1_c (k_kind:Int) (k_name:List UInt8) (M:KS):CallR Tryz.prog 94 [.agg [.int .i64 k_kind,.str k_name],.ro [.mp (mks M) (mvs M)]] (.val (.bool (isIn M (⟨k_kind,k_name⟩:Key)))):=by
 refine CallR.go2 (T:=T) Tryz.call94 Tryz.func94 rfl Tryz.ntmps94 (congrArg Array.toList Tryz.results94) (by decide) fun ts hn h0 h1=>?_
 (repeat' (first
 | (with_reducible first|assumption|(refine Qw hK _ ?_; clear hK K)|refine Qw ‹_› _ ?_|refine Qx ‹_› ?_|refine Qi fun K hK=>?_|refine Qj T fun K hK=>?_|refine Ql fun A B hA hB=>?_|refine Qn ?_|refine Qr ?_)
 | ((with_reducible first|apply Qy|apply Qz|apply QA)<;>intro hb<;>try simp only [nr] at hb)
 | simp only [go_sem,↓reduceIte,reduceIte,Qa,Qh,Qb,Qc,Qd,Qe,Qf,Qg,reduceCtorEq, *]
 | with_reducible refine fun (bn:Bool) hbn=>?_))
 all_goals rfl
def orphans (l:List Res):List Key:=(l.map keyOf).filter fun k=>!isIn (reachedM l) k
theorem orphans_c (xs:List Res) (hl:xs.length≤65536) (hs:∀ r∈xs,SmRes r) (hnd:(xs.map keyOf).Nodup):CallR Tryz.prog 28 [.slice false (avs xs)] (.own 2 (avs (orphans xs))):=by
 have hsl:=small_le hl
 have hkl:Small (xs.map keyOf).length:=by simpa using hsl
 have hlk:(xs.map keyOf).length=xs.length:=List.length_map _
 have hd:=deleteFKey_c 94 [.ro [.mp (mks (reachedM xs)) (mvs (reachedM xs))]] (caps_map _) (fun k=>isIn (reachedM xs) k) (xs.map keyOf) (fun x _=>orph1_c x.kind x.name _) hkl
 have e:(xs.map keyOf).filter (fun x=>!isIn (reachedM xs) x)=orphans xs:=rfl
 rw [e] at hd
 have htk:(xs.map keyOf).take xs.length=xs.map keyOf:=List.take_of_length_le (by omega)
 refine QD (T:=T) Tryz.call28 Tryz.func28 rfl Tryz.ntmps28 (congrArg Array.toList Tryz.results28) (by decide) fun ts hn h0=>?_
 (repeat' (first
 | (with_reducible refine callX.mv ?_ ?_ ?_ (hd); (focus (simp only [go_sem,↓reduceIte,reduceIte,Qa,Qh,Qb,Qc,Qd,Qe,Qf,Qg,reduceCtorEq, *,-hs,-hnd,-hd,-e]; first|done|rfl)); (focus (simp only [go_sem,↓reduceIte,reduceIte,Qa,Qh,Qb,Qc,Qd,Qe,Qf,Qg,reduceCtorEq, *,-hs,-hnd,-hd,-e]; first|done|rfl)))
 | (with_reducible first|refine callX.by (reached_c _ ?_ ?_ ?_) ?_|refine callX.by (tkeys_c _ ?_) ?_)
 | (with_reducible refine callX.mv ?_ ?_ ?_ (deleteFKey_c ?_ ?_ ?_ ?_ ?_ ?_ ?_); (focus (simp only [go_sem,↓reduceIte,reduceIte,Qa,Qh,Qb,Qc,Qd,Qe,Qf,Qg,reduceCtorEq, *,-hs,-hnd,-hd,-e]; first|done|rfl)); (focus (simp only [go_sem,↓reduceIte,reduceIte,Qa,Qh,Qb,Qc,Qd,Qe,Qf,Qg,reduceCtorEq, *,-hs,-hnd,-hd,-e]; first|done|rfl)))
 | (with_reducible first|assumption|(refine Qw hK _ ?_; clear hK K)|refine Qw ‹_› _ ?_|refine Qx ‹_› ?_|refine Qi fun K hK=>?_|refine Qj T fun K hK=>?_|refine Ql fun A B hA hB=>?_|refine Qn ?_|refine Qr ?_)
 | ((with_reducible first|apply Qy|apply Qz|apply QA)<;>intro hb<;>try simp only [nr] at hb)
 | simp only [go_sem,↓reduceIte,reduceIte,Qa,Qh,Qb,Qc,Qd,Qe,Qf,Qg,reduceCtorEq, *,-hs,-hnd,-hd,-e]
 | with_reducible refine fun (bn:Bool) hbn=>?_))
theorem served1_c (k_kind:Int) (k_name:List UInt8) (M:KS):CallR Tryz.prog 87 [.agg [.int .i64 k_kind,.str k_name],.ro [.mp (mks M) (mvs M)]] (.val (.bool (!isIn M (⟨k_kind,k_name⟩:Key)))):=by
 refine CallR.go2 (T:=T) Tryz.call87 Tryz.func87 rfl Tryz.ntmps87 (congrArg Array.toList Tryz.results87) (by decide) fun ts hn h0 h1=>?_
 (repeat' (first
 | (with_reducible first|assumption|(refine Qw hK _ ?_; clear hK K)|refine Qw ‹_› _ ?_|refine Qx ‹_› ?_|refine Qi fun K hK=>?_|refine Qj T fun K hK=>?_|refine Ql fun A B hA hB=>?_|refine Qn ?_|refine Qr ?_)
 | ((with_reducible first|apply Qy|apply Qz|apply QA)<;>intro hb<;>try simp only [nr] at hb)
 | simp only [go_sem,↓reduceIte,reduceIte,Qa,Qh,Qb,Qc,Qd,Qe,Qf,Qg,reduceCtorEq, *]
 | with_reducible refine fun (bn:Bool) hbn=>?_))
 all_goals rfl
def bare (r:Res):Bool:=decide (r.kind=3) && decide (r.hosts.length=0)
theorem served2_c (r_kind:Int) (r_name:List UInt8) (r_ver:Int) (r_port:Int) (r_to:List UInt8) (r_rules:List Rule) (r_hosts:List Int):CallR Tryz.prog 89 [.agg [.int .i64 r_kind,.str r_name,.int .i64 r_ver,.int .i64 r_port,.str r_to,.slice false (avs r_rules),.slice false (avs r_hosts)]] (.val (.bool (bare (⟨r_kind,r_name,r_ver,r_port,r_to,r_rules,r_hosts⟩:Res)))):=by
 refine QD (T:=T) Tryz.call89 Tryz.func89 rfl Tryz.ntmps89 (congrArg Array.toList Tryz.results89) (by decide) fun ts hn h0=>?_
 (repeat' (first
 | (with_reducible first|assumption|(refine Qw hK _ ?_; clear hK K)|refine Qw ‹_› _ ?_|refine Qx ‹_› ?_|refine Qi fun K hK=>?_|refine Qj T fun K hK=>?_|refine Ql fun A B hA hB=>?_|refine Qn ?_|refine Qr ?_)
 | ((with_reducible first|apply Qy|apply Qz|apply QA)<;>intro hb<;>try simp only [nr] at hb)
 | simp only [go_sem,↓reduceIte,reduceIte,Qa,Qh,Qb,Qc,Qd,Qe,Qf,Qg,reduceCtorEq, *]
 | with_reducible refine fun (bn:Bool) hbn=>?_))
 all_goals simp_all [bare]
def lacks (M:KS) (r:Res):Bool:=(refsR r).any fun k=>!isIn M k
def served (l:List Res):Int:=if (reachR l).any (lacks (ofR l []))=true then 6 else if (reachR l).any bare=true then 7 else 0
set_option maxHeartbeats 4000000 in
theorem served_c (xs:List Res) (hl:xs.length≤65536) (hs:∀ r∈xs,SmRes r) (hnd:(xs.map keyOf).Nodup):CallR Tryz.prog 24 [.slice false (avs xs)] (.val (.int .i64 (served xs))):=by
 have hsl:=small_le hl
 have hrl:=reachR_len xs
 have hrs:Small (reachR xs).length:=small_le (by omega)
 have hr1:=reach_c xs hl hs hnd
 have hsr:∀ r∈reachR xs,SmRes r:=fun r hr=>hs r (List.mem_filter.1 hr).1
 have hc2:=conFRes_c 89 [] Caps.nil bare (reachR xs) (fun x _=>served2_c x.kind x.name x.ver x.port x.to' x.rules' x.hosts) hrs
 obtain ⟨M,hM0⟩:∃ M,ofR xs []=M:=⟨_,rfl⟩
 have hof:=refsOf_c xs hsl
 have hsv:served xs=if (reachR xs).any (lacks M)=true then 6 else if (reachR xs).any bare=true then 7 else 0:=by rw [← hM0]; rfl
 rw [hM0] at hof
 clear hM0
 obtain ⟨R,hR⟩:∃ R,reachR xs=R:=⟨_,rfl⟩
 rw [hR] at hr1 hsr hc2 hsv hrs hrl
 clear hR hnd hs
 refine QD (T:=T) Tryz.call24 Tryz.func24 rfl Tryz.ntmps24 (congrArg Array.toList Tryz.results24) (by decide) fun ts hn h0=>?_
 (repeat' (first
 | (with_reducible first|refine callX.by (hof) ?_|refine callX.by (hr1) ?_|refine callX.by (refsOf_c _ ?_) ?_|refine callX.by (reach_c _ ?_ ?_ ?_) ?_|refine callX.by a6rc ?_|refine callX.by (refsR_c _ _ _ _ _ _ _ ?_ ?_ ?_) ?_|refine callX.by awqc ?_|refine callX.by (conFKey_c _ _ ?_ _ _ ?_ ?_) ?_|refine callX.by (conFRes_c _ _ ?_ _ _ ?_ ?_) ?_|refine callX.by (served2_c _ _ _ _ _ _ _) ?_|assumption|(refine Qw hK _ ?_; clear hK K)|refine Qw ‹_› _ ?_|refine Qx ‹_› ?_|refine Qi fun K hK=>?_|refine Qj T fun K hK=>?_|refine Ql fun A B hA hB=>?_|refine Qm ?_|refine Qn ?_|refine Qp ?_|refine Qr ?_)
 | ((with_reducible first|apply Qy|apply Qz|apply QA)<;>intro hb<;>try simp only [nr] at hb)
 | simp only [go_sem,↓reduceIte,reduceIte,Qa,Qh,Qb,Qc,Qd,Qe,Qf,Qg,reduceCtorEq, *,-hr1,-hsr,-hc2,-hof,-hsv]
 | with_reducible refine fun (bn:Bool) hbn=>?_))
 refine SpecC.ent (Ent.frzBox _ 3) ?_
 refine Qs [3,4,11,12] (fun m ts'=>∃ (i:Nat),m=R.length - i∧i≤R.length∧R.any (lacks M)=(R.drop i).any (lacks M)∧ts'.gen 10=ts.gen 10+1∧ts'.obj 10=.arr 7 (avs R)∧ts'.tmp 13=.int .i64 i) R.length ?_ ?_
 ·refine ⟨0,?_⟩
  simp only [go_sem,↓reduceIte,reduceIte,Qa,Qh,Qb,Qc,Qd,Qe,Qf,Qg,reduceCtorEq, *,-hr1,-hsr,-hc2,-hof,-hsv]
 ·rintro m A hM ts' hk ⟨i,hm,f1,f2,s1,s2,s3⟩
  simp only [go_sem,↓reduceIte,reduceIte,Qa,Qh,Qb,Qc,Qd,Qe,Qf,Qg,reduceCtorEq, *] at hk
  by_cases hlt:i < R.length
  ·rw [List.drop_eq_getElem_cons hlt,List.any_cons] at f2
   obtain ⟨_,_,hx1,hx2,hx3⟩:=hsr _ (List.getElem_mem hlt)
   have hql:=refs_len R[i]
   have hqs:Small (refsR R[i]).length:=by unfold Small; omega
   have hc1:=conFKey_c 87 [.ro [.mp (mks M) (mvs M)]] (caps_map M) (fun k=>!isIn M k) (refsR R[i]) (fun x _=>served1_c x.kind x.name M) hqs
   have hlk:(refsR R[i]).any (fun k=>!isIn M k)=lacks M R[i]:=rfl
   rw [hlk] at hc1
   clear hr1 hof hlk
   (repeat' (first
 | (with_reducible first|refine callX.by (hc1) ?_|refine callX.by (refsOf_c _ ?_) ?_|refine callX.by (reach_c _ ?_ ?_ ?_) ?_|refine callX.by a6rc ?_|refine callX.by (refsR_c _ _ _ _ _ _ _ ?_ ?_ ?_) ?_|refine callX.by awqc ?_|refine callX.by (conFKey_c _ _ ?_ _ _ ?_ ?_) ?_|refine callX.by (conFRes_c _ _ ?_ _ _ ?_ ?_) ?_|refine callX.by (served2_c _ _ _ _ _ _ _) ?_|assumption|(refine Qw hK _ ?_; clear hK K)|refine Qw ‹_› _ ?_|refine Qx ‹_› ?_|refine Qi fun K hK=>?_|refine Qj T fun K hK=>?_|refine Ql fun A B hA hB=>?_|refine Qm ?_|refine Qn ?_|refine Qp ?_|refine Qr ?_)
 | ((with_reducible first|apply Qy|apply Qz|apply QA)<;>intro hb<;>try simp only [nr] at hb)
 | simp only [go_sem,↓reduceIte,reduceIte,Qa,Qh,Qb,Qc,Qd,Qe,Qf,Qg,reduceCtorEq, *,-hsr,-hc1,-hc2,-hsv,-hx2,-f2]
 | with_reducible refine fun (bn:Bool) hbn=>?_))
   all_goals ((repeat clear hK); (repeat clear hA); (repeat clear hB))
   ·rw [hb,Bool.true_or] at f2
    rw [hsv,if_pos f2]
   ·rw [hb,Bool.false_or] at f2
    (refine hM.on (R.length - (i+1)) (by omega) (by simp only [go_sem,↓reduceIte,reduceIte,Qa,Qh,Qb,Qc,Qd,Qe,Qf,Qg,reduceCtorEq, *,w64_nat hlt hrs,-hsr,-hc1,-hc2,-hsv,-hx2,-f2]) ⟨i+1,rfl,by omega,f2,?_⟩; simp only [go_sem,↓reduceIte,reduceIte,Qa,Qh,Qb,Qc,Qd,Qe,Qf,Qg,reduceCtorEq, *,w64_nat hlt hrs,-hsr,-hc1,-hc2,-hsv,-hx2,-f2]; done)
  ·rw [List.drop_eq_nil_of_le (by omega),List.any_nil] at f2
   rw [f2] at hsv
   simp only [Bool.false_eq_true,if_false] at hsv
   clear hr1 hof f2
   have htkR:(avs R).take R.length=avs R:=List.take_of_length_le (by simp [avs])
   (repeat' (first
 | (with_reducible first|refine callX.by (hc2) ?_|refine callX.by (refsOf_c _ ?_) ?_|refine callX.by (reach_c _ ?_ ?_ ?_) ?_|refine callX.by a6rc ?_|refine callX.by (refsR_c _ _ _ _ _ _ _ ?_ ?_ ?_) ?_|refine callX.by awqc ?_|refine callX.by (conFKey_c _ _ ?_ _ _ ?_ ?_) ?_|refine callX.by (conFRes_c _ _ ?_ _ _ ?_ ?_) ?_|refine callX.by (served2_c _ _ _ _ _ _ _) ?_|assumption|(refine Qw hK _ ?_; clear hK K)|refine Qw ‹_› _ ?_|refine Qx ‹_› ?_|refine Qi fun K hK=>?_|refine Qj T fun K hK=>?_|refine Ql fun A B hA hB=>?_|refine Qm ?_|refine Qn ?_|refine Qp ?_|refine Qr ?_)
 | ((with_reducible first|apply Qy|apply Qz|apply QA)<;>intro hb<;>try simp only [nr] at hb)
 | simp only [go_sem,↓reduceIte,reduceIte,Qa,Qh,Qb,Qc,Qd,Qe,Qf,Qg,reduceCtorEq, *,-hsr,-hc2,-hsv]
 | with_reducible refine fun (bn:Bool) hbn=>?_))
   all_goals ((repeat clear hK); (repeat clear hA); (repeat clear hB))
   all_goals (rw [hsv]; simp [hb])
end Go.Proofs.YtmjkjmoeicnbnaaGreatDoor.Lg
namespace Go.Proofs.YtmjkjmoeicnbnaaGreatDoor.Lg
set_option maxRecDepth 100000
set_option linter.unusedVariables false
set_option linter.unusedSimpArgs false
open Go
theorem firstBad_zero {l:List Res} (h:firstBad l=0):∀ r∈l,saneR r=0:=by
 induction l with
 | nil=>simp
 | cons r l ih =>
  unfold firstBad at h
  split at h
  ·rename_i hs
   intro x hx
   rcases List.mem_cons.1 hx with rfl|hx
   ·exact hs
   ·exact ih h x hx
  ·rename_i hs; exact absurd h hs
theorem upR_iff:∀ l:List Res,upR l=true↔Up (l.map keyOf)
 | []=>by simp [upR,Up]
 | [a]=>by simp [upR,Up]
 | a :: b :: l=>by
  rw [upR_cons2,Bool.and_eq_true,upR_iff (b :: l),decide_eq_true_eq]
  simp only [List.map_cons]
  constructor
  ·rintro ⟨h1,h2⟩
   refine List.pairwise_cons.2 ⟨fun x hx=>?_,h2⟩
   rcases List.mem_cons.1 hx with rfl|hx
   ·exact h1
   ·exact kcmp_trans _ _ _ h1 ((List.pairwise_cons.1 h2).1 x hx)
  ·intro h
   obtain ⟨h1,h2⟩:=List.pairwise_cons.1 h
   exact ⟨h1 _ (by simp),h2⟩
structure Conf (l:List Res):Prop where
 len:l.length≤64
 sane:∀ r∈l,saneR r=0
 up:Up (l.map keyOf)
theorem conf_of {l:List Res} (h:tsane l=0):Conf l:=by
 unfold tsane at h
 split at h
 ·cases h
 ·rename_i h1
  split at h
  ·rename_i h2; exact absurd h h2
  ·rename_i h2
   split at h
   ·cases h
   ·rename_i h3
    exact ⟨by omega,firstBad_zero (by simpa using h2),(upR_iff l).1 (by simpa using h3)⟩
theorem up_nodup {l:List Key} (h:Up l):l.Nodup:=by
 unfold Up at h
 refine h.imp fun {a b} hab e=>?_
 subst e
 exact kcmp_irrefl _ hab
theorem Conf.nodup {l:List Res} (h:Conf l):(l.map keyOf).Nodup:=up_nodup h.up
theorem key_inj {l:List Res} (h:(l.map keyOf).Nodup) {a b:Res} (ha:a∈l) (hb:b∈l) (e:keyOf a=keyOf b):a=b:=by
 induction l with
 | nil=>simp at ha
 | cons r l ih =>
  rw [List.map_cons,List.nodup_cons] at h
  rcases List.mem_cons.1 ha with ha'|ha'<;>rcases List.mem_cons.1 hb with hb'|hb'
  ·rw [ha',hb']
  ·exact absurd (by rw [← ha',e]; exact List.mem_map_of_mem hb') h.1
  ·exact absurd (by rw [← hb',← e]; exact List.mem_map_of_mem ha') h.1
  ·exact ih h.2 ha' hb'
theorem names_get {l:List Res} (h:(l.map keyOf).Nodup) {r:Res} (hr:r∈l):mget (namesM l) (keyOf r)=some (refsR r):=by
 obtain ⟨q,h1,h2⟩:=mget_names l (keyOf r) (List.mem_map_of_mem hr)
 have h3:=mget_mem h2
 obtain ⟨p,hp,he⟩:=List.mem_map.1 h3
 have e1:keyOf p=keyOf r:=(Prod.mk.inj he).1
 have:=key_inj h hp hr e1
 subst this
 rw [h2,← (Prod.mk.inj he).2]
inductive Rch (l:List Res):Key→Prop
 | base (r:Res):r∈l→r.kind=0→Rch l (keyOf r)
 | step (r:Res) (x:Key):r∈l→Rch l (keyOf r)→x∈refsR r→x∈l.map keyOf→Rch l x
section dfs
variable (T0:KS) (N:List (Key × List Key))
def succK (k:Key):List Key:=(mget N k).getD []
inductive Way:Key→Key→Prop
 | refl (k:Key):isIn T0 k=true→Way k k
 | step (k x y:Key):isIn T0 k=true→x∈succK N k→Way x y→Way k y
abbrev Shut (A B:KS):Prop:=∀ x,isIn B x=true→isIn A x=false→∀ y∈succK N x,isIn T0 y=true→isIn B y=true
theorem dfs (n:Nat):∀ (k:Key) (M:KS),muV T0 M≤n →
  (isIn T0 k=true→isIn (visF T0 N n k M) k=true) ∧
  (∀ x,isIn (visF T0 N n k M) x=true→isIn M x=false→Way T0 N k x)∧Shut T0 N M (visF T0 N n k M):=by
 induction n with
 | zero =>
  intro k M hmu
  have h0:∀ k,isIn T0 k=true→isIn M k=true:=fun k hk=>by
   cases hm:isIn M k with
   | true=>rfl
   | false=>have:=mu_lt hk hm; omega
  exact ⟨h0 k,fun x hx hx'=>absurd (Eq.trans (Eq.symm (show isIn M x=true from hx)) hx') (by decide),fun x hx hx'=>absurd (Eq.trans (Eq.symm (show isIn M x=true from hx)) hx') (by decide)⟩
 | succ n ih =>
  intro k M hmu
  by_cases hc:isIn T0 k=true∧isIn M k=false
  rotate_left
  ·have e:visF T0 N (n+1) k M=M:=by rw [visF,if_neg hc]
   rw [e]
   refine ⟨fun hk=>?_,fun x hx hx'=>absurd (Eq.trans (Eq.symm hx) hx') (by decide),fun x hx hx'=>absurd (Eq.trans (Eq.symm hx) hx') (by decide)⟩
   cases hm:isIn M k with
   | true=>rfl
   | false=>exact absurd ⟨hk,hm⟩ hc
  ·obtain ⟨hk,hm⟩:=hc
   have e:visF T0 N (n+1) k M=(succK N k).foldl (fun M x=>visF T0 N n x M) (mput M k true):=by rw [visF,if_pos ⟨hk,hm⟩]; rfl
   have hmu1:muV T0 (mput M k true)≤n:=by have:=mu_lt hk hm; omega
   have fold:∀ (v:List Key) (M1:KS),muV T0 M1≤n →
     (∀ x,isIn M1 x=true→isIn (v.foldl (fun M x=>visF T0 N n x M) M1) x=true) ∧
     (∀ y∈v,isIn T0 y=true→isIn (v.foldl (fun M x=>visF T0 N n x M) M1) y=true) ∧
     (∀ x,isIn (v.foldl (fun M x=>visF T0 N n x M) M1) x=true→isIn M1 x=false→∃ y∈v,Way T0 N y x) ∧
     Shut T0 N M1 (v.foldl (fun M x=>visF T0 N n x M) M1):=by
    intro v
    induction v with
    | nil=>exact fun M1 _=>⟨fun x h=>h,by simp,fun x h h'=>absurd (Eq.trans (Eq.symm (show isIn M1 x=true from h)) h') (by decide),fun x h h'=>absurd (Eq.trans (Eq.symm (show isIn M1 x=true from h)) h') (by decide)⟩
    | cons y v ihv =>
     intro M1 h1
     rw [List.foldl_cons]
     obtain ⟨a1,a2,a3⟩:=ih y M1 h1
     have hg:∀ x,isIn M1 x=true→isIn (visF T0 N n y M1) x=true:=fun x hx=>visF_grow T0 N n y M1 x hx
     obtain ⟨b1,b2,b3,b4⟩:=ihv (visF T0 N n y M1) (Nat.le_trans (mu_le hg) h1)
     refine ⟨fun x hx=>b1 x (hg x hx),fun z hz hzT=>?_,fun x hx hx'=>?_,fun x hx hx' z hz hzT=>?_⟩
     ·rcases List.mem_cons.1 hz with rfl|hz
      ·exact b1 _ (a1 hzT)
      ·exact b2 z hz hzT
     ·cases hv:isIn (visF T0 N n y M1) x with
      | true=>exact ⟨y,by simp,a2 x hv hx'⟩
      | false=>obtain ⟨z,hz,hw⟩:=b3 x hx hv; exact ⟨z,by simp [hz],hw⟩
     ·cases hv:isIn (visF T0 N n y M1) x with
      | true=>exact b1 _ (a3 x hv hx' z hz hzT)
      | false=>exact b4 x hx hv z hz hzT
   obtain ⟨b1,b2,b3,b4⟩:=fold (succK N k) (mput M k true) hmu1
   rw [e]
   refine ⟨fun _=>b1 k (by rw [isIn_put]; simp),fun x hx hx'=>?_,fun x hx hx' y hy hyT=>?_⟩
   ·cases hp:isIn (mput M k true) x with
    | true =>
     rw [isIn_put,hx'] at hp
     have:x=k:=by simpa using hp
     subst this
     exact .refl _ hk
    | false =>
     obtain ⟨y,hy,hw⟩:=b3 x hx hp
     exact .step k y x hk hy hw
   ·cases hp:isIn (mput M k true) x with
    | true =>
     rw [isIn_put,hx'] at hp
     have:x=k:=by simpa using hp
     subst this
     exact b2 y hy hyT
    | false=>exact b4 x hx hp y hy hyT
theorem reachF_spec (n:Nat) (hn:∀ M,muV T0 M≤n):∀ (l:List Res) (M:KS),Shut T0 N [] M →
  Shut T0 N [] (reachF T0 N n l M)∧(∀ x,isIn M x=true→isIn (reachF T0 N n l M) x=true)∧(∀ r∈l,r.kind=0→isIn T0 (keyOf r)=true→isIn (reachF T0 N n l M) (keyOf r)=true) ∧
  ∀ x,isIn (reachF T0 N n l M) x=true→isIn M x=true∨∃ r∈l,r.kind=0∧Way T0 N (keyOf r) x
 | [],M,h=>⟨h,fun x hx=>hx,by simp,fun x hx=>.inl hx⟩
 | r :: l,M,h=>by
  have e:reachF T0 N n (r :: l) M=reachF T0 N n l (if r.kind=0 then visF T0 N n (keyOf r) M else M):=rfl
  rw [e]
  by_cases hk:r.kind=0
  ·rw [if_pos hk]
   obtain ⟨a1,a2,a3⟩:=dfs T0 N n (keyOf r) M (hn M)
   have hg:∀ x,isIn M x=true→isIn (visF T0 N n (keyOf r) M) x=true:=fun x hx=>visF_grow T0 N n _ M x hx
   have hs:Shut T0 N [] (visF T0 N n (keyOf r) M):=fun x hx _ y hy hyT=>by
    cases hm:isIn M x with
    | true=>exact hg _ (h x hm rfl y hy hyT)
    | false=>exact a3 x hx hm y hy hyT
   obtain ⟨b1,b2,b3,b4⟩:=reachF_spec n hn l _ hs
   refine ⟨b1,fun x hx=>b2 x (hg x hx),fun q hq hq0 hqT=>?_,fun x hx=>?_⟩
   ·rcases List.mem_cons.1 hq with rfl|hq
    ·exact b2 _ (a1 hqT)
    ·exact b3 q hq hq0 hqT
   ·rcases b4 x hx with h1|⟨q,hq,h1,h2⟩
    ·cases hm:isIn M x with
     | true=>exact .inl rfl
     | false=>exact .inr ⟨r,by simp,hk,a2 x h1 hm⟩
    ·exact .inr ⟨q,by simp [hq],h1,h2⟩
  ·rw [if_neg hk]
   obtain ⟨b1,b2,b3,b4⟩:=reachF_spec n hn l M h
   refine ⟨b1,b2,fun q hq hq0 hqT=>?_,fun x hx=>?_⟩
   ·rcases List.mem_cons.1 hq with rfl|hq
    ·exact absurd hq0 hk
    ·exact b3 q hq hq0 hqT
   ·rcases b4 x hx with h1|⟨q,hq,h1,h2⟩
    ·exact .inl h1
    ·exact .inr ⟨q,by simp [hq],h1,h2⟩
end dfs
theorem isIn_of (l:List Res) (k:Key):isIn (ofR l []) k=decide (k∈l.map keyOf):=by rw [mem_ofR]; simp [isIn]
theorem reached_iff {l:List Res} (h:(l.map keyOf).Nodup) (k:Key):isIn (reachedM l) k=true↔Rch l k:=by
 have hT:∀ k,isIn (ofR l []) k=true↔k∈l.map keyOf:=fun k=>by rw [isIn_of]; simp
 obtain ⟨b1,_,b3,b4⟩:=reachF_spec (ofR l []) (namesM l) (ofR l []).length (fun M=>List.length_filter_le _ _) l [] (fun x hx=>by simp [isIn] at hx)
 have hsucc:∀ r∈l,succK (namesM l) (keyOf r)=refsR r:=fun r hr=>by unfold succK; rw [names_get h hr]; rfl
 constructor
 ·intro hk
  rcases b4 k hk with h1|⟨r,hr,h0,hw⟩
  ·simp [isIn] at h1
  ·have:∀ {a b:Key},Way (ofR l []) (namesM l) a b→Rch l a→Rch l b:=by
    intro a b hw
    induction hw with
    | refl=>exact fun h=>h
    | step k x y hk hx hw ih =>
     intro ha
     refine ih ?_
     obtain ⟨q,hq,rfl⟩:=List.mem_map.1 ((hT k).1 hk)
     rw [hsucc q hq] at hx
     refine .step q x hq ha hx ?_
     cases hw with
     | refl _ hx'=>exact (hT x).1 hx'
     | step _ _ _ hx'=>exact (hT x).1 hx'
   exact this hw (.base r hr h0)
 ·intro hk
  induction hk with
  | base r hr h0=>exact b3 r hr h0 ((hT _).2 (List.mem_map_of_mem hr))
  | step r x hr _ hx hx' ih=>exact b1 _ ih rfl x (by rw [hsucc r hr]; exact hx) ((hT x).2 hx')
theorem reachR_sub (l:List Res):(reachR l).Sublist l:=List.filter_sublist
end Go.Proofs.YtmjkjmoeicnbnaaGreatDoor.Lg
