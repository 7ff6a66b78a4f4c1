/- Parts of the proof, one behind the other. -/
import Derived.Tactics
import Derived.Tactics2
import Derived.Defers
import Derived.Recover
import Derived.Laws.Pointers
import Derived.Test.YtmjkjmoeicnbnaaGreatDoorG14
namespace Go.Proofs.YtmjkjmoeicnbnaaGreatDoor.Lg
set_option maxRecDepth 100000
set_option linter.unusedVariables false
set_option linter.unusedSimpArgs false
open Go
open Nat renaming reduceEqDiff → Qa, reduceLT → Qb, reduceLeDiff → Qc, reduceAdd → Qd, reduceMul → Qe, reduceSub → Qf, reduceBEq → Qg
open String renaming reduceEq → Qh
open SpecC renaming seqW → Qi, regW → Qj, drawW → Qk, condW → Ql, block → Qm, skip → Qn, exit → Qp, ret → Qr, loopF → Qs
open NxK renaming out → Qw
open Nx renaming out → Qx
open condK renaming split → Qy
open gK renaming split_t → Qz, split_f → QA
@[go_sem] def Wd7:List (List Nat×List Nat):=[([24],[25,26]),([25],[24]),([26],[24])]
abbrev KS:=List (Key × Bool)
def isIn (M:KS) (k:Key):Bool:=(mget M k).getD false
def visF (T0:KS) (N:List (Key × List Key)):Nat→Key→KS→KS
 | 0,_,M=>M
 | n+1,k,M=>if isIn T0 k=true∧isIn M k=false then ((mget N k).getD []).foldl (fun M x=>visF T0 N n x M) (mput M k true) else M
def muV (T0 M:KS):Nat:=(T0.filter fun p=>p.2 && !isIn M p.1).length
theorem isIn_put (M:KS) (k x:Key):isIn (mput M k true) x=(decide (x=k) || isIn M x):=by
 unfold isIn
 rw [mget_mput]
 by_cases h:x=k<;>simp [h]
theorem visF_grow (T0:KS) (N:List (Key × List Key)):∀ (n:Nat) (k:Key) (M:KS) (x:Key),isIn M x=true→isIn (visF T0 N n k M) x=true
 | 0,_,_,_,h=>h
 | n+1,k,M,x,h=>by
  unfold visF
  split
  ·have:∀ (l:List Key) (M:KS),isIn M x=true→isIn (l.foldl (fun M y=>visF T0 N n y M) M) x=true:=by
    intro l
    induction l with
    | nil=>exact fun M h=>h
    | cons y l ih=>exact fun M h=>ih _ (visF_grow T0 N n y M x h)
   exact this _ _ (by rw [isIn_put]; simp [h])
  ·exact h
theorem mu_le {T0 M M':KS} (h:∀ x,isIn M x=true→isIn M' x=true):muV T0 M'≤muV T0 M:=by
 unfold muV
 rw [← List.countP_eq_length_filter,← List.countP_eq_length_filter]
 refine List.countP_mono_left fun p _ hp=>?_
 simp only [Bool.and_eq_true,Bool.not_eq_true'] at hp ⊢
 refine ⟨hp.1,?_⟩
 cases hm:isIn M p.1 with
 | false=>rfl
 | true=>rw [h _ hm] at hp; simp at hp
theorem mget_mem {α β:Type} [DecidableEq α] {M:List (α × β)} {x:α} {v:β} (h:mget M x=some v):(x,v)∈M:=by
 unfold mget at h
 obtain ⟨p,h1,h2⟩:=Option.map_eq_some_iff.1 h
 have h3:=List.find?_some h1
 have h4:=List.mem_of_find?_eq_some h1
 have:p.1=x:=by simpa using (of_decide_eq_true h3).symm
 rw [← this,← h2]; exact h4
theorem isIn_mem {M:KS} {k:Key} (h:isIn M k=true):(k,true)∈M:=by
 unfold isIn at h
 cases hm:mget M k with
 | none=>rw [hm] at h; simp at h
 | some b=>rw [hm] at h; simp at h; subst h; exact mget_mem hm
theorem mu_lt {T0 M:KS} {k:Key} (h1:isIn T0 k=true) (h2:isIn M k=false):muV T0 (mput M k true) < muV T0 M:=by
 have hm:=isIn_mem h1
 unfold muV
 have key:∀ (l:KS),(l.filter fun p=>p.2 && !isIn (mput M k true) p.1).length≤(l.filter fun p=>p.2 && !isIn M p.1).length∧((k,true)∈l→(l.filter fun p=>p.2 && !isIn (mput M k true) p.1).length < (l.filter fun p=>p.2 && !isIn M p.1).length):=by
  intro l
  induction l with
  | nil=>simp
  | cons p l ih =>
   obtain ⟨i1,i2⟩:=ih
   have hp:(p.2 && !isIn (mput M k true) p.1)=true→(p.2 && !isIn M p.1)=true:=by
    rw [isIn_put]
    simp only [Bool.and_eq_true,Bool.not_eq_true',Bool.or_eq_false_iff]
    exact fun ⟨a,_,b⟩=>⟨a,b⟩
   refine ⟨?_,fun hmem=>?_⟩
   ·rw [List.filter_cons,List.filter_cons]
    by_cases q1:(p.2 && !isIn (mput M k true) p.1)=true
    ·rw [if_pos q1,if_pos (hp q1)]; simp; exact i1
    ·rw [if_neg q1]
     split
     ·simp; omega
     ·exact i1
   ·rw [List.filter_cons,List.filter_cons]
    rcases List.mem_cons.1 hmem with rfl|hmem
    ·rw [if_neg (by rw [isIn_put]; simp),if_pos (by simp [h2])]
     simp; omega
    ·have:=i2 hmem
     by_cases q1:(p.2 && !isIn (mput M k true) p.1)=true
     ·rw [if_pos q1,if_pos (hp q1)]; simp; exact this
     ·rw [if_neg q1]
      split
      ·simp; omega
      ·exact this
 exact (key T0).2 hm
theorem look_keys {N:List (Key × List Key)} {k:Key} {v:List Key} (h:mget N k=some v) (z:AV):lookA false z (mvs N) (ixOf k N)=.slice false (avs v):=by
 cases hi:ixOf k N with
 | none=>rw [ix_none hi] at h; cases h
 | some i =>
  obtain ⟨h1,h2⟩:=ix_get hi
  rw [h2] at h
  cases h
  show (mvs N).getD i .any=_
  unfold mvs
  rw [avs_get _ i (by simpa using h1)]
  simp [av_keys]
set_option maxHeartbeats 4000000 in
theorem visit_c (T0:KS) (N:List (Key × List Key)) (hTN:∀ k,isIn T0 k=true→∃ ks,mget N k=some ks∧Small ks.length):∀ (n:Nat) (k_kind:Int) (k_name:List UInt8) (M:KS),muV T0 M≤n →
  CallH Tryz.prog 139 1000 [.agg [.int .i64 k_kind,.str k_name],.ro [.mp (mks T0) (mvs T0)],.ro [.mref 1000 0],.ro [.mp (mks N) (mvs N)],recV 139 (.ro [.mp (mks T0) (mvs T0)]) (.ro [.mref 1000 0]) (.ro [.mp (mks N) (mvs N)]) n] (mks M) (mvs M) (.tup [])
   (mks (visF T0 N n (⟨k_kind,k_name⟩:Key) M)) (mvs (visF T0 N n (⟨k_kind,k_name⟩:Key) M)):=by
 intro n
 induction n with
 | zero =>
  intro k_kind k_name M hmu
  have hno:¬ (isIn T0 (⟨k_kind,k_name⟩:Key)=true∧isIn M (⟨k_kind,k_name⟩:Key)=false):=fun ⟨h1,h2⟩=>by have:=mu_lt h1 h2; omega
  have e:visF T0 N 0 (⟨k_kind,k_name⟩:Key) M=M:=rfl
  rw [e]
  refine CallH.go5 (T:=T) Tryz.call139 Tryz.func139 rfl Tryz.ntmps139 (congrArg Array.toList Tryz.results139) (by decide) fun ts hn h0 h1 h2 h3 h4 hg ho=>?_
  by_cases hT:(mget T0 (⟨k_kind,k_name⟩:Key)).getD false=true
  ·have hO:(mget M (⟨k_kind,k_name⟩:Key)).getD false=true:=by
    cases hm:(mget M (⟨k_kind,k_name⟩:Key)).getD false with
    | true=>rfl
    | false=>exact absurd ⟨hT,hm⟩ hno
   (repeat' (first
 | (with_reducible first|assumption|(refine Qw hK _ ?_; clear hK K)|refine Qw ‹_› _ ?_|refine Qx ‹_› ?_|refine Qi fun K hK=>?_|refine Qj T fun K hK=>?_|refine Ql fun A B hA hB=>?_|refine Qm ?_|refine Qn ?_|refine Qp ?_|refine Qr ?_)
 | ((with_reducible first|apply Qy|apply Qz|apply QA)<;>intro hb<;>try simp only [nr] at hb)
 | simp only [go_sem,↓reduceIte,reduceIte,Qa,Qh,Qb,Qc,Qd,Qe,Qf,Qg,reduceCtorEq, *,-hTN,-hno,-h4]
 | with_reducible refine fun (bn:Bool) hbn=>?_))
  ·have hT:(mget T0 (⟨k_kind,k_name⟩:Key)).getD false=false:=by simpa using hT
   (repeat' (first
 | (with_reducible first|assumption|(refine Qw hK _ ?_; clear hK K)|refine Qw ‹_› _ ?_|refine Qx ‹_› ?_|refine Qi fun K hK=>?_|refine Qj T fun K hK=>?_|refine Ql fun A B hA hB=>?_|refine Qm ?_|refine Qn ?_|refine Qp ?_|refine Qr ?_)
 | ((with_reducible first|apply Qy|apply Qz|apply QA)<;>intro hb<;>try simp only [nr] at hb)
 | simp only [go_sem,↓reduceIte,reduceIte,Qa,Qh,Qb,Qc,Qd,Qe,Qf,Qg,reduceCtorEq, *,-hTN,-hno,-h4]
 | with_reducible refine fun (bn:Bool) hbn=>?_))
 | succ n ih =>
  intro k_kind k_name M hmu
  by_cases hT:(mget T0 (⟨k_kind,k_name⟩:Key)).getD false=true
  rotate_left
  ·have hT:(mget T0 (⟨k_kind,k_name⟩:Key)).getD false=false:=by simpa using hT
   have e:visF T0 N (n+1) (⟨k_kind,k_name⟩:Key) M=M:=by unfold visF; rw [if_neg (by simp [isIn,hT])]
   rw [e]
   refine CallH.go5 (T:=T) Tryz.call139 Tryz.func139 rfl Tryz.ntmps139 (congrArg Array.toList Tryz.results139) (by decide) fun ts hn h0 h1 h2 h3 h4 hg ho=>?_
   (repeat' (first
 | (with_reducible first|assumption|(refine Qw hK _ ?_; clear hK K)|refine Qw ‹_› _ ?_|refine Qx ‹_› ?_|refine Qi fun K hK=>?_|refine Qj T fun K hK=>?_|refine Ql fun A B hA hB=>?_|refine Qm ?_|refine Qn ?_|refine Qp ?_|refine Qr ?_)
 | ((with_reducible first|apply Qy|apply Qz|apply QA)<;>intro hb<;>try simp only [nr] at hb)
 | simp only [go_sem,↓reduceIte,reduceIte,Qa,Qh,Qb,Qc,Qd,Qe,Qf,Qg,reduceCtorEq, *,-hTN,-h4]
 | with_reducible refine fun (bn:Bool) hbn=>?_))
  by_cases hO:(mget M (⟨k_kind,k_name⟩:Key)).getD false=true
  ·have e:visF T0 N (n+1) (⟨k_kind,k_name⟩:Key) M=M:=by unfold visF; rw [if_neg (by simp [isIn,hO])]
   rw [e]
   refine CallH.go5 (T:=T) Tryz.call139 Tryz.func139 rfl Tryz.ntmps139 (congrArg Array.toList Tryz.results139) (by decide) fun ts hn h0 h1 h2 h3 h4 hg ho=>?_
   (repeat' (first
 | (with_reducible first|assumption|(refine Qw hK _ ?_; clear hK K)|refine Qw ‹_› _ ?_|refine Qx ‹_› ?_|refine Qi fun K hK=>?_|refine Qj T fun K hK=>?_|refine Ql fun A B hA hB=>?_|refine Qm ?_|refine Qn ?_|refine Qp ?_|refine Qr ?_)
 | ((with_reducible first|apply Qy|apply Qz|apply QA)<;>intro hb<;>try simp only [nr] at hb)
 | simp only [go_sem,↓reduceIte,reduceIte,Qa,Qh,Qb,Qc,Qd,Qe,Qf,Qg,reduceCtorEq, *,-hTN,-h4]
 | with_reducible refine fun (bn:Bool) hbn=>?_))
  have hO:(mget M (⟨k_kind,k_name⟩:Key)).getD false=false:=by simpa using hO
  obtain ⟨v,hv,hvs⟩:=hTN (⟨k_kind,k_name⟩:Key) hT
  have hlk:=look_keys hv
  have e:visF T0 N (n+1) (⟨k_kind,k_name⟩:Key) M=v.foldl (fun M x=>visF T0 N n x M) (mput M (⟨k_kind,k_name⟩:Key) true):=by
   rw [visF,if_pos ⟨hT,hO⟩,hv]; rfl
  rw [e]
  have hmu1:muV T0 (mput M (⟨k_kind,k_name⟩:Key) true)≤n:=by have:=mu_lt (T0:=T0) (M:=M) hT hO; omega
  refine CallH.go5 (T:=T) Tryz.call139 Tryz.func139 rfl Tryz.ntmps139 (congrArg Array.toList Tryz.results139) (by decide) fun ts hn h0 h1 h2 h3 h4 hg ho=>?_
  rw [recV_succ] at h4
  (repeat' (first
 | (with_reducible first|assumption|(refine Qw hK _ ?_; clear hK K)|refine Qw ‹_› _ ?_|refine Qx ‹_› ?_|refine Qi fun K hK=>?_|refine Qj T fun K hK=>?_|refine Ql fun A B hA hB=>?_|refine Qm ?_|refine Qn ?_|refine Qp ?_|refine Qr ?_)
 | ((with_reducible first|apply Qy|apply Qz|apply QA)<;>intro hb<;>try simp only [nr] at hb)
 | simp only [go_sem,↓reduceIte,reduceIte,Qa,Qh,Qb,Qc,Qd,Qe,Qf,Qg,reduceCtorEq, *,-hTN,-ih]
 | with_reducible refine fun (bn:Bool) hbn=>?_))
  have hre:(recV 139 (.ro [.mp (mks T0) (mvs T0)]) (.ro [.mref 1000 0]) (.ro [.mp (mks N) (mvs N)]) n).renM 1000 0 1000=recV 139 (.ro [.mp (mks T0) (mvs T0)]) (.ro [.mref 1000 0]) (.ro [.mp (mks N) (mvs N)]) n :=
   renM_recV _ _ _ _ _ _ _ _ (by simp only [go_sem,Bool.and_self]) (by simp only [go_sem,Bool.and_self])
  have hpe:(recV 139 (.ro [.mp (mks T0) (mvs T0)]) (.ro [.mref 1000 0]) (.ro [.mp (mks N) (mvs N)]) n).pureH 1000 0=true :=
   pureH_recV _ _ _ _ _ _ _ (by simp only [go_sem,Bool.and_self]) (by decide) (by simp only [go_sem,Bool.and_self])
  refine Qs [4,21,22] (fun m ts'=>∃ (i:Nat),∃ (M2:KS),m=v.length - i∧i≤v.length∧muV T0 M2≤n∧v.foldl (fun M x=>visF T0 N n x M) (mput M (⟨k_kind,k_name⟩:Key) true)=(v.drop i).foldl (fun M x=>visF T0 N n x M) M2∧ts'.gen 1000=0∧ts'.obj 1000=.mp (mks M2) (mvs M2)∧ts'.tmp 23=.int .i64 i) v.length ?_ ?_
  ·refine ⟨0,mput M (⟨k_kind,k_name⟩:Key) true,rfl,Nat.zero_le _,hmu1,rfl,?_⟩
   simp only [go_sem,↓reduceIte,reduceIte,Qa,Qh,Qb,Qc,Qd,Qe,Qf,Qg,reduceCtorEq, *,-hTN,-ih,-e]
  ·rintro m A hM ts' hk ⟨i,M2,hm,f1,f2,f3,s1,s2,s3⟩
   simp only [go_sem,↓reduceIte,reduceIte,Qa,Qh,Qb,Qc,Qd,Qe,Qf,Qg,reduceCtorEq, *] at hk
   by_cases hlt:i < v.length
   ·rw [List.drop_eq_getElem_cons hlt,List.foldl_cons] at f3
    (repeat' (first
 | (with_reducible first|refine callX.hm (d:=1000) (g:=0) ?_ ?_ (ih v[i].kind v[i].name M2 f2) ?_|assumption|(refine Qw hK _ ?_; clear hK K)|refine Qw ‹_› _ ?_|refine Qx ‹_› ?_|refine Qi fun K hK=>?_|refine Qj T fun K hK=>?_|refine Ql fun A B hA hB=>?_|refine Qm ?_|refine Qn ?_|refine Qp ?_|refine Qr ?_)
 | ((with_reducible first|apply Qy|apply Qz|apply QA)<;>intro hb<;>try simp only [nr] at hb)
 | simp only [go_sem,↓reduceIte,reduceIte,Qa,Qh,Qb,Qc,Qd,Qe,Qf,Qg,reduceCtorEq, *,-hTN,-ih,-f3,-e]
 | with_reducible refine fun (bn:Bool) hbn=>?_))
    all_goals ((repeat clear hK); (repeat clear hA); (repeat clear hB))
    (refine hM.on (v.length - (i+1)) (by omega) (by simp only [go_sem,↓reduceIte,reduceIte,Qa,Qh,Qb,Qc,Qd,Qe,Qf,Qg,reduceCtorEq, *,w64_nat hlt hvs,-hTN,-ih,-f3,-e]) ⟨i+1,visF T0 N n v[i] M2,rfl,by omega,Nat.le_trans (mu_le fun x hx=>visF_grow T0 N n _ M2 x hx) f2,f3,?_⟩; simp only [go_sem,↓reduceIte,reduceIte,Qa,Qh,Qb,Qc,Qd,Qe,Qf,Qg,reduceCtorEq, *,w64_nat hlt hvs,-hTN,-ih,-f3,-e]; done)
   ·rw [List.drop_eq_nil_of_le (by omega),List.foldl_nil] at f3
    (repeat' (first
 | (with_reducible first|assumption|(refine Qw hK _ ?_; clear hK K)|refine Qw ‹_› _ ?_|refine Qx ‹_› ?_|refine Qi fun K hK=>?_|refine Qj T fun K hK=>?_|refine Ql fun A B hA hB=>?_|refine Qm ?_|refine Qn ?_|refine Qp ?_|refine Qr ?_)
 | ((with_reducible first|apply Qy|apply Qz|apply QA)<;>intro hb<;>try simp only [nr] at hb)
 | simp only [go_sem,↓reduceIte,reduceIte,Qa,Qh,Qb,Qc,Qd,Qe,Qf,Qg,reduceCtorEq, *,-hTN,-ih,-e]
 | with_reducible refine fun (bn:Bool) hbn=>?_))
theorem mem_ofR (l:List Res) (k:Key):∀ M:KS,isIn (ofR l M) k=(decide (k∈l.map keyOf) || isIn M k):=by
 unfold ofR
 induction l with
 | nil=>intro M; simp
 | cons r l ih =>
  intro M
  rw [List.foldl_cons,ih,isIn_put]
  by_cases h1:k=keyOf r<;>by_cases h2:k∈l.map keyOf<;>simp_all
theorem mget_names (l:List Res) (k:Key) (h:k∈l.map keyOf):∃ r∈l,mget (namesM l) k=some (refsR r):=by
 unfold mget namesM
 induction l with
 | nil=>simp at h
 | cons r l ih =>
  rw [List.map_cons,List.find?_cons]
  by_cases he:k=keyOf r
  ·exact ⟨r,by simp,by simp [he]⟩
  ·obtain ⟨q,h1,h2⟩:=ih (by rw [List.map_cons,List.mem_cons] at h; exact h.resolve_left he)
   exact ⟨q,by simp [h1],by simpa [he] using h2⟩
def reachF (T0:KS) (N:List (Key × List Key)) (n:Nat) (l:List Res) (M:KS):KS:=l.foldl (fun M r=>if r.kind=0 then visF T0 N n (keyOf r) M else M) M
def reachedM (l:List Res):KS:=reachF (ofR l []) (namesM l) (ofR l []).length l []
set_option maxHeartbeats 4000000 in
theorem reached_c (xs:List Res) (hl:xs.length≤65536) (hs:∀ r∈xs,SmRes r) (hnd:(xs.map keyOf).Nodup):CallR Tryz.prog 81 [.slice false (avs xs)] (.val (.mp (mks (reachedM xs)) (mvs (reachedM xs)))):=by
 have hsl:=small_le hl
 obtain ⟨T0,hT0⟩:∃ T0,ofR xs []=T0:=⟨_,rfl⟩
 obtain ⟨N,hN⟩:∃ N,namesM xs=N:=⟨_,rfl⟩
 have hTN:∀ k,isIn T0 k=true→∃ ks,mget N k=some ks∧Small ks.length:=fun k hk=>by
  rw [← hT0,mem_ofR] at hk
  have hk':k∈xs.map keyOf:=by simpa [isIn] using hk
  obtain ⟨r,_,h2⟩:=mget_names xs k hk'
  have:=refs_len r
  exact ⟨_,by rw [← hN]; exact h2,by unfold Small; omega⟩
 have hmu:∀ M,muV T0 M≤T0.length:=fun M=>List.length_filter_le _ _
 have hR:reachedM xs=reachF T0 N T0.length xs []:=by rw [← hT0,← hN]; rfl
 rw [hR]
 clear hR
 have hof:=refsOf_c xs hsl
 have hna:=rnames_c xs hl hs hnd
 rw [hT0] at hof
 rw [hN] at hna
 refine CallR.go1 (T:=T) Tryz.call81 Tryz.func81 rfl Tryz.ntmps81 (congrArg Array.toList Tryz.results81) (by decide) fun ts hn h0=>?_
 (repeat' (first
 | (with_reducible first|refine SpecC.mkRec T 3 fun K hK=>?_|refine callX.by (hof) ?_|refine callX.by (hna) ?_|refine callX.by (refsOf_c _ ?_) ?_|refine callX.by (rnames_c _ ?_ ?_ ?_) ?_|refine callX.by (rkey_c _ _ _ _ _ _ _) ?_|assumption|(refine Qw hK _ ?_; clear hK K)|refine Qw ‹_› _ ?_|refine Qx ‹_› ?_|refine Qi fun K hK=>?_|refine Qj T fun K hK=>?_|refine Qk (id:=8) T mixed Wd7 (by kernel_rfl) fun K hK=>?_|refine Ql fun A B hA hB=>?_|refine Qm ?_|refine Qn ?_|refine Qp ?_|refine Qr ?_)
 | ((with_reducible first|apply Qy|apply Qz|apply QA)<;>intro hb<;>try simp only [nr] at hb)
 | simp only [go_sem,↓reduceIte,reduceIte,Qa,Qh,Qb,Qc,Qd,Qe,Qf,Qg,reduceCtorEq, *,-hs,-hnd,-hTN,-hmu,-hof,-hna,-hT0,-hN]
 | with_reducible refine fun (bn:Bool) hbn=>?_))
 have hp1:AV.pure (.ro [.mp (mks T0) (mvs T0)])=true:=by simp only [go_sem,Bool.and_self]
 have hp2:AV.pure (.ro [.mp (mks N) (mvs N)])=true:=by simp only [go_sem,Bool.and_self]
 have hre:∀ g n,(recV 139 (.ro [.mp (mks T0) (mvs T0)]) (.ro [.mref 13 g]) (.ro [.mp (mks N) (mvs N)]) n).renM 13 g 1000=recV 139 (.ro [.mp (mks T0) (mvs T0)]) (.ro [.mref 1000 0]) (.ro [.mp (mks N) (mvs N)]) n:=fun g n=>by
  rw [renM_recV _ _ _ _ _ _ _ _ hp1 hp2]; simp [AV.renM,AV.renM.renML]
 have hpe:∀ g n,(recV 139 (.ro [.mp (mks T0) (mvs T0)]) (.ro [.mref 13 g]) (.ro [.mp (mks N) (mvs N)]) n).pureH 13 g=true:=fun g n =>
  pureH_recV _ _ _ _ _ _ _ hp1 (by simp [AV.pureH,AV.pureH.pureHL]) hp2
 refine SpecC.ent (Ent.frzRec 139 (T0.length+1) 3 5 4 6 (x:=.mp (mks T0) (mvs T0)) (y:=.mref 13 (ts.gen 13+1)) (z:=.mp (mks N) (mvs N)) (by simp only [go_sem,↓reduceIte,reduceIte,Qa,Qh,Qb,Qc,Qd,Qe,Qf,Qg,reduceCtorEq, *,-hs,-hnd,-hTN,-hmu,-hof,-hna,-hT0,-hN,-hp1,-hp2]; done) (by simp only [go_sem,↓reduceIte,reduceIte,Qa,Qh,Qb,Qc,Qd,Qe,Qf,Qg,reduceCtorEq, *,-hs,-hnd,-hTN,-hmu,-hof,-hna,-hT0,-hN,-hp1,-hp2]; done) (by simp only [go_sem,↓reduceIte,reduceIte,Qa,Qh,Qb,Qc,Qd,Qe,Qf,Qg,reduceCtorEq, *,-hs,-hnd,-hTN,-hmu,-hof,-hna,-hT0,-hN,-hp1,-hp2]; done) (by simp only [go_sem,↓reduceIte,reduceIte,Qa,Qh,Qb,Qc,Qd,Qe,Qf,Qg,reduceCtorEq, *,-hs,-hnd,-hTN,-hmu,-hof,-hna,-hT0,-hN,-hp1,-hp2]; done)) ?_
 refine Qs [5,6,15,16] (fun m ts'=>∃ (i:Nat),∃ (M:KS),m=xs.length - i∧i≤xs.length∧reachF T0 N T0.length xs []=reachF T0 N T0.length (xs.drop i) M∧ts'.gen 13=ts.gen 13+1∧ts'.obj 13=.mp (mks M) (mvs M)∧ts'.tmp 17=.int .i64 i) xs.length ?_ ?_
 ·refine ⟨0,[],rfl,Nat.zero_le _,rfl,?_⟩
  simp only [go_sem,↓reduceIte,reduceIte,Qa,Qh,Qb,Qc,Qd,Qe,Qf,Qg,reduceCtorEq, *,-hs,-hnd,-hTN,-hmu,-hof,-hna,-hT0,-hN,-hp1,-hp2]
 ·rintro m A hM ts' hk ⟨i,M,hm,f1,f2,s1,s2,s3⟩
  simp only [go_sem,↓reduceIte,reduceIte,Qa,Qh,Qb,Qc,Qd,Qe,Qf,Qg,reduceCtorEq, *] at hk
  have hxx:∀ x∈xs,True:=fun _ _=>trivial
  clear hof hna hnd hs hxx
  by_cases hlt:i < xs.length
  ·have hstep:reachF T0 N T0.length (xs.drop i) M=reachF T0 N T0.length (xs.drop (i+1)) (if xs[i].kind=0 then visF T0 N T0.length (keyOf xs[i]) M else M):=by
    rw [List.drop_eq_getElem_cons hlt]; rfl
   rw [hstep] at f2
   clear hstep
   (repeat' (first
 | (with_reducible first|refine callX.hm (d:=13) (g:=ts.gen 13+1) ?_ ?_ (visit_c T0 N hTN T0.length xs[i].kind xs[i].name M (hmu M)) ?_|refine callX.by (refsOf_c _ ?_) ?_|refine callX.by (rnames_c _ ?_ ?_ ?_) ?_|refine callX.by (rkey_c _ _ _ _ _ _ _) ?_|assumption|(refine Qw hK _ ?_; clear hK K)|refine Qw ‹_› _ ?_|refine Qx ‹_› ?_|refine Qi fun K hK=>?_|refine Qj T fun K hK=>?_|refine Qk (id:=8) T mixed Wd7 (by kernel_rfl) fun K hK=>?_|refine Ql fun A B hA hB=>?_|refine Qm ?_|refine Qn ?_|refine Qp ?_|refine Qr ?_)
 | ((with_reducible first|apply Qy|apply Qz|apply QA)<;>intro hb<;>try simp only [nr] at hb)
 | simp only [go_sem,↓reduceIte,reduceIte,Qa,Qh,Qb,Qc,Qd,Qe,Qf,Qg,reduceCtorEq, *,-hTN,-hmu,-hT0,-hN,-hp1,-hp2,-f2,recV_succ,false_and,true_and]
 | with_reducible refine fun (bn:Bool) hbn=>?_))
   all_goals ((repeat clear hK); (repeat clear hA); (repeat clear hB))
   ·rw [if_pos (of_decide_eq_true hb)] at f2
    (refine hM.on (xs.length - (i+1)) (by omega) (by simp only [go_sem,↓reduceIte,reduceIte,Qa,Qh,Qb,Qc,Qd,Qe,Qf,Qg,reduceCtorEq, *,w64_nat hlt hsl,keyOf,-hTN,-hmu,-hT0,-hN,-hp1,-hp2,-f2]) ⟨i+1,visF T0 N T0.length (keyOf xs[i]) M,rfl,by omega,f2,?_⟩; simp only [go_sem,↓reduceIte,reduceIte,Qa,Qh,Qb,Qc,Qd,Qe,Qf,Qg,reduceCtorEq, *,w64_nat hlt hsl,keyOf,-hTN,-hmu,-hT0,-hN,-hp1,-hp2,-f2]; done)
   ·rw [if_neg (of_decide_eq_false hb)] at f2
    (refine hM.on (xs.length - (i+1)) (by omega) (by simp only [go_sem,↓reduceIte,reduceIte,Qa,Qh,Qb,Qc,Qd,Qe,Qf,Qg,reduceCtorEq, *,w64_nat hlt hsl,keyOf,-hTN,-hmu,-hT0,-hN,-hp1,-hp2,-f2]) ⟨i+1,M,rfl,by omega,f2,?_⟩; simp only [go_sem,↓reduceIte,reduceIte,Qa,Qh,Qb,Qc,Qd,Qe,Qf,Qg,reduceCtorEq, *,w64_nat hlt hsl,keyOf,-hTN,-hmu,-hT0,-hN,-hp1,-hp2,-f2]; done)
  ·rw [List.drop_eq_nil_of_le (by omega)] at f2
   have f3:reachF T0 N T0.length xs []=M:=f2
   clear f2
   (repeat' (first
 | (with_reducible first|refine callX.by (refsOf_c _ ?_) ?_|refine callX.by (rnames_c _ ?_ ?_ ?_) ?_|refine callX.by (rkey_c _ _ _ _ _ _ _) ?_|assumption|(refine Qw hK _ ?_; clear hK K)|refine Qw ‹_› _ ?_|refine Qx ‹_› ?_|refine Qi fun K hK=>?_|refine Qj T fun K hK=>?_|refine Qk (id:=8) T mixed Wd7 (by kernel_rfl) fun K hK=>?_|refine Ql fun A B hA hB=>?_|refine Qm ?_|refine Qn ?_|refine Qp ?_|refine Qr ?_)
 | ((with_reducible first|apply Qy|apply Qz|apply QA)<;>intro hb<;>try simp only [nr] at hb)
 | simp only [go_sem,↓reduceIte,reduceIte,Qa,Qh,Qb,Qc,Qd,Qe,Qf,Qg,reduceCtorEq, *,-hTN,-hmu,-hT0,-hN,-hp1,-hp2,false_and,true_and]
 | with_reducible refine fun (bn:Bool) hbn=>?_))
theorem caps_map (M:KS):Caps [.ro [.mp (mks M) (mvs M)]]:=⟨by simp only [go_sem,Bool.and_self],by simp only [go_sem]⟩
theorem reach1_c (r_kind:Int) (r_name:List UInt8) (r_ver:Int) (r_port:Int) (r_to:List UInt8) (r_rules:List Rule) (r_hosts:List Int) (M:KS):CallR Tryz.prog 84 [.agg [.int .i64 r_kind,.str r_name,.int .i64 r_ver,.int .i64 r_port,.str r_to,.slice false (avs r_rules),.slice false (avs r_hosts)],.ro [.mp (mks M) (mvs M)]] (.val (.bool (!isIn M (keyOf (⟨r_kind,r_name,r_ver,r_port,r_to,r_rules,r_hosts⟩:Res))))):=by
 refine CallR.go2 (T:=T) Tryz.call84 Tryz.func84 rfl Tryz.ntmps84 (congrArg Array.toList Tryz.results84) (by decide) fun ts hn h0 h1=>?_
 (repeat' (first
 | (with_reducible first|refine callX.by (rkey_c _ _ _ _ _ _ _) ?_|assumption|(refine Qw hK _ ?_; clear hK K)|refine Qw ‹_› _ ?_|refine Qx ‹_› ?_|refine Qi fun K hK=>?_|refine Qj T fun K hK=>?_|refine Qk (id:=1) T mixed [([4],[5,6]),([5],[4]),([6],[4])] (by kernel_rfl) fun K hK=>?_|refine Ql fun A B hA hB=>?_|refine Qn ?_|refine Qr ?_)
 | ((with_reducible first|apply Qy|apply Qz|apply QA)<;>intro hb<;>try simp only [nr] at hb)
 | simp only [go_sem,↓reduceIte,reduceIte,Qa,Qh,Qb,Qc,Qd,Qe,Qf,Qg,reduceCtorEq, *]
 | with_reducible refine fun (bn:Bool) hbn=>?_))
 all_goals rfl
def reachR (l:List Res):List Res:=l.filter fun r=>isIn (reachedM l) (keyOf r)
theorem reachR_len (l:List Res):(reachR l).length≤l.length:=List.length_filter_le _ _
theorem reach_c (xs:List Res) (hl:xs.length≤65536) (hs:∀ r∈xs,SmRes r) (hnd:(xs.map keyOf).Nodup):CallR Tryz.prog 22 [.slice false (avs xs)] (.own 7 (avs (reachR xs))):=by
 have hsl:=small_le hl
 have hd:=deleteFRes_c 84 [.ro [.mp (mks (reachedM xs)) (mvs (reachedM xs))]] (caps_map _) (fun r=>!isIn (reachedM xs) (keyOf r)) xs (fun x _=>reach1_c x.kind x.name x.ver x.port x.to' x.rules' x.hosts _) hsl
 simp only [Bool.not_not] at hd
 have e:xs.filter (fun x=>isIn (reachedM xs) (keyOf x))=reachR xs:=rfl
 rw [e] at hd
 refine CallR.go1 (T:=T) Tryz.call22 Tryz.func22 rfl Tryz.ntmps22 (congrArg Array.toList Tryz.results22) (by decide) fun ts hn h0=>?_
 (repeat' (first
 | (with_reducible refine callX.mv ?_ ?_ ?_ (hd); (focus (simp only [go_sem,↓reduceIte,reduceIte,Qa,Qh,Qb,Qc,Qd,Qe,Qf,Qg,reduceCtorEq, *,-hs,-hnd,-hd,-e]; first|done|rfl)); (focus (simp only [go_sem,↓reduceIte,reduceIte,Qa,Qh,Qb,Qc,Qd,Qe,Qf,Qg,reduceCtorEq, *,-hs,-hnd,-hd,-e]; first|done|rfl)))
 | (with_reducible first|refine callX.by (reached_c _ ?_ ?_ ?_) ?_|refine callX.by (cloneRes_c _ _ ?_) ?_)
 | (with_reducible refine callX.mv ?_ ?_ ?_ (deleteFRes_c ?_ ?_ ?_ ?_ ?_ ?_ ?_); (focus (simp only [go_sem,↓reduceIte,reduceIte,Qa,Qh,Qb,Qc,Qd,Qe,Qf,Qg,reduceCtorEq, *,-hs,-hnd,-hd,-e]; first|done|rfl)); (focus (simp only [go_sem,↓reduceIte,reduceIte,Qa,Qh,Qb,Qc,Qd,Qe,Qf,Qg,reduceCtorEq, *,-hs,-hnd,-hd,-e]; first|done|rfl)))
 | (with_reducible first|assumption|(refine Qw hK _ ?_; clear hK K)|refine Qw ‹_› _ ?_|refine Qx ‹_› ?_|refine Qi fun K hK=>?_|refine Qj T fun K hK=>?_|refine Ql fun A B hA hB=>?_|refine Qn ?_|refine Qr ?_)
 | ((with_reducible first|apply Qy|apply Qz|apply QA)<;>intro hb<;>try simp only [nr] at hb)
 | simp only [go_sem,↓reduceIte,reduceIte,Qa,Qh,Qb,Qc,Qd,Qe,Qf,Qg,reduceCtorEq, *,-hs,-hnd,-hd,-e]
 | with_reducible refine fun (bn:Bool) hbn=>?_))
def bare (r:Res):Bool:=decide (r.kind=3) && decide (r.hosts.length=0)
def lacks (M:KS) (r:Res):Bool:=(refsR r).any fun k=>!isIn M k
def served (l:List Res):Int:=if (reachR l).any (lacks (ofR l []))=true then 6 else if (reachR l).any bare=true then 7 else 0
end Go.Proofs.YtmjkjmoeicnbnaaGreatDoor.Lg
namespace Go.Proofs.YtmjkjmoeicnbnaaGreatDoor.Lg
set_option maxRecDepth 100000
set_option linter.unusedVariables false
set_option linter.unusedSimpArgs false
open Go
theorem firstBad_zero {l:List Res} (h:firstBad l=0):∀ r∈l,saneR r=0:=by
 induction l with
 | nil=>simp
 | cons r l ih =>
  unfold firstBad at h
  split at h
  ·rename_i hs
   intro x hx
   rcases List.mem_cons.1 hx with rfl|hx
   ·exact hs
   ·exact ih h x hx
  ·rename_i hs; exact absurd h hs
theorem upR_iff:∀ l:List Res,upR l=true↔Up (l.map keyOf)
 | []=>by simp [upR,Up]
 | [a]=>by simp [upR,Up]
 | a :: b :: l=>by
  rw [upR_cons2,Bool.and_eq_true,upR_iff (b :: l),decide_eq_true_eq]
  simp only [List.map_cons]
  constructor
  ·rintro ⟨h1,h2⟩
   refine List.pairwise_cons.2 ⟨fun x hx=>?_,h2⟩
   rcases List.mem_cons.1 hx with rfl|hx
   ·exact h1
   ·exact kcmp_trans _ _ _ h1 ((List.pairwise_cons.1 h2).1 x hx)
  ·intro h
   obtain ⟨h1,h2⟩:=List.pairwise_cons.1 h
   exact ⟨h1 _ (by simp),h2⟩
structure Conf (l:List Res):Prop where
 len:l.length≤64
 sane:∀ r∈l,saneR r=0
 up:Up (l.map keyOf)
theorem conf_of {l:List Res} (h:tsane l=0):Conf l:=by
 unfold tsane at h
 split at h
 ·cases h
 ·rename_i h1
  split at h
  ·rename_i h2; exact absurd h h2
  ·rename_i h2
   split at h
   ·cases h
   ·rename_i h3
    exact ⟨by omega,firstBad_zero (by simpa using h2),(upR_iff l).1 (by simpa using h3)⟩
theorem up_nodup {l:List Key} (h:Up l):l.Nodup:=by
 unfold Up at h
 refine h.imp fun {a b} hab e=>?_
 subst e
 exact kcmp_irrefl _ hab
theorem key_inj {l:List Res} (h:(l.map keyOf).Nodup) {a b:Res} (ha:a∈l) (hb:b∈l) (e:keyOf a=keyOf b):a=b:=by
 induction l with
 | nil=>simp at ha
 | cons r l ih =>
  rw [List.map_cons,List.nodup_cons] at h
  rcases List.mem_cons.1 ha with ha'|ha'<;>rcases List.mem_cons.1 hb with hb'|hb'
  ·rw [ha',hb']
  ·exact absurd (by rw [← ha',e]; exact List.mem_map_of_mem hb') h.1
  ·exact absurd (by rw [← hb',← e]; exact List.mem_map_of_mem ha') h.1
  ·exact ih h.2 ha' hb'
inductive Rch (l:List Res):Key→Prop
 | base (r:Res):r∈l→r.kind=0→Rch l (keyOf r)
 | step (r:Res) (x:Key):r∈l→Rch l (keyOf r)→x∈refsR r→x∈l.map keyOf→Rch l x
theorem Rch.mem {l:List Res} {k:Key} (h:Rch l k):k∈l.map keyOf:=by
 cases h with
 | base r hr _=>exact List.mem_map_of_mem hr
 | step r x _ _ _ h=>exact h
section dfs
variable (T0:KS) (N:List (Key × List Key))
def succK (k:Key):List Key:=(mget N k).getD []
inductive Way:Key→Key→Prop
 | refl (k:Key):isIn T0 k=true→Way k k
 | step (k x y:Key):isIn T0 k=true→x∈succK N k→Way x y→Way k y
abbrev Shut (A B:KS):Prop:=∀ x,isIn B x=true→isIn A x=false→∀ y∈succK N x,isIn T0 y=true→isIn B y=true
theorem dfs (n:Nat):∀ (k:Key) (M:KS),muV T0 M≤n →
  (isIn T0 k=true→isIn (visF T0 N n k M) k=true) ∧
  (∀ x,isIn (visF T0 N n k M) x=true→isIn M x=false→Way T0 N k x)∧Shut T0 N M (visF T0 N n k M):=by
 induction n with
 | zero =>
  intro k M hmu
  have h0:∀ k,isIn T0 k=true→isIn M k=true:=fun k hk=>by
   cases hm:isIn M k with
   | true=>rfl
   | false=>have:=mu_lt hk hm; omega
  exact ⟨h0 k,fun x hx hx'=>absurd (Eq.trans (Eq.symm (show isIn M x=true from hx)) hx') (by decide),fun x hx hx'=>absurd (Eq.trans (Eq.symm (show isIn M x=true from hx)) hx') (by decide)⟩
 | succ n ih =>
  intro k M hmu
  by_cases hc:isIn T0 k=true∧isIn M k=false
  rotate_left
  ·have e:visF T0 N (n+1) k M=M:=by rw [visF,if_neg hc]
   rw [e]
   refine ⟨fun hk=>?_,fun x hx hx'=>absurd (Eq.trans (Eq.symm hx) hx') (by decide),fun x hx hx'=>absurd (Eq.trans (Eq.symm hx) hx') (by decide)⟩
   cases hm:isIn M k with
   | true=>rfl
   | false=>exact absurd ⟨hk,hm⟩ hc
  ·obtain ⟨hk,hm⟩:=hc
   have e:visF T0 N (n+1) k M=(succK N k).foldl (fun M x=>visF T0 N n x M) (mput M k true):=by rw [visF,if_pos ⟨hk,hm⟩]; rfl
   have hmu1:muV T0 (mput M k true)≤n:=by have:=mu_lt hk hm; omega
   have fold:∀ (v:List Key) (M1:KS),muV T0 M1≤n →
     (∀ x,isIn M1 x=true→isIn (v.foldl (fun M x=>visF T0 N n x M) M1) x=true) ∧
     (∀ y∈v,isIn T0 y=true→isIn (v.foldl (fun M x=>visF T0 N n x M) M1) y=true) ∧
     (∀ x,isIn (v.foldl (fun M x=>visF T0 N n x M) M1) x=true→isIn M1 x=false→∃ y∈v,Way T0 N y x) ∧
     Shut T0 N M1 (v.foldl (fun M x=>visF T0 N n x M) M1):=by
    intro v
    induction v with
    | nil=>exact fun M1 _=>⟨fun x h=>h,by simp,fun x h h'=>absurd (Eq.trans (Eq.symm (show isIn M1 x=true from h)) h') (by decide),fun x h h'=>absurd (Eq.trans (Eq.symm (show isIn M1 x=true from h)) h') (by decide)⟩
    | cons y v ihv =>
     intro M1 h1
     rw [List.foldl_cons]
     obtain ⟨a1,a2,a3⟩:=ih y M1 h1
     have hg:∀ x,isIn M1 x=true→isIn (visF T0 N n y M1) x=true:=fun x hx=>visF_grow T0 N n y M1 x hx
     obtain ⟨b1,b2,b3,b4⟩:=ihv (visF T0 N n y M1) (Nat.le_trans (mu_le hg) h1)
     refine ⟨fun x hx=>b1 x (hg x hx),fun z hz hzT=>?_,fun x hx hx'=>?_,fun x hx hx' z hz hzT=>?_⟩
     ·rcases List.mem_cons.1 hz with rfl|hz
      ·exact b1 _ (a1 hzT)
      ·exact b2 z hz hzT
     ·cases hv:isIn (visF T0 N n y M1) x with
      | true=>exact ⟨y,by simp,a2 x hv hx'⟩
      | false=>obtain ⟨z,hz,hw⟩:=b3 x hx hv; exact ⟨z,by simp [hz],hw⟩
     ·cases hv:isIn (visF T0 N n y M1) x with
      | true=>exact b1 _ (a3 x hv hx' z hz hzT)
      | false=>exact b4 x hx hv z hz hzT
   obtain ⟨b1,b2,b3,b4⟩:=fold (succK N k) (mput M k true) hmu1
   rw [e]
   refine ⟨fun _=>b1 k (by rw [isIn_put]; simp),fun x hx hx'=>?_,fun x hx hx' y hy hyT=>?_⟩
   ·cases hp:isIn (mput M k true) x with
    | true =>
     rw [isIn_put,hx'] at hp
     have:x=k:=by simpa using hp
     subst this
     exact .refl _ hk
    | false =>
     obtain ⟨y,hy,hw⟩:=b3 x hx hp
     exact .step k y x hk hy hw
   ·cases hp:isIn (mput M k true) x with
    | true =>
     rw [isIn_put,hx'] at hp
     have:x=k:=by simpa using hp
     subst this
     exact b2 y hy hyT
    | false=>exact b4 x hx hp y hy hyT
end dfs
theorem isIn_of (l:List Res) (k:Key):isIn (ofR l []) k=decide (k∈l.map keyOf):=by rw [mem_ofR]; simp [isIn]
end Go.Proofs.YtmjkjmoeicnbnaaGreatDoor.Lg
namespace Go.Proofs.YtmjkjmoeicnbnaaGreatDoor.Lg
set_option maxRecDepth 100000
set_option linter.unusedVariables false
set_option linter.unusedSimpArgs false
open Go
theorem ref_pos (l:List Res) (k:Key):0 < (referrers l k).length↔∃ r∈l,k∈refsR r:=by
 unfold referrers
 rw [List.length_map,List.length_pos_iff_exists_mem]
 constructor
 ·rintro ⟨r,hr⟩
  obtain ⟨h1,h2⟩:=List.mem_filter.1 hr
  obtain ⟨x,hx,he⟩:=List.any_eq_true.1 h2
  have:k=x:=by simpa using he
  subst this
  exact ⟨r,h1,hx⟩
 ·rintro ⟨r,hr,hx⟩
  exact ⟨r,List.mem_filter.2 ⟨hr,List.any_eq_true.2 ⟨k,hx,by simp⟩⟩⟩
theorem tget_is (l:List Res) (k:Key):(tget l k).isSome=decide (k∈l.map keyOf):=by
 unfold tget
 rw [Bool.eq_iff_iff,List.find?_isSome,decide_eq_true_eq,List.mem_map]
 simp
theorem tget_in {l:List Res} {k:Key} {r:Res} (h:tget l k=some r):r∈l∧keyOf r=k:=by
 unfold tget at h
 exact ⟨List.mem_of_find?_eq_some h,by simpa using List.find?_some h⟩
theorem tget_key {l:List Res} (h:(l.map keyOf).Nodup) {r:Res} (hr:r∈l):tget l (keyOf r)=some r:=by
 cases e:tget l (keyOf r) with
 | none =>
  have:=tget_is l (keyOf r)
  rw [e,decide_eq_true (List.mem_map_of_mem hr)] at this
  cases this
 | some q =>
  obtain ⟨h1,h2⟩:=tget_in e
  rw [key_inj h h1 hr h2]
theorem mem_without {l:List Res} {k:Key} {r:Res}:r∈twithout l k↔r∈l∧keyOf r≠k:=by
 unfold twithout
 rw [List.mem_filter]
 simp
def upV (x:Int):Value:=.iface 165 (.agg #[.int .i64 x])
def upE (x:Int):List PanicEntry:=[{ v:=upV x,recovered:=false }]
end Go.Proofs.YtmjkjmoeicnbnaaGreatDoor.Lg
namespace Go.Proofs.YtmjkjmoeicnbnaaGreatDoor.Lg
set_option maxRecDepth 100000
set_option linter.unusedVariables false
set_option linter.unusedSimpArgs false
open Go
variable {P:Program}
theorem Rel.later {E:Env} {ts:TS} {G:Ghost} {a:Go.Act} {w w':World} (h:Rel E ts G a w) (hbel:Bel (fun _=>False) w w'):Rel E ts G a w':=by
 have hw:∀ i,i < w.heap.size→w'.heap[i]?=w.heap[i]?:=fun i hi=>hbel.block i hi (fun f=>f)
 have hle:(ctxOf E G ts w).Le (ctxOf E G ts w') :=
  {blk:=fun b' hMa hc=>⟨hw _ hc,hMa⟩,gen:=fun _=>Nat.le_refl _,kind:=fun e k _ hk'=>⟨hk',rfl,rfl⟩ }
 refine ⟨h.size,h.defers,fun t=>(h.tmp t).mono hle,fun d=>ObOk.mono hle rfl rfl (fun h1 h2=>hw _ (h.own d ⟨h1,h2⟩).2.2) (h.obj d),h.sep,fun d hd=>?_,fun b hb=>Nat.lt_of_lt_of_le (h.inF b hb) hbel.size,h.bel.trans ⟨hbel.os,hbel.tape,hbel.output,hbel.size,fun k hk' _=>hw k hk',hbel.drawn⟩,h.pin⟩
 obtain ⟨p,q,s⟩:=h.own d hd
 exact ⟨p,q,Nat.lt_of_lt_of_le s hbel.size⟩
def Done (f:FuncId) (args:List Arg) (x:Int) (U:(Nat→List AV)→Prop):Prop :=
 if x=0 then CallV Tryz.prog f args (fun r io=>r=.val (.tup [])∧U io) else CallUV Tryz.prog f args (upE x) U
theorem Done.calls {f:FuncId} {args:List Arg} {x:Int} {U:(Nat→List AV)→Prop} (h:Done f args x U) (hf:∀ (vals:Array Value) (w:World),(callFunc f vals).run Tryz.prog w=.ok (.enter f vals) w)
  {E:Env} {G:Ghost} {vals:Array Value} {w:World} (hw:E.w0=w) (hrel:Rel E (argTS args args.length) G ⟨vals,[]⟩ w) (hpin:∀ j,(∃ cs,args[j]?=some (.io cs))↔∃ b,E.pin j=some b) :
  Calls Tryz.prog f vals w fun e w'=>(if x=0 then e=.returned (.tuple #[]) else e=.panicked (upE x))∧∃ io ts' G' a',U io∧Rel E ts' G' a' w'∧∀ j b,E.pin j=some b→ts'.gen j=0∧ts'.obj j=.box (io j)∧AV.pure.pureL (io j)=true:=by
 unfold Done at h
 split at h
 ·have:=h E G vals w hw hrel hpin
  rw [hf] at this
  refine Calls.mono this ?_
  rintro e w' ⟨v,r,io,ts',G',rfl,⟨rfl,hU⟩,hr,hp,hret⟩
  obtain ⟨_,ht⟩:=hret
  have hv:=hr.tmp 0
  rw [ht] at hv
  have hv:Rep (ctxOf E G' ts' w') v (.tup []):=by simpa using hv
  have hv0:v=.tuple #[]:=by
   cases hv with
   | tup cs bs hl h=>rw [show cs=#[] from Array.eq_empty_of_size_eq_zero (by simpa using hl)]
  exact ⟨by rw [hv0,if_pos ‹_›],io,ts',G',_,hU,hr,hp⟩
 ·have:=h E G vals w hw hrel hpin
  rw [hf] at this
  refine Calls.mono this ?_
  rintro e w' ⟨io,ts',G',rfl,hU,hr,hp⟩
  exact ⟨by rw [if_neg ‹_›],io,ts',G',_,hU,hr,hp⟩
end Go.Proofs.YtmjkjmoeicnbnaaGreatDoor.Lg
namespace Go.Proofs.YtmjkjmoeicnbnaaGreatDoor.Lg
set_option maxRecDepth 100000
set_option linter.unusedVariables false
set_option linter.unusedSimpArgs false
open Go
open Nat renaming reduceEqDiff → Qa, reduceLT → Qb, reduceLeDiff → Qc, reduceAdd → Qd, reduceMul → Qe, reduceSub → Qf, reduceBEq → Qg
open String renaming reduceEq → Qh
open SpecC renaming seqW → Qi, regW → Qj, drawW → Qk, condW → Ql, block → Qm, skip → Qn, exit → Qp, ret → Qr, loopF → Qs
open NxK renaming out → Qw
open Nx renaming out → Qx
open condK renaming split → Qy
open gK renaming split_t → Qz, split_f → QA
theorem with11_c (r_kind:Int) (r_name:List UInt8) (r_ver:Int) (r_port:Int) (r_to:List UInt8) (r_rules:List Rule) (r_hosts:List Int) (k_kind:Int) (k_name:List UInt8) (c:Int):CallR Tryz.prog 185 [.agg [.int .i64 r_kind,.str r_name,.int .i64 r_ver,.int .i64 r_port,.str r_to,.slice false (avs r_rules),.slice false (avs r_hosts)],.ro [.int .i64 k_kind,.str k_name],.ro [.int .i64 c]] (.val (.bool (decide (kcmp (keyOf (⟨r_kind,r_name,r_ver,r_port,r_to,r_rules,r_hosts⟩:Res)) (⟨k_kind,k_name⟩:Key)=c)))):=by
 refine CallR.go3 (T:=T) Tryz.call185 Tryz.func185 rfl Tryz.ntmps185 (congrArg Array.toList Tryz.results185) (by decide) fun ts hn h0 h1 h2=>?_
 (repeat' (first
 | (with_reducible first|refine callX.by (rkey_c _ _ _ _ _ _ _) ?_|refine callX.by (kcmp_c _ _ _ _) ?_|assumption|(refine Qw hK _ ?_; clear hK K)|refine Qw ‹_› _ ?_|refine Qx ‹_› ?_|refine Qi fun K hK=>?_|refine Qj T fun K hK=>?_|refine Qk (id:=1) T mixed [([5],[7,9]),([6],[7,9]),([7],[5,6,9]),([8],[9]),([9],[5,6,7,8])] (by kernel_rfl) fun K hK=>?_|refine Ql fun A B hA hB=>?_|refine Qn ?_|refine Qr ?_)
 | ((with_reducible first|apply Qy|apply Qz|apply QA)<;>intro hb<;>try simp only [nr] at hb)
 | simp only [go_sem,↓reduceIte,reduceIte,Qa,Qh,Qb,Qc,Qd,Qe,Qf,Qg,reduceCtorEq, *]
 | with_reducible refine fun (bn:Bool) hbn=>?_))
 all_goals rfl
theorem caps_with (a:Int) (b:List UInt8) (c:Int):Caps [.ro [.int .i64 a,.str b],.ro [.int .i64 c]]:=⟨by simp only [go_sem,Bool.and_self],by simp only [go_sem]⟩
def sideR (l:List Res) (k:Key) (c:Int):List Res:=l.filter fun r=>decide (kcmp (keyOf r) k=c)
theorem with1_c (xs:List Res) (k_kind:Int) (k_name:List UInt8) (c:Int) (hl:Small xs.length):CallR Tryz.prog 184 [.int .i64 c,.ro [.slice false (avs xs)],.ro [.int .i64 k_kind,.str k_name]] (.own 7 (avs (sideR xs (⟨k_kind,k_name⟩:Key) c))):=by
 have hf:=tfilter_c 185 [.ro [.int .i64 k_kind,.str k_name],.ro [.int .i64 c]] (caps_with k_kind k_name c) (fun r=>decide (kcmp (keyOf r) (⟨k_kind,k_name⟩:Key)=c)) xs (fun x _=>with11_c x.kind x.name x.ver x.port x.to' x.rules' x.hosts k_kind k_name c) hl
 rw [show xs.filter (fun r=>decide (kcmp (keyOf r) (⟨k_kind,k_name⟩:Key)=c))=sideR xs (⟨k_kind,k_name⟩:Key) c from rfl] at hf
 refine CallR.go3 (T:=T) Tryz.call184 Tryz.func184 rfl Tryz.ntmps184 (congrArg Array.toList Tryz.results184) (by decide) fun ts hn h0 h1 h2=>?_
 (repeat' (first
 | (with_reducible first|refine callX.by (hf) ?_|refine callX.by (tfilter_c _ _ ?_ _ _ ?_ ?_) ?_|assumption|(refine Qw hK _ ?_; clear hK K)|refine Qw ‹_› _ ?_|refine Qx ‹_› ?_|refine Qi fun K hK=>?_|refine Qj T fun K hK=>?_|refine Ql fun A B hA hB=>?_|refine Qn ?_|refine Qr ?_)
 | ((with_reducible first|apply Qy|apply Qz|apply QA)<;>intro hb<;>try simp only [nr] at hb)
 | simp only [go_sem,↓reduceIte,reduceIte,Qa,Qh,Qb,Qc,Qd,Qe,Qf,Qg,reduceCtorEq, *,-hf]
 | with_reducible refine fun (bn:Bool) hbn=>?_))
def withR (l:List Res) (r:Res):List Res:=sideR l (keyOf r) (-1)++[r]++sideR l (keyOf r) 1
instance:Dat (List Res) where
 av x:=.slice false (avs x)
 sz:=1
 len _:=rfl
 pure x:=by simp only [go_sem,Bool.and_self]
 nrm x:=by simp only [go_sem]
 one x:=by simp only [go_sem,List.all_cons,List.all_nil,Bool.and_self]
 known _:=rfl
@[go_sem] theorem av_LRes (x:List Res):Dat.av x=.slice false (avs x):=rfl
@[go_sem] theorem sz_LRes:Dat.sz (List Res)=1:=rfl
theorem w64_sub0 {n:Nat} (hn:Small n):IntKind.i64.wrap ((n:Int) - IntKind.i64.wrap ((0:Int) - 0))=n:=by
 have e:IntKind.i64.wrap ((0:Int) - 0)=0:=by decide
 rw [e]
 unfold Small at hn
 simp only [IntKind.wrap,IntKind.signed,IntKind.bits]
 simp
 omega
theorem w64_addN {a b n:Nat} (h:a+b≤n) (hn:Small n):IntKind.i64.wrap ((a:Int)+(b:Int))=((a+b:Nat):Int):=by
 unfold Small at hn
 simp only [IntKind.wrap,IntKind.signed,IntKind.bits]
 simp
 omega
theorem tgrow_c (n:Nat) (hn:Small n):CallR Tryz.prog 218 [.slice true [],.int .i64 n] (.own 7 []):=by
 have hr:Room n 104:=room_small (by unfold Small at hn; omega) (by decide)
 have hr1:n * 104≤140737488355328:=hr.1
 have hr2:n≤9223372036854775807:=hr.2
 have hw:=w64_sub0 hn
 refine CallR.go2 (T:=T) Tryz.call218 Tryz.func218 rfl Tryz.ntmps218 (congrArg Array.toList Tryz.results218) (by decide) fun ts hn h0 h1=>?_
 have hz0:IntKind.i64.wrap ((0:Int) - IntKind.i64.wrap ((0:Int) - 0))=0:=by decide
 by_cases h00:n=0
 ·subst h00
  (repeat' (first
 | (with_reducible first|assumption|(refine Qw hK _ ?_; clear hK K)|refine Qw ‹_› _ ?_|refine Qx ‹_› ?_|refine Qi fun K hK=>?_|refine Qj T fun K hK=>?_|refine Ql fun A B hA hB=>?_|refine Qn ?_|refine Qr ?_)
 | ((with_reducible first|apply Qy|apply Qz|apply QA)<;>intro hb<;>try simp only [nr] at hb)
 | simp only [go_sem,↓reduceIte,reduceIte,Qa,Qh,Qb,Qc,Qd,Qe,Qf,Qg,reduceCtorEq, *,-hr,List.length_nil,Int.lt_irrefl,decide_false,Int.le_refl]
 | with_reducible refine fun (bn:Bool) hbn=>?_))
  all_goals first|(exfalso; simp_all; done)|trace_state
 ·have hd:(0:Int) < (n:Int):=by omega
  have hz:List.take 0 (List.replicate n (AV.agg (List.replicate 7 AV.any)))=[]:=rfl
  (repeat' (first
 | (with_reducible first|assumption|(refine Qw hK _ ?_; clear hK K)|refine Qw ‹_› _ ?_|refine Qx ‹_› ?_|refine Qi fun K hK=>?_|refine Qj T fun K hK=>?_|refine Ql fun A B hA hB=>?_|refine Qn ?_|refine Qr ?_)
 | ((with_reducible first|apply Qy|apply Qz|apply QA)<;>intro hb<;>try simp only [nr] at hb)
 | simp only [go_sem,↓reduceIte,reduceIte,Qa,Qh,Qb,Qc,Qd,Qe,Qf,Qg,reduceCtorEq, *,-hr,List.length_nil,Int.le_refl,Int.toNat_zero,List.drop_zero]
 | with_reducible refine fun (bn:Bool) hbn=>?_))
  all_goals trace_state
def flatN (xss:List (List Res)) (i:Nat):Nat:=(xss.drop i).flatten.length
theorem flatN_step {xss:List (List Res)} {i:Nat} (h:i < xss.length):flatN xss i=xss[i].length+flatN xss (i+1):=by
 unfold flatN
 rw [List.drop_eq_getElem_cons h,List.flatten_cons,List.length_append]
theorem concat_c (xss:List (List Res)) (hx:Small xss.length) (hl:Small xss.flatten.length):CallR Tryz.prog 186 [.slice false (avs xss)] (.own 7 (avs xss.flatten)):=by
 have hg:=tgrow_c xss.flatten.length hl
 refine CallR.go1 (T:=T) Tryz.call186 Tryz.func186 rfl Tryz.ntmps186 (congrArg Array.toList Tryz.results186) (by decide) fun ts hn h0=>?_
 (repeat' (first
 | (with_reducible first|refine callX.by (tgrow_c _ ?_) ?_|assumption|(refine Qw hK _ ?_; clear hK K)|refine Qw ‹_› _ ?_|refine Qx ‹_› ?_|refine Qi fun K hK=>?_|refine Qj T fun K hK=>?_|refine Ql fun A B hA hB=>?_|refine Qm ?_|refine Qn ?_|refine Qp ?_|refine Qr ?_)
 | ((with_reducible first|apply Qy|apply Qz|apply QA)<;>intro hb<;>try simp only [nr] at hb)
 | simp only [go_sem,↓reduceIte,reduceIte,Qa,Qh,Qb,Qc,Qd,Qe,Qf,Qg,reduceCtorEq, *,-hg]
 | with_reducible refine fun (bn:Bool) hbn=>?_))
 refine Qs [0,9,10] (fun m ts'=>∃ (i:Nat),∃ (n:Nat),m=xss.length - i∧i≤xss.length∧n+flatN xss i=xss.flatten.length∧ts'.tmp 3=.int .i64 n∧ts'.tmp 11=.int .i64 i) xss.length ?_ ?_
 ·refine ⟨0,0,rfl,Nat.zero_le _,by simp [flatN],?_⟩
  simp only [go_sem,↓reduceIte,reduceIte,Qa,Qh,Qb,Qc,Qd,Qe,Qf,Qg,reduceCtorEq, *,-hg]
 ·rintro m A hM ts' hk ⟨i,n,hm,f1,f2,s1,s2⟩
  simp only [go_sem,↓reduceIte,reduceIte,Qa,Qh,Qb,Qc,Qd,Qe,Qf,Qg,reduceCtorEq, *] at hk
  by_cases hlt:i < xss.length
  ·rw [flatN_step hlt] at f2
   have hw:=w64_addN (a:=n) (b:=xss[i].length) (n:=xss.flatten.length) (by omega) hl
   (repeat' (first
 | (with_reducible first|refine callX.by (tgrow_c _ ?_) ?_|assumption|(refine Qw hK _ ?_; clear hK K)|refine Qw ‹_› _ ?_|refine Qx ‹_› ?_|refine Qi fun K hK=>?_|refine Qj T fun K hK=>?_|refine Ql fun A B hA hB=>?_|refine Qm ?_|refine Qn ?_|refine Qp ?_|refine Qr ?_)
 | ((with_reducible first|apply Qy|apply Qz|apply QA)<;>intro hb<;>try simp only [nr] at hb)
 | simp only [go_sem,↓reduceIte,reduceIte,Qa,Qh,Qb,Qc,Qd,Qe,Qf,Qg,reduceCtorEq, *,-hg,-f2]
 | with_reducible refine fun (bn:Bool) hbn=>?_))
   all_goals ((repeat clear hK); (repeat clear hA); (repeat clear hB))
   all_goals (refine hM.on (xss.length - (i+1)) (by omega) (by simp only [go_sem,↓reduceIte,reduceIte,Qa,Qh,Qb,Qc,Qd,Qe,Qf,Qg,reduceCtorEq, *,w64_nat hlt hx,-hg,-f2]) ⟨i+1,n+xss[i].length,rfl,by omega,by omega,?_⟩; simp only [go_sem,↓reduceIte,reduceIte,Qa,Qh,Qb,Qc,Qd,Qe,Qf,Qg,reduceCtorEq, *,w64_nat hlt hx,-hg,-f2]; done)
  ·have hn:n=xss.flatten.length:=by
    have e:flatN xss i=0:=by unfold flatN; rw [List.drop_eq_nil_of_le (by omega)]; rfl
    omega
   clear f2
   subst hn
   (repeat' (first
 | (with_reducible first|refine callX.raw (hg) ?_|refine callX.by (tgrow_c _ ?_) ?_|assumption|(refine Qw hK _ ?_; clear hK K)|refine Qw ‹_› _ ?_|refine Qx ‹_› ?_|refine Qi fun K hK=>?_|refine Qj T fun K hK=>?_|refine Ql fun A B hA hB=>?_|refine Qm ?_|refine Qn ?_|refine Qp ?_|refine Qr ?_)
 | ((with_reducible first|apply Qy|apply Qz|apply QA)<;>intro hb<;>try simp only [nr] at hb)
 | simp only [go_sem,↓reduceIte,reduceIte,Qa,Qh,Qb,Qc,Qd,Qe,Qf,Qg,reduceCtorEq, *,-hg]
 | with_reducible refine fun (bn:Bool) hbn=>?_))
   refine SpecC.ent (Ent.ren 6 24 (by simp only [go_sem,↓reduceIte,reduceIte,Qa,Qh,Qb,Qc,Qd,Qe,Qf,Qg,reduceCtorEq, *,-hg]) (by simp only [go_sem,↓reduceIte,reduceIte,Qa,Qh,Qb,Qc,Qd,Qe,Qf,Qg,reduceCtorEq, *,-hg])) ?_
   refine Qs [25,26] (fun m ts'=>∃ (j:Nat),∃ (g:Nat),∃ (ys:List Res),m=xss.length - j∧j≤xss.length∧ys++(xss.drop j).flatten=xss.flatten∧ts'.tmp 6=.os 6 g ys.length∧ts'.gen 6=g∧ts'.obj 6=.arr 7 (avs ys)∧ts'.tmp 27=.int .i64 j) xss.length ?_ ?_
   ·refine ⟨0,ts'.gen 6+1,[],rfl,Nat.zero_le _,by simp,?_⟩
    simp only [go_sem,↓reduceIte,reduceIte,Qa,Qh,Qb,Qc,Qd,Qe,Qf,Qg,reduceCtorEq, *,-hg]
    rfl
   ·clear hM hm
    rintro m A hM ts' hk ⟨j,g,ys,hm,f1,f2,s1,s2,s3,s4⟩
    simp only [go_sem,↓reduceIte,reduceIte,Qa,Qh,Qb,Qc,Qd,Qe,Qf,Qg,reduceCtorEq, *] at hk
    by_cases hlt2:j < xss.length
    ·rw [List.drop_eq_getElem_cons hlt2,List.flatten_cons,← List.append_assoc] at f2
     have hle:ys.length+xss[j].length≤xss.flatten.length:=by rw [← f2]; simp
     have hr:Room (ys.length+xss[j].length) 104:=room_small (by unfold Small at hl; omega) (by decide)
     (repeat' (first
 | (with_reducible first|refine callX.by (tgrow_c _ ?_) ?_|assumption|(refine Qw hK _ ?_; clear hK K)|refine Qw ‹_› _ ?_|refine Qx ‹_› ?_|refine Qi fun K hK=>?_|refine Qj T fun K hK=>?_|refine Ql fun A B hA hB=>?_|refine Qm ?_|refine Qn ?_|refine Qp ?_|refine Qr ?_)
 | ((with_reducible first|apply Qy|apply Qz|apply QA)<;>intro hb<;>try simp only [nr] at hb)
 | simp only [go_sem,↓reduceIte,reduceIte,Qa,Qh,Qb,Qc,Qd,Qe,Qf,Qg,reduceCtorEq, *,-hg,-f2]
 | with_reducible refine fun (bn:Bool) hbn=>?_))
     all_goals ((repeat clear hK); (repeat clear hA); (repeat clear hB))
     all_goals (refine hM.onE (xss.length - (j+1)) (Ent.ren 6 33 ?_ ?_) ?_ ?_ ?_; (focus (simp only [go_sem,↓reduceIte,reduceIte,Qa,Qh,Qb,Qc,Qd,Qe,Qf,Qg,reduceCtorEq, *,w64_nat hlt2 hx,List.length_append,-hg,-f2]; first|done|rfl)); (focus (simp only [go_sem,↓reduceIte,reduceIte,Qa,Qh,Qb,Qc,Qd,Qe,Qf,Qg,reduceCtorEq, *,w64_nat hlt2 hx,List.length_append,-hg,-f2]; first|done|rfl)); omega; (focus (simp only [go_sem,↓reduceIte,reduceIte,Qa,Qh,Qb,Qc,Qd,Qe,Qf,Qg,reduceCtorEq, *,w64_nat hlt2 hx,List.length_append,-hg,-f2]; done)); refine ⟨j+1,ts'.gen 6+1,ys++xss[j],rfl,by omega,f2,?_⟩; simp only [go_sem,↓reduceIte,reduceIte,Qa,Qh,Qb,Qc,Qd,Qe,Qf,Qg,reduceCtorEq, *,w64_nat hlt2 hx,List.length_append,-hg,-f2]; done)
    ·rw [List.drop_eq_nil_of_le (by omega),List.flatten_nil,List.append_nil] at f2
     subst f2
     (repeat' (first
 | (with_reducible first|refine callX.by (tgrow_c _ ?_) ?_|assumption|(refine Qw hK _ ?_; clear hK K)|refine Qw ‹_› _ ?_|refine Qx ‹_› ?_|refine Qi fun K hK=>?_|refine Qj T fun K hK=>?_|refine Ql fun A B hA hB=>?_|refine Qm ?_|refine Qn ?_|refine Qp ?_|refine Qr ?_)
 | ((with_reducible first|apply Qy|apply Qz|apply QA)<;>intro hb<;>try simp only [nr] at hb)
 | simp only [go_sem,↓reduceIte,reduceIte,Qa,Qh,Qb,Qc,Qd,Qe,Qf,Qg,reduceCtorEq, *,-hg]
 | with_reducible refine fun (bn:Bool) hbn=>?_))
theorem with_c (xs:List Res) (r:Res) (hl:Small xs.length) (hl2:Small (withR xs r).length):CallR Tryz.prog 146 [.slice false (avs xs),.agg [.int .i64 r.kind,.str r.name,.int .i64 r.ver,.int .i64 r.port,.str r.to',.slice false (avs r.rules'),.slice false (avs r.hosts)]] (.own 7 (avs (withR xs r))):=by
 have w1:=(with1_c xs r.kind r.name (-1) hl).frz
 have w2:=(with1_c xs r.kind r.name 1 hl).frz
 have hcc:CallR Tryz.prog 186 [.slice false [.slice false (avs (sideR xs ⟨r.kind,r.name⟩ (-1))),.slice false [.agg [.int .i64 r.kind,.str r.name,.int .i64 r.ver,.int .i64 r.port,.str r.to',.slice false (avs r.rules'),.slice false (avs r.hosts)]],.slice false (avs (sideR xs ⟨r.kind,r.name⟩ 1))]] (.own 7 (avs (withR xs r))):=by
  have h:=concat_c [sideR xs (keyOf r) (-1),[r],sideR xs (keyOf r) 1] (by unfold Small; simp) (by simpa [withR] using hl2)
  have e:[sideR xs (keyOf r) (-1),[r],sideR xs (keyOf r) 1].flatten=withR xs r:=by simp [withR]
  rw [e] at h
  exact h
 refine CallR.go2 (T:=T.withF [13,16]) Tryz.call146 Tryz.func146 rfl Tryz.ntmps146 (congrArg Array.toList Tryz.results146) (by decide) fun ts hn h0 h1=>?_
 (repeat' (first
 | (with_reducible first|refine callX.by (w1) ?_|refine callX.by (w2) ?_|refine callX.by (hcc) ?_|refine callX.by (rkey_c _ _ _ _ _ _ _) ?_|refine callX.by (concat_c _ ?_ ?_) ?_|assumption|(refine Qw hK _ ?_; clear hK K)|refine Qw ‹_› _ ?_|refine Qx ‹_› ?_|refine Qi fun K hK=>?_|refine Qj (T.withF [13,16]) fun K hK=>?_|refine Qk (id:=3) (T.withF [13,16]) mixed [([10],[12,13,14]),([11],[12,13,14]),([12],[10,11,14,15]),([13],[10,11,14,15]),([14],[10,11,12,13]),([15],[12,13])] (by kernel_rfl) fun K hK=>?_|refine Ql fun A B hA hB=>?_|refine Qn ?_|refine Qr ?_)
 | ((with_reducible first|apply Qy|apply Qz|apply QA)<;>intro hb<;>try simp only [nr] at hb)
 | simp only [go_sem,↓reduceIte,reduceIte,Qa,Qh,Qb,Qc,Qd,Qe,Qf,Qg,reduceCtorEq, *,-w1,-w2,-hcc]
 | with_reducible refine fun (bn:Bool) hbn=>?_))
 all_goals trace_state
end Go.Proofs.YtmjkjmoeicnbnaaGreatDoor.Lg
