/- Parts of the proof, one behind the other. -/
import Derived.Test.YtmjkjmoeicnbnaaGreatDoorG14
namespace Go.Proofs.YtmjkjmoeicnbnaaGreatDoor.Lg
set_option maxRecDepth 100000
set_option linter.unusedVariables false
set_option linter.unusedSimpArgs false
open Go
open Nat renaming reduceEqDiff → Qa, reduceLT → Qb, reduceLeDiff → Qc, reduceAdd → Qd, reduceMul → Qe, reduceSub → Qf, reduceBEq → Qg
open String renaming reduceEq → Qh
open SpecC renaming seqW → Qi, regW → Qj, drawW → Qk, condW → Ql, block → Qm, skip → Qn, exit → Qp, ret → Qr, loopF → Qs
open NxK renaming out → Qw
open Nx renaming out → Qx
open condK renaming split → Qy
open gK renaming split_t → Qz, split_f → QA
@[go_sem] def Wd9:List (List Nat×List Nat):=[([14],[16]),([15],[16]),([16],[14,15])]
def keepK (M:List (Key × Bool)) (ks:List Key):List Key:=ks.filter fun k=>!(mget M k).getD false
def missR (M:List (Key × Bool)) (l:List Res):List Key:=l.flatMap fun r=>keepK M (refsR r)
def missK (l:List Res):List Key:=kcompact (ksort (missR (ofR l []) l))
theorem missR_cons (M:List (Key × Bool)) (r:Res) (l:List Res):missR M (r :: l)=keepK M (refsR r)++missR M l:=rfl
theorem keepK_cons (M:List (Key × Bool)) (k:Key) (l:List Key):keepK M (k :: l)=(if (mget M k).getD false=true then [] else [k])++keepK M l:=by
 unfold keepK
 rw [List.filter_cons]
 cases (mget M k).getD false<;>simp
theorem small_le {n:Nat} (h:n≤65536):Small n:=by unfold Small; omega
set_option maxHeartbeats 4000000 in
theorem missing_c (xs:List Res) (hl:xs.length≤65536) (hs:∀ r∈xs,SmRes r):CallR Tryz.prog 17 [.slice false (avs xs)] (.own 2 (avs (missK xs))):=by
 have hsl:=small_le hl
 refine CallR.go1 (T:=T) Tryz.call17 Tryz.func17 rfl Tryz.ntmps17 (congrArg Array.toList Tryz.results17) (by decide) fun ts hn h0=>?_
 (repeat' (first
 | (with_reducible first|refine callX.by (refsOf_c _ ?_) ?_|refine callX.by (refsR_c _ _ _ _ _ _ _ ?_ ?_ ?_) ?_|refine callX.by awqc ?_)
 | (with_reducible refine callX.ar ?_ ?_ (sortKey_c ?_ ?_); (focus (simp only [go_sem,↓reduceIte,reduceIte,Qa,Qh,Qb,Qc,Qd,Qe,Qf,Qg,reduceCtorEq, *,-hs]; first|done|rfl)))
 | with_reducible refine callX.by (kcmp_c _ _ _ _) ?_
 | (with_reducible refine callX.mv ?_ ?_ ?_ (compactKey_c ?_ ?_); (focus (simp only [go_sem,↓reduceIte,reduceIte,Qa,Qh,Qb,Qc,Qd,Qe,Qf,Qg,reduceCtorEq, *,-hs]; first|done|rfl)); (focus (simp only [go_sem,↓reduceIte,reduceIte,Qa,Qh,Qb,Qc,Qd,Qe,Qf,Qg,reduceCtorEq, *,-hs]; first|done|rfl)))
 | (with_reducible first|assumption|(refine Qw hK _ ?_; clear hK K)|refine Qw ‹_› _ ?_|refine Qx ‹_› ?_|refine Qi fun K hK=>?_|refine Qj T fun K hK=>?_|refine Ql fun A B hA hB=>?_|refine Qm ?_|refine Qn ?_|refine Qp ?_|refine Qr ?_)
 | ((with_reducible first|apply Qy|apply Qz|apply QA)<;>intro hb<;>try simp only [nr] at hb)
 | simp only [go_sem,↓reduceIte,reduceIte,Qa,Qh,Qb,Qc,Qd,Qe,Qf,Qg,reduceCtorEq, *,-hs]
 | with_reducible refine fun (bn:Bool) hbn=>?_))
 obtain ⟨M0,hM0⟩:∃ M0,ofR xs []=M0:=⟨_,rfl⟩
 have hK0:missK xs=kcompact (ksort (missR M0 xs)):=by rw [← hM0]; rfl
 rw [hM0]
 refine SpecC.virt 4 31 2 (by decide) (by simp only [go_sem,↓reduceIte,reduceIte,Qa,Qh,Qb,Qc,Qd,Qe,Qf,Qg,reduceCtorEq, *,-hs,-hK0]) ?_
 refine Qs [3,11,12] (fun m ts'=>∃ (i:Nat),∃ (g:Nat),∃ (ys:List Key),m=xs.length - i∧i≤xs.length∧ys.length≤33 * i∧missR M0 xs=ys++missR M0 (xs.drop i)∧ts'.tmp 4=.os 31 g ys.length∧ts'.gen 31=g∧ts'.obj 31=.arr 2 (avs ys)∧ts'.tmp 13=.int .i64 i) xs.length ?_ ?_
 ·refine ⟨0,ts.gen 31+1,[],rfl,Nat.zero_le _,Nat.le_refl _,rfl,?_⟩
  simp only [go_sem,↓reduceIte,reduceIte,Qa,Qh,Qb,Qc,Qd,Qe,Qf,Qg,reduceCtorEq, *,-hs,-hK0,avs_nil]
 ·rintro m A hM ts' hk ⟨i,g,ys,hm,f1,f2,f3,s1,s2,s3,s4⟩
  simp only [go_sem,↓reduceIte,reduceIte,Qa,Qh,Qb,Qc,Qd,Qe,Qf,Qg,reduceCtorEq, *] at hk
  by_cases hlt:i < xs.length
  ·rw [List.drop_eq_getElem_cons hlt,missR_cons] at f3
   obtain ⟨_,_,hx1,hx2,hx3⟩:=hs _ (List.getElem_mem hlt)
   have hrl:=refs_len xs[i]
   have hrs:Small (refsR xs[i]).length:=by unfold Small; omega
   (repeat' (first
 | (with_reducible first|refine callX.by (refsOf_c _ ?_) ?_|refine callX.by (refsR_c _ _ _ _ _ _ _ ?_ ?_ ?_) ?_|refine callX.by awqc ?_)
 | (with_reducible refine callX.ar ?_ ?_ (sortKey_c ?_ ?_); (focus (simp only [go_sem,↓reduceIte,reduceIte,Qa,Qh,Qb,Qc,Qd,Qe,Qf,Qg,reduceCtorEq, *,-hs,-hK0,-hx2,-f3]; first|done|rfl)))
 | with_reducible refine callX.by (kcmp_c _ _ _ _) ?_
 | (with_reducible refine callX.mv ?_ ?_ ?_ (compactKey_c ?_ ?_); (focus (simp only [go_sem,↓reduceIte,reduceIte,Qa,Qh,Qb,Qc,Qd,Qe,Qf,Qg,reduceCtorEq, *,-hs,-hK0,-hx2,-f3]; first|done|rfl)); (focus (simp only [go_sem,↓reduceIte,reduceIte,Qa,Qh,Qb,Qc,Qd,Qe,Qf,Qg,reduceCtorEq, *,-hs,-hK0,-hx2,-f3]; first|done|rfl)))
 | (with_reducible first|assumption|(refine Qw hK _ ?_; clear hK K)|refine Qw ‹_› _ ?_|refine Qx ‹_› ?_|refine Qi fun K hK=>?_|refine Qj T fun K hK=>?_|refine Ql fun A B hA hB=>?_|refine Qm ?_|refine Qn ?_|refine Qp ?_|refine Qr ?_)
 | ((with_reducible first|apply Qy|apply Qz|apply QA)<;>intro hb<;>try simp only [nr] at hb)
 | simp only [go_sem,↓reduceIte,reduceIte,Qa,Qh,Qb,Qc,Qd,Qe,Qf,Qg,reduceCtorEq, *,-hs,-hK0,-hx2,-f3]
 | with_reducible refine fun (bn:Bool) hbn=>?_))
   generalize refsR xs[i]=R at *
   refine Qs [3,11,12,13,18,19] (fun m ts'=>∃ (j:Nat),∃ (g':Nat),∃ (zs:List Key),m=R.length - j∧j≤R.length∧zs.length≤33 * i+j∧ys++keepK M0 R=zs++keepK M0 (R.drop j)∧ts'.tmp 4=.os 31 g' zs.length∧ts'.gen 31=g'∧ts'.obj 31=.arr 2 (avs zs)∧ts'.tmp 20=.int .i64 j) R.length ?_ ?_
   ·refine ⟨0,g,ys,rfl,Nat.zero_le _,by omega,rfl,?_⟩
    simp only [go_sem,↓reduceIte,reduceIte,Qa,Qh,Qb,Qc,Qd,Qe,Qf,Qg,reduceCtorEq, *,-hs,-hK0,-hx2,-f3]
   ·revert hM f3
    intro hM1 f30
    rintro m A hM ts' hk ⟨j,g',zs,hm,f1,f2,f3,s1,s2,s3,s4⟩
    simp only [go_sem,↓reduceIte,reduceIte,Qa,Qh,Qb,Qc,Qd,Qe,Qf,Qg,reduceCtorEq, *] at hk
    by_cases hjt:j < R.length
    ·rw [List.drop_eq_getElem_cons hjt,keepK_cons] at f3
     have hr1:Room (zs.length+1) 24:=room_big (by omega) (by decide)
     (repeat' (first
 | (with_reducible first|refine callX.by (refsOf_c _ ?_) ?_|refine callX.by (refsR_c _ _ _ _ _ _ _ ?_ ?_ ?_) ?_|refine callX.by awqc ?_)
 | (with_reducible refine callX.ar ?_ ?_ (sortKey_c ?_ ?_); (focus (simp only [go_sem,↓reduceIte,reduceIte,Qa,Qh,Qb,Qc,Qd,Qe,Qf,Qg,reduceCtorEq, *,-hs,-hK0,-hx2,-f3,-f30]; first|done|rfl)))
 | with_reducible refine callX.by (kcmp_c _ _ _ _) ?_
 | (with_reducible refine callX.mv ?_ ?_ ?_ (compactKey_c ?_ ?_); (focus (simp only [go_sem,↓reduceIte,reduceIte,Qa,Qh,Qb,Qc,Qd,Qe,Qf,Qg,reduceCtorEq, *,-hs,-hK0,-hx2,-f3,-f30]; first|done|rfl)); (focus (simp only [go_sem,↓reduceIte,reduceIte,Qa,Qh,Qb,Qc,Qd,Qe,Qf,Qg,reduceCtorEq, *,-hs,-hK0,-hx2,-f3,-f30]; first|done|rfl)))
 | (with_reducible first|assumption|(refine Qw hK _ ?_; clear hK K)|refine Qw ‹_› _ ?_|refine Qx ‹_› ?_|refine Qi fun K hK=>?_|refine Qj T fun K hK=>?_|refine Ql fun A B hA hB=>?_|refine Qm ?_|refine Qn ?_|refine Qp ?_|refine Qr ?_)
 | ((with_reducible first|apply Qy|apply Qz|apply QA)<;>intro hb<;>try simp only [nr] at hb)
 | simp only [go_sem,↓reduceIte,reduceIte,Qa,Qh,Qb,Qc,Qd,Qe,Qf,Qg,reduceCtorEq, *,-hs,-hK0,-hx2,-f3,-f30]
 | with_reducible refine fun (bn:Bool) hbn=>?_))
     all_goals ((repeat clear hK); (repeat clear hA); (repeat clear hB))
     ·rw [if_neg (by simp [hb])] at f3
      (refine hM.on (R.length - (j+1)) (by omega) (by simp only [go_sem,↓reduceIte,reduceIte,Qa,Qh,Qb,Qc,Qd,Qe,Qf,Qg,reduceCtorEq, *,w64_nat hjt hrs,List.length_append,-hs,-hK0,-hx2,-f3,-f30,-hM1]) ⟨j+1,g'+1,zs++[R[j]],rfl,by omega,by simp; omega,by rw [f3,List.append_assoc],?_⟩; simp only [go_sem,↓reduceIte,reduceIte,Qa,Qh,Qb,Qc,Qd,Qe,Qf,Qg,reduceCtorEq, *,w64_nat hjt hrs,List.length_append,-hs,-hK0,-hx2,-f3,-f30,-hM1]; done)
     ·rw [if_pos hb,List.nil_append] at f3
      (refine hM.on (R.length - (j+1)) (by omega) (by simp only [go_sem,↓reduceIte,reduceIte,Qa,Qh,Qb,Qc,Qd,Qe,Qf,Qg,reduceCtorEq, *,w64_nat hjt hrs,-hs,-hK0,-hx2,-f3,-f30,-hM1]) ⟨j+1,g',zs,rfl,by omega,by omega,f3,?_⟩; simp only [go_sem,↓reduceIte,reduceIte,Qa,Qh,Qb,Qc,Qd,Qe,Qf,Qg,reduceCtorEq, *,w64_nat hjt hrs,-hs,-hK0,-hx2,-f3,-f30,-hM1]; done)
    ·rw [List.drop_eq_nil_of_le (by omega)] at f3
     (repeat' (first
 | (with_reducible first|refine callX.by (refsOf_c _ ?_) ?_|refine callX.by (refsR_c _ _ _ _ _ _ _ ?_ ?_ ?_) ?_|refine callX.by awqc ?_)
 | (with_reducible refine callX.ar ?_ ?_ (sortKey_c ?_ ?_); (focus (simp only [go_sem,↓reduceIte,reduceIte,Qa,Qh,Qb,Qc,Qd,Qe,Qf,Qg,reduceCtorEq, *,-hs,-hK0,-hx2,-f3,-f30]; first|done|rfl)))
 | with_reducible refine callX.by (kcmp_c _ _ _ _) ?_
 | (with_reducible refine callX.mv ?_ ?_ ?_ (compactKey_c ?_ ?_); (focus (simp only [go_sem,↓reduceIte,reduceIte,Qa,Qh,Qb,Qc,Qd,Qe,Qf,Qg,reduceCtorEq, *,-hs,-hK0,-hx2,-f3,-f30]; first|done|rfl)); (focus (simp only [go_sem,↓reduceIte,reduceIte,Qa,Qh,Qb,Qc,Qd,Qe,Qf,Qg,reduceCtorEq, *,-hs,-hK0,-hx2,-f3,-f30]; first|done|rfl)))
 | (with_reducible first|assumption|(refine Qw hK _ ?_; clear hK K)|refine Qw ‹_› _ ?_|refine Qx ‹_› ?_|refine Qi fun K hK=>?_|refine Qj T fun K hK=>?_|refine Ql fun A B hA hB=>?_|refine Qm ?_|refine Qn ?_|refine Qp ?_|refine Qr ?_)
 | ((with_reducible first|apply Qy|apply Qz|apply QA)<;>intro hb<;>try simp only [nr] at hb)
 | simp only [go_sem,↓reduceIte,reduceIte,Qa,Qh,Qb,Qc,Qd,Qe,Qf,Qg,reduceCtorEq, *,-hs,-hK0,-hx2,-f3,-f30]
 | with_reducible refine fun (bn:Bool) hbn=>?_))
     all_goals ((repeat clear hK); (repeat clear hA); (repeat clear hB))
     all_goals (clear hM; revert hM1; intro hM)
     (refine hM.on (xs.length - (i+1)) (by omega) (by simp only [go_sem,↓reduceIte,reduceIte,Qa,Qh,Qb,Qc,Qd,Qe,Qf,Qg,reduceCtorEq, *,w64_nat hlt hsl,-hs,-hK0,-hx2,-f3,-f30]) ⟨i+1,g',zs,rfl,by omega,by omega,by rw [f30,← List.append_assoc,f3]; simp [keepK],?_⟩; simp only [go_sem,↓reduceIte,reduceIte,Qa,Qh,Qb,Qc,Qd,Qe,Qf,Qg,reduceCtorEq, *,w64_nat hlt hsl,-hs,-hK0,-hx2,-f3,-f30]; done)
  ·rw [List.drop_eq_nil_of_le (by omega)] at f3
   have e:ys=missR M0 xs:=by rw [f3]; simp [missR]
   subst e
   clear f3
   have hk1:=ksort_length (missR M0 xs)
   have htk:(ksort (missR M0 xs)).take (missR M0 xs).length=ksort (missR M0 xs):=List.take_of_length_le (by omega)
   have hsm1:Small (missR M0 xs).length:=by unfold Small; omega
   have hsm2:Small (ksort (missR M0 xs)).length:=by rw [hk1]; exact hsm1
   (repeat' (first
 | (with_reducible first|refine callX.by (refsOf_c _ ?_) ?_|refine callX.by (refsR_c _ _ _ _ _ _ _ ?_ ?_ ?_) ?_|refine callX.by awqc ?_)
 | (with_reducible refine callX.ar ?_ ?_ (sortKey_c ?_ ?_); (focus (simp only [go_sem,↓reduceIte,reduceIte,Qa,Qh,Qb,Qc,Qd,Qe,Qf,Qg,reduceCtorEq, *,Nat.le_refl,-hs]; first|done|rfl)))
 | with_reducible refine callX.by (kcmp_c _ _ _ _) ?_
 | (with_reducible refine callX.mv ?_ ?_ ?_ (compactKey_c ?_ ?_); (focus (simp only [go_sem,↓reduceIte,reduceIte,Qa,Qh,Qb,Qc,Qd,Qe,Qf,Qg,reduceCtorEq, *,Nat.le_refl,-hs]; first|done|rfl)); (focus (simp only [go_sem,↓reduceIte,reduceIte,Qa,Qh,Qb,Qc,Qd,Qe,Qf,Qg,reduceCtorEq, *,Nat.le_refl,-hs]; first|done|rfl)))
 | (with_reducible first|assumption|(refine Qw hK _ ?_; clear hK K)|refine Qw ‹_› _ ?_|refine Qx ‹_› ?_|refine Qi fun K hK=>?_|refine Qj T fun K hK=>?_|refine Ql fun A B hA hB=>?_|refine Qm ?_|refine Qn ?_|refine Qp ?_|refine Qr ?_)
 | ((with_reducible first|apply Qy|apply Qz|apply QA)<;>intro hb<;>try simp only [nr] at hb)
 | simp only [go_sem,↓reduceIte,reduceIte,Qa,Qh,Qb,Qc,Qd,Qe,Qf,Qg,reduceCtorEq, *,Nat.le_refl,-hs]
 | with_reducible refine fun (bn:Bool) hbn=>?_))
   all_goals ((repeat clear hK); (repeat clear hA); (repeat clear hB))
def referrers (l:List Res) (k:Key):List Key:=(l.filter fun r=>(refsR r).any fun x=>decide (k=x)).map keyOf
set_option maxHeartbeats 4000000 in
theorem referrers_c (xs:List Res) (k_kind:Int) (k_name:List UInt8) (hl:xs.length≤65536) (hs:∀ r∈xs,SmRes r):CallR Tryz.prog 19 [.slice false (avs xs),.agg [.int .i64 k_kind,.str k_name]] (.own 2 (avs (referrers xs (⟨k_kind,k_name⟩:Key)))):=by
 have hsl:=small_le hl
 refine CallR.go2 (T:=T) Tryz.call19 Tryz.func19 rfl Tryz.ntmps19 (congrArg Array.toList Tryz.results19) (by decide) fun ts hn h0 h1=>?_
 (repeat' (first
 | (with_reducible first|refine callX.by (refsR_c _ _ _ _ _ _ _ ?_ ?_ ?_) ?_|refine callX.by awqc ?_|refine callX.by (containsKey_c _ _ _ ?_) ?_|refine callX.by (rkey_c _ _ _ _ _ _ _) ?_|assumption|(refine Qw hK _ ?_; clear hK K)|refine Qw ‹_› _ ?_|refine Qx ‹_› ?_|refine Qi fun K hK=>?_|refine Qj T fun K hK=>?_|refine Qk (id:=5) T mixed Wd9 (by kernel_rfl) fun K hK=>?_|refine Ql fun A B hA hB=>?_|refine Qm ?_|refine Qn ?_|refine Qp ?_|refine Qr ?_)
 | ((with_reducible first|apply Qy|apply Qz|apply QA)<;>intro hb<;>try simp only [nr] at hb)
 | simp only [go_sem,↓reduceIte,reduceIte,Qa,Qh,Qb,Qc,Qd,Qe,Qf,Qg,reduceCtorEq, *,-hs]
 | with_reducible refine fun (bn:Bool) hbn=>?_))
 refine SpecC.virt 5 22 2 (by decide) (by simp only [go_sem,↓reduceIte,reduceIte,Qa,Qh,Qb,Qc,Qd,Qe,Qf,Qg,reduceCtorEq, *,-hs]) ?_
 refine Qs [3,8,9] (fun m ts'=>∃ (i:Nat),∃ (g:Nat),∃ (ys:List Key),m=xs.length - i∧i≤xs.length∧ys.length≤i∧referrers xs (⟨k_kind,k_name⟩:Key)=ys++referrers (xs.drop i) (⟨k_kind,k_name⟩:Key)∧ts'.tmp 5=.os 22 g ys.length∧ts'.gen 22=g∧ts'.obj 22=.arr 2 (avs ys)∧ts'.tmp 10=.int .i64 i) xs.length ?_ ?_
 ·refine ⟨0,ts.gen 22+1,[],rfl,Nat.zero_le _,Nat.le_refl _,rfl,?_⟩
  simp only [go_sem,↓reduceIte,reduceIte,Qa,Qh,Qb,Qc,Qd,Qe,Qf,Qg,reduceCtorEq, *,-hs,avs_nil]
 ·rintro m A hM ts' hk ⟨i,g,ys,hm,f1,f2,f3,s1,s2,s3,s4⟩
  simp only [go_sem,↓reduceIte,reduceIte,Qa,Qh,Qb,Qc,Qd,Qe,Qf,Qg,reduceCtorEq, *] at hk
  by_cases hlt:i < xs.length
  ·rw [List.drop_eq_getElem_cons hlt] at f3
   obtain ⟨_,_,hx1,hx2,hx3⟩:=hs _ (List.getElem_mem hlt)
   have hrl:=refs_len xs[i]
   have hrs:Small (refsR xs[i]).length:=by unfold Small; omega
   have hr1:Room (ys.length+1) 24:=room_big (by omega) (by decide)
   (repeat' (first
 | (with_reducible first|refine callX.by (refsR_c _ _ _ _ _ _ _ ?_ ?_ ?_) ?_|refine callX.by awqc ?_|refine callX.by (containsKey_c _ _ _ ?_) ?_|refine callX.by (rkey_c _ _ _ _ _ _ _) ?_|assumption|(refine Qw hK _ ?_; clear hK K)|refine Qw ‹_› _ ?_|refine Qx ‹_› ?_|refine Qi fun K hK=>?_|refine Qj T fun K hK=>?_|refine Qk (id:=5) T mixed Wd9 (by kernel_rfl) fun K hK=>?_|refine Ql fun A B hA hB=>?_|refine Qm ?_|refine Qn ?_|refine Qp ?_|refine Qr ?_)
 | ((with_reducible first|apply Qy|apply Qz|apply QA)<;>intro hb<;>try simp only [nr] at hb)
 | simp only [go_sem,↓reduceIte,reduceIte,Qa,Qh,Qb,Qc,Qd,Qe,Qf,Qg,reduceCtorEq, *,-hs,-hx2,-f3]
 | with_reducible refine fun (bn:Bool) hbn=>?_))
   all_goals ((repeat clear hK); (repeat clear hA); (repeat clear hB))
   ·have f3':referrers xs (⟨k_kind,k_name⟩:Key)=ys++(keyOf xs[i] :: referrers (xs.drop (i+1)) (⟨k_kind,k_name⟩:Key)):=by
     rw [f3]; unfold referrers; rw [List.filter_cons,if_pos (by simpa using hb)]; rfl
    (refine hM.on (xs.length - (i+1)) (by omega) (by simp only [go_sem,↓reduceIte,reduceIte,Qa,Qh,Qb,Qc,Qd,Qe,Qf,Qg,reduceCtorEq, *,w64_nat hlt hsl,List.length_append,keyOf,-hs,-hx2,-f3,-f3']) ⟨i+1,g+1,ys++[keyOf xs[i]],rfl,by omega,by simp; omega,by rw [f3',List.append_assoc]; rfl,?_⟩; simp only [go_sem,↓reduceIte,reduceIte,Qa,Qh,Qb,Qc,Qd,Qe,Qf,Qg,reduceCtorEq, *,w64_nat hlt hsl,List.length_append,keyOf,-hs,-hx2,-f3,-f3']; done)
   ·have f3':referrers xs (⟨k_kind,k_name⟩:Key)=ys++referrers (xs.drop (i+1)) (⟨k_kind,k_name⟩:Key):=by
     rw [f3]; unfold referrers; rw [List.filter_cons,if_neg (fun h=>by rw [hb] at h; cases h)]
    (refine hM.on (xs.length - (i+1)) (by omega) (by simp only [go_sem,↓reduceIte,reduceIte,Qa,Qh,Qb,Qc,Qd,Qe,Qf,Qg,reduceCtorEq, *,w64_nat hlt hsl,-hs,-hx2,-f3,-f3']) ⟨i+1,g,ys,rfl,by omega,by omega,f3',?_⟩; simp only [go_sem,↓reduceIte,reduceIte,Qa,Qh,Qb,Qc,Qd,Qe,Qf,Qg,reduceCtorEq, *,w64_nat hlt hsl,-hs,-hx2,-f3,-f3']; done)
  ·rw [List.drop_eq_nil_of_le (by omega)] at f3
   have e:ys=referrers xs (⟨k_kind,k_name⟩:Key):=by rw [f3]; simp [referrers]
   subst e
   clear f3
   (repeat' (first
 | (with_reducible first|refine callX.by (refsR_c _ _ _ _ _ _ _ ?_ ?_ ?_) ?_|refine callX.by awqc ?_|refine callX.by (containsKey_c _ _ _ ?_) ?_|refine callX.by (rkey_c _ _ _ _ _ _ _) ?_|assumption|(refine Qw hK _ ?_; clear hK K)|refine Qw ‹_› _ ?_|refine Qx ‹_› ?_|refine Qi fun K hK=>?_|refine Qj T fun K hK=>?_|refine Qk (id:=5) T mixed Wd9 (by kernel_rfl) fun K hK=>?_|refine Ql fun A B hA hB=>?_|refine Qm ?_|refine Qn ?_|refine Qp ?_|refine Qr ?_)
 | ((with_reducible first|apply Qy|apply Qz|apply QA)<;>intro hb<;>try simp only [nr] at hb)
 | simp only [go_sem,↓reduceIte,reduceIte,Qa,Qh,Qb,Qc,Qd,Qe,Qf,Qg,reduceCtorEq, *,-hs]
 | with_reducible refine fun (bn:Bool) hbn=>?_))
   all_goals ((repeat clear hK); (repeat clear hA); (repeat clear hB))
end Go.Proofs.YtmjkjmoeicnbnaaGreatDoor.Lg
namespace Go.Proofs.YtmjkjmoeicnbnaaGreatDoor.Lg
set_option maxRecDepth 100000
set_option linter.unusedVariables false
set_option linter.unusedSimpArgs false
open Go
open Nat renaming reduceEqDiff → Qa, reduceLT → Qb, reduceLeDiff → Qc, reduceAdd → Qd, reduceMul → Qe, reduceSub → Qf, reduceBEq → Qg
open String renaming reduceEq → Qh
@[go_sem] def Wd10:List (List Nat×List Nat):=[([16],[17,19,20]),([17],[16,19,20]),([19],[16,17]),([20],[16,17]),([21,7],[]),([18],[23]),([22],[23]),([23],[18,22])]
instance:Dat (List Key) where
 av l:=.slice false (avs l)
 sz:=1
 len _:=rfl
 pure l:=by simp only [go_sem]
 nrm l:=by simp only [go_sem]
 one _:=rfl
 known _:=rfl
theorem av_keys (l:List Key):Dat.av l=.slice false (avs l):=rfl
section
variable {α β:Type}
theorem mks_snoc [Dat α] (M:List (α × β)) (p:α × β):mks (M++[p])=mks M++[Dat.av p.1]:=by simp [mks,avs]
theorem mvs_snoc [Dat β] (M:List (α × β)) (p:α × β):mvs (M++[p])=mvs M++[Dat.av p.2]:=by simp [mvs,avs]
theorem set_snoc {γ:Type} (l:List γ) (x y:γ) (n:Nat) (h:n=l.length):(l++[x]).set n y=l++[y]:=by subst h; simp
end
def namesM (l:List Res):List (Key × List Key):=l.map fun r=>(keyOf r,refsR r)
set_option maxHeartbeats 4000000 in
theorem rnames_c (xs:List Res) (hl:xs.length≤65536) (hs:∀ r∈xs,SmRes r) (hnd:(xs.map keyOf).Nodup):CallR Tryz.prog 138 [.slice false (avs xs)] (.val (.mp (mks (namesM xs)) (mvs (namesM xs)))):=by
 have hsl:=small_le hl
 refine CallR.go1 (T:=T) Tryz.call138 Tryz.func138 rfl Tryz.ntmps138 (congrArg Array.toList Tryz.results138) (by decide) fun ts hn h0=>?_
 (repeat' (first
 | (with_reducible first|refine callX.by (rkey_c _ _ _ _ _ _ _) ?_|refine callX.by (refsR_c _ _ _ _ _ _ _ ?_ ?_ ?_) ?_|refine callX.by awqc ?_|assumption|(refine NxK.out hK _ ?_; clear hK K)|refine NxK.out ‹_› _ ?_|refine Nx.out ‹_› ?_|refine SpecC.seqW fun K hK=>?_|refine SpecC.regW T fun K hK=>?_|refine SpecC.drawW (id:=6) T mixed Wd10 (by kernel_rfl) fun K hK=>?_|refine SpecC.condW fun A B hA hB=>?_|refine SpecC.block ?_|refine SpecC.skip ?_|refine SpecC.exit ?_|refine SpecC.ret ?_)
 | ((with_reducible first|apply condK.split|apply gK.split_t|apply gK.split_f)<;>intro hb<;>try simp only [nr] at hb)
 | simp only [go_sem,↓reduceIte,reduceIte,Qa,Qh,Qb,Qc,Qd,Qe,Qf,Qg,reduceCtorEq, *,-hs,-hnd]
 | with_reducible refine fun (bn:Bool) hbn=>?_))
 refine SpecC.loopF [8,9] (fun m ts'=>∃ (i:Nat),∃ (g:Nat),m=xs.length - i∧i≤xs.length∧ts'.tmp 3=.mref 7 g∧ts'.gen 7=g∧ts'.obj 7=.mp (mks (namesM (xs.take i))) (mvs (namesM (xs.take i)))∧ts'.tmp 10=.int .i64 i) xs.length ?_ ?_
 ·refine ⟨0,ts.gen 7+1,rfl,Nat.zero_le _,?_⟩
  simp only [go_sem,↓reduceIte,reduceIte,Qa,Qh,Qb,Qc,Qd,Qe,Qf,Qg,reduceCtorEq, *,-hs,-hnd,show namesM []=[] from rfl]
 ·rintro m A hM ts' hk ⟨i,g,hm,f1,s1,s2,s3,s4⟩
  simp only [go_sem,↓reduceIte,reduceIte,Qa,Qh,Qb,Qc,Qd,Qe,Qf,Qg,reduceCtorEq, *] at hk
  by_cases hlt:i < xs.length
  ·obtain ⟨_,_,hx1,hx2,hx3⟩:=hs _ (List.getElem_mem hlt)
   have hrl:=refs_len xs[i]
   have hrs:Small (refsR xs[i]).length:=by unfold Small; omega
   have hr1:Room (refsR xs[i]).length 24:=room_big (by omega) (by decide)
   have hix:ixOf ⟨xs[i].kind,xs[i].name⟩ (namesM (xs.take i))=none:=by
    refine mget_ix_none (mget_none_iff.2 fun p hp he=>?_)
    obtain ⟨r,hr,rfl⟩:=List.mem_map.1 hp
    obtain ⟨j,hj,rfl⟩:=List.getElem_of_mem hr
    simp only [List.length_take] at hj
    rw [List.getElem_take] at he
    have:=(List.pairwise_iff_getElem.1 hnd) j i (by simp; omega) (by simpa using hlt) (by omega)
    exact this (by simpa [keyOf] using he)
   have hnl:(namesM (xs.take i)).length=i:=by simp [namesM]; omega
   have e:namesM (xs.take (i+1))=namesM (xs.take i)++[(keyOf xs[i],refsR xs[i])]:=by
    unfold namesM
    rw [List.take_succ_eq_append_getElem hlt,List.map_append]; rfl
   (repeat' (first
 | (with_reducible first|refine callX.by (rkey_c _ _ _ _ _ _ _) ?_|refine callX.by (refsR_c _ _ _ _ _ _ _ ?_ ?_ ?_) ?_|refine callX.by awqc ?_|assumption|(refine NxK.out hK _ ?_; clear hK K)|refine NxK.out ‹_› _ ?_|refine Nx.out ‹_› ?_|refine SpecC.seqW fun K hK=>?_|refine SpecC.regW T fun K hK=>?_|refine SpecC.drawW (id:=6) T mixed Wd10 (by kernel_rfl) fun K hK=>?_|refine SpecC.condW fun A B hA hB=>?_|refine SpecC.block ?_|refine SpecC.skip ?_|refine SpecC.exit ?_|refine SpecC.ret ?_)
 | ((with_reducible first|apply condK.split|apply gK.split_t|apply gK.split_f)<;>intro hb<;>try simp only [nr] at hb)
 | simp only [go_sem,↓reduceIte,reduceIte,Qa,Qh,Qb,Qc,Qd,Qe,Qf,Qg,reduceCtorEq, *,-hs,-hnd,-hx2,-e]
 | with_reducible refine fun (bn:Bool) hbn=>?_))
   all_goals ((repeat clear hK); (repeat clear hA); (repeat clear hB))
   have hvl:(mvs (namesM (xs.take i))).length=i:=by rw [len_mvs,hnl]
   have hset:∀ y x:AV,(mvs (namesM (xs.take i))++[y]).set i x=mvs (namesM (xs.take i))++[x]:=fun y x=>set_snoc _ _ _ _ hvl.symm
   have hgd:∀ x:AV,(mvs (namesM (xs.take i))++[x]).getD i .any=x:=fun x=>by simp [List.getD_eq_getElem?_getD,hvl]
   have ek:mks (namesM (xs.take i))++[.agg [.int .i64 xs[i].kind,.str xs[i].name]]=mks (namesM (xs.take (i+1))):=by rw [e,mks_snoc]; rfl
   have ev:mvs (namesM (xs.take i))++[.slice false (avs (refsR xs[i]))]=mvs (namesM (xs.take (i+1))):=by rw [e,mvs_snoc]; rfl
   (refine hM.onE (xs.length - (i+1)) (Ent.frzM2 7 (i) 22 ?_) ?_ ?_ ?_; (focus (simp only [go_sem,↓reduceIte,reduceIte,Qa,Qh,Qb,Qc,Qd,Qe,Qf,Qg,reduceCtorEq, *,w64_nat hlt hsl,-hs,-hnd,-hx2,-e]; first|done|rfl)); omega; (focus (simp only [go_sem,↓reduceIte,reduceIte,Qa,Qh,Qb,Qc,Qd,Qe,Qf,Qg,reduceCtorEq, *,w64_nat hlt hsl,-hs,-hnd,-hx2,-e]; done)); refine ⟨i+1,g,rfl,by omega,?_⟩; simp only [go_sem,↓reduceIte,reduceIte,Qa,Qh,Qb,Qc,Qd,Qe,Qf,Qg,reduceCtorEq, *,w64_nat hlt hsl,-hs,-hnd,-hx2,-e]; done)
  ·have e:xs.take i=xs:=List.take_of_length_le (by omega)
   (repeat' (first
 | (with_reducible first|refine callX.by (rkey_c _ _ _ _ _ _ _) ?_|refine callX.by (refsR_c _ _ _ _ _ _ _ ?_ ?_ ?_) ?_|refine callX.by awqc ?_|assumption|(refine NxK.out hK _ ?_; clear hK K)|refine NxK.out ‹_› _ ?_|refine Nx.out ‹_› ?_|refine SpecC.seqW fun K hK=>?_|refine SpecC.regW T fun K hK=>?_|refine SpecC.drawW (id:=6) T mixed Wd10 (by kernel_rfl) fun K hK=>?_|refine SpecC.condW fun A B hA hB=>?_|refine SpecC.block ?_|refine SpecC.skip ?_|refine SpecC.exit ?_|refine SpecC.ret ?_)
 | ((with_reducible first|apply condK.split|apply gK.split_t|apply gK.split_f)<;>intro hb<;>try simp only [nr] at hb)
 | simp only [go_sem,↓reduceIte,reduceIte,Qa,Qh,Qb,Qc,Qd,Qe,Qf,Qg,reduceCtorEq, *,-hs,-hnd]
 | with_reducible refine fun (bn:Bool) hbn=>?_))
end Go.Proofs.YtmjkjmoeicnbnaaGreatDoor.Lg
namespace Go.Proofs.YtmjkjmoeicnbnaaGreatDoor.Lg
set_option maxRecDepth 100000
set_option linter.unusedVariables false
set_option linter.unusedSimpArgs false
open Go
open Nat renaming reduceEqDiff → Qa, reduceLT → Qb, reduceLeDiff → Qc, reduceAdd → Qd, reduceMul → Qe, reduceSub → Qf, reduceBEq → Qg
open String renaming reduceEq → Qh
open SpecC renaming seqW → Qi, regW → Qj, drawW → Qk, condW → Ql, block → Qm, skip → Qn, exit → Qp, ret → Qr, loopF → Qs
open NxK renaming out → Qw
open Nx renaming out → Qx
open condK renaming split → Qy
open gK renaming split_t → Qz, split_f → QA
@[go_sem] def Wd11:List (List Nat×List Nat):=[([24],[25,26]),([25],[24]),([26],[24])]
abbrev KS:=List (Key × Bool)
def isIn (M:KS) (k:Key):Bool:=(mget M k).getD false
def visF (T0:KS) (N:List (Key × List Key)):Nat→Key→KS→KS
 | 0,_,M=>M
 | n+1,k,M=>if isIn T0 k=true∧isIn M k=false then ((mget N k).getD []).foldl (fun M x=>visF T0 N n x M) (mput M k true) else M
def muV (T0 M:KS):Nat:=(T0.filter fun p=>p.2 && !isIn M p.1).length
theorem isIn_put (M:KS) (k x:Key):isIn (mput M k true) x=(decide (x=k) || isIn M x):=by
 unfold isIn
 rw [mget_mput]
 by_cases h:x=k<;>simp [h]
theorem visF_grow (T0:KS) (N:List (Key × List Key)):∀ (n:Nat) (k:Key) (M:KS) (x:Key),isIn M x=true→isIn (visF T0 N n k M) x=true
 | 0,_,_,_,h=>h
 | n+1,k,M,x,h=>by
  unfold visF
  split
  ·have:∀ (l:List Key) (M:KS),isIn M x=true→isIn (l.foldl (fun M y=>visF T0 N n y M) M) x=true:=by
    intro l
    induction l with
    | nil=>exact fun M h=>h
    | cons y l ih=>exact fun M h=>ih _ (visF_grow T0 N n y M x h)
   exact this _ _ (by rw [isIn_put]; simp [h])
  ·exact h
theorem mu_le {T0 M M':KS} (h:∀ x,isIn M x=true→isIn M' x=true):muV T0 M'≤muV T0 M:=by
 unfold muV
 rw [← List.countP_eq_length_filter,← List.countP_eq_length_filter]
 refine List.countP_mono_left fun p _ hp=>?_
 simp only [Bool.and_eq_true,Bool.not_eq_true'] at hp ⊢
 refine ⟨hp.1,?_⟩
 cases hm:isIn M p.1 with
 | false=>rfl
 | true=>rw [h _ hm] at hp; simp at hp
theorem mget_mem {α β:Type} [DecidableEq α] {M:List (α × β)} {x:α} {v:β} (h:mget M x=some v):(x,v)∈M:=by
 unfold mget at h
 obtain ⟨p,h1,h2⟩:=Option.map_eq_some_iff.1 h
 have h3:=List.find?_some h1
 have h4:=List.mem_of_find?_eq_some h1
 have:p.1=x:=by simpa using (of_decide_eq_true h3).symm
 rw [← this,← h2]; exact h4
theorem isIn_mem {M:KS} {k:Key} (h:isIn M k=true):(k,true)∈M:=by
 unfold isIn at h
 cases hm:mget M k with
 | none=>rw [hm] at h; simp at h
 | some b=>rw [hm] at h; simp at h; subst h; exact mget_mem hm
theorem mu_lt {T0 M:KS} {k:Key} (h1:isIn T0 k=true) (h2:isIn M k=false):muV T0 (mput M k true) < muV T0 M:=by
 have hm:=isIn_mem h1
 unfold muV
 have key:∀ (l:KS),(l.filter fun p=>p.2 && !isIn (mput M k true) p.1).length≤(l.filter fun p=>p.2 && !isIn M p.1).length∧((k,true)∈l→(l.filter fun p=>p.2 && !isIn (mput M k true) p.1).length < (l.filter fun p=>p.2 && !isIn M p.1).length):=by
  intro l
  induction l with
  | nil=>simp
  | cons p l ih =>
   obtain ⟨i1,i2⟩:=ih
   have hp:(p.2 && !isIn (mput M k true) p.1)=true→(p.2 && !isIn M p.1)=true:=by
    rw [isIn_put]
    simp only [Bool.and_eq_true,Bool.not_eq_true',Bool.or_eq_false_iff]
    exact fun ⟨a,_,b⟩=>⟨a,b⟩
   refine ⟨?_,fun hmem=>?_⟩
   ·rw [List.filter_cons,List.filter_cons]
    by_cases q1:(p.2 && !isIn (mput M k true) p.1)=true
    ·rw [if_pos q1,if_pos (hp q1)]; simp; exact i1
    ·rw [if_neg q1]
     split
     ·simp; omega
     ·exact i1
   ·rw [List.filter_cons,List.filter_cons]
    rcases List.mem_cons.1 hmem with rfl|hmem
    ·rw [if_neg (by rw [isIn_put]; simp),if_pos (by simp [h2])]
     simp; omega
    ·have:=i2 hmem
     by_cases q1:(p.2 && !isIn (mput M k true) p.1)=true
     ·rw [if_pos q1,if_pos (hp q1)]; simp; exact this
     ·rw [if_neg q1]
      split
      ·simp; omega
      ·exact this
 exact (key T0).2 hm
theorem look_keys {N:List (Key × List Key)} {k:Key} {v:List Key} (h:mget N k=some v) (z:AV):lookA false z (mvs N) (ixOf k N)=.slice false (avs v):=by
 cases hi:ixOf k N with
 | none=>rw [ix_none hi] at h; cases h
 | some i =>
  obtain ⟨h1,h2⟩:=ix_get hi
  rw [h2] at h
  cases h
  show (mvs N).getD i .any=_
  unfold mvs
  rw [avs_get _ i (by simpa using h1)]
  simp [av_keys]
set_option maxHeartbeats 4000000 in
theorem visit_c (T0:KS) (N:List (Key × List Key)) (hTN:∀ k,isIn T0 k=true→∃ ks,mget N k=some ks∧Small ks.length):∀ (n:Nat) (k_kind:Int) (k_name:List UInt8) (M:KS),muV T0 M≤n →
  CallH Tryz.prog 139 1000 [.agg [.int .i64 k_kind,.str k_name],.ro [.mp (mks T0) (mvs T0)],.ro [.mref 1000 0],.ro [.mp (mks N) (mvs N)],recV 139 (.ro [.mp (mks T0) (mvs T0)]) (.ro [.mref 1000 0]) (.ro [.mp (mks N) (mvs N)]) n] (mks M) (mvs M) (.tup [])
   (mks (visF T0 N n (⟨k_kind,k_name⟩:Key) M)) (mvs (visF T0 N n (⟨k_kind,k_name⟩:Key) M)):=by
 intro n
 induction n with
 | zero =>
  intro k_kind k_name M hmu
  have hno:¬ (isIn T0 (⟨k_kind,k_name⟩:Key)=true∧isIn M (⟨k_kind,k_name⟩:Key)=false):=fun ⟨h1,h2⟩=>by have:=mu_lt h1 h2; omega
  have e:visF T0 N 0 (⟨k_kind,k_name⟩:Key) M=M:=rfl
  rw [e]
  refine CallH.go5 (T:=T) Tryz.call139 Tryz.func139 rfl Tryz.ntmps139 (congrArg Array.toList Tryz.results139) (by decide) fun ts hn h0 h1 h2 h3 h4 hg ho=>?_
  by_cases hT:(mget T0 (⟨k_kind,k_name⟩:Key)).getD false=true
  ·have hO:(mget M (⟨k_kind,k_name⟩:Key)).getD false=true:=by
    cases hm:(mget M (⟨k_kind,k_name⟩:Key)).getD false with
    | true=>rfl
    | false=>exact absurd ⟨hT,hm⟩ hno
   (repeat' (first
 | (with_reducible first|assumption|(refine Qw hK _ ?_; clear hK K)|refine Qw ‹_› _ ?_|refine Qx ‹_› ?_|refine Qi fun K hK=>?_|refine Qj T fun K hK=>?_|refine Ql fun A B hA hB=>?_|refine Qm ?_|refine Qn ?_|refine Qp ?_|refine Qr ?_)
 | ((with_reducible first|apply Qy|apply Qz|apply QA)<;>intro hb<;>try simp only [nr] at hb)
 | simp only [go_sem,↓reduceIte,reduceIte,Qa,Qh,Qb,Qc,Qd,Qe,Qf,Qg,reduceCtorEq, *,-hTN,-hno,-h4]
 | with_reducible refine fun (bn:Bool) hbn=>?_))
  ·have hT:(mget T0 (⟨k_kind,k_name⟩:Key)).getD false=false:=by simpa using hT
   (repeat' (first
 | (with_reducible first|assumption|(refine Qw hK _ ?_; clear hK K)|refine Qw ‹_› _ ?_|refine Qx ‹_› ?_|refine Qi fun K hK=>?_|refine Qj T fun K hK=>?_|refine Ql fun A B hA hB=>?_|refine Qm ?_|refine Qn ?_|refine Qp ?_|refine Qr ?_)
 | ((with_reducible first|apply Qy|apply Qz|apply QA)<;>intro hb<;>try simp only [nr] at hb)
 | simp only [go_sem,↓reduceIte,reduceIte,Qa,Qh,Qb,Qc,Qd,Qe,Qf,Qg,reduceCtorEq, *,-hTN,-hno,-h4]
 | with_reducible refine fun (bn:Bool) hbn=>?_))
 | succ n ih =>
  intro k_kind k_name M hmu
  by_cases hT:(mget T0 (⟨k_kind,k_name⟩:Key)).getD false=true
  rotate_left
  ·have hT:(mget T0 (⟨k_kind,k_name⟩:Key)).getD false=false:=by simpa using hT
   have e:visF T0 N (n+1) (⟨k_kind,k_name⟩:Key) M=M:=by unfold visF; rw [if_neg (by simp [isIn,hT])]
   rw [e]
   refine CallH.go5 (T:=T) Tryz.call139 Tryz.func139 rfl Tryz.ntmps139 (congrArg Array.toList Tryz.results139) (by decide) fun ts hn h0 h1 h2 h3 h4 hg ho=>?_
   (repeat' (first
 | (with_reducible first|assumption|(refine Qw hK _ ?_; clear hK K)|refine Qw ‹_› _ ?_|refine Qx ‹_› ?_|refine Qi fun K hK=>?_|refine Qj T fun K hK=>?_|refine Ql fun A B hA hB=>?_|refine Qm ?_|refine Qn ?_|refine Qp ?_|refine Qr ?_)
 | ((with_reducible first|apply Qy|apply Qz|apply QA)<;>intro hb<;>try simp only [nr] at hb)
 | simp only [go_sem,↓reduceIte,reduceIte,Qa,Qh,Qb,Qc,Qd,Qe,Qf,Qg,reduceCtorEq, *,-hTN,-h4]
 | with_reducible refine fun (bn:Bool) hbn=>?_))
  by_cases hO:(mget M (⟨k_kind,k_name⟩:Key)).getD false=true
  ·have e:visF T0 N (n+1) (⟨k_kind,k_name⟩:Key) M=M:=by unfold visF; rw [if_neg (by simp [isIn,hO])]
   rw [e]
   refine CallH.go5 (T:=T) Tryz.call139 Tryz.func139 rfl Tryz.ntmps139 (congrArg Array.toList Tryz.results139) (by decide) fun ts hn h0 h1 h2 h3 h4 hg ho=>?_
   (repeat' (first
 | (with_reducible first|assumption|(refine Qw hK _ ?_; clear hK K)|refine Qw ‹_› _ ?_|refine Qx ‹_› ?_|refine Qi fun K hK=>?_|refine Qj T fun K hK=>?_|refine Ql fun A B hA hB=>?_|refine Qm ?_|refine Qn ?_|refine Qp ?_|refine Qr ?_)
 | ((with_reducible first|apply Qy|apply Qz|apply QA)<;>intro hb<;>try simp only [nr] at hb)
 | simp only [go_sem,↓reduceIte,reduceIte,Qa,Qh,Qb,Qc,Qd,Qe,Qf,Qg,reduceCtorEq, *,-hTN,-h4]
 | with_reducible refine fun (bn:Bool) hbn=>?_))
  have hO:(mget M (⟨k_kind,k_name⟩:Key)).getD false=false:=by simpa using hO
  obtain ⟨v,hv,hvs⟩:=hTN (⟨k_kind,k_name⟩:Key) hT
  have hlk:=look_keys hv
  have e:visF T0 N (n+1) (⟨k_kind,k_name⟩:Key) M=v.foldl (fun M x=>visF T0 N n x M) (mput M (⟨k_kind,k_name⟩:Key) true):=by
   rw [visF,if_pos ⟨hT,hO⟩,hv]; rfl
  rw [e]
  have hmu1:muV T0 (mput M (⟨k_kind,k_name⟩:Key) true)≤n:=by have:=mu_lt (T0:=T0) (M:=M) hT hO; omega
  refine CallH.go5 (T:=T) Tryz.call139 Tryz.func139 rfl Tryz.ntmps139 (congrArg Array.toList Tryz.results139) (by decide) fun ts hn h0 h1 h2 h3 h4 hg ho=>?_
  rw [recV_succ] at h4
  (repeat' (first
 | (with_reducible first|assumption|(refine Qw hK _ ?_; clear hK K)|refine Qw ‹_› _ ?_|refine Qx ‹_› ?_|refine Qi fun K hK=>?_|refine Qj T fun K hK=>?_|refine Ql fun A B hA hB=>?_|refine Qm ?_|refine Qn ?_|refine Qp ?_|refine Qr ?_)
 | ((with_reducible first|apply Qy|apply Qz|apply QA)<;>intro hb<;>try simp only [nr] at hb)
 | simp only [go_sem,↓reduceIte,reduceIte,Qa,Qh,Qb,Qc,Qd,Qe,Qf,Qg,reduceCtorEq, *,-hTN,-ih]
 | with_reducible refine fun (bn:Bool) hbn=>?_))
  have hre:(recV 139 (.ro [.mp (mks T0) (mvs T0)]) (.ro [.mref 1000 0]) (.ro [.mp (mks N) (mvs N)]) n).renM 1000 0 1000=recV 139 (.ro [.mp (mks T0) (mvs T0)]) (.ro [.mref 1000 0]) (.ro [.mp (mks N) (mvs N)]) n :=
   renM_recV _ _ _ _ _ _ _ _ (by simp only [go_sem,Bool.and_self]) (by simp only [go_sem,Bool.and_self])
  have hpe:(recV 139 (.ro [.mp (mks T0) (mvs T0)]) (.ro [.mref 1000 0]) (.ro [.mp (mks N) (mvs N)]) n).pureH 1000 0=true :=
   pureH_recV _ _ _ _ _ _ _ (by simp only [go_sem,Bool.and_self]) (by decide) (by simp only [go_sem,Bool.and_self])
  refine Qs [4,21,22] (fun m ts'=>∃ (i:Nat),∃ (M2:KS),m=v.length - i∧i≤v.length∧muV T0 M2≤n∧v.foldl (fun M x=>visF T0 N n x M) (mput M (⟨k_kind,k_name⟩:Key) true)=(v.drop i).foldl (fun M x=>visF T0 N n x M) M2∧ts'.gen 1000=0∧ts'.obj 1000=.mp (mks M2) (mvs M2)∧ts'.tmp 23=.int .i64 i) v.length ?_ ?_
  ·refine ⟨0,mput M (⟨k_kind,k_name⟩:Key) true,rfl,Nat.zero_le _,hmu1,rfl,?_⟩
   simp only [go_sem,↓reduceIte,reduceIte,Qa,Qh,Qb,Qc,Qd,Qe,Qf,Qg,reduceCtorEq, *,-hTN,-ih,-e]
  ·rintro m A hM ts' hk ⟨i,M2,hm,f1,f2,f3,s1,s2,s3⟩
   simp only [go_sem,↓reduceIte,reduceIte,Qa,Qh,Qb,Qc,Qd,Qe,Qf,Qg,reduceCtorEq, *] at hk
   by_cases hlt:i < v.length
   ·rw [List.drop_eq_getElem_cons hlt,List.foldl_cons] at f3
    (repeat' (first
 | (with_reducible first|refine callX.hm (d:=1000) (g:=0) ?_ ?_ (ih v[i].kind v[i].name M2 f2) ?_|assumption|(refine Qw hK _ ?_; clear hK K)|refine Qw ‹_› _ ?_|refine Qx ‹_› ?_|refine Qi fun K hK=>?_|refine Qj T fun K hK=>?_|refine Ql fun A B hA hB=>?_|refine Qm ?_|refine Qn ?_|refine Qp ?_|refine Qr ?_)
 | ((with_reducible first|apply Qy|apply Qz|apply QA)<;>intro hb<;>try simp only [nr] at hb)
 | simp only [go_sem,↓reduceIte,reduceIte,Qa,Qh,Qb,Qc,Qd,Qe,Qf,Qg,reduceCtorEq, *,-hTN,-ih,-f3,-e]
 | with_reducible refine fun (bn:Bool) hbn=>?_))
    all_goals ((repeat clear hK); (repeat clear hA); (repeat clear hB))
    (refine hM.on (v.length - (i+1)) (by omega) (by simp only [go_sem,↓reduceIte,reduceIte,Qa,Qh,Qb,Qc,Qd,Qe,Qf,Qg,reduceCtorEq, *,w64_nat hlt hvs,-hTN,-ih,-f3,-e]) ⟨i+1,visF T0 N n v[i] M2,rfl,by omega,Nat.le_trans (mu_le fun x hx=>visF_grow T0 N n _ M2 x hx) f2,f3,?_⟩; simp only [go_sem,↓reduceIte,reduceIte,Qa,Qh,Qb,Qc,Qd,Qe,Qf,Qg,reduceCtorEq, *,w64_nat hlt hvs,-hTN,-ih,-f3,-e]; done)
   ·rw [List.drop_eq_nil_of_le (by omega),List.foldl_nil] at f3
    (repeat' (first
 | (with_reducible first|assumption|(refine Qw hK _ ?_; clear hK K)|refine Qw ‹_› _ ?_|refine Qx ‹_› ?_|refine Qi fun K hK=>?_|refine Qj T fun K hK=>?_|refine Ql fun A B hA hB=>?_|refine Qm ?_|refine Qn ?_|refine Qp ?_|refine Qr ?_)
 | ((with_reducible first|apply Qy|apply Qz|apply QA)<;>intro hb<;>try simp only [nr] at hb)
 | simp only [go_sem,↓reduceIte,reduceIte,Qa,Qh,Qb,Qc,Qd,Qe,Qf,Qg,reduceCtorEq, *,-hTN,-ih,-e]
 | with_reducible refine fun (bn:Bool) hbn=>?_))
theorem mem_ofR (l:List Res) (k:Key):∀ M:KS,isIn (ofR l M) k=(decide (k∈l.map keyOf) || isIn M k):=by
 unfold ofR
 induction l with
 | nil=>intro M; simp
 | cons r l ih =>
  intro M
  rw [List.foldl_cons,ih,isIn_put]
  by_cases h1:k=keyOf r<;>by_cases h2:k∈l.map keyOf<;>simp_all
theorem mget_names (l:List Res) (k:Key) (h:k∈l.map keyOf):∃ r∈l,mget (namesM l) k=some (refsR r):=by
 unfold mget namesM
 induction l with
 | nil=>simp at h
 | cons r l ih =>
  rw [List.map_cons,List.find?_cons]
  by_cases he:k=keyOf r
  ·exact ⟨r,by simp,by simp [he]⟩
  ·obtain ⟨q,h1,h2⟩:=ih (by rw [List.map_cons,List.mem_cons] at h; exact h.resolve_left he)
   exact ⟨q,by simp [h1],by simpa [he] using h2⟩
def reachF (T0:KS) (N:List (Key × List Key)) (n:Nat) (l:List Res) (M:KS):KS:=l.foldl (fun M r=>if r.kind=0 then visF T0 N n (keyOf r) M else M) M
def reachedM (l:List Res):KS:=reachF (ofR l []) (namesM l) (ofR l []).length l []
set_option maxHeartbeats 4000000 in
theorem reached_c (xs:List Res) (hl:xs.length≤65536) (hs:∀ r∈xs,SmRes r) (hnd:(xs.map keyOf).Nodup):CallR Tryz.prog 81 [.slice false (avs xs)] (.val (.mp (mks (reachedM xs)) (mvs (reachedM xs)))):=by
 have hsl:=small_le hl
 obtain ⟨T0,hT0⟩:∃ T0,ofR xs []=T0:=⟨_,rfl⟩
 obtain ⟨N,hN⟩:∃ N,namesM xs=N:=⟨_,rfl⟩
 have hTN:∀ k,isIn T0 k=true→∃ ks,mget N k=some ks∧Small ks.length:=fun k hk=>by
  rw [← hT0,mem_ofR] at hk
  have hk':k∈xs.map keyOf:=by simpa [isIn] using hk
  obtain ⟨r,_,h2⟩:=mget_names xs k hk'
  have:=refs_len r
  exact ⟨_,by rw [← hN]; exact h2,by unfold Small; omega⟩
 have hmu:∀ M,muV T0 M≤T0.length:=fun M=>List.length_filter_le _ _
 have hR:reachedM xs=reachF T0 N T0.length xs []:=by rw [← hT0,← hN]; rfl
 rw [hR]
 clear hR
 have hof:=refsOf_c xs hsl
 have hna:=rnames_c xs hl hs hnd
 rw [hT0] at hof
 rw [hN] at hna
 refine CallR.go1 (T:=T) Tryz.call81 Tryz.func81 rfl Tryz.ntmps81 (congrArg Array.toList Tryz.results81) (by decide) fun ts hn h0=>?_
 (repeat' (first
 | (with_reducible first|refine SpecC.mkRec T 3 fun K hK=>?_|refine callX.by (hof) ?_|refine callX.by (hna) ?_|refine callX.by (refsOf_c _ ?_) ?_|refine callX.by (rnames_c _ ?_ ?_ ?_) ?_|refine callX.by (namesD_c _ ?_ ?_) ?_|refine callX.by (rkey_c _ _ _ _ _ _ _) ?_|assumption|(refine Qw hK _ ?_; clear hK K)|refine Qw ‹_› _ ?_|refine Qx ‹_› ?_|refine Qi fun K hK=>?_|refine Qj T fun K hK=>?_|refine Qk (id:=8) T mixed Wd11 (by kernel_rfl) fun K hK=>?_|refine Ql fun A B hA hB=>?_|refine Qm ?_|refine Qn ?_|refine Qp ?_|refine Qr ?_)
 | ((with_reducible first|apply Qy|apply Qz|apply QA)<;>intro hb<;>try simp only [nr] at hb)
 | simp only [go_sem,↓reduceIte,reduceIte,Qa,Qh,Qb,Qc,Qd,Qe,Qf,Qg,reduceCtorEq, *,-hs,-hnd,-hTN,-hmu,-hof,-hna,-hT0,-hN]
 | with_reducible refine fun (bn:Bool) hbn=>?_))
 have hp1:AV.pure (.ro [.mp (mks T0) (mvs T0)])=true:=by simp only [go_sem,Bool.and_self]
 have hp2:AV.pure (.ro [.mp (mks N) (mvs N)])=true:=by simp only [go_sem,Bool.and_self]
 have hre:∀ g n,(recV 139 (.ro [.mp (mks T0) (mvs T0)]) (.ro [.mref 13 g]) (.ro [.mp (mks N) (mvs N)]) n).renM 13 g 1000=recV 139 (.ro [.mp (mks T0) (mvs T0)]) (.ro [.mref 1000 0]) (.ro [.mp (mks N) (mvs N)]) n:=fun g n=>by
  rw [renM_recV _ _ _ _ _ _ _ _ hp1 hp2]; simp [AV.renM,AV.renM.renML]
 have hpe:∀ g n,(recV 139 (.ro [.mp (mks T0) (mvs T0)]) (.ro [.mref 13 g]) (.ro [.mp (mks N) (mvs N)]) n).pureH 13 g=true:=fun g n =>
  pureH_recV _ _ _ _ _ _ _ hp1 (by simp [AV.pureH,AV.pureH.pureHL]) hp2
 refine SpecC.ent (Ent.frzRec 139 (T0.length+1) 3 5 4 6 (x:=.mp (mks T0) (mvs T0)) (y:=.mref 13 (ts.gen 13+1)) (z:=.mp (mks N) (mvs N)) (by simp only [go_sem,↓reduceIte,reduceIte,Qa,Qh,Qb,Qc,Qd,Qe,Qf,Qg,reduceCtorEq, *,-hs,-hnd,-hTN,-hmu,-hof,-hna,-hT0,-hN,-hp1,-hp2]; done) (by simp only [go_sem,↓reduceIte,reduceIte,Qa,Qh,Qb,Qc,Qd,Qe,Qf,Qg,reduceCtorEq, *,-hs,-hnd,-hTN,-hmu,-hof,-hna,-hT0,-hN,-hp1,-hp2]; done) (by simp only [go_sem,↓reduceIte,reduceIte,Qa,Qh,Qb,Qc,Qd,Qe,Qf,Qg,reduceCtorEq, *,-hs,-hnd,-hTN,-hmu,-hof,-hna,-hT0,-hN,-hp1,-hp2]; done) (by simp only [go_sem,↓reduceIte,reduceIte,Qa,Qh,Qb,Qc,Qd,Qe,Qf,Qg,reduceCtorEq, *,-hs,-hnd,-hTN,-hmu,-hof,-hna,-hT0,-hN,-hp1,-hp2]; done)) ?_
 refine Qs [5,6,15,16] (fun m ts'=>∃ (i:Nat),∃ (M:KS),m=xs.length - i∧i≤xs.length∧reachF T0 N T0.length xs []=reachF T0 N T0.length (xs.drop i) M∧ts'.gen 13=ts.gen 13+1∧ts'.obj 13=.mp (mks M) (mvs M)∧ts'.tmp 17=.int .i64 i) xs.length ?_ ?_
 ·refine ⟨0,[],rfl,Nat.zero_le _,rfl,?_⟩
  simp only [go_sem,↓reduceIte,reduceIte,Qa,Qh,Qb,Qc,Qd,Qe,Qf,Qg,reduceCtorEq, *,-hs,-hnd,-hTN,-hmu,-hof,-hna,-hT0,-hN,-hp1,-hp2]
 ·rintro m A hM ts' hk ⟨i,M,hm,f1,f2,s1,s2,s3⟩
  simp only [go_sem,↓reduceIte,reduceIte,Qa,Qh,Qb,Qc,Qd,Qe,Qf,Qg,reduceCtorEq, *] at hk
  have hxx:∀ x∈xs,True:=fun _ _=>trivial
  clear hof hna hnd hs hxx
  by_cases hlt:i < xs.length
  ·have hstep:reachF T0 N T0.length (xs.drop i) M=reachF T0 N T0.length (xs.drop (i+1)) (if xs[i].kind=0 then visF T0 N T0.length (keyOf xs[i]) M else M):=by
    rw [List.drop_eq_getElem_cons hlt]; rfl
   rw [hstep] at f2
   clear hstep
   (repeat' (first
 | (with_reducible first|refine callX.hm (d:=13) (g:=ts.gen 13+1) ?_ ?_ (visit_c T0 N hTN T0.length xs[i].kind xs[i].name M (hmu M)) ?_|refine callX.by (refsOf_c _ ?_) ?_|refine callX.by (rnames_c _ ?_ ?_ ?_) ?_|refine callX.by (namesD_c _ ?_ ?_) ?_|refine callX.by (rkey_c _ _ _ _ _ _ _) ?_|assumption|(refine Qw hK _ ?_; clear hK K)|refine Qw ‹_› _ ?_|refine Qx ‹_› ?_|refine Qi fun K hK=>?_|refine Qj T fun K hK=>?_|refine Qk (id:=8) T mixed Wd11 (by kernel_rfl) fun K hK=>?_|refine Ql fun A B hA hB=>?_|refine Qm ?_|refine Qn ?_|refine Qp ?_|refine Qr ?_)
 | ((with_reducible first|apply Qy|apply Qz|apply QA)<;>intro hb<;>try simp only [nr] at hb)
 | simp only [go_sem,↓reduceIte,reduceIte,Qa,Qh,Qb,Qc,Qd,Qe,Qf,Qg,reduceCtorEq, *,-hTN,-hmu,-hT0,-hN,-hp1,-hp2,-f2,recV_succ,false_and,true_and]
 | with_reducible refine fun (bn:Bool) hbn=>?_))
   all_goals ((repeat clear hK); (repeat clear hA); (repeat clear hB))
   ·rw [if_pos (of_decide_eq_true hb)] at f2
    (refine hM.on (xs.length - (i+1)) (by omega) (by simp only [go_sem,↓reduceIte,reduceIte,Qa,Qh,Qb,Qc,Qd,Qe,Qf,Qg,reduceCtorEq, *,w64_nat hlt hsl,keyOf,-hTN,-hmu,-hT0,-hN,-hp1,-hp2,-f2]) ⟨i+1,visF T0 N T0.length (keyOf xs[i]) M,rfl,by omega,f2,?_⟩; simp only [go_sem,↓reduceIte,reduceIte,Qa,Qh,Qb,Qc,Qd,Qe,Qf,Qg,reduceCtorEq, *,w64_nat hlt hsl,keyOf,-hTN,-hmu,-hT0,-hN,-hp1,-hp2,-f2]; done)
   ·rw [if_neg (of_decide_eq_false hb)] at f2
    (refine hM.on (xs.length - (i+1)) (by omega) (by simp only [go_sem,↓reduceIte,reduceIte,Qa,Qh,Qb,Qc,Qd,Qe,Qf,Qg,reduceCtorEq, *,w64_nat hlt hsl,keyOf,-hTN,-hmu,-hT0,-hN,-hp1,-hp2,-f2]) ⟨i+1,M,rfl,by omega,f2,?_⟩; simp only [go_sem,↓reduceIte,reduceIte,Qa,Qh,Qb,Qc,Qd,Qe,Qf,Qg,reduceCtorEq, *,w64_nat hlt hsl,keyOf,-hTN,-hmu,-hT0,-hN,-hp1,-hp2,-f2]; done)
  ·rw [List.drop_eq_nil_of_le (by omega)] at f2
   have f3:reachF T0 N T0.length xs []=M:=f2
   clear f2
   (repeat' (first
 | (with_reducible first|refine callX.by (refsOf_c _ ?_) ?_|refine callX.by (rnames_c _ ?_ ?_ ?_) ?_|refine callX.by (namesD_c _ ?_ ?_) ?_|refine callX.by (rkey_c _ _ _ _ _ _ _) ?_|assumption|(refine Qw hK _ ?_; clear hK K)|refine Qw ‹_› _ ?_|refine Qx ‹_› ?_|refine Qi fun K hK=>?_|refine Qj T fun K hK=>?_|refine Qk (id:=8) T mixed Wd11 (by kernel_rfl) fun K hK=>?_|refine Ql fun A B hA hB=>?_|refine Qm ?_|refine Qn ?_|refine Qp ?_|refine Qr ?_)
 | ((with_reducible first|apply Qy|apply Qz|apply QA)<;>intro hb<;>try simp only [nr] at hb)
 | simp only [go_sem,↓reduceIte,reduceIte,Qa,Qh,Qb,Qc,Qd,Qe,Qf,Qg,reduceCtorEq, *,-hTN,-hmu,-hT0,-hN,-hp1,-hp2,false_and,true_and]
 | with_reducible refine fun (bn:Bool) hbn=>?_))
end Go.Proofs.YtmjkjmoeicnbnaaGreatDoor.Lg
