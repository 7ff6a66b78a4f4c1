/- Parts of the proof, one behind the other. -/
import Derived.Test.YtmjkjmoeicnbnaaGreatDoorG14
namespace Go.Proofs.YtmjkjmoeicnbnaaGreatDoor.Lg
set_option maxRecDepth 100000
set_option linter.unusedVariables false
set_option linter.unusedSimpArgs false
open Go
open Nat renaming reduceEqDiff → Qa, reduceLT → Qb, reduceLeDiff → Qc, reduceAdd → Qd, reduceMul → Qe, reduceSub → Qf, reduceBEq → Qg
open String renaming reduceEq → Qh
open SpecC renaming seqW → Qi, regW → Qj, drawW → Qk, condW → Ql, block → Qm, skip → Qn, exit → Qp, ret → Qr, loopF → Qs
open NxK renaming out → Qw
open Nx renaming out → Qx
open condK renaming split → Qy
open gK renaming split_t → Qz, split_f → QA
@[go_sem] def Wd11:List (List Nat×List Nat):=[([14],[16]),([15],[16]),([16],[14,15])]
def keepK (M:List (Key × Bool)) (ks:List Key):List Key:=ks.filter fun k=>!(mget M k).getD false
def missR (M:List (Key × Bool)) (l:List Res):List Key:=l.flatMap fun r=>keepK M (refsR r)
def missK (l:List Res):List Key:=kcompact (ksort (missR (ofR l []) l))
theorem missR_cons (M:List (Key × Bool)) (r:Res) (l:List Res):missR M (r :: l)=keepK M (refsR r)++missR M l:=rfl
theorem keepK_cons (M:List (Key × Bool)) (k:Key) (l:List Key):keepK M (k :: l)=(if (mget M k).getD false=true then [] else [k])++keepK M l:=by
 unfold keepK
 rw [List.filter_cons]
 cases (mget M k).getD false<;>simp
theorem small_le {n:Nat} (h:n≤65536):Small n:=by unfold Small; omega
set_option maxHeartbeats 4000000 in
theorem missing_c (xs:List Res) (hl:xs.length≤65536) (hs:∀ r∈xs,SmRes r):CallR Tryz.prog 17 [.slice false (avs xs)] (.own 2 (avs (missK xs))):=by
 have hsl:=small_le hl
 refine CallR.go1 (T:=T) Tryz.call17 Tryz.func17 rfl Tryz.ntmps17 (congrArg Array.toList Tryz.results17) (by decide) fun ts hn h0=>?_
 (repeat' (first
 | (with_reducible first|refine callX.by (refsOf_c _ ?_) ?_|refine callX.by (refsR_c _ _ _ _ _ _ _ ?_ ?_ ?_) ?_|refine callX.by awqc ?_)
 | (with_reducible refine callX.ar ?_ ?_ (sortKey_c ?_ ?_); (focus (simp only [go_sem,↓reduceIte,reduceIte,Qa,Qh,Qb,Qc,Qd,Qe,Qf,Qg,reduceCtorEq, *,-hs]; first|done|rfl)))
 | with_reducible refine callX.by (kcmp_c _ _ _ _) ?_
 | (with_reducible refine callX.mv ?_ ?_ ?_ (compactKey_c ?_ ?_); (focus (simp only [go_sem,↓reduceIte,reduceIte,Qa,Qh,Qb,Qc,Qd,Qe,Qf,Qg,reduceCtorEq, *,-hs]; first|done|rfl)); (focus (simp only [go_sem,↓reduceIte,reduceIte,Qa,Qh,Qb,Qc,Qd,Qe,Qf,Qg,reduceCtorEq, *,-hs]; first|done|rfl)))
 | (with_reducible first|assumption|(refine Qw hK _ ?_; clear hK K)|refine Qw ‹_› _ ?_|refine Qx ‹_› ?_|refine Qi fun K hK=>?_|refine Qj T fun K hK=>?_|refine Ql fun A B hA hB=>?_|refine Qm ?_|refine Qn ?_|refine Qp ?_|refine Qr ?_)
 | ((with_reducible first|apply Qy|apply Qz|apply QA)<;>intro hb<;>try simp only [nr] at hb)
 | simp only [go_sem,↓reduceIte,reduceIte,Qa,Qh,Qb,Qc,Qd,Qe,Qf,Qg,reduceCtorEq, *,-hs]
 | with_reducible refine fun (bn:Bool) hbn=>?_))
 obtain ⟨M0,hM0⟩:∃ M0,ofR xs []=M0:=⟨_,rfl⟩
 have hK0:missK xs=kcompact (ksort (missR M0 xs)):=by rw [← hM0]; rfl
 rw [hM0]
 refine SpecC.virt 4 31 2 (by decide) (by simp only [go_sem,↓reduceIte,reduceIte,Qa,Qh,Qb,Qc,Qd,Qe,Qf,Qg,reduceCtorEq, *,-hs,-hK0]) ?_
 refine Qs [3,11,12] (fun m ts'=>∃ (i:Nat),∃ (g:Nat),∃ (ys:List Key),m=xs.length - i∧i≤xs.length∧ys.length≤33 * i∧missR M0 xs=ys++missR M0 (xs.drop i)∧ts'.tmp 4=.os 31 g ys.length∧ts'.gen 31=g∧ts'.obj 31=.arr 2 (avs ys)∧ts'.tmp 13=.int .i64 i) xs.length ?_ ?_
 ·refine ⟨0,ts.gen 31+1,[],rfl,Nat.zero_le _,Nat.le_refl _,rfl,?_⟩
  simp only [go_sem,↓reduceIte,reduceIte,Qa,Qh,Qb,Qc,Qd,Qe,Qf,Qg,reduceCtorEq, *,-hs,-hK0,avs_nil]
 ·rintro m A hM ts' hk ⟨i,g,ys,hm,f1,f2,f3,s1,s2,s3,s4⟩
  simp only [go_sem,↓reduceIte,reduceIte,Qa,Qh,Qb,Qc,Qd,Qe,Qf,Qg,reduceCtorEq, *] at hk
  by_cases hlt:i < xs.length
  ·rw [List.drop_eq_getElem_cons hlt,missR_cons] at f3
   obtain ⟨_,_,hx1,hx2,hx3⟩:=hs _ (List.getElem_mem hlt)
   have hrl:=refs_len xs[i]
   have hrs:Small (refsR xs[i]).length:=by unfold Small; omega
   (repeat' (first
 | (with_reducible first|refine callX.by (refsOf_c _ ?_) ?_|refine callX.by (refsR_c _ _ _ _ _ _ _ ?_ ?_ ?_) ?_|refine callX.by awqc ?_)
 | (with_reducible refine callX.ar ?_ ?_ (sortKey_c ?_ ?_); (focus (simp only [go_sem,↓reduceIte,reduceIte,Qa,Qh,Qb,Qc,Qd,Qe,Qf,Qg,reduceCtorEq, *,-hs,-hK0,-hx2,-f3]; first|done|rfl)))
 | with_reducible refine callX.by (kcmp_c _ _ _ _) ?_
 | (with_reducible refine callX.mv ?_ ?_ ?_ (compactKey_c ?_ ?_); (focus (simp only [go_sem,↓reduceIte,reduceIte,Qa,Qh,Qb,Qc,Qd,Qe,Qf,Qg,reduceCtorEq, *,-hs,-hK0,-hx2,-f3]; first|done|rfl)); (focus (simp only [go_sem,↓reduceIte,reduceIte,Qa,Qh,Qb,Qc,Qd,Qe,Qf,Qg,reduceCtorEq, *,-hs,-hK0,-hx2,-f3]; first|done|rfl)))
 | (with_reducible first|assumption|(refine Qw hK _ ?_; clear hK K)|refine Qw ‹_› _ ?_|refine Qx ‹_› ?_|refine Qi fun K hK=>?_|refine Qj T fun K hK=>?_|refine Ql fun A B hA hB=>?_|refine Qm ?_|refine Qn ?_|refine Qp ?_|refine Qr ?_)
 | ((with_reducible first|apply Qy|apply Qz|apply QA)<;>intro hb<;>try simp only [nr] at hb)
 | simp only [go_sem,↓reduceIte,reduceIte,Qa,Qh,Qb,Qc,Qd,Qe,Qf,Qg,reduceCtorEq, *,-hs,-hK0,-hx2,-f3]
 | with_reducible refine fun (bn:Bool) hbn=>?_))
   generalize refsR xs[i]=R at *
   refine Qs [3,11,12,13,18,19] (fun m ts'=>∃ (j:Nat),∃ (g':Nat),∃ (zs:List Key),m=R.length - j∧j≤R.length∧zs.length≤33 * i+j∧ys++keepK M0 R=zs++keepK M0 (R.drop j)∧ts'.tmp 4=.os 31 g' zs.length∧ts'.gen 31=g'∧ts'.obj 31=.arr 2 (avs zs)∧ts'.tmp 20=.int .i64 j) R.length ?_ ?_
   ·refine ⟨0,g,ys,rfl,Nat.zero_le _,by omega,rfl,?_⟩
    simp only [go_sem,↓reduceIte,reduceIte,Qa,Qh,Qb,Qc,Qd,Qe,Qf,Qg,reduceCtorEq, *,-hs,-hK0,-hx2,-f3]
   ·revert hM f3
    intro hM1 f30
    rintro m A hM ts' hk ⟨j,g',zs,hm,f1,f2,f3,s1,s2,s3,s4⟩
    simp only [go_sem,↓reduceIte,reduceIte,Qa,Qh,Qb,Qc,Qd,Qe,Qf,Qg,reduceCtorEq, *] at hk
    by_cases hjt:j < R.length
    ·rw [List.drop_eq_getElem_cons hjt,keepK_cons] at f3
     have hr1:Room (zs.length+1) 24:=room_big (by omega) (by decide)
     (repeat' (first
 | (with_reducible first|refine callX.by (refsOf_c _ ?_) ?_|refine callX.by (refsR_c _ _ _ _ _ _ _ ?_ ?_ ?_) ?_|refine callX.by awqc ?_)
 | (with_reducible refine callX.ar ?_ ?_ (sortKey_c ?_ ?_); (focus (simp only [go_sem,↓reduceIte,reduceIte,Qa,Qh,Qb,Qc,Qd,Qe,Qf,Qg,reduceCtorEq, *,-hs,-hK0,-hx2,-f3,-f30]; first|done|rfl)))
 | with_reducible refine callX.by (kcmp_c _ _ _ _) ?_
 | (with_reducible refine callX.mv ?_ ?_ ?_ (compactKey_c ?_ ?_); (focus (simp only [go_sem,↓reduceIte,reduceIte,Qa,Qh,Qb,Qc,Qd,Qe,Qf,Qg,reduceCtorEq, *,-hs,-hK0,-hx2,-f3,-f30]; first|done|rfl)); (focus (simp only [go_sem,↓reduceIte,reduceIte,Qa,Qh,Qb,Qc,Qd,Qe,Qf,Qg,reduceCtorEq, *,-hs,-hK0,-hx2,-f3,-f30]; first|done|rfl)))
 | (with_reducible first|assumption|(refine Qw hK _ ?_; clear hK K)|refine Qw ‹_› _ ?_|refine Qx ‹_› ?_|refine Qi fun K hK=>?_|refine Qj T fun K hK=>?_|refine Ql fun A B hA hB=>?_|refine Qm ?_|refine Qn ?_|refine Qp ?_|refine Qr ?_)
 | ((with_reducible first|apply Qy|apply Qz|apply QA)<;>intro hb<;>try simp only [nr] at hb)
 | simp only [go_sem,↓reduceIte,reduceIte,Qa,Qh,Qb,Qc,Qd,Qe,Qf,Qg,reduceCtorEq, *,-hs,-hK0,-hx2,-f3,-f30]
 | with_reducible refine fun (bn:Bool) hbn=>?_))
     all_goals ((repeat clear hK); (repeat clear hA); (repeat clear hB))
     ·rw [if_neg (by simp [hb])] at f3
      (refine hM.on (R.length - (j+1)) (by omega) (by simp only [go_sem,↓reduceIte,reduceIte,Qa,Qh,Qb,Qc,Qd,Qe,Qf,Qg,reduceCtorEq, *,w64_nat hjt hrs,List.length_append,-hs,-hK0,-hx2,-f3,-f30,-hM1]) ⟨j+1,g'+1,zs++[R[j]],rfl,by omega,by simp; omega,by rw [f3,List.append_assoc],?_⟩; simp only [go_sem,↓reduceIte,reduceIte,Qa,Qh,Qb,Qc,Qd,Qe,Qf,Qg,reduceCtorEq, *,w64_nat hjt hrs,List.length_append,-hs,-hK0,-hx2,-f3,-f30,-hM1]; done)
     ·rw [if_pos hb,List.nil_append] at f3
      (refine hM.on (R.length - (j+1)) (by omega) (by simp only [go_sem,↓reduceIte,reduceIte,Qa,Qh,Qb,Qc,Qd,Qe,Qf,Qg,reduceCtorEq, *,w64_nat hjt hrs,-hs,-hK0,-hx2,-f3,-f30,-hM1]) ⟨j+1,g',zs,rfl,by omega,by omega,f3,?_⟩; simp only [go_sem,↓reduceIte,reduceIte,Qa,Qh,Qb,Qc,Qd,Qe,Qf,Qg,reduceCtorEq, *,w64_nat hjt hrs,-hs,-hK0,-hx2,-f3,-f30,-hM1]; done)
    ·rw [List.drop_eq_nil_of_le (by omega)] at f3
     (repeat' (first
 | (with_reducible first|refine callX.by (refsOf_c _ ?_) ?_|refine callX.by (refsR_c _ _ _ _ _ _ _ ?_ ?_ ?_) ?_|refine callX.by awqc ?_)
 | (with_reducible refine callX.ar ?_ ?_ (sortKey_c ?_ ?_); (focus (simp only [go_sem,↓reduceIte,reduceIte,Qa,Qh,Qb,Qc,Qd,Qe,Qf,Qg,reduceCtorEq, *,-hs,-hK0,-hx2,-f3,-f30]; first|done|rfl)))
 | with_reducible refine callX.by (kcmp_c _ _ _ _) ?_
 | (with_reducible refine callX.mv ?_ ?_ ?_ (compactKey_c ?_ ?_); (focus (simp only [go_sem,↓reduceIte,reduceIte,Qa,Qh,Qb,Qc,Qd,Qe,Qf,Qg,reduceCtorEq, *,-hs,-hK0,-hx2,-f3,-f30]; first|done|rfl)); (focus (simp only [go_sem,↓reduceIte,reduceIte,Qa,Qh,Qb,Qc,Qd,Qe,Qf,Qg,reduceCtorEq, *,-hs,-hK0,-hx2,-f3,-f30]; first|done|rfl)))
 | (with_reducible first|assumption|(refine Qw hK _ ?_; clear hK K)|refine Qw ‹_› _ ?_|refine Qx ‹_› ?_|refine Qi fun K hK=>?_|refine Qj T fun K hK=>?_|refine Ql fun A B hA hB=>?_|refine Qm ?_|refine Qn ?_|refine Qp ?_|refine Qr ?_)
 | ((with_reducible first|apply Qy|apply Qz|apply QA)<;>intro hb<;>try simp only [nr] at hb)
 | simp only [go_sem,↓reduceIte,reduceIte,Qa,Qh,Qb,Qc,Qd,Qe,Qf,Qg,reduceCtorEq, *,-hs,-hK0,-hx2,-f3,-f30]
 | with_reducible refine fun (bn:Bool) hbn=>?_))
     all_goals ((repeat clear hK); (repeat clear hA); (repeat clear hB))
     all_goals (clear hM; revert hM1; intro hM)
     (refine hM.on (xs.length - (i+1)) (by omega) (by simp only [go_sem,↓reduceIte,reduceIte,Qa,Qh,Qb,Qc,Qd,Qe,Qf,Qg,reduceCtorEq, *,w64_nat hlt hsl,-hs,-hK0,-hx2,-f3,-f30]) ⟨i+1,g',zs,rfl,by omega,by omega,by rw [f30,← List.append_assoc,f3]; simp [keepK],?_⟩; simp only [go_sem,↓reduceIte,reduceIte,Qa,Qh,Qb,Qc,Qd,Qe,Qf,Qg,reduceCtorEq, *,w64_nat hlt hsl,-hs,-hK0,-hx2,-f3,-f30]; done)
  ·rw [List.drop_eq_nil_of_le (by omega)] at f3
   have e:ys=missR M0 xs:=by rw [f3]; simp [missR]
   subst e
   clear f3
   have hk1:=ksort_length (missR M0 xs)
   have htk:(ksort (missR M0 xs)).take (missR M0 xs).length=ksort (missR M0 xs):=List.take_of_length_le (by omega)
   have hsm1:Small (missR M0 xs).length:=by unfold Small; omega
   have hsm2:Small (ksort (missR M0 xs)).length:=by rw [hk1]; exact hsm1
   (repeat' (first
 | (with_reducible first|refine callX.by (refsOf_c _ ?_) ?_|refine callX.by (refsR_c _ _ _ _ _ _ _ ?_ ?_ ?_) ?_|refine callX.by awqc ?_)
 | (with_reducible refine callX.ar ?_ ?_ (sortKey_c ?_ ?_); (focus (simp only [go_sem,↓reduceIte,reduceIte,Qa,Qh,Qb,Qc,Qd,Qe,Qf,Qg,reduceCtorEq, *,Nat.le_refl,-hs]; first|done|rfl)))
 | with_reducible refine callX.by (kcmp_c _ _ _ _) ?_
 | (with_reducible refine callX.mv ?_ ?_ ?_ (compactKey_c ?_ ?_); (focus (simp only [go_sem,↓reduceIte,reduceIte,Qa,Qh,Qb,Qc,Qd,Qe,Qf,Qg,reduceCtorEq, *,Nat.le_refl,-hs]; first|done|rfl)); (focus (simp only [go_sem,↓reduceIte,reduceIte,Qa,Qh,Qb,Qc,Qd,Qe,Qf,Qg,reduceCtorEq, *,Nat.le_refl,-hs]; first|done|rfl)))
 | (with_reducible first|assumption|(refine Qw hK _ ?_; clear hK K)|refine Qw ‹_› _ ?_|refine Qx ‹_› ?_|refine Qi fun K hK=>?_|refine Qj T fun K hK=>?_|refine Ql fun A B hA hB=>?_|refine Qm ?_|refine Qn ?_|refine Qp ?_|refine Qr ?_)
 | ((with_reducible first|apply Qy|apply Qz|apply QA)<;>intro hb<;>try simp only [nr] at hb)
 | simp only [go_sem,↓reduceIte,reduceIte,Qa,Qh,Qb,Qc,Qd,Qe,Qf,Qg,reduceCtorEq, *,Nat.le_refl,-hs]
 | with_reducible refine fun (bn:Bool) hbn=>?_))
   all_goals ((repeat clear hK); (repeat clear hA); (repeat clear hB))
def referrers (l:List Res) (k:Key):List Key:=(l.filter fun r=>(refsR r).any fun x=>decide (k=x)).map keyOf
set_option maxHeartbeats 4000000 in
theorem referrers_c (xs:List Res) (k_kind:Int) (k_name:List UInt8) (hl:xs.length≤65536) (hs:∀ r∈xs,SmRes r):CallR Tryz.prog 19 [.slice false (avs xs),.agg [.int .i64 k_kind,.str k_name]] (.own 2 (avs (referrers xs (⟨k_kind,k_name⟩:Key)))):=by
 have hsl:=small_le hl
 refine CallR.go2 (T:=T) Tryz.call19 Tryz.func19 rfl Tryz.ntmps19 (congrArg Array.toList Tryz.results19) (by decide) fun ts hn h0 h1=>?_
 (repeat' (first
 | (with_reducible first|refine callX.by (refsR_c _ _ _ _ _ _ _ ?_ ?_ ?_) ?_|refine callX.by awqc ?_|refine callX.by (containsKey_c _ _ _ ?_) ?_|refine callX.by (rkey_c _ _ _ _ _ _ _) ?_|assumption|(refine Qw hK _ ?_; clear hK K)|refine Qw ‹_› _ ?_|refine Qx ‹_› ?_|refine Qi fun K hK=>?_|refine Qj T fun K hK=>?_|refine Qk (id:=5) T mixed Wd11 (by kernel_rfl) fun K hK=>?_|refine Ql fun A B hA hB=>?_|refine Qm ?_|refine Qn ?_|refine Qp ?_|refine Qr ?_)
 | ((with_reducible first|apply Qy|apply Qz|apply QA)<;>intro hb<;>try simp only [nr] at hb)
 | simp only [go_sem,↓reduceIte,reduceIte,Qa,Qh,Qb,Qc,Qd,Qe,Qf,Qg,reduceCtorEq, *,-hs]
 | with_reducible refine fun (bn:Bool) hbn=>?_))
 refine SpecC.virt 5 22 2 (by decide) (by simp only [go_sem,↓reduceIte,reduceIte,Qa,Qh,Qb,Qc,Qd,Qe,Qf,Qg,reduceCtorEq, *,-hs]) ?_
 refine Qs [3,8,9] (fun m ts'=>∃ (i:Nat),∃ (g:Nat),∃ (ys:List Key),m=xs.length - i∧i≤xs.length∧ys.length≤i∧referrers xs (⟨k_kind,k_name⟩:Key)=ys++referrers (xs.drop i) (⟨k_kind,k_name⟩:Key)∧ts'.tmp 5=.os 22 g ys.length∧ts'.gen 22=g∧ts'.obj 22=.arr 2 (avs ys)∧ts'.tmp 10=.int .i64 i) xs.length ?_ ?_
 ·refine ⟨0,ts.gen 22+1,[],rfl,Nat.zero_le _,Nat.le_refl _,rfl,?_⟩
  simp only [go_sem,↓reduceIte,reduceIte,Qa,Qh,Qb,Qc,Qd,Qe,Qf,Qg,reduceCtorEq, *,-hs,avs_nil]
 ·rintro m A hM ts' hk ⟨i,g,ys,hm,f1,f2,f3,s1,s2,s3,s4⟩
  simp only [go_sem,↓reduceIte,reduceIte,Qa,Qh,Qb,Qc,Qd,Qe,Qf,Qg,reduceCtorEq, *] at hk
  by_cases hlt:i < xs.length
  ·rw [List.drop_eq_getElem_cons hlt] at f3
   obtain ⟨_,_,hx1,hx2,hx3⟩:=hs _ (List.getElem_mem hlt)
   have hrl:=refs_len xs[i]
   have hrs:Small (refsR xs[i]).length:=by unfold Small; omega
   have hr1:Room (ys.length+1) 24:=room_big (by omega) (by decide)
   (repeat' (first
 | (with_reducible first|refine callX.by (refsR_c _ _ _ _ _ _ _ ?_ ?_ ?_) ?_|refine callX.by awqc ?_|refine callX.by (containsKey_c _ _ _ ?_) ?_|refine callX.by (rkey_c _ _ _ _ _ _ _) ?_|assumption|(refine Qw hK _ ?_; clear hK K)|refine Qw ‹_› _ ?_|refine Qx ‹_› ?_|refine Qi fun K hK=>?_|refine Qj T fun K hK=>?_|refine Qk (id:=5) T mixed Wd11 (by kernel_rfl) fun K hK=>?_|refine Ql fun A B hA hB=>?_|refine Qm ?_|refine Qn ?_|refine Qp ?_|refine Qr ?_)
 | ((with_reducible first|apply Qy|apply Qz|apply QA)<;>intro hb<;>try simp only [nr] at hb)
 | simp only [go_sem,↓reduceIte,reduceIte,Qa,Qh,Qb,Qc,Qd,Qe,Qf,Qg,reduceCtorEq, *,-hs,-hx2,-f3]
 | with_reducible refine fun (bn:Bool) hbn=>?_))
   all_goals ((repeat clear hK); (repeat clear hA); (repeat clear hB))
   ·have f3':referrers xs (⟨k_kind,k_name⟩:Key)=ys++(keyOf xs[i] :: referrers (xs.drop (i+1)) (⟨k_kind,k_name⟩:Key)):=by
     rw [f3]; unfold referrers; rw [List.filter_cons,if_pos (by simpa using hb)]; rfl
    (refine hM.on (xs.length - (i+1)) (by omega) (by simp only [go_sem,↓reduceIte,reduceIte,Qa,Qh,Qb,Qc,Qd,Qe,Qf,Qg,reduceCtorEq, *,w64_nat hlt hsl,List.length_append,keyOf,-hs,-hx2,-f3,-f3']) ⟨i+1,g+1,ys++[keyOf xs[i]],rfl,by omega,by simp; omega,by rw [f3',List.append_assoc]; rfl,?_⟩; simp only [go_sem,↓reduceIte,reduceIte,Qa,Qh,Qb,Qc,Qd,Qe,Qf,Qg,reduceCtorEq, *,w64_nat hlt hsl,List.length_append,keyOf,-hs,-hx2,-f3,-f3']; done)
   ·have f3':referrers xs (⟨k_kind,k_name⟩:Key)=ys++referrers (xs.drop (i+1)) (⟨k_kind,k_name⟩:Key):=by
     rw [f3]; unfold referrers; rw [List.filter_cons,if_neg (fun h=>by rw [hb] at h; cases h)]
    (refine hM.on (xs.length - (i+1)) (by omega) (by simp only [go_sem,↓reduceIte,reduceIte,Qa,Qh,Qb,Qc,Qd,Qe,Qf,Qg,reduceCtorEq, *,w64_nat hlt hsl,-hs,-hx2,-f3,-f3']) ⟨i+1,g,ys,rfl,by omega,by omega,f3',?_⟩; simp only [go_sem,↓reduceIte,reduceIte,Qa,Qh,Qb,Qc,Qd,Qe,Qf,Qg,reduceCtorEq, *,w64_nat hlt hsl,-hs,-hx2,-f3,-f3']; done)
  ·rw [List.drop_eq_nil_of_le (by omega)] at f3
   have e:ys=referrers xs (⟨k_kind,k_name⟩:Key):=by rw [f3]; simp [referrers]
   subst e
   clear f3
   (repeat' (first
 | (with_reducible first|refine callX.by (refsR_c _ _ _ _ _ _ _ ?_ ?_ ?_) ?_|refine callX.by awqc ?_|refine callX.by (containsKey_c _ _ _ ?_) ?_|refine callX.by (rkey_c _ _ _ _ _ _ _) ?_|assumption|(refine Qw hK _ ?_; clear hK K)|refine Qw ‹_› _ ?_|refine Qx ‹_› ?_|refine Qi fun K hK=>?_|refine Qj T fun K hK=>?_|refine Qk (id:=5) T mixed Wd11 (by kernel_rfl) fun K hK=>?_|refine Ql fun A B hA hB=>?_|refine Qm ?_|refine Qn ?_|refine Qp ?_|refine Qr ?_)
 | ((with_reducible first|apply Qy|apply Qz|apply QA)<;>intro hb<;>try simp only [nr] at hb)
 | simp only [go_sem,↓reduceIte,reduceIte,Qa,Qh,Qb,Qc,Qd,Qe,Qf,Qg,reduceCtorEq, *,-hs]
 | with_reducible refine fun (bn:Bool) hbn=>?_))
   all_goals ((repeat clear hK); (repeat clear hA); (repeat clear hB))
theorem tkind_len (l:List Res) (k:Int):(tkind l k).length≤l.length:=List.length_filter_le _ _
def orderK (l:List Res):List Key:=(tkind l 3++tkind l 2++tkind l 1++tkind l 0).map keyOf
def ordA (xs:List Res):Nat→List Key
 | 0=>[]
 | 1=>(tkind xs 3).map keyOf
 | 2=>(tkind xs 3).map keyOf++(tkind xs 2).map keyOf
 | 3=>(tkind xs 3).map keyOf++(tkind xs 2).map keyOf++(tkind xs 1).map keyOf
 | _=>(tkind xs 3).map keyOf++(tkind xs 2).map keyOf++(tkind xs 1).map keyOf++(tkind xs 0).map keyOf
def ordB:Nat→Int
 | 0=>3
 | 1=>2
 | 2=>1
 | 3=>0
 | _=>-1
theorem ordA4 (xs:List Res):ordA xs 4=orderK xs:=by simp [ordA,orderK]
set_option maxHeartbeats 4000000 in
theorem order_refs_c (xs:List Res) (hl:xs.length≤65536):CallR Tryz.prog 26 [.slice false (avs xs)] (.own 2 (avs (orderK xs))):=by
 have hsl:=small_le hl
 have b0:=tkind_len xs 0
 have b1:=tkind_len xs 1
 have b2:=tkind_len xs 2
 have b3:=tkind_len xs 3
 have s0:Small (tkind xs 0).length:=small_le (by omega)
 have s1:Small (tkind xs 1).length:=small_le (by omega)
 have s2:Small (tkind xs 2).length:=small_le (by omega)
 have s3:Small (tkind xs 3).length:=small_le (by omega)
 have c1:(ordA xs 1).length=(tkind xs 3).length:=by simp [ordA]
 have c2:(ordA xs 2).length=(tkind xs 3).length+(tkind xs 2).length:=by simp [ordA]
 have c3:(ordA xs 3).length=(tkind xs 3).length+(tkind xs 2).length+(tkind xs 1).length:=by simp [ordA]; omega
 have d0:ordA xs 0++(tkind xs 3).map keyOf=ordA xs 1:=rfl
 have d1:ordA xs 1++(tkind xs 2).map keyOf=ordA xs 2:=rfl
 have d2:ordA xs 2++(tkind xs 1).map keyOf=ordA xs 3:=rfl
 have d3:ordA xs 3++(tkind xs 0).map keyOf=ordA xs 4:=rfl
 have c4:(ordA xs 4).length=(tkind xs 3).length+(tkind xs 2).length+(tkind xs 1).length+(tkind xs 0).length:=by simp [ordA]; omega
 have l0:(ordA xs 0).length+(tkind xs 3).length=(ordA xs 1).length:=by simp [ordA]
 have l1:(ordA xs 1).length+(tkind xs 2).length=(ordA xs 2).length:=by simp [ordA]
 have l2:(ordA xs 2).length+(tkind xs 1).length=(ordA xs 3).length:=by simp [ordA]; omega
 have l3:(ordA xs 3).length+(tkind xs 0).length=(ordA xs 4).length:=by simp [ordA]; omega
 have hr3:Room (ordA xs 1).length 24:=room_big (by omega) (by decide)
 have hr2:Room (ordA xs 2).length 24:=room_big (by omega) (by decide)
 have hr1:Room (ordA xs 3).length 24:=room_big (by omega) (by decide)
 have hr0:Room (ordA xs 4).length 24:=room_big (by omega) (by decide)
 have w0:IntKind.i64.wrap (3 - 1)=2:=by decide
 have w1:IntKind.i64.wrap (2 - 1)=1:=by decide
 have w2:IntKind.i64.wrap (1 - 1)=0:=by decide
 have w3:IntKind.i64.wrap (0 - 1)=-1:=by decide
 have v0:(0:Int)≤3:=by decide
 have v1:(0:Int)≤2:=by decide
 have v2:(0:Int)≤1:=by decide
 have v3:(0:Int)≤0:=by decide
 have v4:¬ (0:Int)≤-1:=by decide
 have g0:ordB 0=3:=rfl
 have g1:ordB 1=2:=rfl
 have g2:ordB 2=1:=rfl
 have g3:ordB 3=0:=rfl
 have g4:ordB 4=-1:=rfl
 have z0:ordA xs 0=[]:=rfl
 have t0:List.take (tkind xs 0).length ((tkind xs 0).map keyOf)=(tkind xs 0).map keyOf:=List.take_of_length_le (by simp)
 have t1:List.take (tkind xs 1).length ((tkind xs 1).map keyOf)=(tkind xs 1).map keyOf:=List.take_of_length_le (by simp)
 have t2:List.take (tkind xs 2).length ((tkind xs 2).map keyOf)=(tkind xs 2).map keyOf:=List.take_of_length_le (by simp)
 have t3:List.take (tkind xs 3).length ((tkind xs 3).map keyOf)=(tkind xs 3).map keyOf:=List.take_of_length_le (by simp)
 have hz:=ordA4 xs
 clear b0 b1 b2 b3 c1 c2 c3 c4
 refine CallR.go1 (T:=T) Tryz.call26 Tryz.func26 rfl Tryz.ntmps26 (congrArg Array.toList Tryz.results26) (by decide) fun ts hn h0=>?_
 (repeat' (first
 | (with_reducible first|refine callX.by (tkind_c _ _ ?_) ?_|refine callX.by (tkeys_c _ ?_) ?_|assumption|(refine Qw hK _ ?_; clear hK K)|refine Qw ‹_› _ ?_|refine Qx ‹_› ?_|refine Qi fun K hK=>?_|refine Qj T fun K hK=>?_|refine Ql fun A B hA hB=>?_|refine Qm ?_|refine Qn ?_|refine Qp ?_|refine Qr ?_)
 | ((with_reducible first|apply Qy|apply Qz|apply QA)<;>intro hb<;>try simp only [nr] at hb)
 | simp only [go_sem,↓reduceIte,reduceIte,Qa,Qh,Qb,Qc,Qd,Qe,Qf,Qg,reduceCtorEq, *,-hz]
 | with_reducible refine fun (bn:Bool) hbn=>?_))
 refine SpecC.virt 3 14 2 (by decide) (by simp only [go_sem,↓reduceIte,reduceIte,Qa,Qh,Qb,Qc,Qd,Qe,Qf,Qg,reduceCtorEq, *]) ?_
 refine Qs [0] (fun m ts'=>∃ (i:Nat),∃ (g:Nat),m=4 - i∧i≤4∧ts'.tmp 3=.os 14 g (ordA xs i).length∧ts'.gen 14=g∧ts'.obj 14=.arr 2 (avs (ordA xs i))∧ts'.tmp 4=.int .i64 (ordB i)) 4 ?_ ?_
 ·refine ⟨0,ts.gen 14+1,rfl,by omega,?_⟩
  simp only [go_sem,↓reduceIte,reduceIte,Qa,Qh,Qb,Qc,Qd,Qe,Qf,Qg,reduceCtorEq, *,avs_nil,List.length_nil,-hz]
 ·clear z0
  rintro m A hM ts' hk ⟨i,g,hm,f1,s1,s2,s3,s4⟩
  simp only [go_sem,↓reduceIte,reduceIte,Qa,Qh,Qb,Qc,Qd,Qe,Qf,Qg,reduceCtorEq, *] at hk
  rcases (show i=0∨i=1∨i=2∨i=3∨i=4 by omega) with rfl|rfl|rfl|rfl|rfl
  ·(repeat' (first
 | (with_reducible first|refine callX.by (tkind_c _ _ ?_) ?_|refine callX.by (tkeys_c _ ?_) ?_|assumption|(refine Qw hK _ ?_; clear hK K)|refine Qw ‹_› _ ?_|refine Qx ‹_› ?_|refine Qi fun K hK=>?_|refine Qj T fun K hK=>?_|refine Ql fun A B hA hB=>?_|refine Qm ?_|refine Qn ?_|refine Qp ?_|refine Qr ?_)
 | ((with_reducible first|apply Qy|apply Qz|apply QA)<;>intro hb<;>try simp only [nr] at hb)
 | simp only [go_sem,↓reduceIte,reduceIte,Qa,Qh,Qb,Qc,Qd,Qe,Qf,Qg,reduceCtorEq, *,-hz,List.length_map]
 | with_reducible refine fun (bn:Bool) hbn=>?_))
   all_goals ((repeat clear hK); (repeat clear hA); (repeat clear hB))
   (refine hM.on (3) (by omega) (by simp only [go_sem,↓reduceIte,reduceIte,Qa,Qh,Qb,Qc,Qd,Qe,Qf,Qg,reduceCtorEq, *,List.length_append,List.length_map,-hz]) ⟨1,g+1,rfl,by omega,?_⟩; simp only [go_sem,↓reduceIte,reduceIte,Qa,Qh,Qb,Qc,Qd,Qe,Qf,Qg,reduceCtorEq, *,List.length_append,List.length_map,-hz]; done)
  ·(repeat' (first
 | (with_reducible first|refine callX.by (tkind_c _ _ ?_) ?_|refine callX.by (tkeys_c _ ?_) ?_|assumption|(refine Qw hK _ ?_; clear hK K)|refine Qw ‹_› _ ?_|refine Qx ‹_› ?_|refine Qi fun K hK=>?_|refine Qj T fun K hK=>?_|refine Ql fun A B hA hB=>?_|refine Qm ?_|refine Qn ?_|refine Qp ?_|refine Qr ?_)
 | ((with_reducible first|apply Qy|apply Qz|apply QA)<;>intro hb<;>try simp only [nr] at hb)
 | simp only [go_sem,↓reduceIte,reduceIte,Qa,Qh,Qb,Qc,Qd,Qe,Qf,Qg,reduceCtorEq, *,-hz,List.length_map]
 | with_reducible refine fun (bn:Bool) hbn=>?_))
   all_goals ((repeat clear hK); (repeat clear hA); (repeat clear hB))
   (refine hM.on (2) (by omega) (by simp only [go_sem,↓reduceIte,reduceIte,Qa,Qh,Qb,Qc,Qd,Qe,Qf,Qg,reduceCtorEq, *,List.length_append,List.length_map,-hz]) ⟨2,g+1,rfl,by omega,?_⟩; simp only [go_sem,↓reduceIte,reduceIte,Qa,Qh,Qb,Qc,Qd,Qe,Qf,Qg,reduceCtorEq, *,List.length_append,List.length_map,-hz]; done)
  ·(repeat' (first
 | (with_reducible first|refine callX.by (tkind_c _ _ ?_) ?_|refine callX.by (tkeys_c _ ?_) ?_|assumption|(refine Qw hK _ ?_; clear hK K)|refine Qw ‹_› _ ?_|refine Qx ‹_› ?_|refine Qi fun K hK=>?_|refine Qj T fun K hK=>?_|refine Ql fun A B hA hB=>?_|refine Qm ?_|refine Qn ?_|refine Qp ?_|refine Qr ?_)
 | ((with_reducible first|apply Qy|apply Qz|apply QA)<;>intro hb<;>try simp only [nr] at hb)
 | simp only [go_sem,↓reduceIte,reduceIte,Qa,Qh,Qb,Qc,Qd,Qe,Qf,Qg,reduceCtorEq, *,-hz,List.length_map]
 | with_reducible refine fun (bn:Bool) hbn=>?_))
   all_goals ((repeat clear hK); (repeat clear hA); (repeat clear hB))
   (refine hM.on (1) (by omega) (by simp only [go_sem,↓reduceIte,reduceIte,Qa,Qh,Qb,Qc,Qd,Qe,Qf,Qg,reduceCtorEq, *,List.length_append,List.length_map,-hz]) ⟨3,g+1,rfl,by omega,?_⟩; simp only [go_sem,↓reduceIte,reduceIte,Qa,Qh,Qb,Qc,Qd,Qe,Qf,Qg,reduceCtorEq, *,List.length_append,List.length_map,-hz]; done)
  ·(repeat' (first
 | (with_reducible first|refine callX.by (tkind_c _ _ ?_) ?_|refine callX.by (tkeys_c _ ?_) ?_|assumption|(refine Qw hK _ ?_; clear hK K)|refine Qw ‹_› _ ?_|refine Qx ‹_› ?_|refine Qi fun K hK=>?_|refine Qj T fun K hK=>?_|refine Ql fun A B hA hB=>?_|refine Qm ?_|refine Qn ?_|refine Qp ?_|refine Qr ?_)
 | ((with_reducible first|apply Qy|apply Qz|apply QA)<;>intro hb<;>try simp only [nr] at hb)
 | simp only [go_sem,↓reduceIte,reduceIte,Qa,Qh,Qb,Qc,Qd,Qe,Qf,Qg,reduceCtorEq, *,-hz,List.length_map]
 | with_reducible refine fun (bn:Bool) hbn=>?_))
   all_goals ((repeat clear hK); (repeat clear hA); (repeat clear hB))
   (refine hM.on (0) (by omega) (by simp only [go_sem,↓reduceIte,reduceIte,Qa,Qh,Qb,Qc,Qd,Qe,Qf,Qg,reduceCtorEq, *,List.length_append,List.length_map,-hz]) ⟨4,g+1,rfl,by omega,?_⟩; simp only [go_sem,↓reduceIte,reduceIte,Qa,Qh,Qb,Qc,Qd,Qe,Qf,Qg,reduceCtorEq, *,List.length_append,List.length_map,-hz]; done)
  ·(repeat' (first
 | (with_reducible first|refine callX.by (tkind_c _ _ ?_) ?_|refine callX.by (tkeys_c _ ?_) ?_|assumption|(refine Qw hK _ ?_; clear hK K)|refine Qw ‹_› _ ?_|refine Qx ‹_› ?_|refine Qi fun K hK=>?_|refine Qj T fun K hK=>?_|refine Ql fun A B hA hB=>?_|refine Qm ?_|refine Qn ?_|refine Qp ?_|refine Qr ?_)
 | ((with_reducible first|apply Qy|apply Qz|apply QA)<;>intro hb<;>try simp only [nr] at hb)
 | simp only [go_sem,↓reduceIte,reduceIte,Qa,Qh,Qb,Qc,Qd,Qe,Qf,Qg,reduceCtorEq, *,hz]
 | with_reducible refine fun (bn:Bool) hbn=>?_))
end Go.Proofs.YtmjkjmoeicnbnaaGreatDoor.Lg
