/- Parts of the proof, one behind the other. -/
import Derived.Test.YtmjkjmoeicnbnaaGreatDoorG16
namespace Go.Proofs.YtmjkjmoeicnbnaaGreatDoor.Lg
set_option maxRecDepth 100000
set_option linter.unusedVariables false
set_option linter.unusedSimpArgs false
open Go
open Nat renaming reduceEqDiff → Qa, reduceLT → Qb, reduceLeDiff → Qc, reduceAdd → Qd, reduceMul → Qe, reduceSub → Qf, reduceBEq → Qg
open String renaming reduceEq → Qh
open NxK renaming out → Qw
@[go_sem] def Wd12:List (List Nat×List Nat):=[([16],[17,19,20]),([17],[16,19,20]),([19],[16,17]),([20],[16,17]),([21,7],[]),([18],[23]),([22],[23]),([23],[18,22])]
instance:Dat (List Key) where
 av l:=.slice false (avs l)
 sz:=1
 len _:=rfl
 pure l:=by simp only [go_sem]
 nrm l:=by simp only [go_sem]
 one _:=rfl
 known _:=rfl
theorem av_keys (l:List Key):Dat.av l=.slice false (avs l):=rfl
section
variable {α β:Type}
theorem mks_snoc [Dat α] (M:List (α × β)) (p:α × β):mks (M++[p])=mks M++[Dat.av p.1]:=by simp [mks,avs]
theorem set_snoc {γ:Type} (l:List γ) (x y:γ) (n:Nat) (h:n=l.length):(l++[x]).set n y=l++[y]:=by subst h; simp
end
def addN (M:List (Key × List Key)) (r:Res):List (Key × List Key):=mput M (keyOf r) ((mget M (keyOf r)).getD []++refsR r)
def namesM (l:List Res):List (Key × List Key):=l.foldl addN []
def zKs:Key × List Key:=(⟨0,[]⟩,[])
def osL (h:Nat→Nat) (M:List (Key × List Key)):List AV:=(List.range M.length).map fun j=>.os (j+1000) (h j) (M.getD j zKs).2.length
theorem osL_len (h:Nat→Nat) (M:List (Key × List Key)):(osL h M).length=M.length:=by simp [osL]
theorem osL_get (h:Nat→Nat) {M:List (Key × List Key)} {j:Nat} (hj:j < M.length):(osL h M).getD j .any=.os (j+1000) (h j) (M.getD j zKs).2.length:=by
 simp [osL,hj]
theorem osL_snoc (h:Nat→Nat) (M:List (Key × List Key)) (p:Key × List Key) (g:Nat):osL h M++[.os (M.length+1000) g p.2.length]=osL (fun i=>if i=M.length then g else h i) (M++[p]):=by
 refine List.ext_getElem (by simp [osL_len]) fun i h1 h2=>?_
 have hi:i≤M.length:=by simp [osL_len] at h1; omega
 by_cases hl:i < M.length
 ·have hne:¬ i=M.length:=by omega
  simp [osL,hl,List.getElem_append,hne,List.getElem?_append]
 ·have:i=M.length:=by omega
  subst this
  simp [osL,List.getElem_append]
theorem osL_set (h:Nat→Nat) (M:List (Key × List Key)) (p:Key × List Key) (g j:Nat) (hj:j < M.length):(osL h M).set j (.os (j+1000) g p.2.length)=osL (fun i=>if i=j then g else h i) (M.set j p):=by
 refine List.ext_getElem (by simp [osL_len]) fun i h1 h2=>?_
 have hi:i < M.length:=by simpa [osL_len] using h1
 by_cases hl:i=j
 ·subst hl
  simp [osL,hi]
 ·simp [osL,List.getElem_set,Ne.symm hl,hl,List.getElem?_set]
theorem addN_none {M:List (Key × List Key)} {r:Res} (h:ixOf (keyOf r) M=none):addN M r=M++[(keyOf r,refsR r)]:=by
 unfold addN
 rw [mput_none _ (ix_none h),ix_none h]
 rfl
theorem addN_some {M:List (Key × List Key)} {r:Res} {j:Nat} (h:ixOf (keyOf r) M=some j):addN M r=M.set j (keyOf r,(M.getD j zKs).2++refsR r):=by
 obtain ⟨h1,h2⟩:=ix_get h
 unfold addN mput
 rw [h,h2]
 simp [h1]
theorem addN_len (M:List (Key × List Key)) (r:Res):(addN M r).length≤M.length+1:=by
 cases h:ixOf (keyOf r) M with
 | none=>rw [addN_none h]; simp
 | some j=>rw [addN_some h]; simp
set_option maxHeartbeats 8000000 in
theorem rnames_c (xs:List Res) (hl:xs.length≤65536) (hs:∀ r∈xs,SmRes r):CallR Tryz.prog 138 [.slice false (avs xs)] (.val (.mp (mks (namesM xs)) (mvs (namesM xs)))):=by
 have hsl:=small_le hl
 refine CallR.go1 (T:=T) Tryz.call138 Tryz.func138 rfl Tryz.ntmps138 (congrArg Array.toList Tryz.results138) (by decide) fun ts hn h0=>?_
 (repeat' (first
 | (with_reducible first|refine callX.by (rkey_c _ _ _ _ _ _ _) ?_|refine callX.by (refsR_c _ _ _ _ _ _ _ ?_ ?_ ?_) ?_|refine callX.by awqc ?_|assumption|(refine Qw hK _ ?_; clear hK K)|refine Qw ‹_› _ ?_|refine Nx.out ‹_› ?_|refine SpecC.seqW fun K hK=>?_|refine SpecC.regW T fun K hK=>?_|refine SpecC.drawW (id:=6) T mixed Wd12 (by kernel_rfl) fun K hK=>?_|refine SpecC.condW fun A B hA hB=>?_|refine SpecC.block ?_|refine SpecC.skip ?_|refine SpecC.exit ?_|refine SpecC.ret ?_)
 | ((with_reducible first|apply condK.split|apply gK.split_t|apply gK.split_f)<;>intro hb<;>try simp only [nr] at hb)
 | simp only [go_sem,↓reduceIte,reduceIte,Qa,Qh,Qb,Qc,Qd,Qe,Qf,Qg,reduceCtorEq, *,-hs]
 | with_reducible refine fun (bn:Bool) hbn=>?_))
 refine SpecC.loopF [8,9] (fun m ts'=>∃ (i:Nat),∃ (g:Nat),∃ (M:List (Key × List Key)),∃ (h:Nat→Nat),m=xs.length - i∧i≤xs.length∧namesM xs=(xs.drop i).foldl addN M∧M.length≤i∧(∀ p∈M,p.2.length≤33 * i)∧(∀ j,j < M.length→ts'.obj (j+1000)=.arr 2 (avs (M.getD j zKs).2)∧ts'.gen (j+1000)=h j)∧ts'.tmp 3=.mref 7 g∧ts'.gen 7=g∧ts'.obj 7=.mp (mks M) (osL h M)∧ts'.tmp 10=.int .i64 i) xs.length ?_ ?_
 ·refine ⟨0,ts.gen 7+1,[],fun _=>0,rfl,Nat.zero_le _,rfl,Nat.le_refl _,by simp,fun j hj=>absurd hj (by simp),?_⟩
  simp only [go_sem,↓reduceIte,reduceIte,Qa,Qh,Qb,Qc,Qd,Qe,Qf,Qg,reduceCtorEq, *,-hs,show osL (fun _=>0) []=[] from rfl]
 ·rintro m A hM ts' hk ⟨i,g,M,h,hm,f1,f2,f3,f4,f5,s1,s2,s3,s4⟩
  simp only [go_sem,↓reduceIte,reduceIte,Qa,Qh,Qb,Qc,Qd,Qe,Qf,Qg,reduceCtorEq, *] at hk
  by_cases hlt:i < xs.length
  ·rw [List.drop_eq_getElem_cons hlt,List.foldl_cons] at f2
   obtain ⟨_,_,hx1,hx2,hx3⟩:=hs _ (List.getElem_mem hlt)
   have hrl:=refs_len xs[i]
   have hrs:Small (refsR xs[i]).length:=by unfold Small; omega
   have hr1:Room (refsR xs[i]).length 24:=room_big (by omega) (by decide)
   cases hix:ixOf ⟨xs[i].kind,xs[i].name⟩ M with
   | none =>
    have hol:(osL h M).length=M.length:=osL_len h M
    have hset:∀ y x:AV,(osL h M++[y]).set M.length x=osL h M++[x]:=fun y x=>set_snoc _ _ _ _ hol.symm
    have hgd:∀ x:AV,(osL h M++[x]).getD M.length .any=x:=fun x=>by simp [List.getD_eq_getElem?_getD,hol]
    have hlt1:(M.length:Int) < ((M.length+1:Nat):Int):=by omega
    have hlt2:M.length < M.length+1:=by omega
    (repeat' (first
 | (with_reducible first|refine callX.by (rkey_c _ _ _ _ _ _ _) ?_|refine callX.by (refsR_c _ _ _ _ _ _ _ ?_ ?_ ?_) ?_|refine callX.by awqc ?_|assumption|(refine Qw hK _ ?_; clear hK K)|refine Qw ‹_› _ ?_|refine Nx.out ‹_› ?_|refine SpecC.seqW fun K hK=>?_|refine SpecC.regW T fun K hK=>?_|refine SpecC.drawW (id:=6) T mixed Wd12 (by kernel_rfl) fun K hK=>?_|refine SpecC.condW fun A B hA hB=>?_|refine SpecC.block ?_|refine SpecC.skip ?_|refine SpecC.exit ?_|refine SpecC.ret ?_)
 | ((with_reducible first|apply condK.split|apply gK.split_t|apply gK.split_f)<;>intro hb<;>try simp only [nr] at hb)
 | simp only [go_sem,↓reduceIte,reduceIte,Qa,Qh,Qb,Qc,Qd,Qe,Qf,Qg,reduceCtorEq, *,-hs,-hx2,-f2,-f4,-f5]
 | with_reducible refine fun (bn:Bool) hbn=>?_))
    all_goals ((repeat clear hK); (repeat clear hA); (repeat clear hB))
    have e:=addN_none (r:=xs[i]) hix
    have ek:mks M++[.agg [.int .i64 xs[i].kind,.str xs[i].name]]=mks (addN M xs[i]):=by rw [e,mks_snoc]; rfl
    have ev:osL h M++[AV.os (M.length+1000) (ts'.gen (M.length+1000)+1) (refsR xs[i]).length]=osL (fun u=>if u=M.length then ts'.gen (M.length+1000)+1 else h u) (addN M xs[i]):=by rw [e]; exact osL_snoc h M (keyOf xs[i],refsR xs[i]) _
    have hal:=addN_len M xs[i]
    refine hM.onE (xs.length - (i+1)) (Ent.renM2 7 M.length 22 (M.length+1000) (refsR xs[i]).length ?_) (by omega) ?_ ?_
    ·simp only [go_sem,↓reduceIte,reduceIte,Qa,Qh,Qb,Qc,Qd,Qe,Qf,Qg,reduceCtorEq, *,-hs,-hx2,-f2,-f4,-f5,-e,-ek,-ev]
     done
    ·simp only [go_sem,↓reduceIte,reduceIte,Qa,Qh,Qb,Qc,Qd,Qe,Qf,Qg,reduceCtorEq, *,-hs,-hx2,-f2,-f4,-f5,-e,-ek,-ev]
     done
    ·refine ⟨i+1,g,addN M xs[i],fun u=>if u=M.length then ts'.gen (M.length+1000)+1 else h u,rfl,by omega,f2,by omega,fun p hp=>?_,fun q hq=>?_,?_⟩
     ·rw [e] at hp
      rcases List.mem_append.1 hp with hp|hp
      ·have:=f4 p hp; omega
      ·rw [List.mem_singleton] at hp; subst hp; show (refsR xs[i]).length≤_; omega
     ·by_cases hql:q=M.length
      ·subst hql
       have e1:((addN M xs[i]).getD M.length zKs).2=refsR xs[i]:=by rw [e]; simp
       simp only [go_sem,↓reduceIte,reduceIte,Qa,Qh,Qb,Qc,Qd,Qe,Qf,Qg,reduceCtorEq, *,-hs,-hx2,-f2,-f4,-f5,-e,-ek,-ev]
       done
      ·have hq2:q < M.length:=by rw [e] at hq; simp at hq; omega
       have e1:(addN M xs[i]).getD q zKs=M.getD q zKs:=by rw [e]; simp [List.getElem?_append,hq2]
       obtain ⟨f6,f7⟩:=f5 q hq2
       simp only [go_sem,↓reduceIte,reduceIte,Qa,Qh,Qb,Qc,Qd,Qe,Qf,Qg,reduceCtorEq, *,-hs,-hx2,-f2,-f4,-f5,-e,-ek,-ev]
       done
     ·simp only [go_sem,↓reduceIte,reduceIte,Qa,Qh,Qb,Qc,Qd,Qe,Qf,Qg,reduceCtorEq, *,w64_nat hlt hsl,-hs,-hx2,-f2,-f4,-f5,-e,hgd]
      all_goals trace_state
   | some j =>
    obtain ⟨hj,hk0⟩:=ix_lt hix
    obtain ⟨f6,f7⟩:=f5 j hj
    have e:=addN_some (r:=xs[i]) hix
    have hvl:(M.getD j zKs).2.length≤33 * i:=f4 _ (by simp [hj])
    generalize hV:(M.getD j zKs).2=V at *
    have hol:(osL h M).length=M.length:=osL_len h M
    have hjo:j < (osL h M).length:=by omega
    have hgo:(osL h M).getD j .any=.os (j+1000) (ts'.gen (j+1000)) V.length:=by rw [osL_get h hj,f7,hV]
    refine SpecC.ent (Ent.renM2 7 j (j+1000) 900 V.length ?_) ?_
    ·simp only [go_sem,↓reduceIte,reduceIte,Qa,Qh,Qb,Qc,Qd,Qe,Qf,Qg,reduceCtorEq, *,-hs,-hx2,-f2,-f4,-f5,-e]
     done
    have hset:∀ y x:AV,((osL h M).set j y).set j x=(osL h M).set j x:=fun y x=>by rw [List.set_set]
    have hgd:∀ x:AV,((osL h M).set j x).getD j .any=x:=fun x=>by simp [hjo]
    have hks:(mks M).set j (.agg [.int .i64 xs[i].kind,.str xs[i].name])=mks M:=by
     refine List.ext_getElem (by simp) fun u h1 h2=>?_
     rw [List.getElem_set]
     split
     ·rename_i hu
      subst hu
      have:(mks M)[j]=Dat.av (M[j]).1:=by simp [mks,avs]
      rw [this,hk0,av_Key]
     ·rfl
    have hjl:(j:Int) < (M.length:Int):=by omega
    have hls:∀ x:AV,((osL h M).set j x).length=M.length:=fun x=>by simp [hol]
    have hr2:Room (V.length+(refsR xs[i]).length) 24:=room_big (by omega) (by decide)
    (repeat' (first
 | (with_reducible first|refine callX.by (rkey_c _ _ _ _ _ _ _) ?_|refine callX.by (refsR_c _ _ _ _ _ _ _ ?_ ?_ ?_) ?_|refine callX.by awqc ?_|assumption|(refine Qw hK _ ?_; clear hK K)|refine Qw ‹_› _ ?_|refine Nx.out ‹_› ?_|refine SpecC.seqW fun K hK=>?_|refine SpecC.regW T fun K hK=>?_|refine SpecC.drawX (id:=6) T mixed [([16],[17,19,20]),([17],[16,19,20]),([19],[16,17]),([20],[16,17]),([7,21],[]),([18],[23]),([22,900],[23]),([23],[18,22,900])] (by kernel_rfl) fun K hK=>?_|refine SpecC.condW fun A B hA hB=>?_|refine SpecC.block ?_|refine SpecC.skip ?_|refine SpecC.exit ?_|refine SpecC.ret ?_)
 | ((with_reducible first|apply condK.split|apply gK.split_t|apply gK.split_f)<;>intro hb<;>try simp only [nr] at hb)
 | simp only [go_sem,↓reduceIte,reduceIte,Qa,Qh,Qb,Qc,Qd,Qe,Qf,Qg,reduceCtorEq, *,-hs,-hx2,-f2,-f4,-f5,-e,-hV]
 | with_reducible refine fun (bn:Bool) hbn=>?_))
    all_goals ((repeat clear hK); (repeat clear hA); (repeat clear hB))
    have hlen:(V++refsR xs[i]).length=V.length+(refsR xs[i]).length:=List.length_append
    have ek:mks M=mks (addN M xs[i]):=by
     rw [e]
     refine List.ext_getElem (by simp [mks,avs]) fun u h1 h2=>?_
     simp only [mks,avs,List.getElem_map,List.getElem_set]
     split
     ·rename_i hu; subst hu; rw [hk0]; rfl
     ·rfl
    have ev:(osL h M).set j (AV.os (j+1000) (ts'.gen (j+1000)+1) (V.length+(refsR xs[i]).length))=osL (fun u=>if u=j then ts'.gen (j+1000)+1 else h u) (addN M xs[i]):=by
     rw [e,← hlen]; exact osL_set h M (keyOf xs[i],V++refsR xs[i]) _ j hj
    have hal:=addN_len M xs[i]
    refine hM.onE (xs.length - (i+1)) (Ent.renM2 7 j 22 (j+1000) (V.length+(refsR xs[i]).length) ?_) (by omega) ?_ ?_
    ·simp only [go_sem,↓reduceIte,reduceIte,Qa,Qh,Qb,Qc,Qd,Qe,Qf,Qg,reduceCtorEq, *,-hs,-hx2,-f2,-f4,-f5,-e,-ek,-ev,-hV]
     done
    ·simp only [go_sem,↓reduceIte,reduceIte,Qa,Qh,Qb,Qc,Qd,Qe,Qf,Qg,reduceCtorEq, *,-hs,-hx2,-f2,-f4,-f5,-e,-ek,-ev,-hV]
     done
    ·refine ⟨i+1,g,addN M xs[i],fun u=>if u=j then ts'.gen (j+1000)+1 else h u,rfl,by omega,f2,by omega,fun p hp=>?_,fun q hq=>?_,?_⟩
     ·rw [e] at hp
      rcases List.mem_or_eq_of_mem_set hp with hp|hp
      ·have:=f4 p hp; omega
      ·subst hp; show (V++refsR xs[i]).length≤_; omega
     ·by_cases hql:q=j
      ·subst hql
       have e1:((addN M xs[i]).getD q zKs).2=V++refsR xs[i]:=by rw [e]; simp [hj]
       simp only [go_sem,↓reduceIte,reduceIte,Qa,Qh,Qb,Qc,Qd,Qe,Qf,Qg,reduceCtorEq, *,-hs,-hx2,-f2,-f4,-f5,-e,-ek,-ev,-hV]
       all_goals trace_state
      ·have hq2:q < M.length:=by rw [e] at hq; simpa using hq
       have e1:(addN M xs[i]).getD q zKs=M.getD q zKs:=by rw [e]; simp [List.getElem?_set,Ne.symm hql]
       obtain ⟨g6,g7⟩:=f5 q hq2
       simp only [go_sem,↓reduceIte,reduceIte,Qa,Qh,Qb,Qc,Qd,Qe,Qf,Qg,reduceCtorEq, *,-hs,-hx2,-f2,-f4,-f5,-e,-ek,-ev,-hV]
       all_goals trace_state
     ·simp only [go_sem,↓reduceIte,reduceIte,Qa,Qh,Qb,Qc,Qd,Qe,Qf,Qg,reduceCtorEq, *,w64_nat hlt hsl,-hs,-hx2,-f2,-f4,-f5,-e,-hV,-ek]
      rw [f7] at ev
      rw [← ek,ev]
  ·rw [List.drop_eq_nil_of_le (by omega)] at f2
   have e:namesM xs=M:=f2
   rw [e]
   obtain ⟨ts2,r1,r2,r3,r4,r5,r6⟩:=Ent.frzFrom (d:=7) (B:=1000) (sz:=2) (ks:=mks M) (xs:=M.map fun p=>avs p.2) (by omega) M.length ts' (osL h M) (by simp) s3 (by simp [osL_len]) (fun j hj _=>by
     have hj:j < M.length:=by simpa using hj
     obtain ⟨f6,f7⟩:=f5 j hj
     have e2:(M.map fun p=>avs p.2).getD j []=avs (M.getD j zKs).2:=by simp [hj]
     rw [e2,osL_get h hj,f6,f7,len_avs]
     exact ⟨rfl,rfl⟩) (fun j hj=>absurd hj (by simp))
   have em:(M.map fun p=>avs p.2).map (AV.slice false)=mvs M:=by
    simp only [mvs,avs,List.map_map]
    rfl
   rw [em] at r5
   refine SpecC.ent r1 ?_
   (repeat' (first
 | (with_reducible first|refine callX.by (rkey_c _ _ _ _ _ _ _) ?_|refine callX.by (refsR_c _ _ _ _ _ _ _ ?_ ?_ ?_) ?_|refine callX.by awqc ?_|assumption|(refine Qw hK _ ?_; clear hK K)|refine Qw ‹_› _ ?_|refine Nx.out ‹_› ?_|refine SpecC.seqW fun K hK=>?_|refine SpecC.regW T fun K hK=>?_|refine SpecC.drawW (id:=6) T mixed Wd12 (by kernel_rfl) fun K hK=>?_|refine SpecC.condW fun A B hA hB=>?_|refine SpecC.block ?_|refine SpecC.skip ?_|refine SpecC.exit ?_|refine SpecC.ret ?_)
 | ((with_reducible first|apply condK.split|apply gK.split_t|apply gK.split_f)<;>intro hb<;>try simp only [nr] at hb)
 | simp only [go_sem,↓reduceIte,reduceIte,Qa,Qh,Qb,Qc,Qd,Qe,Qf,Qg,reduceCtorEq, *,-hs,-f2,-f4,-f5,-e,-em,-r6,r2,r3,r4]
 | with_reducible refine fun (bn:Bool) hbn=>?_))
   all_goals rw [e]
end Go.Proofs.YtmjkjmoeicnbnaaGreatDoor.Lg
namespace Go.Proofs.YtmjkjmoeicnbnaaGreatDoor.Lg
set_option maxRecDepth 100000
set_option linter.unusedVariables false
set_option linter.unusedSimpArgs false
open Go
open Nat renaming reduceEqDiff → Qa, reduceLT → Qb, reduceLeDiff → Qc, reduceAdd → Qd, reduceMul → Qe, reduceSub → Qf, reduceBEq → Qg
open String renaming reduceEq → Qh
open SpecC renaming seqW → Qi, regW → Qj, drawW → Qk, condW → Ql, block → Qm, skip → Qn, exit → Qp, ret → Qr, loopF → Qs
open NxK renaming out → Qw
open Nx renaming out → Qx
open condK renaming split → Qy
open gK renaming split_t → Qz, split_f → QA
open CallR renaming go1 → QD
@[go_sem] def Wd13:List (List Nat×List Nat):=[([24],[25,26]),([25],[24]),([26],[24])]
abbrev KS:=List (Key × Bool)
def isIn (M:KS) (k:Key):Bool:=(mget M k).getD false
def visF (T0:KS) (N:List (Key × List Key)):Nat→Key→KS→KS
 | 0,_,M=>M
 | n+1,k,M=>if isIn T0 k=true∧isIn M k=false then ((mget N k).getD []).foldl (fun M x=>visF T0 N n x M) (mput M k true) else M
def muV (T0 M:KS):Nat:=(T0.filter fun p=>p.2 && !isIn M p.1).length
theorem isIn_put (M:KS) (k x:Key):isIn (mput M k true) x=(decide (x=k) || isIn M x):=by
 unfold isIn
 rw [mget_mput]
 by_cases h:x=k<;>simp [h]
theorem visF_grow (T0:KS) (N:List (Key × List Key)):∀ (n:Nat) (k:Key) (M:KS) (x:Key),isIn M x=true→isIn (visF T0 N n k M) x=true
 | 0,_,_,_,h=>h
 | n+1,k,M,x,h=>by
  unfold visF
  split
  ·have:∀ (l:List Key) (M:KS),isIn M x=true→isIn (l.foldl (fun M y=>visF T0 N n y M) M) x=true:=by
    intro l
    induction l with
    | nil=>exact fun M h=>h
    | cons y l ih=>exact fun M h=>ih _ (visF_grow T0 N n y M x h)
   exact this _ _ (by rw [isIn_put]; simp [h])
  ·exact h
theorem mu_le {T0 M M':KS} (h:∀ x,isIn M x=true→isIn M' x=true):muV T0 M'≤muV T0 M:=by
 unfold muV
 rw [← List.countP_eq_length_filter,← List.countP_eq_length_filter]
 refine List.countP_mono_left fun p _ hp=>?_
 simp only [Bool.and_eq_true,Bool.not_eq_true'] at hp ⊢
 refine ⟨hp.1,?_⟩
 cases hm:isIn M p.1 with
 | false=>rfl
 | true=>rw [h _ hm] at hp; simp at hp
theorem mget_mem {α β:Type} [DecidableEq α] {M:List (α × β)} {x:α} {v:β} (h:mget M x=some v):(x,v)∈M:=by
 unfold mget at h
 obtain ⟨p,h1,h2⟩:=Option.map_eq_some_iff.1 h
 have h3:=List.find?_some h1
 have h4:=List.mem_of_find?_eq_some h1
 have:p.1=x:=by simpa using (of_decide_eq_true h3).symm
 rw [← this,← h2]; exact h4
theorem isIn_mem {M:KS} {k:Key} (h:isIn M k=true):(k,true)∈M:=by
 unfold isIn at h
 cases hm:mget M k with
 | none=>rw [hm] at h; simp at h
 | some b=>rw [hm] at h; simp at h; subst h; exact mget_mem hm
theorem mu_lt {T0 M:KS} {k:Key} (h1:isIn T0 k=true) (h2:isIn M k=false):muV T0 (mput M k true) < muV T0 M:=by
 have hm:=isIn_mem h1
 unfold muV
 have key:∀ (l:KS),(l.filter fun p=>p.2 && !isIn (mput M k true) p.1).length≤(l.filter fun p=>p.2 && !isIn M p.1).length∧((k,true)∈l→(l.filter fun p=>p.2 && !isIn (mput M k true) p.1).length < (l.filter fun p=>p.2 && !isIn M p.1).length):=by
  intro l
  induction l with
  | nil=>simp
  | cons p l ih =>
   obtain ⟨i1,i2⟩:=ih
   have hp:(p.2 && !isIn (mput M k true) p.1)=true→(p.2 && !isIn M p.1)=true:=by
    rw [isIn_put]
    simp only [Bool.and_eq_true,Bool.not_eq_true',Bool.or_eq_false_iff]
    exact fun ⟨a,_,b⟩=>⟨a,b⟩
   refine ⟨?_,fun hmem=>?_⟩
   ·rw [List.filter_cons,List.filter_cons]
    by_cases q1:(p.2 && !isIn (mput M k true) p.1)=true
    ·rw [if_pos q1,if_pos (hp q1)]; simp; exact i1
    ·rw [if_neg q1]
     split
     ·simp; omega
     ·exact i1
   ·rw [List.filter_cons,List.filter_cons]
    rcases List.mem_cons.1 hmem with rfl|hmem
    ·rw [if_neg (by rw [isIn_put]; simp),if_pos (by simp [h2])]
     simp; omega
    ·have:=i2 hmem
     by_cases q1:(p.2 && !isIn (mput M k true) p.1)=true
     ·rw [if_pos q1,if_pos (hp q1)]; simp; exact this
     ·rw [if_neg q1]
      split
      ·simp; omega
      ·exact this
 exact (key T0).2 hm
theorem look_keys {N:List (Key × List Key)} {k:Key} {v:List Key} (h:mget N k=some v) (z:AV):lookA false z (mvs N) (ixOf k N)=.slice false (avs v):=by
 cases hi:ixOf k N with
 | none=>rw [ix_none hi] at h; cases h
 | some i =>
  obtain ⟨h1,h2⟩:=ix_get hi
  rw [h2] at h
  cases h
  show (mvs N).getD i .any=_
  unfold mvs
  rw [avs_get _ i (by simpa using h1)]
  simp [av_keys]
set_option maxHeartbeats 4000000 in
theorem visit_c (T0:KS) (N:List (Key × List Key)) (hTN:∀ k,isIn T0 k=true→∃ ks,mget N k=some ks∧Small ks.length):∀ (n:Nat) (k_kind:Int) (k_name:List UInt8) (M:KS),muV T0 M≤n →
  CallH Tryz.prog 139 1000 [.agg [.int .i64 k_kind,.str k_name],.ro [.mp (mks T0) (mvs T0)],.ro [.mref 1000 0],.ro [.mp (mks N) (mvs N)],recV 139 (.ro [.mp (mks T0) (mvs T0)]) (.ro [.mref 1000 0]) (.ro [.mp (mks N) (mvs N)]) n] (mks M) (mvs M) (.tup [])
   (mks (visF T0 N n (⟨k_kind,k_name⟩:Key) M)) (mvs (visF T0 N n (⟨k_kind,k_name⟩:Key) M)):=by
 intro n
 induction n with
 | zero =>
  intro k_kind k_name M hmu
  have hno:¬ (isIn T0 (⟨k_kind,k_name⟩:Key)=true∧isIn M (⟨k_kind,k_name⟩:Key)=false):=fun ⟨h1,h2⟩=>by have:=mu_lt h1 h2; omega
  have e:visF T0 N 0 (⟨k_kind,k_name⟩:Key) M=M:=rfl
  rw [e]
  refine CallH.go5 (T:=T) Tryz.call139 Tryz.func139 rfl Tryz.ntmps139 (congrArg Array.toList Tryz.results139) (by decide) fun ts hn h0 h1 h2 h3 h4 hg ho=>?_
  by_cases hT:(mget T0 (⟨k_kind,k_name⟩:Key)).getD false=true
  ·have hO:(mget M (⟨k_kind,k_name⟩:Key)).getD false=true:=by
    cases hm:(mget M (⟨k_kind,k_name⟩:Key)).getD false with
    | true=>rfl
    | false=>exact absurd ⟨hT,hm⟩ hno
   (repeat' (first
 | (with_reducible first|assumption|(refine Qw hK _ ?_; clear hK K)|refine Qw ‹_› _ ?_|refine Qx ‹_› ?_|refine Qi fun K hK=>?_|refine Qj T fun K hK=>?_|refine Ql fun A B hA hB=>?_|refine Qm ?_|refine Qn ?_|refine Qp ?_|refine Qr ?_)
 | ((with_reducible first|apply Qy|apply Qz|apply QA)<;>intro hb<;>try simp only [nr] at hb)
 | simp only [go_sem,↓reduceIte,reduceIte,Qa,Qh,Qb,Qc,Qd,Qe,Qf,Qg,reduceCtorEq, *,-hTN,-hno,-h4]
 | with_reducible refine fun (bn:Bool) hbn=>?_))
  ·have hT:(mget T0 (⟨k_kind,k_name⟩:Key)).getD false=false:=by simpa using hT
   (repeat' (first
 | (with_reducible first|assumption|(refine Qw hK _ ?_; clear hK K)|refine Qw ‹_› _ ?_|refine Qx ‹_› ?_|refine Qi fun K hK=>?_|refine Qj T fun K hK=>?_|refine Ql fun A B hA hB=>?_|refine Qm ?_|refine Qn ?_|refine Qp ?_|refine Qr ?_)
 | ((with_reducible first|apply Qy|apply Qz|apply QA)<;>intro hb<;>try simp only [nr] at hb)
 | simp only [go_sem,↓reduceIte,reduceIte,Qa,Qh,Qb,Qc,Qd,Qe,Qf,Qg,reduceCtorEq, *,-hTN,-hno,-h4]
 | with_reducible refine fun (bn:Bool) hbn=>?_))
 | succ n ih =>
  intro k_kind k_name M hmu
  by_cases hT:(mget T0 (⟨k_kind,k_name⟩:Key)).getD false=true
  rotate_left
  ·have hT:(mget T0 (⟨k_kind,k_name⟩:Key)).getD false=false:=by simpa using hT
   have e:visF T0 N (n+1) (⟨k_kind,k_name⟩:Key) M=M:=by unfold visF; rw [if_neg (by simp [isIn,hT])]
   rw [e]
   refine CallH.go5 (T:=T) Tryz.call139 Tryz.func139 rfl Tryz.ntmps139 (congrArg Array.toList Tryz.results139) (by decide) fun ts hn h0 h1 h2 h3 h4 hg ho=>?_
   (repeat' (first
 | (with_reducible first|assumption|(refine Qw hK _ ?_; clear hK K)|refine Qw ‹_› _ ?_|refine Qx ‹_› ?_|refine Qi fun K hK=>?_|refine Qj T fun K hK=>?_|refine Ql fun A B hA hB=>?_|refine Qm ?_|refine Qn ?_|refine Qp ?_|refine Qr ?_)
 | ((with_reducible first|apply Qy|apply Qz|apply QA)<;>intro hb<;>try simp only [nr] at hb)
 | simp only [go_sem,↓reduceIte,reduceIte,Qa,Qh,Qb,Qc,Qd,Qe,Qf,Qg,reduceCtorEq, *,-hTN,-h4]
 | with_reducible refine fun (bn:Bool) hbn=>?_))
  by_cases hO:(mget M (⟨k_kind,k_name⟩:Key)).getD false=true
  ·have e:visF T0 N (n+1) (⟨k_kind,k_name⟩:Key) M=M:=by unfold visF; rw [if_neg (by simp [isIn,hO])]
   rw [e]
   refine CallH.go5 (T:=T) Tryz.call139 Tryz.func139 rfl Tryz.ntmps139 (congrArg Array.toList Tryz.results139) (by decide) fun ts hn h0 h1 h2 h3 h4 hg ho=>?_
   (repeat' (first
 | (with_reducible first|assumption|(refine Qw hK _ ?_; clear hK K)|refine Qw ‹_› _ ?_|refine Qx ‹_› ?_|refine Qi fun K hK=>?_|refine Qj T fun K hK=>?_|refine Ql fun A B hA hB=>?_|refine Qm ?_|refine Qn ?_|refine Qp ?_|refine Qr ?_)
 | ((with_reducible first|apply Qy|apply Qz|apply QA)<;>intro hb<;>try simp only [nr] at hb)
 | simp only [go_sem,↓reduceIte,reduceIte,Qa,Qh,Qb,Qc,Qd,Qe,Qf,Qg,reduceCtorEq, *,-hTN,-h4]
 | with_reducible refine fun (bn:Bool) hbn=>?_))
  have hO:(mget M (⟨k_kind,k_name⟩:Key)).getD false=false:=by simpa using hO
  obtain ⟨v,hv,hvs⟩:=hTN (⟨k_kind,k_name⟩:Key) hT
  have hlk:=look_keys hv
  have e:visF T0 N (n+1) (⟨k_kind,k_name⟩:Key) M=v.foldl (fun M x=>visF T0 N n x M) (mput M (⟨k_kind,k_name⟩:Key) true):=by
   rw [visF,if_pos ⟨hT,hO⟩,hv]; rfl
  rw [e]
  have hmu1:muV T0 (mput M (⟨k_kind,k_name⟩:Key) true)≤n:=by have:=mu_lt (T0:=T0) (M:=M) hT hO; omega
  refine CallH.go5 (T:=T) Tryz.call139 Tryz.func139 rfl Tryz.ntmps139 (congrArg Array.toList Tryz.results139) (by decide) fun ts hn h0 h1 h2 h3 h4 hg ho=>?_
  rw [recV_succ] at h4
  (repeat' (first
 | (with_reducible first|assumption|(refine Qw hK _ ?_; clear hK K)|refine Qw ‹_› _ ?_|refine Qx ‹_› ?_|refine Qi fun K hK=>?_|refine Qj T fun K hK=>?_|refine Ql fun A B hA hB=>?_|refine Qm ?_|refine Qn ?_|refine Qp ?_|refine Qr ?_)
 | ((with_reducible first|apply Qy|apply Qz|apply QA)<;>intro hb<;>try simp only [nr] at hb)
 | simp only [go_sem,↓reduceIte,reduceIte,Qa,Qh,Qb,Qc,Qd,Qe,Qf,Qg,reduceCtorEq, *,-hTN,-ih]
 | with_reducible refine fun (bn:Bool) hbn=>?_))
  have hre:(recV 139 (.ro [.mp (mks T0) (mvs T0)]) (.ro [.mref 1000 0]) (.ro [.mp (mks N) (mvs N)]) n).renM 1000 0 1000=recV 139 (.ro [.mp (mks T0) (mvs T0)]) (.ro [.mref 1000 0]) (.ro [.mp (mks N) (mvs N)]) n :=
   renM_recV _ _ _ _ _ _ _ _ (by simp only [go_sem,Bool.and_self]) (by simp only [go_sem,Bool.and_self])
  have hpe:(recV 139 (.ro [.mp (mks T0) (mvs T0)]) (.ro [.mref 1000 0]) (.ro [.mp (mks N) (mvs N)]) n).pureH 1000 0=true :=
   pureH_recV _ _ _ _ _ _ _ (by simp only [go_sem,Bool.and_self]) (by decide) (by simp only [go_sem,Bool.and_self])
  refine Qs [4,21,22] (fun m ts'=>∃ (i:Nat),∃ (M2:KS),m=v.length - i∧i≤v.length∧muV T0 M2≤n∧v.foldl (fun M x=>visF T0 N n x M) (mput M (⟨k_kind,k_name⟩:Key) true)=(v.drop i).foldl (fun M x=>visF T0 N n x M) M2∧ts'.gen 1000=0∧ts'.obj 1000=.mp (mks M2) (mvs M2)∧ts'.tmp 23=.int .i64 i) v.length ?_ ?_
  ·refine ⟨0,mput M (⟨k_kind,k_name⟩:Key) true,rfl,Nat.zero_le _,hmu1,rfl,?_⟩
   simp only [go_sem,↓reduceIte,reduceIte,Qa,Qh,Qb,Qc,Qd,Qe,Qf,Qg,reduceCtorEq, *,-hTN,-ih,-e]
  ·rintro m A hM ts' hk ⟨i,M2,hm,f1,f2,f3,s1,s2,s3⟩
   simp only [go_sem,↓reduceIte,reduceIte,Qa,Qh,Qb,Qc,Qd,Qe,Qf,Qg,reduceCtorEq, *] at hk
   by_cases hlt:i < v.length
   ·rw [List.drop_eq_getElem_cons hlt,List.foldl_cons] at f3
    (repeat' (first
 | (with_reducible first|refine callX.hm (d:=1000) (g:=0) ?_ ?_ (ih v[i].kind v[i].name M2 f2) ?_|assumption|(refine Qw hK _ ?_; clear hK K)|refine Qw ‹_› _ ?_|refine Qx ‹_› ?_|refine Qi fun K hK=>?_|refine Qj T fun K hK=>?_|refine Ql fun A B hA hB=>?_|refine Qm ?_|refine Qn ?_|refine Qp ?_|refine Qr ?_)
 | ((with_reducible first|apply Qy|apply Qz|apply QA)<;>intro hb<;>try simp only [nr] at hb)
 | simp only [go_sem,↓reduceIte,reduceIte,Qa,Qh,Qb,Qc,Qd,Qe,Qf,Qg,reduceCtorEq, *,-hTN,-ih,-f3,-e]
 | with_reducible refine fun (bn:Bool) hbn=>?_))
    all_goals ((repeat clear hK); (repeat clear hA); (repeat clear hB))
    (refine hM.on (v.length - (i+1)) (by omega) (by simp only [go_sem,↓reduceIte,reduceIte,Qa,Qh,Qb,Qc,Qd,Qe,Qf,Qg,reduceCtorEq, *,w64_nat hlt hvs,-hTN,-ih,-f3,-e]) ⟨i+1,visF T0 N n v[i] M2,rfl,by omega,Nat.le_trans (mu_le fun x hx=>visF_grow T0 N n _ M2 x hx) f2,f3,?_⟩; simp only [go_sem,↓reduceIte,reduceIte,Qa,Qh,Qb,Qc,Qd,Qe,Qf,Qg,reduceCtorEq, *,w64_nat hlt hvs,-hTN,-ih,-f3,-e]; done)
   ·rw [List.drop_eq_nil_of_le (by omega),List.foldl_nil] at f3
    (repeat' (first
 | (with_reducible first|assumption|(refine Qw hK _ ?_; clear hK K)|refine Qw ‹_› _ ?_|refine Qx ‹_› ?_|refine Qi fun K hK=>?_|refine Qj T fun K hK=>?_|refine Ql fun A B hA hB=>?_|refine Qm ?_|refine Qn ?_|refine Qp ?_|refine Qr ?_)
 | ((with_reducible first|apply Qy|apply Qz|apply QA)<;>intro hb<;>try simp only [nr] at hb)
 | simp only [go_sem,↓reduceIte,reduceIte,Qa,Qh,Qb,Qc,Qd,Qe,Qf,Qg,reduceCtorEq, *,-hTN,-ih,-e]
 | with_reducible refine fun (bn:Bool) hbn=>?_))
theorem mem_ofR (l:List Res) (k:Key):∀ M:KS,isIn (ofR l M) k=(decide (k∈l.map keyOf) || isIn M k):=by
 unfold ofR
 induction l with
 | nil=>intro M; simp
 | cons r l ih =>
  intro M
  rw [List.foldl_cons,ih,isIn_put]
  by_cases h1:k=keyOf r<;>by_cases h2:k∈l.map keyOf<;>simp_all
def cat (k:Key) (l:List Res):List Key:=l.flatMap fun r=>if keyOf r=k then refsR r else []
theorem mem_cat {k x:Key} {l:List Res}:x∈cat k l↔∃ r∈l,keyOf r=k∧x∈refsR r:=by
 unfold cat
 rw [List.mem_flatMap]
 refine ⟨fun ⟨r,h1,h2⟩=>?_,fun ⟨r,h1,h2,h3⟩=>⟨r,h1,by rw [if_pos h2]; exact h3⟩⟩
 split at h2
 ·rename_i h; exact ⟨r,h1,h,h2⟩
 ·simp at h2
theorem cat_cons (k:Key) (r:Res) (l:List Res):cat k (r :: l)=(if keyOf r=k then refsR r else [])++cat k l:=rfl
theorem cat_len (k:Key):∀ l:List Res,(cat k l).length≤33 * l.length
 | []=>Nat.le_refl _
 | r :: l=>by
  have:=cat_len k l
  have:=refs_len r
  rw [cat_cons,List.length_append,List.length_cons]
  split<;>simp<;>omega
theorem fold_names (k:Key):∀ (l:List Res) (M:List (Key × List Key)),mget (l.foldl addN M) k=if k∈l.map keyOf then some ((mget M k).getD []++cat k l) else mget M k
 | [],M=>by simp
 | r :: l,M=>by
  have hm:mget (addN M r) k=if k=keyOf r then some ((mget M k).getD []++refsR r) else mget M k:=by
   unfold addN
   rw [mget_mput]
   by_cases h:k=keyOf r
   ·subst h; simp
   ·simp [h]
  rw [List.foldl_cons,fold_names k l,hm,cat_cons]
  by_cases h:k=keyOf r
  ·subst h
   simp only [if_true,List.map_cons,List.mem_cons,true_or,Option.getD_some,List.append_assoc]
   split
   ·rfl
   ·rename_i hn
    have:cat (keyOf r) l=[]:=List.eq_nil_iff_forall_not_mem.2 fun x hx=>by
     obtain ⟨q,h1,h2,_⟩:=mem_cat.1 hx
     exact hn (h2▸List.mem_map_of_mem h1)
    rw [this,List.append_nil]
  ·simp only [h,if_false,List.map_cons,List.mem_cons,false_or,show ¬ keyOf r=k from fun e=>h e.symm,List.nil_append]
theorem names_eq {l:List Res} {k:Key} (h:k∈l.map keyOf):mget (namesM l) k=some (cat k l):=by
 unfold namesM
 rw [fold_names,if_pos h]
 rfl
def reachF (T0:KS) (N:List (Key × List Key)) (n:Nat) (l:List Res) (M:KS):KS:=l.foldl (fun M r=>if r.kind=0 then visF T0 N n (keyOf r) M else M) M
def reachedM (l:List Res):KS:=reachF (ofR l []) (namesM l) (ofR l []).length l []
set_option maxHeartbeats 4000000 in
theorem reached_c (xs:List Res) (hl:xs.length≤65536) (hs:∀ r∈xs,SmRes r):CallR Tryz.prog 81 [.slice false (avs xs)] (.val (.mp (mks (reachedM xs)) (mvs (reachedM xs)))):=by
 have hsl:=small_le hl
 obtain ⟨T0,hT0⟩:∃ T0,ofR xs []=T0:=⟨_,rfl⟩
 obtain ⟨N,hN⟩:∃ N,namesM xs=N:=⟨_,rfl⟩
 have hTN:∀ k,isIn T0 k=true→∃ ks,mget N k=some ks∧Small ks.length:=fun k hk=>by
  rw [← hT0,mem_ofR] at hk
  have hk':k∈xs.map keyOf:=by simpa [isIn] using hk
  have:=cat_len k xs
  exact ⟨_,by rw [← hN]; exact names_eq hk',by unfold Small; omega⟩
 have hmu:∀ M,muV T0 M≤T0.length:=fun M=>List.length_filter_le _ _
 have hR:reachedM xs=reachF T0 N T0.length xs []:=by rw [← hT0,← hN]; rfl
 rw [hR]
 clear hR
 have hof:=refsOf_c xs hsl
 have hna:=rnames_c xs hl hs
 rw [hT0] at hof
 rw [hN] at hna
 refine QD (T:=T) Tryz.call81 Tryz.func81 rfl Tryz.ntmps81 (congrArg Array.toList Tryz.results81) (by decide) fun ts hn h0=>?_
 (repeat' (first
 | (with_reducible first|refine SpecC.mkRec T 3 fun K hK=>?_|refine callX.by (hof) ?_|refine callX.by (hna) ?_|refine callX.by (refsOf_c _ ?_) ?_|refine callX.by (rnames_c _ ?_ ?_) ?_|refine callX.by (rkey_c _ _ _ _ _ _ _) ?_|assumption|(refine Qw hK _ ?_; clear hK K)|refine Qw ‹_› _ ?_|refine Qx ‹_› ?_|refine Qi fun K hK=>?_|refine Qj T fun K hK=>?_|refine Qk (id:=8) T mixed Wd13 (by kernel_rfl) fun K hK=>?_|refine Ql fun A B hA hB=>?_|refine Qm ?_|refine Qn ?_|refine Qp ?_|refine Qr ?_)
 | ((with_reducible first|apply Qy|apply Qz|apply QA)<;>intro hb<;>try simp only [nr] at hb)
 | simp only [go_sem,↓reduceIte,reduceIte,Qa,Qh,Qb,Qc,Qd,Qe,Qf,Qg,reduceCtorEq, *,-hs,-hTN,-hmu,-hof,-hna,-hT0,-hN]
 | with_reducible refine fun (bn:Bool) hbn=>?_))
 have hp1:AV.pure (.ro [.mp (mks T0) (mvs T0)])=true:=by simp only [go_sem,Bool.and_self]
 have hp2:AV.pure (.ro [.mp (mks N) (mvs N)])=true:=by simp only [go_sem,Bool.and_self]
 have hre:∀ g n,(recV 139 (.ro [.mp (mks T0) (mvs T0)]) (.ro [.mref 13 g]) (.ro [.mp (mks N) (mvs N)]) n).renM 13 g 1000=recV 139 (.ro [.mp (mks T0) (mvs T0)]) (.ro [.mref 1000 0]) (.ro [.mp (mks N) (mvs N)]) n:=fun g n=>by
  rw [renM_recV _ _ _ _ _ _ _ _ hp1 hp2]; simp [AV.renM,AV.renM.renML]
 have hpe:∀ g n,(recV 139 (.ro [.mp (mks T0) (mvs T0)]) (.ro [.mref 13 g]) (.ro [.mp (mks N) (mvs N)]) n).pureH 13 g=true:=fun g n =>
  pureH_recV _ _ _ _ _ _ _ hp1 (by simp [AV.pureH,AV.pureH.pureHL]) hp2
 refine SpecC.ent (Ent.frzRec 139 (T0.length+1) 3 5 4 6 (x:=.mp (mks T0) (mvs T0)) (y:=.mref 13 (ts.gen 13+1)) (z:=.mp (mks N) (mvs N)) (by simp only [go_sem,↓reduceIte,reduceIte,Qa,Qh,Qb,Qc,Qd,Qe,Qf,Qg,reduceCtorEq, *,-hs,-hTN,-hmu,-hof,-hna,-hT0,-hN,-hp1,-hp2]; done) (by simp only [go_sem,↓reduceIte,reduceIte,Qa,Qh,Qb,Qc,Qd,Qe,Qf,Qg,reduceCtorEq, *,-hs,-hTN,-hmu,-hof,-hna,-hT0,-hN,-hp1,-hp2]; done) (by simp only [go_sem,↓reduceIte,reduceIte,Qa,Qh,Qb,Qc,Qd,Qe,Qf,Qg,reduceCtorEq, *,-hs,-hTN,-hmu,-hof,-hna,-hT0,-hN,-hp1,-hp2]; done) (by simp only [go_sem,↓reduceIte,reduceIte,Qa,Qh,Qb,Qc,Qd,Qe,Qf,Qg,reduceCtorEq, *,-hs,-hTN,-hmu,-hof,-hna,-hT0,-hN,-hp1,-hp2]; done)) ?_
 refine Qs [5,6,15,16] (fun m ts'=>∃ (i:Nat),∃ (M:KS),m=xs.length - i∧i≤xs.length∧reachF T0 N T0.length xs []=reachF T0 N T0.length (xs.drop i) M∧ts'.gen 13=ts.gen 13+1∧ts'.obj 13=.mp (mks M) (mvs M)∧ts'.tmp 17=.int .i64 i) xs.length ?_ ?_
 ·refine ⟨0,[],rfl,Nat.zero_le _,rfl,?_⟩
  simp only [go_sem,↓reduceIte,reduceIte,Qa,Qh,Qb,Qc,Qd,Qe,Qf,Qg,reduceCtorEq, *,-hs,-hTN,-hmu,-hof,-hna,-hT0,-hN,-hp1,-hp2]
 ·rintro m A hM ts' hk ⟨i,M,hm,f1,f2,s1,s2,s3⟩
  simp only [go_sem,↓reduceIte,reduceIte,Qa,Qh,Qb,Qc,Qd,Qe,Qf,Qg,reduceCtorEq, *] at hk
  have hxx:∀ x∈xs,True:=fun _ _=>trivial
  clear hof hna hs hxx
  by_cases hlt:i < xs.length
  ·have hstep:reachF T0 N T0.length (xs.drop i) M=reachF T0 N T0.length (xs.drop (i+1)) (if xs[i].kind=0 then visF T0 N T0.length (keyOf xs[i]) M else M):=by
    rw [List.drop_eq_getElem_cons hlt]; rfl
   rw [hstep] at f2
   clear hstep
   (repeat' (first
 | (with_reducible first|refine callX.hm (d:=13) (g:=ts.gen 13+1) ?_ ?_ (visit_c T0 N hTN T0.length xs[i].kind xs[i].name M (hmu M)) ?_|refine callX.by (refsOf_c _ ?_) ?_|refine callX.by (rnames_c _ ?_ ?_) ?_|refine callX.by (rkey_c _ _ _ _ _ _ _) ?_|assumption|(refine Qw hK _ ?_; clear hK K)|refine Qw ‹_› _ ?_|refine Qx ‹_› ?_|refine Qi fun K hK=>?_|refine Qj T fun K hK=>?_|refine Qk (id:=8) T mixed Wd13 (by kernel_rfl) fun K hK=>?_|refine Ql fun A B hA hB=>?_|refine Qm ?_|refine Qn ?_|refine Qp ?_|refine Qr ?_)
 | ((with_reducible first|apply Qy|apply Qz|apply QA)<;>intro hb<;>try simp only [nr] at hb)
 | simp only [go_sem,↓reduceIte,reduceIte,Qa,Qh,Qb,Qc,Qd,Qe,Qf,Qg,reduceCtorEq, *,-hTN,-hmu,-hT0,-hN,-hp1,-hp2,-f2,recV_succ,false_and,true_and]
 | with_reducible refine fun (bn:Bool) hbn=>?_))
   all_goals ((repeat clear hK); (repeat clear hA); (repeat clear hB))
   ·rw [if_pos (of_decide_eq_true hb)] at f2
    (refine hM.on (xs.length - (i+1)) (by omega) (by simp only [go_sem,↓reduceIte,reduceIte,Qa,Qh,Qb,Qc,Qd,Qe,Qf,Qg,reduceCtorEq, *,w64_nat hlt hsl,keyOf,-hTN,-hmu,-hT0,-hN,-hp1,-hp2,-f2]) ⟨i+1,visF T0 N T0.length (keyOf xs[i]) M,rfl,by omega,f2,?_⟩; simp only [go_sem,↓reduceIte,reduceIte,Qa,Qh,Qb,Qc,Qd,Qe,Qf,Qg,reduceCtorEq, *,w64_nat hlt hsl,keyOf,-hTN,-hmu,-hT0,-hN,-hp1,-hp2,-f2]; done)
   ·rw [if_neg (of_decide_eq_false hb)] at f2
    (refine hM.on (xs.length - (i+1)) (by omega) (by simp only [go_sem,↓reduceIte,reduceIte,Qa,Qh,Qb,Qc,Qd,Qe,Qf,Qg,reduceCtorEq, *,w64_nat hlt hsl,keyOf,-hTN,-hmu,-hT0,-hN,-hp1,-hp2,-f2]) ⟨i+1,M,rfl,by omega,f2,?_⟩; simp only [go_sem,↓reduceIte,reduceIte,Qa,Qh,Qb,Qc,Qd,Qe,Qf,Qg,reduceCtorEq, *,w64_nat hlt hsl,keyOf,-hTN,-hmu,-hT0,-hN,-hp1,-hp2,-f2]; done)
  ·rw [List.drop_eq_nil_of_le (by omega)] at f2
   have f3:reachF T0 N T0.length xs []=M:=f2
   clear f2
   (repeat' (first
 | (with_reducible first|refine callX.by (refsOf_c _ ?_) ?_|refine callX.by (rnames_c _ ?_ ?_) ?_|refine callX.by (rkey_c _ _ _ _ _ _ _) ?_|assumption|(refine Qw hK _ ?_; clear hK K)|refine Qw ‹_› _ ?_|refine Qx ‹_› ?_|refine Qi fun K hK=>?_|refine Qj T fun K hK=>?_|refine Qk (id:=8) T mixed Wd13 (by kernel_rfl) fun K hK=>?_|refine Ql fun A B hA hB=>?_|refine Qm ?_|refine Qn ?_|refine Qp ?_|refine Qr ?_)
 | ((with_reducible first|apply Qy|apply Qz|apply QA)<;>intro hb<;>try simp only [nr] at hb)
 | simp only [go_sem,↓reduceIte,reduceIte,Qa,Qh,Qb,Qc,Qd,Qe,Qf,Qg,reduceCtorEq, *,-hTN,-hmu,-hT0,-hN,-hp1,-hp2,false_and,true_and]
 | with_reducible refine fun (bn:Bool) hbn=>?_))
theorem caps_map (M:KS):Caps [.ro [.mp (mks M) (mvs M)]]:=⟨by simp only [go_sem,Bool.and_self],by simp only [go_sem]⟩
theorem reach1_c (r_kind:Int) (r_name:List UInt8) (r_ver:Int) (r_port:Int) (r_to:List UInt8) (r_rules:List Rule) (r_hosts:List Int) (M:KS):CallR Tryz.prog 84 [.agg [.int .i64 r_kind,.str r_name,.int .i64 r_ver,.int .i64 r_port,.str r_to,.slice false (avs r_rules),.slice false (avs r_hosts)],.ro [.mp (mks M) (mvs M)]] (.val (.bool (!isIn M (keyOf (⟨r_kind,r_name,r_ver,r_port,r_to,r_rules,r_hosts⟩:Res))))):=by
 refine CallR.go2 (T:=T) Tryz.call84 Tryz.func84 rfl Tryz.ntmps84 (congrArg Array.toList Tryz.results84) (by decide) fun ts hn h0 h1=>?_
 (repeat' (first
 | (with_reducible first|refine callX.by (rkey_c _ _ _ _ _ _ _) ?_|assumption|(refine Qw hK _ ?_; clear hK K)|refine Qw ‹_› _ ?_|refine Qx ‹_› ?_|refine Qi fun K hK=>?_|refine Qj T fun K hK=>?_|refine Qk (id:=1) T mixed [([4],[5,6]),([5],[4]),([6],[4])] (by kernel_rfl) fun K hK=>?_|refine Ql fun A B hA hB=>?_|refine Qn ?_|refine Qr ?_)
 | ((with_reducible first|apply Qy|apply Qz|apply QA)<;>intro hb<;>try simp only [nr] at hb)
 | simp only [go_sem,↓reduceIte,reduceIte,Qa,Qh,Qb,Qc,Qd,Qe,Qf,Qg,reduceCtorEq, *]
 | with_reducible refine fun (bn:Bool) hbn=>?_))
 all_goals rfl
def reachR (l:List Res):List Res:=l.filter fun r=>isIn (reachedM l) (keyOf r)
theorem reachR_len (l:List Res):(reachR l).length≤l.length:=List.length_filter_le _ _
theorem reachU_c (xs:List Res) (hl:xs.length≤65536) (hs:∀ r∈xs,SmRes r):CallR Tryz.prog 22 [.slice false (avs xs)] (.own 7 (avs (reachR xs))):=by
 have hsl:=small_le hl
 have hd:=deleteFRes_c 84 [.ro [.mp (mks (reachedM xs)) (mvs (reachedM xs))]] (caps_map _) (fun r=>!isIn (reachedM xs) (keyOf r)) xs (fun x _=>reach1_c x.kind x.name x.ver x.port x.to' x.rules' x.hosts _) hsl
 simp only [Bool.not_not] at hd
 have e:xs.filter (fun x=>isIn (reachedM xs) (keyOf x))=reachR xs:=rfl
 rw [e] at hd
 refine QD (T:=T) Tryz.call22 Tryz.func22 rfl Tryz.ntmps22 (congrArg Array.toList Tryz.results22) (by decide) fun ts hn h0=>?_
 (repeat' (first
 | (with_reducible refine callX.mv ?_ ?_ ?_ (hd); (focus (simp only [go_sem,↓reduceIte,reduceIte,Qa,Qh,Qb,Qc,Qd,Qe,Qf,Qg,reduceCtorEq, *,-hs,-hd,-e]; first|done|rfl)); (focus (simp only [go_sem,↓reduceIte,reduceIte,Qa,Qh,Qb,Qc,Qd,Qe,Qf,Qg,reduceCtorEq, *,-hs,-hd,-e]; first|done|rfl)))
 | (with_reducible first|refine callX.by (reached_c _ ?_ ?_) ?_|refine callX.by (cloneRes_c _ _ ?_) ?_)
 | (with_reducible refine callX.mv ?_ ?_ ?_ (deleteFRes_c ?_ ?_ ?_ ?_ ?_ ?_ ?_); (focus (simp only [go_sem,↓reduceIte,reduceIte,Qa,Qh,Qb,Qc,Qd,Qe,Qf,Qg,reduceCtorEq, *,-hs,-hd,-e]; first|done|rfl)); (focus (simp only [go_sem,↓reduceIte,reduceIte,Qa,Qh,Qb,Qc,Qd,Qe,Qf,Qg,reduceCtorEq, *,-hs,-hd,-e]; first|done|rfl)))
 | (with_reducible first|assumption|(refine Qw hK _ ?_; clear hK K)|refine Qw ‹_› _ ?_|refine Qx ‹_› ?_|refine Qi fun K hK=>?_|refine Qj T fun K hK=>?_|refine Ql fun A B hA hB=>?_|refine Qn ?_|refine Qr ?_)
 | ((with_reducible first|apply Qy|apply Qz|apply QA)<;>intro hb<;>try simp only [nr] at hb)
 | simp only [go_sem,↓reduceIte,reduceIte,Qa,Qh,Qb,Qc,Qd,Qe,Qf,Qg,reduceCtorEq, *,-hs,-hd,-e]
 | with_reducible refine fun (bn:Bool) hbn=>?_))
theorem orph1_c (k_kind:Int) (k_name:List UInt8) (M:KS):CallR Tryz.prog 94 [.agg [.int .i64 k_kind,.str k_name],.ro [.mp (mks M) (mvs M)]] (.val (.bool (isIn M (⟨k_kind,k_name⟩:Key)))):=by
 refine CallR.go2 (T:=T) Tryz.call94 Tryz.func94 rfl Tryz.ntmps94 (congrArg Array.toList Tryz.results94) (by decide) fun ts hn h0 h1=>?_
 (repeat' (first
 | (with_reducible first|assumption|(refine Qw hK _ ?_; clear hK K)|refine Qw ‹_› _ ?_|refine Qx ‹_› ?_|refine Qi fun K hK=>?_|refine Qj T fun K hK=>?_|refine Ql fun A B hA hB=>?_|refine Qn ?_|refine Qr ?_)
 | ((with_reducible first|apply Qy|apply Qz|apply QA)<;>intro hb<;>try simp only [nr] at hb)
 | simp only [go_sem,↓reduceIte,reduceIte,Qa,Qh,Qb,Qc,Qd,Qe,Qf,Qg,reduceCtorEq, *]
 | with_reducible refine fun (bn:Bool) hbn=>?_))
 all_goals rfl
def orphans (l:List Res):List Key:=(l.map keyOf).filter fun k=>!isIn (reachedM l) k
theorem orphansU_c (xs:List Res) (hl:xs.length≤65536) (hs:∀ r∈xs,SmRes r):CallR Tryz.prog 28 [.slice false (avs xs)] (.own 2 (avs (orphans xs))):=by
 have hsl:=small_le hl
 have hkl:Small (xs.map keyOf).length:=by simpa using hsl
 have hlk:(xs.map keyOf).length=xs.length:=List.length_map _
 have hd:=deleteFKey_c 94 [.ro [.mp (mks (reachedM xs)) (mvs (reachedM xs))]] (caps_map _) (fun k=>isIn (reachedM xs) k) (xs.map keyOf) (fun x _=>orph1_c x.kind x.name _) hkl
 have e:(xs.map keyOf).filter (fun x=>!isIn (reachedM xs) x)=orphans xs:=rfl
 rw [e] at hd
 have htk:(xs.map keyOf).take xs.length=xs.map keyOf:=List.take_of_length_le (by omega)
 refine QD (T:=T) Tryz.call28 Tryz.func28 rfl Tryz.ntmps28 (congrArg Array.toList Tryz.results28) (by decide) fun ts hn h0=>?_
 (repeat' (first
 | (with_reducible refine callX.mv ?_ ?_ ?_ (hd); (focus (simp only [go_sem,↓reduceIte,reduceIte,Qa,Qh,Qb,Qc,Qd,Qe,Qf,Qg,reduceCtorEq, *,-hs,-hd,-e]; first|done|rfl)); (focus (simp only [go_sem,↓reduceIte,reduceIte,Qa,Qh,Qb,Qc,Qd,Qe,Qf,Qg,reduceCtorEq, *,-hs,-hd,-e]; first|done|rfl)))
 | (with_reducible first|refine callX.by (reached_c _ ?_ ?_) ?_|refine callX.by (tkeys_c _ ?_) ?_)
 | (with_reducible refine callX.mv ?_ ?_ ?_ (deleteFKey_c ?_ ?_ ?_ ?_ ?_ ?_ ?_); (focus (simp only [go_sem,↓reduceIte,reduceIte,Qa,Qh,Qb,Qc,Qd,Qe,Qf,Qg,reduceCtorEq, *,-hs,-hd,-e]; first|done|rfl)); (focus (simp only [go_sem,↓reduceIte,reduceIte,Qa,Qh,Qb,Qc,Qd,Qe,Qf,Qg,reduceCtorEq, *,-hs,-hd,-e]; first|done|rfl)))
 | (with_reducible first|assumption|(refine Qw hK _ ?_; clear hK K)|refine Qw ‹_› _ ?_|refine Qx ‹_› ?_|refine Qi fun K hK=>?_|refine Qj T fun K hK=>?_|refine Ql fun A B hA hB=>?_|refine Qn ?_|refine Qr ?_)
 | ((with_reducible first|apply Qy|apply Qz|apply QA)<;>intro hb<;>try simp only [nr] at hb)
 | simp only [go_sem,↓reduceIte,reduceIte,Qa,Qh,Qb,Qc,Qd,Qe,Qf,Qg,reduceCtorEq, *,-hs,-hd,-e]
 | with_reducible refine fun (bn:Bool) hbn=>?_))
theorem served1_c (k_kind:Int) (k_name:List UInt8) (M:KS):CallR Tryz.prog 87 [.agg [.int .i64 k_kind,.str k_name],.ro [.mp (mks M) (mvs M)]] (.val (.bool (!isIn M (⟨k_kind,k_name⟩:Key)))):=by
 refine CallR.go2 (T:=T) Tryz.call87 Tryz.func87 rfl Tryz.ntmps87 (congrArg Array.toList Tryz.results87) (by decide) fun ts hn h0 h1=>?_
 (repeat' (first
 | (with_reducible first|assumption|(refine Qw hK _ ?_; clear hK K)|refine Qw ‹_› _ ?_|refine Qx ‹_› ?_|refine Qi fun K hK=>?_|refine Qj T fun K hK=>?_|refine Ql fun A B hA hB=>?_|refine Qn ?_|refine Qr ?_)
 | ((with_reducible first|apply Qy|apply Qz|apply QA)<;>intro hb<;>try simp only [nr] at hb)
 | simp only [go_sem,↓reduceIte,reduceIte,Qa,Qh,Qb,Qc,Qd,Qe,Qf,Qg,reduceCtorEq, *]
 | with_reducible refine fun (bn:Bool) hbn=>?_))
 all_goals rfl
def bare (r:Res):Bool:=decide (r.kind=3) && decide (r.hosts.length=0)
theorem served2_c (r_kind:Int) (r_name:List UInt8) (r_ver:Int) (r_port:Int) (r_to:List UInt8) (r_rules:List Rule) (r_hosts:List Int):CallR Tryz.prog 89 [.agg [.int .i64 r_kind,.str r_name,.int .i64 r_ver,.int .i64 r_port,.str r_to,.slice false (avs r_rules),.slice false (avs r_hosts)]] (.val (.bool (bare (⟨r_kind,r_name,r_ver,r_port,r_to,r_rules,r_hosts⟩:Res)))):=by
 refine QD (T:=T) Tryz.call89 Tryz.func89 rfl Tryz.ntmps89 (congrArg Array.toList Tryz.results89) (by decide) fun ts hn h0=>?_
 (repeat' (first
 | (with_reducible first|assumption|(refine Qw hK _ ?_; clear hK K)|refine Qw ‹_› _ ?_|refine Qx ‹_› ?_|refine Qi fun K hK=>?_|refine Qj T fun K hK=>?_|refine Ql fun A B hA hB=>?_|refine Qn ?_|refine Qr ?_)
 | ((with_reducible first|apply Qy|apply Qz|apply QA)<;>intro hb<;>try simp only [nr] at hb)
 | simp only [go_sem,↓reduceIte,reduceIte,Qa,Qh,Qb,Qc,Qd,Qe,Qf,Qg,reduceCtorEq, *]
 | with_reducible refine fun (bn:Bool) hbn=>?_))
 all_goals simp_all [bare]
def lacks (M:KS) (r:Res):Bool:=(refsR r).any fun k=>!isIn M k
def served (l:List Res):Int:=if (reachR l).any (lacks (ofR l []))=true then 6 else if (reachR l).any bare=true then 7 else 0
set_option maxHeartbeats 4000000 in
theorem servedU_c (xs:List Res) (hl:xs.length≤65536) (hs:∀ r∈xs,SmRes r):CallR Tryz.prog 24 [.slice false (avs xs)] (.val (.int .i64 (served xs))):=by
 have hsl:=small_le hl
 have hrl:=reachR_len xs
 have hrs:Small (reachR xs).length:=small_le (by omega)
 have hr1:=reachU_c xs hl hs
 have hsr:∀ r∈reachR xs,SmRes r:=fun r hr=>hs r (List.mem_filter.1 hr).1
 have hc2:=conFRes_c 89 [] Caps.nil bare (reachR xs) (fun x _=>served2_c x.kind x.name x.ver x.port x.to' x.rules' x.hosts) hrs
 obtain ⟨M,hM0⟩:∃ M,ofR xs []=M:=⟨_,rfl⟩
 have hof:=refsOf_c xs hsl
 have hsv:served xs=if (reachR xs).any (lacks M)=true then 6 else if (reachR xs).any bare=true then 7 else 0:=by rw [← hM0]; rfl
 rw [hM0] at hof
 clear hM0
 obtain ⟨R,hR⟩:∃ R,reachR xs=R:=⟨_,rfl⟩
 rw [hR] at hr1 hsr hc2 hsv hrs hrl
 clear hR hs
 refine QD (T:=T) Tryz.call24 Tryz.func24 rfl Tryz.ntmps24 (congrArg Array.toList Tryz.results24) (by decide) fun ts hn h0=>?_
 (repeat' (first
 | (with_reducible first|refine callX.by (hof) ?_|refine callX.by (hr1) ?_|refine callX.by (refsOf_c _ ?_) ?_|refine callX.by (reachU_c _ ?_ ?_) ?_|refine callX.by (reach_c _ ?_ ?_ _) ?_|refine callX.by a6rc ?_|refine callX.by (refsR_c _ _ _ _ _ _ _ ?_ ?_ ?_) ?_|refine callX.by awqc ?_|refine callX.by (conFKey_c _ _ ?_ _ _ ?_ ?_) ?_|refine callX.by (conFRes_c _ _ ?_ _ _ ?_ ?_) ?_|refine callX.by (served2_c _ _ _ _ _ _ _) ?_|assumption|(refine Qw hK _ ?_; clear hK K)|refine Qw ‹_› _ ?_|refine Qx ‹_› ?_|refine Qi fun K hK=>?_|refine Qj T fun K hK=>?_|refine Ql fun A B hA hB=>?_|refine Qm ?_|refine Qn ?_|refine Qp ?_|refine Qr ?_)
 | ((with_reducible first|apply Qy|apply Qz|apply QA)<;>intro hb<;>try simp only [nr] at hb)
 | simp only [go_sem,↓reduceIte,reduceIte,Qa,Qh,Qb,Qc,Qd,Qe,Qf,Qg,reduceCtorEq, *,-hr1,-hsr,-hc2,-hof,-hsv]
 | with_reducible refine fun (bn:Bool) hbn=>?_))
 refine SpecC.ent (Ent.frzBox _ 3) ?_
 refine Qs [3,4,11,12] (fun m ts'=>∃ (i:Nat),m=R.length - i∧i≤R.length∧R.any (lacks M)=(R.drop i).any (lacks M)∧ts'.gen 10=ts.gen 10+1∧ts'.obj 10=.arr 7 (avs R)∧ts'.tmp 13=.int .i64 i) R.length ?_ ?_
 ·refine ⟨0,?_⟩
  simp only [go_sem,↓reduceIte,reduceIte,Qa,Qh,Qb,Qc,Qd,Qe,Qf,Qg,reduceCtorEq, *,-hr1,-hsr,-hc2,-hof,-hsv]
 ·rintro m A hM ts' hk ⟨i,hm,f1,f2,s1,s2,s3⟩
  simp only [go_sem,↓reduceIte,reduceIte,Qa,Qh,Qb,Qc,Qd,Qe,Qf,Qg,reduceCtorEq, *] at hk
  by_cases hlt:i < R.length
  ·rw [List.drop_eq_getElem_cons hlt,List.any_cons] at f2
   obtain ⟨_,_,hx1,hx2,hx3⟩:=hsr _ (List.getElem_mem hlt)
   have hql:=refs_len R[i]
   have hqs:Small (refsR R[i]).length:=by unfold Small; omega
   have hc1:=conFKey_c 87 [.ro [.mp (mks M) (mvs M)]] (caps_map M) (fun k=>!isIn M k) (refsR R[i]) (fun x _=>served1_c x.kind x.name M) hqs
   have hlk:(refsR R[i]).any (fun k=>!isIn M k)=lacks M R[i]:=rfl
   rw [hlk] at hc1
   clear hr1 hof hlk
   (repeat' (first
 | (with_reducible first|refine callX.by (hc1) ?_|refine callX.by (refsOf_c _ ?_) ?_|refine callX.by (reachU_c _ ?_ ?_) ?_|refine callX.by (reach_c _ ?_ ?_ _) ?_|refine callX.by a6rc ?_|refine callX.by (refsR_c _ _ _ _ _ _ _ ?_ ?_ ?_) ?_|refine callX.by awqc ?_|refine callX.by (conFKey_c _ _ ?_ _ _ ?_ ?_) ?_|refine callX.by (conFRes_c _ _ ?_ _ _ ?_ ?_) ?_|refine callX.by (served2_c _ _ _ _ _ _ _) ?_|assumption|(refine Qw hK _ ?_; clear hK K)|refine Qw ‹_› _ ?_|refine Qx ‹_› ?_|refine Qi fun K hK=>?_|refine Qj T fun K hK=>?_|refine Ql fun A B hA hB=>?_|refine Qm ?_|refine Qn ?_|refine Qp ?_|refine Qr ?_)
 | ((with_reducible first|apply Qy|apply Qz|apply QA)<;>intro hb<;>try simp only [nr] at hb)
 | simp only [go_sem,↓reduceIte,reduceIte,Qa,Qh,Qb,Qc,Qd,Qe,Qf,Qg,reduceCtorEq, *,-hsr,-hc1,-hc2,-hsv,-hx2,-f2]
 | with_reducible refine fun (bn:Bool) hbn=>?_))
   all_goals ((repeat clear hK); (repeat clear hA); (repeat clear hB))
   ·rw [hb,Bool.true_or] at f2
    rw [hsv,if_pos f2]
   ·rw [hb,Bool.false_or] at f2
    (refine hM.on (R.length - (i+1)) (by omega) (by simp only [go_sem,↓reduceIte,reduceIte,Qa,Qh,Qb,Qc,Qd,Qe,Qf,Qg,reduceCtorEq, *,w64_nat hlt hrs,-hsr,-hc1,-hc2,-hsv,-hx2,-f2]) ⟨i+1,rfl,by omega,f2,?_⟩; simp only [go_sem,↓reduceIte,reduceIte,Qa,Qh,Qb,Qc,Qd,Qe,Qf,Qg,reduceCtorEq, *,w64_nat hlt hrs,-hsr,-hc1,-hc2,-hsv,-hx2,-f2]; done)
  ·rw [List.drop_eq_nil_of_le (by omega),List.any_nil] at f2
   rw [f2] at hsv
   simp only [Bool.false_eq_true,if_false] at hsv
   clear hr1 hof f2
   have htkR:(avs R).take R.length=avs R:=List.take_of_length_le (by simp [avs])
   (repeat' (first
 | (with_reducible first|refine callX.by (hc2) ?_|refine callX.by (refsOf_c _ ?_) ?_|refine callX.by (reachU_c _ ?_ ?_) ?_|refine callX.by (reach_c _ ?_ ?_ _) ?_|refine callX.by a6rc ?_|refine callX.by (refsR_c _ _ _ _ _ _ _ ?_ ?_ ?_) ?_|refine callX.by awqc ?_|refine callX.by (conFKey_c _ _ ?_ _ _ ?_ ?_) ?_|refine callX.by (conFRes_c _ _ ?_ _ _ ?_ ?_) ?_|refine callX.by (served2_c _ _ _ _ _ _ _) ?_|assumption|(refine Qw hK _ ?_; clear hK K)|refine Qw ‹_› _ ?_|refine Qx ‹_› ?_|refine Qi fun K hK=>?_|refine Qj T fun K hK=>?_|refine Ql fun A B hA hB=>?_|refine Qm ?_|refine Qn ?_|refine Qp ?_|refine Qr ?_)
 | ((with_reducible first|apply Qy|apply Qz|apply QA)<;>intro hb<;>try simp only [nr] at hb)
 | simp only [go_sem,↓reduceIte,reduceIte,Qa,Qh,Qb,Qc,Qd,Qe,Qf,Qg,reduceCtorEq, *,-hsr,-hc2,-hsv]
 | with_reducible refine fun (bn:Bool) hbn=>?_))
   all_goals ((repeat clear hK); (repeat clear hA); (repeat clear hB))
   all_goals (rw [hsv]; simp [hb])
theorem reach_c (xs:List Res) (hl:xs.length≤65536) (hs:∀ r∈xs,SmRes r) (_:(xs.map keyOf).Nodup):CallR Tryz.prog 22 [.slice false (avs xs)]
  (.own 7 (avs (reachR xs))):=reachU_c xs hl hs
theorem orphans_c (xs:List Res) (hl:xs.length≤65536) (hs:∀ r∈xs,SmRes r) (_:(xs.map keyOf).Nodup):CallR Tryz.prog 28 [.slice false (avs xs)]
  (.own 2 (avs (orphans xs))):=orphansU_c xs hl hs
theorem served_c (xs:List Res) (hl:xs.length≤65536) (hs:∀ r∈xs,SmRes r) (_:(xs.map keyOf).Nodup):CallR Tryz.prog 24 [.slice false (avs xs)]
  (.val (.int .i64 (served xs))):=servedU_c xs hl hs
end Go.Proofs.YtmjkjmoeicnbnaaGreatDoor.Lg
