/- Parts of the proof, one behind the other. -/
import Derived.Test.YtmjkjmoeicnbnaaGreatDoorG16
namespace Go.Proofs.YtmjkjmoeicnbnaaGreatDoor.Lg
set_option maxRecDepth 100000
set_option linter.unusedVariables false
set_option linter.unusedSimpArgs false
open Go
open Nat renaming reduceEqDiff → Qa, reduceLT → Qb, reduceLeDiff → Qc, reduceAdd → Qd, reduceMul → Qe, reduceSub → Qf, reduceBEq → Qg
open String renaming reduceEq → Qh
open NxK renaming out → Qw
@[go_sem] def Jd1:List (List Nat×List Nat):=[([16],[17,19,20]),([17],[16,19,20]),([19],[16,17]),([20],[16,17]),([21,7],[]),([18],[23]),([22],[23]),([23],[18,22])]
instance:Dat (List Key) where
 av l:=.slice false (Ja l)
 sz:=1
 len _:=rfl
 pure l:=by simp only[go_sem]
 nrm l:=by simp only[go_sem]
 one _:=rfl
 known _:=rfl
theorem Ji8(l:List Key):Dat.av l=.slice false (Ja l):=rfl
section
variable {α β:Type}
theorem Jk2 [Dat α](M:List (α×β))(p:α×β):Jo (M++[p])=Jo M++[Dat.av p.1]:=by simp[Jo,Ja]
theorem Jmu{γ:Type}(l:List γ)(x y:γ)(n:Nat)(h:n=l.length):(l++[x]).set n y=l++[y]:=by subst h;simp
end
def Vn(M:List (Key×List Key))(r:Res):List (Key×List Key):=JQ M (Je r) ((Jy M (Je r)).getD []++Jk r)
def YK(l:List Res):List (Key×List Key):=l.foldl Vn []
def YQ:Key×List Key:=(⟨0,[]⟩,[])
def J2(h:Nat→Nat)(M:List (Key×List Key)):List AV:=(List.range M.length).map fun j=>.os (j+1000) (h j) (M.getD j YQ).2.length
theorem Ja4(h:Nat→Nat)(M:List (Key×List Key)):(J2 h M).length=M.length:=by simp[J2]
theorem Jhz(h:Nat→Nat){M:List (Key×List Key)}{j:Nat}(hj:j<M.length):(J2 h M).getD j .any=.os (j+1000) (h j) (M.getD j YQ).2.length:=by
 simp[J2,hj]
theorem Jlq(h:Nat→Nat)(M:List (Key×List Key))(p:Key×List Key)(g:Nat):J2 h M++[.os (M.length+1000) g p.2.length]=J2 (fun i=>if i=M.length then g else h i) (M++[p]):=by
 refine List.ext_getElem (by simp[Ja4]) fun i h1 h2=>?_
 have hi:i≤M.length:=by simp[Ja4] at h1;omega
 by_cases hl:i<M.length
 ·have hne:¬i=M.length:=by omega
  simp[J2,hl,List.getElem_append,hne,List.getElem?_append]
 ·have:i=M.length:=by omega
  subst this
  simp[J2,List.getElem_append]
theorem Jlp(h:Nat→Nat)(M:List (Key×List Key))(p:Key×List Key)(g j:Nat)(hj:j<M.length):(J2 h M).set j (.os (j+1000) g p.2.length)=J2 (fun i=>if i=j then g else h i) (M.set j p):=by
 refine List.ext_getElem (by simp[Ja4]) fun i h1 h2=>?_
 have hi:i<M.length:=by simpa[Ja4] using h1
 by_cases hl:i=j
 ·subst hl
  simp[J2,hi]
 ·simp[J2,List.getElem_set,Ne.symm hl,hl,List.getElem?_set]
theorem JfK{M:List (Key×List Key)}{r:Res}(h:JB (Je r) M=none):Vn M r=M++[(Je r,Jk r)]:=by
 unfold Vn
 rw[Jk3 _ (Ja1 h),Ja1 h]
 rfl
theorem JfL{M:List (Key×List Key)}{r:Res}{j:Nat}(h:JB (Je r) M=some j):Vn M r=M.set j (Je r,(M.getD j YQ).2++Jk r):=by
 obtain⟨h1,h2⟩:=Ja0 h
 unfold Vn JQ
 rw[h,h2]
 simp[h1]
theorem JfJ(M:List (Key×List Key))(r:Res):(Vn M r).length≤M.length+1:=by
 cases h:JB (Je r) M with
 |none=>rw[JfK h];simp
 |some j=>rw[JfL h];simp
set_option maxHeartbeats 8000000 in
theorem JdE(xs:List Res)(hl:xs.length≤65536)(hs:∀r∈xs,Jw r):CallR Tryz.prog 138 [.slice false (Ja xs)] (.val (.mp (Jo (YK xs)) (Js (YK xs)))):=by
 have hsl:=Yz hl
 refine CallR.go1 (T:=T) Tryz.call138 Tryz.func138 rfl Tryz.ntmps138 (congrArg Array.toList Tryz.results138) (by decide) fun ts hn h0=>?_
 (repeat' (first
 | (with_reducible first|refine callX.by (J8 _ _ _ _ _ _ _) ?_|refine callX.by (JaB _ _ _ _ _ _ _ ?_ ?_ ?_) ?_|refine callX.by JaP ?_|assumption|(refine Qw hK _ ?_;clear hK K)|refine Qw ‹_› _ ?_|refine Nx.out ‹_› ?_|refine SpecC.seqW fun K hK=>?_|refine SpecC.regW T fun K hK=>?_|refine SpecC.drawW (id:=6) T mixed Jd1 (by kernel_rfl) fun K hK=>?_|refine SpecC.condW fun A B hA hB=>?_|refine SpecC.block ?_|refine SpecC.skip ?_|refine SpecC.exit ?_|refine SpecC.ret ?_)
 | ((with_reducible first|apply condK.split|apply gK.split_t|apply gK.split_f)<;>intro hb<;>try simp only[nr] at hb)
 |simp only[go_sem,↓reduceIte,reduceIte,Qa,Qh,Qb,Qc,Qd,Qe,Qf,Qg,reduceCtorEq, *,-hs]
 |with_reducible refine fun(bn:Bool) hbn=>?_))
 refine SpecC.loopF [8,9] (fun m ts'=>∃(i:Nat),∃(g:Nat),∃(M:List (Key×List Key)),∃(h:Nat→Nat),m=xs.length-i∧i≤xs.length∧YK xs=(xs.drop i).foldl Vn M∧M.length≤i∧(∀p∈M,p.2.length≤33*i)∧(∀j,j<M.length→ts'.obj (j+1000)=.arr 2 (Ja (M.getD j YQ).2)∧ts'.gen (j+1000)=h j)∧ts'.tmp 3=.mref 7 g∧ts'.gen 7=g∧ts'.obj 7=.mp (Jo M) (J2 h M)∧ts'.tmp 10=.int .i64 i) xs.length ?_ ?_
 ·refine⟨0,ts.gen 7+1,[],fun _=>0,rfl,Nat.zero_le _,rfl,Nat.le_refl _,by simp,fun j hj=>absurd hj (by simp),?_⟩
  simp only[go_sem,↓reduceIte,reduceIte,Qa,Qh,Qb,Qc,Qd,Qe,Qf,Qg,reduceCtorEq, *,-hs,show J2 (fun _=>0) []=[] from rfl]
 ·rintro m A hM ts' hk ⟨i,g,M,h,hm,f1,f2,f3,f4,f5,s1,s2,s3,s4⟩
  simp only[go_sem,↓reduceIte,reduceIte,Qa,Qh,Qb,Qc,Qd,Qe,Qf,Qg,reduceCtorEq, *] at hk
  by_cases hlt:i<xs.length
  ·rw[List.drop_eq_getElem_cons hlt,List.foldl_cons] at f2
   obtain⟨_,_,hx1,hx2,hx3⟩:=hs _ (List.getElem_mem hlt)
   have hrl:=JbJ xs[i]
   have hrs:Jc (Jk xs[i]).length:=by unfold Jc;omega
   have hr1:JT (Jk xs[i]).length 24:=Jaa (by omega) (by decide)
   cases hix:JB ⟨xs[i].kind,xs[i].name⟩ M with
   |none =>
    have hol:(J2 h M).length=M.length:=Ja4 h M
    have hset:∀y x:AV,(J2 h M++[y]).set M.length x=J2 h M++[x]:=fun y x=>Jmu _ _ _ _ hol.symm
    have hgd:∀x:AV,(J2 h M++[x]).getD M.length .any=x:=fun x=>by simp[List.getD_eq_getElem?_getD,hol]
    have hlt1:(M.length:Int)<((M.length+1:Nat):Int):=by omega
    have hlt2:M.length<M.length+1:=by omega
    (repeat' (first
 | (with_reducible first|refine callX.by (J8 _ _ _ _ _ _ _) ?_|refine callX.by (JaB _ _ _ _ _ _ _ ?_ ?_ ?_) ?_|refine callX.by JaP ?_|assumption|(refine Qw hK _ ?_;clear hK K)|refine Qw ‹_› _ ?_|refine Nx.out ‹_› ?_|refine SpecC.seqW fun K hK=>?_|refine SpecC.regW T fun K hK=>?_|refine SpecC.drawW (id:=6) T mixed Jd1 (by kernel_rfl) fun K hK=>?_|refine SpecC.condW fun A B hA hB=>?_|refine SpecC.block ?_|refine SpecC.skip ?_|refine SpecC.exit ?_|refine SpecC.ret ?_)
 | ((with_reducible first|apply condK.split|apply gK.split_t|apply gK.split_f)<;>intro hb<;>try simp only[nr] at hb)
 |simp only[go_sem,↓reduceIte,reduceIte,Qa,Qh,Qb,Qc,Qd,Qe,Qf,Qg,reduceCtorEq, *,-hs,-hx2,-f2,-f4,-f5]
 |with_reducible refine fun(bn:Bool) hbn=>?_))
    all_goals ((repeat clear hK);(repeat clear hA);(repeat clear hB))
    have e:=JfK (r:=xs[i]) hix
    have ek:Jo M++[.agg [.int .i64 xs[i].kind,.str xs[i].name]]=Jo (Vn M xs[i]):=by rw[e,Jk2];rfl
    have ev:J2 h M++[AV.os (M.length+1000) (ts'.gen (M.length+1000)+1) (Jk xs[i]).length]=J2 (fun u=>if u=M.length then ts'.gen (M.length+1000)+1 else h u) (Vn M xs[i]):=by rw[e];exact Jlq h M (Je xs[i],Jk xs[i]) _
    have hal:=JfJ M xs[i]
    refine hM.onE (xs.length-(i+1)) (Ent.renM2 7 M.length 22 (M.length+1000) (Jk xs[i]).length ?_) (by omega) ?_ ?_
    ·simp only[go_sem,↓reduceIte,reduceIte,Qa,Qh,Qb,Qc,Qd,Qe,Qf,Qg,reduceCtorEq, *,-hs,-hx2,-f2,-f4,-f5,-e,-ek,-ev]
     done
    ·simp only[go_sem,↓reduceIte,reduceIte,Qa,Qh,Qb,Qc,Qd,Qe,Qf,Qg,reduceCtorEq, *,-hs,-hx2,-f2,-f4,-f5,-e,-ek,-ev]
     done
    ·refine⟨i+1,g,Vn M xs[i],fun u=>if u=M.length then ts'.gen (M.length+1000)+1 else h u,rfl,by omega,f2,by omega,fun p hp=>?_,fun q hq=>?_,?_⟩
     ·rw[e] at hp
      rcases List.mem_append.1 hp with hp|hp
      ·have:=f4 p hp;omega
      ·rw[List.mem_singleton] at hp;subst hp;show(Jk xs[i]).length≤_;omega
     ·by_cases hql:q=M.length
      ·subst hql
       have e1:((Vn M xs[i]).getD M.length YQ).2=Jk xs[i]:=by rw[e];simp
       simp only[go_sem,↓reduceIte,reduceIte,Qa,Qh,Qb,Qc,Qd,Qe,Qf,Qg,reduceCtorEq, *,-hs,-hx2,-f2,-f4,-f5,-e,-ek,-ev]
       done
      ·have hq2:q<M.length:=by rw[e] at hq;simp at hq;omega
       have e1:(Vn M xs[i]).getD q YQ=M.getD q YQ:=by rw[e];simp[List.getElem?_append,hq2]
       obtain⟨f6,f7⟩:=f5 q hq2
       simp only[go_sem,↓reduceIte,reduceIte,Qa,Qh,Qb,Qc,Qd,Qe,Qf,Qg,reduceCtorEq, *,-hs,-hx2,-f2,-f4,-f5,-e,-ek,-ev]
       done
     ·simp only[go_sem,↓reduceIte,reduceIte,Qa,Qh,Qb,Qc,Qd,Qe,Qf,Qg,reduceCtorEq, *,Jd hlt hsl,-hs,-hx2,-f2,-f4,-f5,-e,hgd]
      all_goals trace_state
   |some j =>
    obtain⟨hj,hk0⟩:=JgJ hix
    obtain⟨f6,f7⟩:=f5 j hj
    have e:=JfL (r:=xs[i]) hix
    have hvl:(M.getD j YQ).2.length≤33*i:=f4 _ (by simp[hj])
    generalize hV:(M.getD j YQ).2=V at *
    have hol:(J2 h M).length=M.length:=Ja4 h M
    have hjo:j<(J2 h M).length:=by omega
    have hgo:(J2 h M).getD j .any=.os (j+1000) (ts'.gen (j+1000)) V.length:=by rw[Jhz h hj,f7,hV]
    refine SpecC.ent (Ent.renM2 7 j (j+1000) 900 V.length ?_) ?_
    ·simp only[go_sem,↓reduceIte,reduceIte,Qa,Qh,Qb,Qc,Qd,Qe,Qf,Qg,reduceCtorEq, *,-hs,-hx2,-f2,-f4,-f5,-e]
     done
    have hset:∀y x:AV,((J2 h M).set j y).set j x=(J2 h M).set j x:=fun y x=>by rw[List.set_set]
    have hgd:∀x:AV,((J2 h M).set j x).getD j .any=x:=fun x=>by simp[hjo]
    have hks:(Jo M).set j (.agg [.int .i64 xs[i].kind,.str xs[i].name])=Jo M:=by
     refine List.ext_getElem (by simp) fun u h1 h2=>?_
     rw[List.getElem_set]
     split
     ·rename_i hu
      subst hu
      have:(Jo M)[j]=Dat.av (M[j]).1:=by simp[Jo,Ja]
      rw[this,hk0,Jeb]
     ·rfl
    have hjl:(j:Int)<(M.length:Int):=by omega
    have hls:∀x:AV,((J2 h M).set j x).length=M.length:=fun x=>by simp[hol]
    have hr2:JT (V.length+(Jk xs[i]).length) 24:=Jaa (by omega) (by decide)
    (repeat' (first
 | (with_reducible first|refine callX.by (J8 _ _ _ _ _ _ _) ?_|refine callX.by (JaB _ _ _ _ _ _ _ ?_ ?_ ?_) ?_|refine callX.by JaP ?_|assumption|(refine Qw hK _ ?_;clear hK K)|refine Qw ‹_› _ ?_|refine Nx.out ‹_› ?_|refine SpecC.seqW fun K hK=>?_|refine SpecC.regW T fun K hK=>?_|refine SpecC.drawX (id:=6) T mixed [([16],[17,19,20]),([17],[16,19,20]),([19],[16,17]),([20],[16,17]),([7,21],[]),([18],[23]),([22,900],[23]),([23],[18,22,900])] (by kernel_rfl) fun K hK=>?_|refine SpecC.condW fun A B hA hB=>?_|refine SpecC.block ?_|refine SpecC.skip ?_|refine SpecC.exit ?_|refine SpecC.ret ?_)
 | ((with_reducible first|apply condK.split|apply gK.split_t|apply gK.split_f)<;>intro hb<;>try simp only[nr] at hb)
 |simp only[go_sem,↓reduceIte,reduceIte,Qa,Qh,Qb,Qc,Qd,Qe,Qf,Qg,reduceCtorEq, *,-hs,-hx2,-f2,-f4,-f5,-e,-hV]
 |with_reducible refine fun(bn:Bool) hbn=>?_))
    all_goals ((repeat clear hK);(repeat clear hA);(repeat clear hB))
    have hlen:(V++Jk xs[i]).length=V.length+(Jk xs[i]).length:=List.length_append
    have ek:Jo M=Jo (Vn M xs[i]):=by
     rw[e]
     refine List.ext_getElem (by simp[Jo,Ja]) fun u h1 h2=>?_
     simp only[Jo,Ja,List.getElem_map,List.getElem_set]
     split
     ·rename_i hu;subst hu;rw[hk0];rfl
     ·rfl
    have ev:(J2 h M).set j (AV.os (j+1000) (ts'.gen (j+1000)+1) (V.length+(Jk xs[i]).length))=J2 (fun u=>if u=j then ts'.gen (j+1000)+1 else h u) (Vn M xs[i]):=by
     rw[e,←hlen];exact Jlp h M (Je xs[i],V++Jk xs[i]) _ j hj
    have hal:=JfJ M xs[i]
    refine hM.onE (xs.length-(i+1)) (Ent.renM2 7 j 22 (j+1000) (V.length+(Jk xs[i]).length) ?_) (by omega) ?_ ?_
    ·simp only[go_sem,↓reduceIte,reduceIte,Qa,Qh,Qb,Qc,Qd,Qe,Qf,Qg,reduceCtorEq, *,-hs,-hx2,-f2,-f4,-f5,-e,-ek,-ev,-hV]
     done
    ·simp only[go_sem,↓reduceIte,reduceIte,Qa,Qh,Qb,Qc,Qd,Qe,Qf,Qg,reduceCtorEq, *,-hs,-hx2,-f2,-f4,-f5,-e,-ek,-ev,-hV]
     done
    ·refine⟨i+1,g,Vn M xs[i],fun u=>if u=j then ts'.gen (j+1000)+1 else h u,rfl,by omega,f2,by omega,fun p hp=>?_,fun q hq=>?_,?_⟩
     ·rw[e] at hp
      rcases List.mem_or_eq_of_mem_set hp with hp|hp
      ·have:=f4 p hp;omega
      ·subst hp;show(V++Jk xs[i]).length≤_;omega
     ·by_cases hql:q=j
      ·subst hql
       have e1:((Vn M xs[i]).getD q YQ).2=V++Jk xs[i]:=by rw[e];simp[hj]
       simp only[go_sem,↓reduceIte,reduceIte,Qa,Qh,Qb,Qc,Qd,Qe,Qf,Qg,reduceCtorEq, *,-hs,-hx2,-f2,-f4,-f5,-e,-ek,-ev,-hV]
       all_goals trace_state
      ·have hq2:q<M.length:=by rw[e] at hq;simpa using hq
       have e1:(Vn M xs[i]).getD q YQ=M.getD q YQ:=by rw[e];simp[List.getElem?_set,Ne.symm hql]
       obtain⟨g6,g7⟩:=f5 q hq2
       simp only[go_sem,↓reduceIte,reduceIte,Qa,Qh,Qb,Qc,Qd,Qe,Qf,Qg,reduceCtorEq, *,-hs,-hx2,-f2,-f4,-f5,-e,-ek,-ev,-hV]
       all_goals trace_state
     ·simp only[go_sem,↓reduceIte,reduceIte,Qa,Qh,Qb,Qc,Qd,Qe,Qf,Qg,reduceCtorEq, *,Jd hlt hsl,-hs,-hx2,-f2,-f4,-f5,-e,-hV,-ek]
      rw[f7] at ev
      rw[←ek,ev]
  ·rw[List.drop_eq_nil_of_le (by omega)] at f2
   have e:YK xs=M:=f2
   rw[e]
   obtain⟨ts2,r1,r2,r3,r4,r5,r6⟩:=Ent.frzFrom (d:=7) (B:=1000) (sz:=2) (ks:=Jo M) (xs:=M.map fun p=>Ja p.2) (by omega) M.length ts' (J2 h M) (by simp) s3 (by simp[Ja4]) (fun j hj _=>by
     have hj:j<M.length:=by simpa using hj
     obtain⟨f6,f7⟩:=f5 j hj
     have e2:(M.map fun p=>Ja p.2).getD j []=Ja (M.getD j YQ).2:=by simp[hj]
     rw[e2,Jhz h hj,f6,f7,JgT]
     exact⟨rfl,rfl⟩) (fun j hj=>absurd hj (by simp))
   have em:(M.map fun p=>Ja p.2).map (AV.slice false)=Js M:=by
    simp only[Js,Ja,List.map_map]
    rfl
   rw[em] at r5
   refine SpecC.ent r1 ?_
   (repeat' (first
 | (with_reducible first|refine callX.by (J8 _ _ _ _ _ _ _) ?_|refine callX.by (JaB _ _ _ _ _ _ _ ?_ ?_ ?_) ?_|refine callX.by JaP ?_|assumption|(refine Qw hK _ ?_;clear hK K)|refine Qw ‹_› _ ?_|refine Nx.out ‹_› ?_|refine SpecC.seqW fun K hK=>?_|refine SpecC.regW T fun K hK=>?_|refine SpecC.drawW (id:=6) T mixed Jd1 (by kernel_rfl) fun K hK=>?_|refine SpecC.condW fun A B hA hB=>?_|refine SpecC.block ?_|refine SpecC.skip ?_|refine SpecC.exit ?_|refine SpecC.ret ?_)
 | ((with_reducible first|apply condK.split|apply gK.split_t|apply gK.split_f)<;>intro hb<;>try simp only[nr] at hb)
 |simp only[go_sem,↓reduceIte,reduceIte,Qa,Qh,Qb,Qc,Qd,Qe,Qf,Qg,reduceCtorEq, *,-hs,-f2,-f4,-f5,-e,-em,-r6,r2,r3,r4]
 |with_reducible refine fun(bn:Bool) hbn=>?_))
   all_goals rw[e]
end Go.Proofs.YtmjkjmoeicnbnaaGreatDoor.Lg
namespace Go.Proofs.YtmjkjmoeicnbnaaGreatDoor.Lg
set_option maxRecDepth 100000
set_option linter.unusedVariables false
set_option linter.unusedSimpArgs false
open Go
open Nat renaming reduceEqDiff → Qa, reduceLT → Qb, reduceLeDiff → Qc, reduceAdd → Qd, reduceMul → Qe, reduceSub → Qf, reduceBEq → Qg
open String renaming reduceEq → Qh
open SpecC renaming seqW → Qi, regW → Qj, drawW → Qk, condW → Ql, block → Qm, skip → Qn, exit → Qp, ret → Qr, loopF → Qs
open NxK renaming out → Qw
open Nx renaming out → Qx
open condK renaming split → Qy
open gK renaming split_t → Qz, split_f → QA
@[go_sem] def Jd2:List (List Nat×List Nat):=[([24],[25,26]),([25],[24]),([26],[24])]
abbrev KS:=List (Key×Bool)
def Jm(M:KS)(k:Key):Bool:=(Jy M k).getD false
def JO(T0:KS)(N:List (Key×List Key)):Nat→Key→KS→KS
 |0,_,M=>M
 |n+1,k,M=>if Jm T0 k=true∧Jm M k=false then ((Jy N k).getD []).foldl (fun M x=>JO T0 N n x M) (JQ M k true) else M
def Yv(T0 M:KS):Nat:=(T0.filter fun p=>p.2 && !Jm M p.1).length
theorem JaZ(M:KS)(k x:Key):Jm (JQ M k true) x=(decide (x=k) || Jm M x):=by
 unfold Jm
 rw[JeJ]
 by_cases h:x=k<;>simp[h]
theorem JdR(T0:KS)(N:List (Key×List Key)):∀(n:Nat) (k:Key) (M:KS) (x:Key),Jm M x=true→Jm (JO T0 N n k M) x=true
 |0,_,_,_,h=>h
 |n+1,k,M,x,h=>by
  unfold JO
  split
  ·have:∀(l:List Key) (M:KS),Jm M x=true→Jm (l.foldl (fun M y=>JO T0 N n y M) M) x=true:=by
    intro l
    induction l with
    |nil=>exact fun M h=>h
    |cons y l ih=>exact fun M h=>ih _ (JdR T0 N n y M x h)
   exact this _ _ (by rw[JaZ];simp[h])
  ·exact h
theorem Jg2{T0 M M':KS}(h:∀x,Jm M x=true→Jm M' x=true):Yv T0 M'≤Yv T0 M:=by
 unfold Yv
 rw[←List.countP_eq_length_filter,←List.countP_eq_length_filter]
 refine List.countP_mono_left fun p _ hp=>?_
 simp only[Bool.and_eq_true,Bool.not_eq_true'] at hp ⊢
 refine⟨hp.1,?_⟩
 cases hm:Jm M p.1 with
 |false=>rfl
 |true=>rw[h _ hm] at hp;simp at hp
theorem JkY{α β:Type} [DecidableEq α]{M:List (α×β)}{x:α}{v:β}(h:Jy M x=some v):(x,v)∈M:=by
 unfold Jy at h
 obtain⟨p,h1,h2⟩:=Option.map_eq_some_iff.1 h
 have h3:=List.find?_some h1
 have h4:=List.mem_of_find?_eq_some h1
 have:p.1=x:=by simpa using(of_decide_eq_true h3).symm
 rw[←this,←h2];exact h4
theorem Jkp{M:KS}{k:Key}(h:Jm M k=true):(k,true)∈M:=by
 unfold Jm at h
 cases hm:Jy M k with
 |none=>rw[hm] at h;simp at h
 |some b=>rw[hm] at h;simp at h;subst h;exact JkY hm
theorem Jdh{T0 M:KS}{k:Key}(h1:Jm T0 k=true)(h2:Jm M k=false):Yv T0 (JQ M k true)<Yv T0 M:=by
 have hm:=Jkp h1
 unfold Yv
 have key:∀(l:KS),(l.filter fun p=>p.2 && !Jm (JQ M k true) p.1).length≤(l.filter fun p=>p.2 && !Jm M p.1).length∧((k,true)∈l→(l.filter fun p=>p.2 && !Jm (JQ M k true) p.1).length<(l.filter fun p=>p.2 && !Jm M p.1).length):=by
  intro l
  induction l with
  |nil=>simp
  |cons p l ih =>
   obtain⟨i1,i2⟩:=ih
   have hp:(p.2 && !Jm (JQ M k true) p.1)=true→(p.2 && !Jm M p.1)=true:=by
    rw[JaZ]
    simp only[Bool.and_eq_true,Bool.not_eq_true',Bool.or_eq_false_iff]
    exact fun⟨a,_,b⟩=>⟨a,b⟩
   refine⟨?_,fun hmem=>?_⟩
   ·rw[List.filter_cons,List.filter_cons]
    by_cases q1:(p.2 && !Jm (JQ M k true) p.1)=true
    ·rw[if_pos q1,if_pos (hp q1)];simp;exact i1
    ·rw[if_neg q1]
     split
     ·simp;omega
     ·exact i1
   ·rw[List.filter_cons,List.filter_cons]
    rcases List.mem_cons.1 hmem with rfl|hmem
    ·rw[if_neg (by rw[JaZ];simp),if_pos (by simp[h2])]
     simp;omega
    ·have:=i2 hmem
     by_cases q1:(p.2 && !Jm (JQ M k true) p.1)=true
     ·rw[if_pos q1,if_pos (hp q1)];simp;exact this
     ·rw[if_neg q1]
      split
      ·simp;omega
      ·exact this
 exact(key T0).2 hm
theorem JkN{N:List (Key×List Key)}{k:Key}{v:List Key}(h:Jy N k=some v)(z:AV):Yh false z (Js N) (JB k N)=.slice false (Ja v):=by
 cases hi:JB k N with
 |none=>rw[Ja1 hi] at h;cases h
 |some i =>
  obtain⟨h1,h2⟩:=Ja0 hi
  rw[h2] at h
  cases h
  show(Js N).getD i .any=_
  unfold Js
  rw[JcR _ i (by simpa using h1)]
  simp[Ji8]
set_option maxHeartbeats 4000000 in
theorem Jpr(T0:KS)(N:List (Key×List Key))(hTN:∀k,Jm T0 k=true→∃ks,Jy N k=some ks∧Jc ks.length):∀(n:Nat) (k_kind:Int) (k_name:List UInt8) (M:KS),Yv T0 M≤n →
  CallH Tryz.prog 139 1000 [.agg [.int .i64 k_kind,.str k_name],.ro [.mp (Jo T0) (Js T0)],.ro [.mref 1000 0],.ro [.mp (Jo N) (Js N)],VU 139 (.ro [.mp (Jo T0) (Js T0)]) (.ro [.mref 1000 0]) (.ro [.mp (Jo N) (Js N)]) n] (Jo M) (Js M) (.tup [])
   (Jo (JO T0 N n (⟨k_kind,k_name⟩:Key) M)) (Js (JO T0 N n (⟨k_kind,k_name⟩:Key) M)):=by
 intro n
 induction n with
 |zero =>
  intro k_kind k_name M hmu
  have hno:¬(Jm T0 (⟨k_kind,k_name⟩:Key)=true∧Jm M (⟨k_kind,k_name⟩:Key)=false):=fun⟨h1,h2⟩=>by have:=Jdh h1 h2;omega
  have e:JO T0 N 0 (⟨k_kind,k_name⟩:Key) M=M:=rfl
  rw[e]
  refine CallH.go5 (T:=T) Tryz.call139 Tryz.func139 rfl Tryz.ntmps139 (congrArg Array.toList Tryz.results139) (by decide) fun ts hn h0 h1 h2 h3 h4 hg ho=>?_
  by_cases hT:(Jy T0 (⟨k_kind,k_name⟩:Key)).getD false=true
  ·have hO:(Jy M (⟨k_kind,k_name⟩:Key)).getD false=true:=by
    cases hm:(Jy M (⟨k_kind,k_name⟩:Key)).getD false with
    |true=>rfl
    |false=>exact absurd ⟨hT,hm⟩ hno
   (repeat' (first
 | (with_reducible first|assumption|(refine Qw hK _ ?_;clear hK K)|refine Qw ‹_› _ ?_|refine Qx ‹_› ?_|refine Qi fun K hK=>?_|refine Qj T fun K hK=>?_|refine Ql fun A B hA hB=>?_|refine Qm ?_|refine Qn ?_|refine Qp ?_|refine Qr ?_)
 | ((with_reducible first|apply Qy|apply Qz|apply QA)<;>intro hb<;>try simp only[nr] at hb)
 |simp only[go_sem,↓reduceIte,reduceIte,Qa,Qh,Qb,Qc,Qd,Qe,Qf,Qg,reduceCtorEq, *,-hTN,-hno,-h4]
 |with_reducible refine fun(bn:Bool) hbn=>?_))
  ·have hT:(Jy T0 (⟨k_kind,k_name⟩:Key)).getD false=false:=by simpa using hT
   (repeat' (first
 | (with_reducible first|assumption|(refine Qw hK _ ?_;clear hK K)|refine Qw ‹_› _ ?_|refine Qx ‹_› ?_|refine Qi fun K hK=>?_|refine Qj T fun K hK=>?_|refine Ql fun A B hA hB=>?_|refine Qm ?_|refine Qn ?_|refine Qp ?_|refine Qr ?_)
 | ((with_reducible first|apply Qy|apply Qz|apply QA)<;>intro hb<;>try simp only[nr] at hb)
 |simp only[go_sem,↓reduceIte,reduceIte,Qa,Qh,Qb,Qc,Qd,Qe,Qf,Qg,reduceCtorEq, *,-hTN,-hno,-h4]
 |with_reducible refine fun(bn:Bool) hbn=>?_))
 |succ n ih =>
  intro k_kind k_name M hmu
  by_cases hT:(Jy T0 (⟨k_kind,k_name⟩:Key)).getD false=true
  rotate_left
  ·have hT:(Jy T0 (⟨k_kind,k_name⟩:Key)).getD false=false:=by simpa using hT
   have e:JO T0 N (n+1) (⟨k_kind,k_name⟩:Key) M=M:=by unfold JO;rw[if_neg (by simp[Jm,hT])]
   rw[e]
   refine CallH.go5 (T:=T) Tryz.call139 Tryz.func139 rfl Tryz.ntmps139 (congrArg Array.toList Tryz.results139) (by decide) fun ts hn h0 h1 h2 h3 h4 hg ho=>?_
   (repeat' (first
 | (with_reducible first|assumption|(refine Qw hK _ ?_;clear hK K)|refine Qw ‹_› _ ?_|refine Qx ‹_› ?_|refine Qi fun K hK=>?_|refine Qj T fun K hK=>?_|refine Ql fun A B hA hB=>?_|refine Qm ?_|refine Qn ?_|refine Qp ?_|refine Qr ?_)
 | ((with_reducible first|apply Qy|apply Qz|apply QA)<;>intro hb<;>try simp only[nr] at hb)
 |simp only[go_sem,↓reduceIte,reduceIte,Qa,Qh,Qb,Qc,Qd,Qe,Qf,Qg,reduceCtorEq, *,-hTN,-h4]
 |with_reducible refine fun(bn:Bool) hbn=>?_))
  by_cases hO:(Jy M (⟨k_kind,k_name⟩:Key)).getD false=true
  ·have e:JO T0 N (n+1) (⟨k_kind,k_name⟩:Key) M=M:=by unfold JO;rw[if_neg (by simp[Jm,hO])]
   rw[e]
   refine CallH.go5 (T:=T) Tryz.call139 Tryz.func139 rfl Tryz.ntmps139 (congrArg Array.toList Tryz.results139) (by decide) fun ts hn h0 h1 h2 h3 h4 hg ho=>?_
   (repeat' (first
 | (with_reducible first|assumption|(refine Qw hK _ ?_;clear hK K)|refine Qw ‹_› _ ?_|refine Qx ‹_› ?_|refine Qi fun K hK=>?_|refine Qj T fun K hK=>?_|refine Ql fun A B hA hB=>?_|refine Qm ?_|refine Qn ?_|refine Qp ?_|refine Qr ?_)
 | ((with_reducible first|apply Qy|apply Qz|apply QA)<;>intro hb<;>try simp only[nr] at hb)
 |simp only[go_sem,↓reduceIte,reduceIte,Qa,Qh,Qb,Qc,Qd,Qe,Qf,Qg,reduceCtorEq, *,-hTN,-h4]
 |with_reducible refine fun(bn:Bool) hbn=>?_))
  have hO:(Jy M (⟨k_kind,k_name⟩:Key)).getD false=false:=by simpa using hO
  obtain⟨v,hv,hvs⟩:=hTN (⟨k_kind,k_name⟩:Key) hT
  have hlk:=JkN hv
  have e:JO T0 N (n+1) (⟨k_kind,k_name⟩:Key) M=v.foldl (fun M x=>JO T0 N n x M) (JQ M (⟨k_kind,k_name⟩:Key) true):=by
   rw[JO,if_pos ⟨hT,hO⟩,hv];rfl
  rw[e]
  have hmu1:Yv T0 (JQ M (⟨k_kind,k_name⟩:Key) true)≤n:=by have:=Jdh (T0:=T0) (M:=M) hT hO;omega
  refine CallH.go5 (T:=T) Tryz.call139 Tryz.func139 rfl Tryz.ntmps139 (congrArg Array.toList Tryz.results139) (by decide) fun ts hn h0 h1 h2 h3 h4 hg ho=>?_
  rw[JeZ] at h4
  (repeat' (first
 | (with_reducible first|assumption|(refine Qw hK _ ?_;clear hK K)|refine Qw ‹_› _ ?_|refine Qx ‹_› ?_|refine Qi fun K hK=>?_|refine Qj T fun K hK=>?_|refine Ql fun A B hA hB=>?_|refine Qm ?_|refine Qn ?_|refine Qp ?_|refine Qr ?_)
 | ((with_reducible first|apply Qy|apply Qz|apply QA)<;>intro hb<;>try simp only[nr] at hb)
 |simp only[go_sem,↓reduceIte,reduceIte,Qa,Qh,Qb,Qc,Qd,Qe,Qf,Qg,reduceCtorEq, *,-hTN,-ih]
 |with_reducible refine fun(bn:Bool) hbn=>?_))
  have hre:(VU 139 (.ro [.mp (Jo T0) (Js T0)]) (.ro [.mref 1000 0]) (.ro [.mp (Jo N) (Js N)]) n).renM 1000 0 1000=VU 139 (.ro [.mp (Jo T0) (Js T0)]) (.ro [.mref 1000 0]) (.ro [.mp (Jo N) (Js N)]) n :=
   JhR _ _ _ _ _ _ _ _ (by simp only[go_sem,Bool.and_self]) (by simp only[go_sem,Bool.and_self])
  have hpe:(VU 139 (.ro [.mp (Jo T0) (Js T0)]) (.ro [.mref 1000 0]) (.ro [.mp (Jo N) (Js N)]) n).pureH 1000 0=true :=
   JhD _ _ _ _ _ _ _ (by simp only[go_sem,Bool.and_self]) (by decide) (by simp only[go_sem,Bool.and_self])
  refine Qs [4,21,22] (fun m ts'=>∃(i:Nat),∃(M2:KS),m=v.length-i∧i≤v.length∧Yv T0 M2≤n∧v.foldl (fun M x=>JO T0 N n x M) (JQ M (⟨k_kind,k_name⟩:Key) true)=(v.drop i).foldl (fun M x=>JO T0 N n x M) M2∧ts'.gen 1000=0∧ts'.obj 1000=.mp (Jo M2) (Js M2)∧ts'.tmp 23=.int .i64 i) v.length ?_ ?_
  ·refine⟨0,JQ M (⟨k_kind,k_name⟩:Key) true,rfl,Nat.zero_le _,hmu1,rfl,?_⟩
   simp only[go_sem,↓reduceIte,reduceIte,Qa,Qh,Qb,Qc,Qd,Qe,Qf,Qg,reduceCtorEq, *,-hTN,-ih,-e]
  ·rintro m A hM ts' hk ⟨i,M2,hm,f1,f2,f3,s1,s2,s3⟩
   simp only[go_sem,↓reduceIte,reduceIte,Qa,Qh,Qb,Qc,Qd,Qe,Qf,Qg,reduceCtorEq, *] at hk
   by_cases hlt:i<v.length
   ·rw[List.drop_eq_getElem_cons hlt,List.foldl_cons] at f3
    (repeat' (first
 | (with_reducible first|refine callX.hm (d:=1000) (g:=0) ?_ ?_ (ih v[i].kind v[i].name M2 f2) ?_|assumption|(refine Qw hK _ ?_;clear hK K)|refine Qw ‹_› _ ?_|refine Qx ‹_› ?_|refine Qi fun K hK=>?_|refine Qj T fun K hK=>?_|refine Ql fun A B hA hB=>?_|refine Qm ?_|refine Qn ?_|refine Qp ?_|refine Qr ?_)
 | ((with_reducible first|apply Qy|apply Qz|apply QA)<;>intro hb<;>try simp only[nr] at hb)
 |simp only[go_sem,↓reduceIte,reduceIte,Qa,Qh,Qb,Qc,Qd,Qe,Qf,Qg,reduceCtorEq, *,-hTN,-ih,-f3,-e]
 |with_reducible refine fun(bn:Bool) hbn=>?_))
    all_goals ((repeat clear hK);(repeat clear hA);(repeat clear hB))
    (refine hM.on (v.length-(i+1)) (by omega) (by simp only[go_sem,↓reduceIte,reduceIte,Qa,Qh,Qb,Qc,Qd,Qe,Qf,Qg,reduceCtorEq, *,Jd hlt hvs,-hTN,-ih,-f3,-e]) ⟨i+1,JO T0 N n v[i] M2,rfl,by omega,Nat.le_trans (Jg2 fun x hx=>JdR T0 N n _ M2 x hx) f2,f3,?_⟩;simp only[go_sem,↓reduceIte,reduceIte,Qa,Qh,Qb,Qc,Qd,Qe,Qf,Qg,reduceCtorEq, *,Jd hlt hvs,-hTN,-ih,-f3,-e];done)
   ·rw[List.drop_eq_nil_of_le (by omega),List.foldl_nil] at f3
    (repeat' (first
 | (with_reducible first|assumption|(refine Qw hK _ ?_;clear hK K)|refine Qw ‹_› _ ?_|refine Qx ‹_› ?_|refine Qi fun K hK=>?_|refine Qj T fun K hK=>?_|refine Ql fun A B hA hB=>?_|refine Qm ?_|refine Qn ?_|refine Qp ?_|refine Qr ?_)
 | ((with_reducible first|apply Qy|apply Qz|apply QA)<;>intro hb<;>try simp only[nr] at hb)
 |simp only[go_sem,↓reduceIte,reduceIte,Qa,Qh,Qb,Qc,Qd,Qe,Qf,Qg,reduceCtorEq, *,-hTN,-ih,-e]
 |with_reducible refine fun(bn:Bool) hbn=>?_))
theorem JgX(l:List Res)(k:Key):∀M:KS,Jm (JY l M) k=(decide (k∈l.map Je) || Jm M k):=by
 unfold JY
 induction l with
 |nil=>intro M;simp
 |cons r l ih =>
  intro M
  rw[List.foldl_cons,ih,JaZ]
  by_cases h1:k=Je r<;>by_cases h2:k∈l.map Je<;>simp_all
def ZP(k:Key)(l:List Res):List Key:=l.flatMap fun r=>if Je r=k then Jk r else []
theorem mem_cat{k x:Key}{l:List Res}:x∈ZP k l↔∃r∈l,Je r=k∧x∈Jk r:=by
 unfold ZP
 rw[List.mem_flatMap]
 refine⟨fun⟨r,h1,h2⟩=>?_,fun⟨r,h1,h2,h3⟩=>⟨r,h1,by rw[if_pos h2];exact h3⟩⟩
 split at h2
 ·rename_i h;exact⟨r,h1,h,h2⟩
 ·simp at h2
theorem Jf0(k:Key)(r:Res)(l:List Res):ZP k (r :: l)=(if Je r=k then Jk r else [])++ZP k l:=rfl
theorem Jf1(k:Key):∀l:List Res,(ZP k l).length≤33*l.length
 | []=>Nat.le_refl _
 |r :: l=>by
  have:=Jf1 k l
  have:=JbJ r
  rw[Jf0,List.length_append,List.length_cons]
  split<;>simp<;>omega
theorem Jgt(k:Key):∀(l:List Res) (M:List (Key×List Key)),Jy (l.foldl Vn M) k=if k∈l.map Je then some ((Jy M k).getD []++ZP k l) else Jy M k
 | [],M=>by simp
 |r :: l,M=>by
  have hm:Jy (Vn M r) k=if k=Je r then some ((Jy M k).getD []++Jk r) else Jy M k:=by
   unfold Vn
   rw[JeJ]
   by_cases h:k=Je r
   ·subst h;simp
   ·simp[h]
  rw[List.foldl_cons,Jgt k l,hm,Jf0]
  by_cases h:k=Je r
  ·subst h
   simp only[if_true,List.map_cons,List.mem_cons,true_or,Option.getD_some,List.append_assoc]
   split
   ·rfl
   ·rename_i hn
    have:ZP (Je r) l=[]:=List.eq_nil_iff_forall_not_mem.2 fun x hx=>by
     obtain⟨q,h1,h2,_⟩:=mem_cat.1 hx
     exact hn (h2▸List.mem_map_of_mem h1)
    rw[this,List.append_nil]
  ·simp only[h,if_false,List.map_cons,List.mem_cons,false_or,show ¬Je r=k from fun e=>h e.symm,List.nil_append]
theorem Jg4{l:List Res}{k:Key}(h:k∈l.map Je):Jy (YK l) k=some (ZP k l):=by
 unfold YK
 rw[Jgt,if_pos h]
 rfl
def YM(T0:KS)(N:List (Key×List Key))(n:Nat)(l:List Res)(M:KS):KS:=l.foldl (fun M r=>if r.kind=0 then JO T0 N n (Je r) M else M) M
def ZG(l:List Res):KS:=YM (JY l []) (YK l) (JY l []).length l []
set_option maxHeartbeats 4000000 in
theorem JlU(xs:List Res)(hl:xs.length≤65536)(hs:∀r∈xs,Jw r):CallR Tryz.prog 81 [.slice false (Ja xs)] (.val (.mp (Jo (ZG xs)) (Js (ZG xs)))):=by
 have hsl:=Yz hl
 obtain⟨T0,hT0⟩:∃T0,JY xs []=T0:=⟨_,rfl⟩
 obtain⟨N,hN⟩:∃N,YK xs=N:=⟨_,rfl⟩
 have hTN:∀k,Jm T0 k=true→∃ks,Jy N k=some ks∧Jc ks.length:=fun k hk=>by
  rw[←hT0,JgX] at hk
  have hk':k∈xs.map Je:=by simpa[Jm] using hk
  have:=Jf1 k xs
  exact⟨_,by rw[←hN];exact Jg4 hk',by unfold Jc;omega⟩
 have hmu:∀M,Yv T0 M≤T0.length:=fun M=>List.length_filter_le _ _
 have hR:ZG xs=YM T0 N T0.length xs []:=by rw[←hT0,←hN];rfl
 rw[hR]
 clear hR
 have hof:=Jdw xs hsl
 have hna:=JdE xs hl hs
 rw[hT0] at hof
 rw[hN] at hna
 refine CallR.go1 (T:=T) Tryz.call81 Tryz.func81 rfl Tryz.ntmps81 (congrArg Array.toList Tryz.results81) (by decide) fun ts hn h0=>?_
 (repeat' (first
 | (with_reducible first|refine SpecC.mkRec T 3 fun K hK=>?_|refine callX.by (hof) ?_|refine callX.by (hna) ?_|refine callX.by (Jdw _ ?_) ?_|refine callX.by (JdE _ ?_ ?_) ?_|refine callX.by (J8 _ _ _ _ _ _ _) ?_|assumption|(refine Qw hK _ ?_;clear hK K)|refine Qw ‹_› _ ?_|refine Qx ‹_› ?_|refine Qi fun K hK=>?_|refine Qj T fun K hK=>?_|refine Qk (id:=8) T mixed Jd2 (by kernel_rfl) fun K hK=>?_|refine Ql fun A B hA hB=>?_|refine Qm ?_|refine Qn ?_|refine Qp ?_|refine Qr ?_)
 | ((with_reducible first|apply Qy|apply Qz|apply QA)<;>intro hb<;>try simp only[nr] at hb)
 |simp only[go_sem,↓reduceIte,reduceIte,Qa,Qh,Qb,Qc,Qd,Qe,Qf,Qg,reduceCtorEq, *,-hs,-hTN,-hmu,-hof,-hna,-hT0,-hN]
 |with_reducible refine fun(bn:Bool) hbn=>?_))
 have hp1:AV.pure (.ro [.mp (Jo T0) (Js T0)])=true:=by simp only[go_sem,Bool.and_self]
 have hp2:AV.pure (.ro [.mp (Jo N) (Js N)])=true:=by simp only[go_sem,Bool.and_self]
 have hre:∀g n,(VU 139 (.ro [.mp (Jo T0) (Js T0)]) (.ro [.mref 13 g]) (.ro [.mp (Jo N) (Js N)]) n).renM 13 g 1000=VU 139 (.ro [.mp (Jo T0) (Js T0)]) (.ro [.mref 1000 0]) (.ro [.mp (Jo N) (Js N)]) n:=fun g n=>by
  rw[JhR _ _ _ _ _ _ _ _ hp1 hp2];simp[AV.renM,AV.renM.renML]
 have hpe:∀g n,(VU 139 (.ro [.mp (Jo T0) (Js T0)]) (.ro [.mref 13 g]) (.ro [.mp (Jo N) (Js N)]) n).pureH 13 g=true:=fun g n =>
  JhD _ _ _ _ _ _ _ hp1 (by simp[AV.pureH,AV.pureH.pureHL]) hp2
 refine SpecC.ent (Ent.frzRec 139 (T0.length+1) 3 5 4 6 (x:=.mp (Jo T0) (Js T0)) (y:=.mref 13 (ts.gen 13+1)) (z:=.mp (Jo N) (Js N)) (by simp only[go_sem,↓reduceIte,reduceIte,Qa,Qh,Qb,Qc,Qd,Qe,Qf,Qg,reduceCtorEq, *,-hs,-hTN,-hmu,-hof,-hna,-hT0,-hN,-hp1,-hp2];done) (by simp only[go_sem,↓reduceIte,reduceIte,Qa,Qh,Qb,Qc,Qd,Qe,Qf,Qg,reduceCtorEq, *,-hs,-hTN,-hmu,-hof,-hna,-hT0,-hN,-hp1,-hp2];done) (by simp only[go_sem,↓reduceIte,reduceIte,Qa,Qh,Qb,Qc,Qd,Qe,Qf,Qg,reduceCtorEq, *,-hs,-hTN,-hmu,-hof,-hna,-hT0,-hN,-hp1,-hp2];done) (by simp only[go_sem,↓reduceIte,reduceIte,Qa,Qh,Qb,Qc,Qd,Qe,Qf,Qg,reduceCtorEq, *,-hs,-hTN,-hmu,-hof,-hna,-hT0,-hN,-hp1,-hp2];done)) ?_
 refine Qs [5,6,15,16] (fun m ts'=>∃(i:Nat),∃(M:KS),m=xs.length-i∧i≤xs.length∧YM T0 N T0.length xs []=YM T0 N T0.length (xs.drop i) M∧ts'.gen 13=ts.gen 13+1∧ts'.obj 13=.mp (Jo M) (Js M)∧ts'.tmp 17=.int .i64 i) xs.length ?_ ?_
 ·refine⟨0,[],rfl,Nat.zero_le _,rfl,?_⟩
  simp only[go_sem,↓reduceIte,reduceIte,Qa,Qh,Qb,Qc,Qd,Qe,Qf,Qg,reduceCtorEq, *,-hs,-hTN,-hmu,-hof,-hna,-hT0,-hN,-hp1,-hp2]
 ·rintro m A hM ts' hk ⟨i,M,hm,f1,f2,s1,s2,s3⟩
  simp only[go_sem,↓reduceIte,reduceIte,Qa,Qh,Qb,Qc,Qd,Qe,Qf,Qg,reduceCtorEq, *] at hk
  have hxx:∀x∈xs,True:=fun _ _=>trivial
  clear hof hna hs hxx
  by_cases hlt:i<xs.length
  ·have hstep:YM T0 N T0.length (xs.drop i) M=YM T0 N T0.length (xs.drop (i+1)) (if xs[i].kind=0 then JO T0 N T0.length (Je xs[i]) M else M):=by
    rw[List.drop_eq_getElem_cons hlt];rfl
   rw[hstep] at f2
   clear hstep
   (repeat' (first
 | (with_reducible first|refine callX.hm (d:=13) (g:=ts.gen 13+1) ?_ ?_ (Jpr T0 N hTN T0.length xs[i].kind xs[i].name M (hmu M)) ?_|refine callX.by (Jdw _ ?_) ?_|refine callX.by (JdE _ ?_ ?_) ?_|refine callX.by (J8 _ _ _ _ _ _ _) ?_|assumption|(refine Qw hK _ ?_;clear hK K)|refine Qw ‹_› _ ?_|refine Qx ‹_› ?_|refine Qi fun K hK=>?_|refine Qj T fun K hK=>?_|refine Qk (id:=8) T mixed Jd2 (by kernel_rfl) fun K hK=>?_|refine Ql fun A B hA hB=>?_|refine Qm ?_|refine Qn ?_|refine Qp ?_|refine Qr ?_)
 | ((with_reducible first|apply Qy|apply Qz|apply QA)<;>intro hb<;>try simp only[nr] at hb)
 |simp only[go_sem,↓reduceIte,reduceIte,Qa,Qh,Qb,Qc,Qd,Qe,Qf,Qg,reduceCtorEq, *,-hTN,-hmu,-hT0,-hN,-hp1,-hp2,-f2,JeZ,false_and,true_and]
 |with_reducible refine fun(bn:Bool) hbn=>?_))
   all_goals ((repeat clear hK);(repeat clear hA);(repeat clear hB))
   ·rw[if_pos (of_decide_eq_true hb)] at f2
    (refine hM.on (xs.length-(i+1)) (by omega) (by simp only[go_sem,↓reduceIte,reduceIte,Qa,Qh,Qb,Qc,Qd,Qe,Qf,Qg,reduceCtorEq, *,Jd hlt hsl,Je,-hTN,-hmu,-hT0,-hN,-hp1,-hp2,-f2]) ⟨i+1,JO T0 N T0.length (Je xs[i]) M,rfl,by omega,f2,?_⟩;simp only[go_sem,↓reduceIte,reduceIte,Qa,Qh,Qb,Qc,Qd,Qe,Qf,Qg,reduceCtorEq, *,Jd hlt hsl,Je,-hTN,-hmu,-hT0,-hN,-hp1,-hp2,-f2];done)
   ·rw[if_neg (of_decide_eq_false hb)] at f2
    (refine hM.on (xs.length-(i+1)) (by omega) (by simp only[go_sem,↓reduceIte,reduceIte,Qa,Qh,Qb,Qc,Qd,Qe,Qf,Qg,reduceCtorEq, *,Jd hlt hsl,Je,-hTN,-hmu,-hT0,-hN,-hp1,-hp2,-f2]) ⟨i+1,M,rfl,by omega,f2,?_⟩;simp only[go_sem,↓reduceIte,reduceIte,Qa,Qh,Qb,Qc,Qd,Qe,Qf,Qg,reduceCtorEq, *,Jd hlt hsl,Je,-hTN,-hmu,-hT0,-hN,-hp1,-hp2,-f2];done)
  ·rw[List.drop_eq_nil_of_le (by omega)] at f2
   have f3:YM T0 N T0.length xs []=M:=f2
   clear f2
   (repeat' (first
 | (with_reducible first|refine callX.by (Jdw _ ?_) ?_|refine callX.by (JdE _ ?_ ?_) ?_|refine callX.by (J8 _ _ _ _ _ _ _) ?_|assumption|(refine Qw hK _ ?_;clear hK K)|refine Qw ‹_› _ ?_|refine Qx ‹_› ?_|refine Qi fun K hK=>?_|refine Qj T fun K hK=>?_|refine Qk (id:=8) T mixed Jd2 (by kernel_rfl) fun K hK=>?_|refine Ql fun A B hA hB=>?_|refine Qm ?_|refine Qn ?_|refine Qp ?_|refine Qr ?_)
 | ((with_reducible first|apply Qy|apply Qz|apply QA)<;>intro hb<;>try simp only[nr] at hb)
 |simp only[go_sem,↓reduceIte,reduceIte,Qa,Qh,Qb,Qc,Qd,Qe,Qf,Qg,reduceCtorEq, *,-hTN,-hmu,-hT0,-hN,-hp1,-hp2,false_and,true_and]
 |with_reducible refine fun(bn:Bool) hbn=>?_))
theorem Jju(M:KS):Caps [.ro [.mp (Jo M) (Js M)]]:=⟨by simp only[go_sem,Bool.and_self],by simp only[go_sem]⟩
theorem JlP(r_kind:Int)(r_name:List UInt8)(r_ver:Int)(r_port:Int)(r_to:List UInt8)(r_rules:List Rule)(r_hosts:List Int)(M:KS):CallR Tryz.prog 84 [.agg [.int .i64 r_kind,.str r_name,.int .i64 r_ver,.int .i64 r_port,.str r_to,.slice false (Ja r_rules),.slice false (Ja r_hosts)],.ro [.mp (Jo M) (Js M)]] (.val (.bool (!Jm M (Je (⟨r_kind,r_name,r_ver,r_port,r_to,r_rules,r_hosts⟩:Res))))):=by
 refine CallR.go2 (T:=T) Tryz.call84 Tryz.func84 rfl Tryz.ntmps84 (congrArg Array.toList Tryz.results84) (by decide) fun ts hn h0 h1=>?_
 (repeat' (first
 | (with_reducible first|refine callX.by (J8 _ _ _ _ _ _ _) ?_|assumption|(refine Qw hK _ ?_;clear hK K)|refine Qw ‹_› _ ?_|refine Qx ‹_› ?_|refine Qi fun K hK=>?_|refine Qj T fun K hK=>?_|refine Qk (id:=1) T mixed [([4],[5,6]),([5],[4]),([6],[4])] (by kernel_rfl) fun K hK=>?_|refine Ql fun A B hA hB=>?_|refine Qn ?_|refine Qr ?_)
 | ((with_reducible first|apply Qy|apply Qz|apply QA)<;>intro hb<;>try simp only[nr] at hb)
 |simp only[go_sem,↓reduceIte,reduceIte,Qa,Qh,Qb,Qc,Qd,Qe,Qf,Qg,reduceCtorEq, *]
 |with_reducible refine fun(bn:Bool) hbn=>?_))
 all_goals rfl
def JX(l:List Res):List Res:=l.filter fun r=>Jm (ZG l) (Je r)
theorem JhJ(l:List Res):(JX l).length≤l.length:=List.length_filter_le _ _
theorem Jcq(xs:List Res)(hl:xs.length≤65536)(hs:∀r∈xs,Jw r):CallR Tryz.prog 22 [.slice false (Ja xs)] (.own 7 (Ja (JX xs))):=by
 have hsl:=Yz hl
 have hd:=Jbo 84 [.ro [.mp (Jo (ZG xs)) (Js (ZG xs))]] (Jju _) (fun r=>!Jm (ZG xs) (Je r)) xs (fun x _=>JlP x.kind x.name x.ver x.port x.to' x.rules' x.hosts _) hsl
 simp only[Bool.not_not] at hd
 have e:xs.filter (fun x=>Jm (ZG xs) (Je x))=JX xs:=rfl
 rw[e] at hd
 refine CallR.go1 (T:=T) Tryz.call22 Tryz.func22 rfl Tryz.ntmps22 (congrArg Array.toList Tryz.results22) (by decide) fun ts hn h0=>?_
 (repeat' (first
 | (with_reducible refine callX.mv ?_ ?_ ?_ (hd);(focus(simp only[go_sem,↓reduceIte,reduceIte,Qa,Qh,Qb,Qc,Qd,Qe,Qf,Qg,reduceCtorEq, *,-hs,-hd,-e];first|done|rfl));(focus(simp only[go_sem,↓reduceIte,reduceIte,Qa,Qh,Qb,Qc,Qd,Qe,Qf,Qg,reduceCtorEq, *,-hs,-hd,-e];first|done|rfl)))
 | (with_reducible first|refine callX.by (JlU _ ?_ ?_) ?_|refine callX.by (Jgb _ _ ?_) ?_)
 | (with_reducible refine callX.mv ?_ ?_ ?_ (Jbo ?_ ?_ ?_ ?_ ?_ ?_ ?_);(focus(simp only[go_sem,↓reduceIte,reduceIte,Qa,Qh,Qb,Qc,Qd,Qe,Qf,Qg,reduceCtorEq, *,-hs,-hd,-e];first|done|rfl));(focus(simp only[go_sem,↓reduceIte,reduceIte,Qa,Qh,Qb,Qc,Qd,Qe,Qf,Qg,reduceCtorEq, *,-hs,-hd,-e];first|done|rfl)))
 | (with_reducible first|assumption|(refine Qw hK _ ?_;clear hK K)|refine Qw ‹_› _ ?_|refine Qx ‹_› ?_|refine Qi fun K hK=>?_|refine Qj T fun K hK=>?_|refine Ql fun A B hA hB=>?_|refine Qn ?_|refine Qr ?_)
 | ((with_reducible first|apply Qy|apply Qz|apply QA)<;>intro hb<;>try simp only[nr] at hb)
 |simp only[go_sem,↓reduceIte,reduceIte,Qa,Qh,Qb,Qc,Qd,Qe,Qf,Qg,reduceCtorEq, *,-hs,-hd,-e]
 |with_reducible refine fun(bn:Bool) hbn=>?_))
def Jjd(r:Res):Bool:=decide (r.kind=3) && decide (r.hosts.length=0)
def JkJ(M:KS)(r:Res):Bool:=(Jk r).any fun k=>!Jm M k
def Jmq(l:List Res):Int:=if(JX l).any (JkJ (JY l []))=true then 6 else if(JX l).any Jjd=true then 7 else 0
theorem Jdv(xs:List Res)(hl:xs.length≤65536)(hs:∀r∈xs,Jw r)(_:(xs.map Je).Nodup):CallR Tryz.prog 22 [.slice false (Ja xs)]
  (.own 7 (Ja (JX xs))):=Jcq xs hl hs
end Go.Proofs.YtmjkjmoeicnbnaaGreatDoor.Lg
namespace Go.Proofs.YtmjkjmoeicnbnaaGreatDoor.Lg
set_option maxRecDepth 100000
set_option linter.unusedVariables false
set_option linter.unusedSimpArgs false
open Go
theorem Jiw:∀l:List Res,upR l=true↔Up (l.map Je)
 | []=>by simp[upR,Up]
 | [a]=>by simp[upR,Up]
 |a :: b :: l=>by
  rw[Jpp,Bool.and_eq_true,Jiw (b :: l),decide_eq_true_eq]
  simp only[List.map_cons]
  constructor
  ·rintro⟨h1,h2⟩
   refine List.pairwise_cons.2 ⟨fun x hx=>?_,h2⟩
   rcases List.mem_cons.1 hx with rfl|hx
   ·exact h1
   ·exact Jau _ _ _ h1 ((List.pairwise_cons.1 h2).1 x hx)
  ·intro h
   obtain⟨h1,h2⟩:=List.pairwise_cons.1 h
   exact⟨h1 _ (by simp),h2⟩
structure Conf(l:List Res):Prop where
 len:l.length≤64
 sane:∀r∈l,JW r=0
 up:Up (l.map Je)
theorem Jfn{l:List Key}(h:Up l):l.Nodup:=by
 unfold Up at h
 refine h.imp fun {a b} hab e=>?_
 subst e
 exact Jcf _ hab
theorem JkB{l:List Res}(h:(l.map Je).Nodup){a b:Res}(ha:a∈l)(hb:b∈l)(e:Je a=Je b):a=b:=by
 induction l with
 |nil=>simp at ha
 |cons r l ih =>
  rw[List.map_cons,List.nodup_cons] at h
  rcases List.mem_cons.1 ha with ha'|ha'<;>rcases List.mem_cons.1 hb with hb'|hb'
  ·rw[ha',hb']
  ·exact absurd (by rw[←ha',e];exact List.mem_map_of_mem hb') h.1
  ·exact absurd (by rw[←hb',←e];exact List.mem_map_of_mem ha') h.1
  ·exact ih h.2 ha' hb'
inductive Rch(l:List Res):Key→Prop
 |base (r:Res):r∈l→r.kind=0→Rch l (Je r)
 |step (r:Res) (x:Key):r∈l→Rch l (Je r)→x∈Jk r→x∈l.map Je→Rch l x
theorem Rch.mem{l:List Res}{k:Key}(h:Rch l k):k∈l.map Je:=by
 cases h with
 |base r hr _=>exact List.mem_map_of_mem hr
 |step r x _ _ _ h=>exact h
section dfs
variable (T0:KS) (N:List (Key×List Key))
def JbM(k:Key):List Key:=(Jy N k).getD []
inductive Way:Key→Key→Prop
 |refl (k:Key):Jm T0 k=true→Way k k
 |step (k x y:Key):Jm T0 k=true→x∈JbM N k→Way x y→Way k y
abbrev JbV(A B:KS):Prop:=∀x,Jm B x=true→Jm A x=false→∀y∈JbM N x,Jm T0 y=true→Jm B y=true
theorem dfs(n:Nat):∀(k:Key) (M:KS),Yv T0 M≤n →
  (Jm T0 k=true→Jm (JO T0 N n k M) k=true) ∧
  (∀x,Jm (JO T0 N n k M) x=true→Jm M x=false→Way T0 N k x)∧JbV T0 N M (JO T0 N n k M):=by
 induction n with
 |zero =>
  intro k M hmu
  have h0:∀k,Jm T0 k=true→Jm M k=true:=fun k hk=>by
   cases hm:Jm M k with
   |true=>rfl
   |false=>have:=Jdh hk hm;omega
  exact⟨h0 k,fun x hx hx'=>absurd (Eq.trans (Eq.symm (show Jm M x=true from hx)) hx') (by decide),fun x hx hx'=>absurd (Eq.trans (Eq.symm (show Jm M x=true from hx)) hx') (by decide)⟩
 |succ n ih =>
  intro k M hmu
  by_cases hc:Jm T0 k=true∧Jm M k=false
  rotate_left
  ·have e:JO T0 N (n+1) k M=M:=by rw[JO,if_neg hc]
   rw[e]
   refine⟨fun hk=>?_,fun x hx hx'=>absurd (Eq.trans (Eq.symm hx) hx') (by decide),fun x hx hx'=>absurd (Eq.trans (Eq.symm hx) hx') (by decide)⟩
   cases hm:Jm M k with
   |true=>rfl
   |false=>exact absurd ⟨hk,hm⟩ hc
  ·obtain⟨hk,hm⟩:=hc
   have e:JO T0 N (n+1) k M=(JbM N k).foldl (fun M x=>JO T0 N n x M) (JQ M k true):=by rw[JO,if_pos ⟨hk,hm⟩];rfl
   have hmu1:Yv T0 (JQ M k true)≤n:=by have:=Jdh hk hm;omega
   have fold:∀(v:List Key) (M1:KS),Yv T0 M1≤n →
     (∀x,Jm M1 x=true→Jm (v.foldl (fun M x=>JO T0 N n x M) M1) x=true) ∧
     (∀y∈v,Jm T0 y=true→Jm (v.foldl (fun M x=>JO T0 N n x M) M1) y=true) ∧
     (∀x,Jm (v.foldl (fun M x=>JO T0 N n x M) M1) x=true→Jm M1 x=false→∃y∈v,Way T0 N y x) ∧
     JbV T0 N M1 (v.foldl (fun M x=>JO T0 N n x M) M1):=by
    intro v
    induction v with
    |nil=>exact fun M1 _=>⟨fun x h=>h,by simp,fun x h h'=>absurd (Eq.trans (Eq.symm (show Jm M1 x=true from h)) h') (by decide),fun x h h'=>absurd (Eq.trans (Eq.symm (show Jm M1 x=true from h)) h') (by decide)⟩
    |cons y v ihv =>
     intro M1 h1
     rw[List.foldl_cons]
     obtain⟨a1,a2,a3⟩:=ih y M1 h1
     have hg:∀x,Jm M1 x=true→Jm (JO T0 N n y M1) x=true:=fun x hx=>JdR T0 N n y M1 x hx
     obtain⟨b1,b2,b3,b4⟩:=ihv (JO T0 N n y M1) (Nat.le_trans (Jg2 hg) h1)
     refine⟨fun x hx=>b1 x (hg x hx),fun z hz hzT=>?_,fun x hx hx'=>?_,fun x hx hx' z hz hzT=>?_⟩
     ·rcases List.mem_cons.1 hz with rfl|hz
      ·exact b1 _ (a1 hzT)
      ·exact b2 z hz hzT
     ·cases hv:Jm (JO T0 N n y M1) x with
      |true=>exact⟨y,by simp,a2 x hv hx'⟩
      |false=>obtain⟨z,hz,hw⟩:=b3 x hx hv;exact⟨z,by simp[hz],hw⟩
     ·cases hv:Jm (JO T0 N n y M1) x with
      |true=>exact b1 _ (a3 x hv hx' z hz hzT)
      |false=>exact b4 x hx hv z hz hzT
   obtain⟨b1,b2,b3,b4⟩:=fold (JbM N k) (JQ M k true) hmu1
   rw[e]
   refine⟨fun _=>b1 k (by rw[JaZ];simp),fun x hx hx'=>?_,fun x hx hx' y hy hyT=>?_⟩
   ·cases hp:Jm (JQ M k true) x with
    |true =>
     rw[JaZ,hx'] at hp
     have:x=k:=by simpa using hp
     subst this
     exact .refl _ hk
    |false =>
     obtain⟨y,hy,hw⟩:=b3 x hx hp
     exact .step k y x hk hy hw
   ·cases hp:Jm (JQ M k true) x with
    |true =>
     rw[JaZ,hx'] at hp
     have:x=k:=by simpa using hp
     subst this
     exact b2 y hy hyT
    |false=>exact b4 x hx hp y hy hyT
theorem JeY(n:Nat)(hn:∀M,Yv T0 M≤n):∀(l:List Res) (M:KS),JbV T0 N [] M →
  JbV T0 N [] (YM T0 N n l M)∧(∀x,Jm M x=true→Jm (YM T0 N n l M) x=true)∧(∀r∈l,r.kind=0→Jm T0 (Je r)=true→Jm (YM T0 N n l M) (Je r)=true) ∧
  ∀x,Jm (YM T0 N n l M) x=true→Jm M x=true∨∃r∈l,r.kind=0∧Way T0 N (Je r) x
 | [],M,h=>⟨h,fun x hx=>hx,by simp,fun x hx=>.inl hx⟩
 |r :: l,M,h=>by
  have e:YM T0 N n (r :: l) M=YM T0 N n l (if r.kind=0 then JO T0 N n (Je r) M else M):=rfl
  rw[e]
  by_cases hk:r.kind=0
  ·rw[if_pos hk]
   obtain⟨a1,a2,a3⟩:=dfs T0 N n (Je r) M (hn M)
   have hg:∀x,Jm M x=true→Jm (JO T0 N n (Je r) M) x=true:=fun x hx=>JdR T0 N n _ M x hx
   have hs:JbV T0 N [] (JO T0 N n (Je r) M):=fun x hx _ y hy hyT=>by
    cases hm:Jm M x with
    |true=>exact hg _ (h x hm rfl y hy hyT)
    |false=>exact a3 x hx hm y hy hyT
   obtain⟨b1,b2,b3,b4⟩:=JeY n hn l _ hs
   refine⟨b1,fun x hx=>b2 x (hg x hx),fun q hq hq0 hqT=>?_,fun x hx=>?_⟩
   ·rcases List.mem_cons.1 hq with rfl|hq
    ·exact b2 _ (a1 hqT)
    ·exact b3 q hq hq0 hqT
   ·rcases b4 x hx with h1|⟨q,hq,h1,h2⟩
    ·cases hm:Jm M x with
     |true=>exact .inl rfl
     |false=>exact .inr ⟨r,by simp,hk,a2 x h1 hm⟩
    ·exact .inr ⟨q,by simp[hq],h1,h2⟩
  ·rw[if_neg hk]
   obtain⟨b1,b2,b3,b4⟩:=JeY n hn l M h
   refine⟨b1,b2,fun q hq hq0 hqT=>?_,fun x hx=>?_⟩
   ·rcases List.mem_cons.1 hq with rfl|hq
    ·exact absurd hq0 hk
    ·exact b3 q hq hq0 hqT
   ·rcases b4 x hx with h1|⟨q,hq,h1,h2⟩
    ·exact .inl h1
    ·exact .inr ⟨q,by simp[hq],h1,h2⟩
end dfs
theorem JgI(l:List Res)(k:Key):Jm (JY l []) k=decide (k∈l.map Je):=by rw[JgX];simp[Jm]
theorem JlT(l:List Res)(k:Key):Jm (ZG l) k=true↔Rch l k:=by
 have hT:∀k,Jm (JY l []) k=true↔k∈l.map Je:=fun k=>by rw[JgI];simp
 obtain⟨b1,_,b3,b4⟩:=JeY (JY l []) (YK l) (JY l []).length (fun M=>List.length_filter_le _ _) l [] (fun x hx=>by simp[Jm] at hx)
 have hsucc:∀k∈l.map Je,JbM (YK l) k=ZP k l:=fun k hk=>by unfold JbM;rw[Jg4 hk];rfl
 constructor
 ·intro hk
  rcases b4 k hk with h1|⟨r,hr,h0,hw⟩
  ·simp[Jm] at h1
  ·have:∀ {a b:Key},Way (JY l []) (YK l) a b→Rch l a→Rch l b:=by
    intro a b hw
    induction hw with
    |refl=>exact fun h=>h
    |step k x y hk hx hw ih =>
     intro ha
     refine ih ?_
     rw[hsucc k ((hT k).1 hk)] at hx
     obtain⟨q,hq,e,hx⟩:=mem_cat.1 hx
     refine .step q x hq (e▸ha) hx ?_
     cases hw with
     |refl _ hx'=>exact(hT x).1 hx'
     |step _ _ _ hx'=>exact(hT x).1 hx'
   exact this hw (.base r hr h0)
 ·intro hk
  induction hk with
  |base r hr h0=>exact b3 r hr h0 ((hT _).2 (List.mem_map_of_mem hr))
  |step r x hr _ hx hx' ih=>exact b1 _ ih rfl x (by rw[hsucc _ (List.mem_map_of_mem hr)];exact mem_cat.2 ⟨r,hr,rfl,hx⟩) ((hT x).2 hx')
end Go.Proofs.YtmjkjmoeicnbnaaGreatDoor.Lg
namespace Go.Proofs.YtmjkjmoeicnbnaaGreatDoor.Lg
set_option maxRecDepth 100000
set_option linter.unusedVariables false
set_option linter.unusedSimpArgs false
open Go
theorem Jpv(r_kind:Int)(r_name:List UInt8)(r_ver:Int)(r_port:Int)(r_to:List UInt8)(r_rules:List Rule)(r_hosts:List Int)(k_kind:Int)(k_name:List UInt8)(c:Int):CallR Tryz.prog 185 [.agg [.int .i64 r_kind,.str r_name,.int .i64 r_ver,.int .i64 r_port,.str r_to,.slice false (Ja r_rules),.slice false (Ja r_hosts)],.ro [.int .i64 k_kind,.str k_name],.ro [.int .i64 c]] (.val (.bool (decide (Jv (Je (⟨r_kind,r_name,r_ver,r_port,r_to,r_rules,r_hosts⟩:Res)) (⟨k_kind,k_name⟩:Key)=c)))):=by
 refine CallR.go3 (T:=T) Tryz.call185 Tryz.func185 rfl Tryz.ntmps185 (congrArg Array.toList Tryz.results185) (by decide) fun ts hn h0 h1 h2=>?_
 (repeat' (first
 | (with_reducible first|refine callX.by (J8 _ _ _ _ _ _ _) ?_|refine callX.by (ZW _ _ _ _) ?_|assumption|(refine NxK.out hK _ ?_;clear hK K)|refine NxK.out ‹_› _ ?_|refine Nx.out ‹_› ?_|refine SpecC.seqW fun K hK=>?_|refine SpecC.regW T fun K hK=>?_|refine SpecC.drawW (id:=1) T mixed [([5],[7,9]),([6],[7,9]),([7],[5,6,9]),([8],[9]),([9],[5,6,7,8])] (by kernel_rfl) fun K hK=>?_|refine SpecC.condW fun A B hA hB=>?_|refine SpecC.skip ?_|refine SpecC.ret ?_)
 | ((with_reducible first|apply condK.split|apply gK.split_t|apply gK.split_f)<;>intro hb<;>try simp only[nr] at hb)
 |simp only[go_sem,↓reduceIte,reduceIte,Nat.reduceEqDiff,String.reduceEq,Nat.reduceLT,Nat.reduceLeDiff,Nat.reduceAdd,Nat.reduceMul,Nat.reduceSub,Nat.reduceBEq,reduceCtorEq, *]
 |with_reducible refine fun(bn:Bool) hbn=>?_))
 all_goals rfl
theorem Jjw(a:Int)(b:List UInt8)(c:Int):Caps [.ro [.int .i64 a,.str b],.ro [.int .i64 c]]:=⟨by simp only[go_sem,Bool.and_self],by simp only[go_sem]⟩
def J5(l:List Res)(k:Key)(c:Int):List Res:=l.filter fun r=>decide (Jv (Je r) k=c)
theorem JiE(xs:List Res)(k_kind:Int)(k_name:List UInt8)(c:Int)(hl:Jc xs.length):CallR Tryz.prog 184 [.int .i64 c,.ro [.slice false (Ja xs)],.ro [.int .i64 k_kind,.str k_name]] (.own 7 (Ja (J5 xs (⟨k_kind,k_name⟩:Key) c))):=by
 have hf:=JbN 185 [.ro [.int .i64 k_kind,.str k_name],.ro [.int .i64 c]] (Jjw k_kind k_name c) (fun r=>decide (Jv (Je r) (⟨k_kind,k_name⟩:Key)=c)) xs (fun x _=>Jpv x.kind x.name x.ver x.port x.to' x.rules' x.hosts k_kind k_name c) hl
 rw[show xs.filter (fun r=>decide (Jv (Je r) (⟨k_kind,k_name⟩:Key)=c))=J5 xs (⟨k_kind,k_name⟩:Key) c from rfl] at hf
 refine CallR.go3 (T:=T) Tryz.call184 Tryz.func184 rfl Tryz.ntmps184 (congrArg Array.toList Tryz.results184) (by decide) fun ts hn h0 h1 h2=>?_
 (repeat' (first
 | (with_reducible first|refine callX.by (hf) ?_|refine callX.by (JbN _ _ ?_ _ _ ?_ ?_) ?_|assumption|(refine NxK.out hK _ ?_;clear hK K)|refine NxK.out ‹_› _ ?_|refine Nx.out ‹_› ?_|refine SpecC.seqW fun K hK=>?_|refine SpecC.regW T fun K hK=>?_|refine SpecC.condW fun A B hA hB=>?_|refine SpecC.skip ?_|refine SpecC.ret ?_)
 | ((with_reducible first|apply condK.split|apply gK.split_t|apply gK.split_f)<;>intro hb<;>try simp only[nr] at hb)
 |simp only[go_sem,↓reduceIte,reduceIte,Nat.reduceEqDiff,String.reduceEq,Nat.reduceLT,Nat.reduceLeDiff,Nat.reduceAdd,Nat.reduceMul,Nat.reduceSub,Nat.reduceBEq,reduceCtorEq, *,-hf]
 |with_reducible refine fun(bn:Bool) hbn=>?_))
end Go.Proofs.YtmjkjmoeicnbnaaGreatDoor.Lg
