/- Parts of the proof, one behind the other. -/
import Derived.Test.YtihahfhagobnoaaGreatDoorG16
namespace Go.Proofs.YtihahfhagobnoaaGreatDoor.Lg
set_option maxRecDepth 100000
set_option linter.unusedVariables false
set_option linter.unusedSimpArgs false
open Go
open Nat renaming reduceEqDiff → Qa, reduceLT → Qb, reduceLeDiff → Qc, reduceAdd → Qd, reduceMul → Qe, reduceSub → Qf, reduceBEq → Qg
open String renaming reduceEq → Qh
open NxK renaming out → Qw
@[go_sem] def Je3:List (List Nat×List Nat):=[([16],[17,19,20]),([17],[16,19,20]),([19],[16,17]),([20],[16,17]),([21,7],[]),([18],[23]),([22],[23]),([23],[18,22])]
instance:Dat (List Key) where
 av l:=.slice false (Ja l)
 sz:=1
 len _:=rfl
 pure l:=by simp only[go_sem]
 nrm l:=by simp only[go_sem]
 one _:=rfl
 known _:=rfl
theorem JkN(l:List Key):Dat.av l=.slice false (Ja l):=rfl
section
variable {α β:Type}
theorem Jmv [Dat α](M:List (α×β))(p:α×β):Js (M++[p])=Js M++[Dat.av p.1]:=by simp[Js,Ja]
theorem Jn5{γ:Type}(l:List γ)(x y:γ)(n:Nat)(h:n=l.length):(l++[x]).set n y=l++[y]:=by subst h;simp
end
def Vu(M:List (Key×List Key))(r:Res):List (Key×List Key):=JV M (Jg r) ((JB M (Jg r)).getD []++JH r)
def YP(l:List Res):List (Key×List Key):=l.foldl Vu []
def YZ:Key×List Key:=(⟨0,[]⟩,[])
def J1(h:Nat→Nat)(M:List (Key×List Key)):List AV:=(List.range M.length).map fun j=>.os (j+1000) (h j) (M.getD j YZ).2.length
theorem Jbi(h:Nat→Nat)(M:List (Key×List Key)):(J1 h M).length=M.length:=by simp[J1]
theorem JiZ(h:Nat→Nat){M:List (Key×List Key)}{j:Nat}(hj:j<M.length):(J1 h M).getD j .any=.os (j+1000) (h j) (M.getD j YZ).2.length:=by
 simp[J1,hj]
theorem Jm0(h:Nat→Nat)(M:List (Key×List Key))(p:Key×List Key)(g:Nat):J1 h M++[.os (M.length+1000) g p.2.length]=J1 (fun i=>if i=M.length then g else h i) (M++[p]):=by
 refine List.ext_getElem (by simp[Jbi]) fun i h1 h2=>?_
 have hi:i≤M.length:=by simp[Jbi] at h1;omega
 by_cases hl:i<M.length
 ·have hne:¬i=M.length:=by omega
  simp[J1,hl,List.getElem_append,hne,List.getElem?_append]
 ·have:i=M.length:=by omega
  subst this
  simp[J1,List.getElem_append]
theorem JmZ(h:Nat→Nat)(M:List (Key×List Key))(p:Key×List Key)(g j:Nat)(hj:j<M.length):(J1 h M).set j (.os (j+1000) g p.2.length)=J1 (fun i=>if i=j then g else h i) (M.set j p):=by
 refine List.ext_getElem (by simp[Jbi]) fun i h1 h2=>?_
 have hi:i<M.length:=by simpa[Jbi] using h1
 by_cases hl:i=j
 ·subst hl
  simp[J1,hi]
 ·simp[J1,List.getElem_set,Ne.symm hl,hl,List.getElem?_set]
theorem JgJ{M:List (Key×List Key)}{r:Res}(h:JJ (Jg r) M=none):Vu M r=M++[(Jg r,JH r)]:=by
 unfold Vu
 rw[Jmw _ (JbW h),JbW h]
 rfl
theorem JgK{M:List (Key×List Key)}{r:Res}{j:Nat}(h:JJ (Jg r) M=some j):Vu M r=M.set j (Jg r,(M.getD j YZ).2++JH r):=by
 obtain⟨h1,h2⟩:=JcP h
 unfold Vu JV
 rw[h,h2]
 simp[h1]
theorem JgI(M:List (Key×List Key))(r:Res):(Vu M r).length≤M.length+1:=by
 cases h:JJ (Jg r) M with
 |none=>rw[JgJ h];simp
 |some j=>rw[JgK h];simp
set_option maxHeartbeats 8000000 in
theorem JeA(xs:List Res)(hl:xs.length≤65536)(hs:∀r∈xs,Ju r):CallR Tryz.prog 105 [.slice false (Ja xs)] (.val (.mp (Js (YP xs)) (Jy (YP xs)))):=by
 have hsl:=ZE hl
 refine CallR.go1 (T:=T) Tryz.call105 Tryz.func105 rfl Tryz.ntmps105 (congrArg Array.toList Tryz.results105) (by decide) fun ts hn h0=>?_
 (repeat' (first
 | (with_reducible first|refine callX.by (J6 _ _ _ _ _ _ _) ?_|refine callX.by (YT _ _ _ _ _ _ _ ?_ ?_ ?_) ?_|refine callX.by Y1 ?_|assumption|(refine Qw hK _ ?_;clear hK K)|refine Qw ‹_› _ ?_|refine Nx.out ‹_› ?_|refine SpecC.seqW fun K hK=>?_|refine SpecC.regW T fun K hK=>?_|refine SpecC.drawW (id:=6) T mixed Je3 (by kernel_rfl) fun K hK=>?_|refine SpecC.condW fun A B hA hB=>?_|refine SpecC.block ?_|refine SpecC.skip ?_|refine SpecC.exit ?_|refine SpecC.ret ?_)
 | ((with_reducible first|apply condK.split|apply gK.split_t|apply gK.split_f)<;>intro hb<;>try simp only[nr] at hb)
 |simp only[go_sem,↓reduceIte,reduceIte,Qa,Qh,Qb,Qc,Qd,Qe,Qf,Qg,reduceCtorEq, *,-hs]
 |with_reducible refine fun(bn:Bool) hbn=>?_))
 refine SpecC.loopF [8,9] (fun m ts'=>∃(i:Nat),∃(g:Nat),∃(M:List (Key×List Key)),∃(h:Nat→Nat),m=xs.length-i∧i≤xs.length∧YP xs=(xs.drop i).foldl Vu M∧M.length≤i∧(∀p∈M,p.2.length≤33*i)∧(∀j,j<M.length→ts'.obj (j+1000)=.arr 2 (Ja (M.getD j YZ).2)∧ts'.gen (j+1000)=h j)∧ts'.tmp 3=.mref 7 g∧ts'.gen 7=g∧ts'.obj 7=.mp (Js M) (J1 h M)∧ts'.tmp 10=.int .i64 i) xs.length ?_ ?_
 ·refine⟨0,ts.gen 7+1,[],fun _=>0,rfl,Nat.zero_le _,rfl,Nat.le_refl _,by simp,fun j hj=>absurd hj (by simp),?_⟩
  simp only[go_sem,↓reduceIte,reduceIte,Qa,Qh,Qb,Qc,Qd,Qe,Qf,Qg,reduceCtorEq, *,-hs,show J1 (fun _=>0) []=[] from rfl]
 ·rintro m A hM ts' hk ⟨i,g,M,h,hm,f1,f2,f3,f4,f5,s1,s2,s3,s4⟩
  simp only[go_sem,↓reduceIte,reduceIte,Qa,Qh,Qb,Qc,Qd,Qe,Qf,Qg,reduceCtorEq, *] at hk
  by_cases hlt:i<xs.length
  ·rw[List.drop_eq_getElem_cons hlt,List.foldl_cons] at f2
   obtain⟨_,_,hx1,hx2,hx3⟩:=hs _ (List.getElem_mem hlt)
   have hrl:=Jeu xs[i]
   have hrs:Jc (JH xs[i]).length:=by unfold Jc;omega
   have hr1:Vl (JH xs[i]).length 24:=Jbk (by omega) (by decide)
   cases hix:JJ ⟨xs[i].kind,xs[i].name⟩ M with
   |none =>
    have hol:(J1 h M).length=M.length:=Jbi h M
    have hset:∀y x:AV,(J1 h M++[y]).set M.length x=J1 h M++[x]:=fun y x=>Jn5 _ _ _ _ hol.symm
    have hgd:∀x:AV,(J1 h M++[x]).getD M.length .any=x:=fun x=>by simp[List.getD_eq_getElem?_getD,hol]
    have hlt1:(M.length:Int)<((M.length+1:Nat):Int):=by omega
    have hlt2:M.length<M.length+1:=by omega
    (repeat' (first
 | (with_reducible first|refine callX.by (J6 _ _ _ _ _ _ _) ?_|refine callX.by (YT _ _ _ _ _ _ _ ?_ ?_ ?_) ?_|refine callX.by Y1 ?_|assumption|(refine Qw hK _ ?_;clear hK K)|refine Qw ‹_› _ ?_|refine Nx.out ‹_› ?_|refine SpecC.seqW fun K hK=>?_|refine SpecC.regW T fun K hK=>?_|refine SpecC.drawW (id:=6) T mixed Je3 (by kernel_rfl) fun K hK=>?_|refine SpecC.condW fun A B hA hB=>?_|refine SpecC.block ?_|refine SpecC.skip ?_|refine SpecC.exit ?_|refine SpecC.ret ?_)
 | ((with_reducible first|apply condK.split|apply gK.split_t|apply gK.split_f)<;>intro hb<;>try simp only[nr] at hb)
 |simp only[go_sem,↓reduceIte,reduceIte,Qa,Qh,Qb,Qc,Qd,Qe,Qf,Qg,reduceCtorEq, *,-hs,-hx2,-f2,-f4,-f5]
 |with_reducible refine fun(bn:Bool) hbn=>?_))
    all_goals ((repeat clear hK);(repeat clear hA);(repeat clear hB))
    have e:=JgJ (r:=xs[i]) hix
    have ek:Js M++[.agg [.int .i64 xs[i].kind,.str xs[i].name]]=Js (Vu M xs[i]):=by rw[e,Jmv];rfl
    have ev:J1 h M++[AV.os (M.length+1000) (ts'.gen (M.length+1000)+1) (JH xs[i]).length]=J1 (fun u=>if u=M.length then ts'.gen (M.length+1000)+1 else h u) (Vu M xs[i]):=by rw[e];exact Jm0 h M (Jg xs[i],JH xs[i]) _
    have hal:=JgI M xs[i]
    refine hM.onE (xs.length-(i+1)) (Ent.renM2 7 M.length 22 (M.length+1000) (JH xs[i]).length ?_) (by omega) ?_ ?_
    ·simp only[go_sem,↓reduceIte,reduceIte,Qa,Qh,Qb,Qc,Qd,Qe,Qf,Qg,reduceCtorEq, *,-hs,-hx2,-f2,-f4,-f5,-e,-ek,-ev]
     done
    ·simp only[go_sem,↓reduceIte,reduceIte,Qa,Qh,Qb,Qc,Qd,Qe,Qf,Qg,reduceCtorEq, *,-hs,-hx2,-f2,-f4,-f5,-e,-ek,-ev]
     done
    ·refine⟨i+1,g,Vu M xs[i],fun u=>if u=M.length then ts'.gen (M.length+1000)+1 else h u,rfl,by omega,f2,by omega,fun p hp=>?_,fun q hq=>?_,?_⟩
     ·rw[e] at hp
      rcases List.mem_append.1 hp with hp|hp
      ·have:=f4 p hp;omega
      ·rw[List.mem_singleton] at hp;subst hp;show(JH xs[i]).length≤_;omega
     ·by_cases hql:q=M.length
      ·subst hql
       have e1:((Vu M xs[i]).getD M.length YZ).2=JH xs[i]:=by rw[e];simp
       simp only[go_sem,↓reduceIte,reduceIte,Qa,Qh,Qb,Qc,Qd,Qe,Qf,Qg,reduceCtorEq, *,-hs,-hx2,-f2,-f4,-f5,-e,-ek,-ev]
       done
      ·have hq2:q<M.length:=by rw[e] at hq;simp at hq;omega
       have e1:(Vu M xs[i]).getD q YZ=M.getD q YZ:=by rw[e];simp[List.getElem?_append,hq2]
       obtain⟨f6,f7⟩:=f5 q hq2
       simp only[go_sem,↓reduceIte,reduceIte,Qa,Qh,Qb,Qc,Qd,Qe,Qf,Qg,reduceCtorEq, *,-hs,-hx2,-f2,-f4,-f5,-e,-ek,-ev]
       done
     ·simp only[go_sem,↓reduceIte,reduceIte,Qa,Qh,Qb,Qc,Qd,Qe,Qf,Qg,reduceCtorEq, *,Jf hlt hsl,-hs,-hx2,-f2,-f4,-f5,-e,hgd]
      all_goals trace_state
   |some j =>
    obtain⟨hj,hk0⟩:=Jif hix
    obtain⟨f6,f7⟩:=f5 j hj
    have e:=JgK (r:=xs[i]) hix
    have hvl:(M.getD j YZ).2.length≤33*i:=f4 _ (by simp[hj])
    generalize hV:(M.getD j YZ).2=V at *
    have hol:(J1 h M).length=M.length:=Jbi h M
    have hjo:j<(J1 h M).length:=by omega
    have hgo:(J1 h M).getD j .any=.os (j+1000) (ts'.gen (j+1000)) V.length:=by rw[JiZ h hj,f7,hV]
    refine SpecC.ent (Ent.renM2 7 j (j+1000) 900 V.length ?_) ?_
    ·simp only[go_sem,↓reduceIte,reduceIte,Qa,Qh,Qb,Qc,Qd,Qe,Qf,Qg,reduceCtorEq, *,-hs,-hx2,-f2,-f4,-f5,-e]
     done
    have hset:∀y x:AV,((J1 h M).set j y).set j x=(J1 h M).set j x:=fun y x=>by rw[List.set_set]
    have hgd:∀x:AV,((J1 h M).set j x).getD j .any=x:=fun x=>by simp[hjo]
    have hks:(Js M).set j (.agg [.int .i64 xs[i].kind,.str xs[i].name])=Js M:=by
     refine List.ext_getElem (by simp) fun u h1 h2=>?_
     rw[List.getElem_set]
     split
     ·rename_i hu
      subst hu
      have:(Js M)[j]=Dat.av (M[j]).1:=by simp[Js,Ja]
      rw[this,hk0,Jfb]
     ·rfl
    have hjl:(j:Int)<(M.length:Int):=by omega
    have hls:∀x:AV,((J1 h M).set j x).length=M.length:=fun x=>by simp[hol]
    have hr2:Vl (V.length+(JH xs[i]).length) 24:=Jbk (by omega) (by decide)
    (repeat' (first
 | (with_reducible first|refine callX.by (J6 _ _ _ _ _ _ _) ?_|refine callX.by (YT _ _ _ _ _ _ _ ?_ ?_ ?_) ?_|refine callX.by Y1 ?_|assumption|(refine Qw hK _ ?_;clear hK K)|refine Qw ‹_› _ ?_|refine Nx.out ‹_› ?_|refine SpecC.seqW fun K hK=>?_|refine SpecC.regW T fun K hK=>?_|refine SpecC.drawX (id:=6) T mixed [([16],[17,19,20]),([17],[16,19,20]),([19],[16,17]),([20],[16,17]),([7,21],[]),([18],[23]),([22,900],[23]),([23],[18,22,900])] (by kernel_rfl) fun K hK=>?_|refine SpecC.condW fun A B hA hB=>?_|refine SpecC.block ?_|refine SpecC.skip ?_|refine SpecC.exit ?_|refine SpecC.ret ?_)
 | ((with_reducible first|apply condK.split|apply gK.split_t|apply gK.split_f)<;>intro hb<;>try simp only[nr] at hb)
 |simp only[go_sem,↓reduceIte,reduceIte,Qa,Qh,Qb,Qc,Qd,Qe,Qf,Qg,reduceCtorEq, *,-hs,-hx2,-f2,-f4,-f5,-e,-hV]
 |with_reducible refine fun(bn:Bool) hbn=>?_))
    all_goals ((repeat clear hK);(repeat clear hA);(repeat clear hB))
    have hlen:(V++JH xs[i]).length=V.length+(JH xs[i]).length:=List.length_append
    have ek:Js M=Js (Vu M xs[i]):=by
     rw[e]
     refine List.ext_getElem (by simp[Js,Ja]) fun u h1 h2=>?_
     simp only[Js,Ja,List.getElem_map,List.getElem_set]
     split
     ·rename_i hu;subst hu;rw[hk0];rfl
     ·rfl
    have ev:(J1 h M).set j (AV.os (j+1000) (ts'.gen (j+1000)+1) (V.length+(JH xs[i]).length))=J1 (fun u=>if u=j then ts'.gen (j+1000)+1 else h u) (Vu M xs[i]):=by
     rw[e,←hlen];exact JmZ h M (Jg xs[i],V++JH xs[i]) _ j hj
    have hal:=JgI M xs[i]
    refine hM.onE (xs.length-(i+1)) (Ent.renM2 7 j 22 (j+1000) (V.length+(JH xs[i]).length) ?_) (by omega) ?_ ?_
    ·simp only[go_sem,↓reduceIte,reduceIte,Qa,Qh,Qb,Qc,Qd,Qe,Qf,Qg,reduceCtorEq, *,-hs,-hx2,-f2,-f4,-f5,-e,-ek,-ev,-hV]
     done
    ·simp only[go_sem,↓reduceIte,reduceIte,Qa,Qh,Qb,Qc,Qd,Qe,Qf,Qg,reduceCtorEq, *,-hs,-hx2,-f2,-f4,-f5,-e,-ek,-ev,-hV]
     done
    ·refine⟨i+1,g,Vu M xs[i],fun u=>if u=j then ts'.gen (j+1000)+1 else h u,rfl,by omega,f2,by omega,fun p hp=>?_,fun q hq=>?_,?_⟩
     ·rw[e] at hp
      rcases List.mem_or_eq_of_mem_set hp with hp|hp
      ·have:=f4 p hp;omega
      ·subst hp;show(V++JH xs[i]).length≤_;omega
     ·by_cases hql:q=j
      ·subst hql
       have e1:((Vu M xs[i]).getD q YZ).2=V++JH xs[i]:=by rw[e];simp[hj]
       simp only[go_sem,↓reduceIte,reduceIte,Qa,Qh,Qb,Qc,Qd,Qe,Qf,Qg,reduceCtorEq, *,-hs,-hx2,-f2,-f4,-f5,-e,-ek,-ev,-hV]
       all_goals trace_state
      ·have hq2:q<M.length:=by rw[e] at hq;simpa using hq
       have e1:(Vu M xs[i]).getD q YZ=M.getD q YZ:=by rw[e];simp[List.getElem?_set,Ne.symm hql]
       obtain⟨g6,g7⟩:=f5 q hq2
       simp only[go_sem,↓reduceIte,reduceIte,Qa,Qh,Qb,Qc,Qd,Qe,Qf,Qg,reduceCtorEq, *,-hs,-hx2,-f2,-f4,-f5,-e,-ek,-ev,-hV]
       all_goals trace_state
     ·simp only[go_sem,↓reduceIte,reduceIte,Qa,Qh,Qb,Qc,Qd,Qe,Qf,Qg,reduceCtorEq, *,Jf hlt hsl,-hs,-hx2,-f2,-f4,-f5,-e,-hV,-ek]
      rw[f7] at ev
      rw[←ek,ev]
  ·rw[List.drop_eq_nil_of_le (by omega)] at f2
   have e:YP xs=M:=f2
   rw[e]
   obtain⟨ts2,r1,r2,r3,r4,r5,r6⟩:=Ent.frzFrom (d:=7) (B:=1000) (sz:=2) (ks:=Js M) (xs:=M.map fun p=>Ja p.2) (by omega) M.length ts' (J1 h M) (by simp) s3 (by simp[Jbi]) (fun j hj _=>by
     have hj:j<M.length:=by simpa using hj
     obtain⟨f6,f7⟩:=f5 j hj
     have e2:(M.map fun p=>Ja p.2).getD j []=Ja (M.getD j YZ).2:=by simp[hj]
     rw[e2,JiZ h hj,f6,f7,Jip]
     exact⟨rfl,rfl⟩) (fun j hj=>absurd hj (by simp))
   have em:(M.map fun p=>Ja p.2).map (AV.slice false)=Jy M:=by
    simp only[Jy,Ja,List.map_map]
    rfl
   rw[em] at r5
   refine SpecC.ent r1 ?_
   (repeat' (first
 | (with_reducible first|refine callX.by (J6 _ _ _ _ _ _ _) ?_|refine callX.by (YT _ _ _ _ _ _ _ ?_ ?_ ?_) ?_|refine callX.by Y1 ?_|assumption|(refine Qw hK _ ?_;clear hK K)|refine Qw ‹_› _ ?_|refine Nx.out ‹_› ?_|refine SpecC.seqW fun K hK=>?_|refine SpecC.regW T fun K hK=>?_|refine SpecC.drawW (id:=6) T mixed Je3 (by kernel_rfl) fun K hK=>?_|refine SpecC.condW fun A B hA hB=>?_|refine SpecC.block ?_|refine SpecC.skip ?_|refine SpecC.exit ?_|refine SpecC.ret ?_)
 | ((with_reducible first|apply condK.split|apply gK.split_t|apply gK.split_f)<;>intro hb<;>try simp only[nr] at hb)
 |simp only[go_sem,↓reduceIte,reduceIte,Qa,Qh,Qb,Qc,Qd,Qe,Qf,Qg,reduceCtorEq, *,-hs,-f2,-f4,-f5,-e,-em,-r6,r2,r3,r4]
 |with_reducible refine fun(bn:Bool) hbn=>?_))
   all_goals rw[e]
end Go.Proofs.YtihahfhagobnoaaGreatDoor.Lg
namespace Go.Proofs.YtihahfhagobnoaaGreatDoor.Lg
set_option maxRecDepth 100000
set_option linter.unusedVariables false
set_option linter.unusedSimpArgs false
open Go
open Nat renaming reduceEqDiff → Qa, reduceLT → Qb, reduceLeDiff → Qc, reduceAdd → Qd, reduceMul → Qe, reduceSub → Qf, reduceBEq → Qg
open String renaming reduceEq → Qh
open SpecC renaming seqW → Qi, regW → Qj, drawW → Qk, condW → Ql, block → Qm, skip → Qn, exit → Qp, ret → Qr, loopF → Qs
open NxK renaming out → Qw
open Nx renaming out → Qx
open condK renaming split → Qy
open gK renaming split_t → Qz, split_f → QA
open CallR renaming go1 → QD
@[go_sem] def Je4:List (List Nat×List Nat):=[([24],[25,26]),([25],[24]),([26],[24])]
abbrev KS:=List (Key×Bool)
def Jn(M:KS)(k:Key):Bool:=(JB M k).getD false
def JQ(T0:KS)(N:List (Key×List Key)):Nat→Key→KS→KS
 |0,_,M=>M
 |n+1,k,M=>if Jn T0 k=true∧Jn M k=false then ((JB N k).getD []).foldl (fun M x=>JQ T0 N n x M) (JV M k true) else M
def YE(T0 M:KS):Nat:=(T0.filter fun p=>p.2 && !Jn M p.1).length
theorem Ja8(M:KS)(k x:Key):Jn (JV M k true) x=(decide (x=k) || Jn M x):=by
 unfold Jn
 rw[Jiv]
 by_cases h:x=k<;>simp[h]
theorem JeW(T0:KS)(N:List (Key×List Key)):∀(n:Nat) (k:Key) (M:KS) (x:Key),Jn M x=true→Jn (JQ T0 N n k M) x=true
 |0,_,_,_,h=>h
 |n+1,k,M,x,h=>by
  unfold JQ
  split
  ·have:∀(l:List Key) (M:KS),Jn M x=true→Jn (l.foldl (fun M y=>JQ T0 N n y M) M) x=true:=by
    intro l
    induction l with
    |nil=>exact fun M h=>h
    |cons y l ih=>exact fun M h=>ih _ (JeW T0 N n y M x h)
   exact this _ _ (by rw[Ja8];simp[h])
  ·exact h
theorem Jix{T0 M M':KS}(h:∀x,Jn M x=true→Jn M' x=true):YE T0 M'≤YE T0 M:=by
 unfold YE
 rw[←List.countP_eq_length_filter,←List.countP_eq_length_filter]
 refine List.countP_mono_left fun p _ hp=>?_
 simp only[Bool.and_eq_true,Bool.not_eq_true'] at hp ⊢
 refine⟨hp.1,?_⟩
 cases hm:Jn M p.1 with
 |false=>rfl
 |true=>rw[h _ hm] at hp;simp at hp
theorem Jmp{α β:Type} [DecidableEq α]{M:List (α×β)}{x:α}{v:β}(h:JB M x=some v):(x,v)∈M:=by
 unfold JB at h
 obtain⟨p,h1,h2⟩:=Option.map_eq_some_iff.1 h
 have h3:=List.find?_some h1
 have h4:=List.mem_of_find?_eq_some h1
 have:p.1=x:=by simpa using(of_decide_eq_true h3).symm
 rw[←this,←h2];exact h4
theorem Jl3{M:KS}{k:Key}(h:Jn M k=true):(k,true)∈M:=by
 unfold Jn at h
 cases hm:JB M k with
 |none=>rw[hm] at h;simp at h
 |some b=>rw[hm] at h;simp at h;subst h;exact Jmp hm
theorem Jeb{T0 M:KS}{k:Key}(h1:Jn T0 k=true)(h2:Jn M k=false):YE T0 (JV M k true)<YE T0 M:=by
 have hm:=Jl3 h1
 unfold YE
 have key:∀(l:KS),(l.filter fun p=>p.2 && !Jn (JV M k true) p.1).length≤(l.filter fun p=>p.2 && !Jn M p.1).length∧((k,true)∈l→(l.filter fun p=>p.2 && !Jn (JV M k true) p.1).length<(l.filter fun p=>p.2 && !Jn M p.1).length):=by
  intro l
  induction l with
  |nil=>simp
  |cons p l ih =>
   obtain⟨i1,i2⟩:=ih
   have hp:(p.2 && !Jn (JV M k true) p.1)=true→(p.2 && !Jn M p.1)=true:=by
    rw[Ja8]
    simp only[Bool.and_eq_true,Bool.not_eq_true',Bool.or_eq_false_iff]
    exact fun⟨a,_,b⟩=>⟨a,b⟩
   refine⟨?_,fun hmem=>?_⟩
   ·rw[List.filter_cons,List.filter_cons]
    by_cases q1:(p.2 && !Jn (JV M k true) p.1)=true
    ·rw[if_pos q1,if_pos (hp q1)];simp;exact i1
    ·rw[if_neg q1]
     split
     ·simp;omega
     ·exact i1
   ·rw[List.filter_cons,List.filter_cons]
    rcases List.mem_cons.1 hmem with rfl|hmem
    ·rw[if_neg (by rw[Ja8];simp),if_pos (by simp[h2])]
     simp;omega
    ·have:=i2 hmem
     by_cases q1:(p.2 && !Jn (JV M k true) p.1)=true
     ·rw[if_pos q1,if_pos (hp q1)];simp;exact this
     ·rw[if_neg q1]
      split
      ·simp;omega
      ·exact this
 exact(key T0).2 hm
theorem Jmi{N:List (Key×List Key)}{k:Key}{v:List Key}(h:JB N k=some v)(z:AV):YO false z (Jy N) (JJ k N)=.slice false (Ja v):=by
 cases hi:JJ k N with
 |none=>rw[JbW hi] at h;cases h
 |some i =>
  obtain⟨h1,h2⟩:=JcP hi
  rw[h2] at h
  cases h
  show(Jy N).getD i .any=_
  unfold Jy
  rw[JgX _ i (by simpa using h1)]
  simp[JkN]
set_option maxHeartbeats 4000000 in
theorem JrZ(T0:KS)(N:List (Key×List Key))(hTN:∀k,Jn T0 k=true→∃ks,JB N k=some ks∧Jc ks.length):∀(n:Nat) (k_kind:Int) (k_name:List UInt8) (M:KS),YE T0 M≤n →
  CallH Tryz.prog 106 1000 [.agg [.int .i64 k_kind,.str k_name],.ro [.mp (Js T0) (Jy T0)],.ro [.mref 1000 0],.ro [.mp (Js N) (Jy N)],VY 106 (.ro [.mp (Js T0) (Jy T0)]) (.ro [.mref 1000 0]) (.ro [.mp (Js N) (Jy N)]) n] (Js M) (Jy M) (.tup [])
   (Js (JQ T0 N n (⟨k_kind,k_name⟩:Key) M)) (Jy (JQ T0 N n (⟨k_kind,k_name⟩:Key) M)):=by
 intro n
 induction n with
 |zero =>
  intro k_kind k_name M hmu
  have hno:¬(Jn T0 (⟨k_kind,k_name⟩:Key)=true∧Jn M (⟨k_kind,k_name⟩:Key)=false):=fun⟨h1,h2⟩=>by have:=Jeb h1 h2;omega
  have e:JQ T0 N 0 (⟨k_kind,k_name⟩:Key) M=M:=rfl
  rw[e]
  refine CallH.go5 (T:=T) Tryz.call106 Tryz.func106 rfl Tryz.ntmps106 (congrArg Array.toList Tryz.results106) (by decide) fun ts hn h0 h1 h2 h3 h4 hg ho=>?_
  by_cases hT:(JB T0 (⟨k_kind,k_name⟩:Key)).getD false=true
  ·have hO:(JB M (⟨k_kind,k_name⟩:Key)).getD false=true:=by
    cases hm:(JB M (⟨k_kind,k_name⟩:Key)).getD false with
    |true=>rfl
    |false=>exact absurd ⟨hT,hm⟩ hno
   (repeat' (first
 | (with_reducible first|assumption|(refine Qw hK _ ?_;clear hK K)|refine Qw ‹_› _ ?_|refine Qx ‹_› ?_|refine Qi fun K hK=>?_|refine Qj T fun K hK=>?_|refine Ql fun A B hA hB=>?_|refine Qm ?_|refine Qn ?_|refine Qp ?_|refine Qr ?_)
 | ((with_reducible first|apply Qy|apply Qz|apply QA)<;>intro hb<;>try simp only[nr] at hb)
 |simp only[go_sem,↓reduceIte,reduceIte,Qa,Qh,Qb,Qc,Qd,Qe,Qf,Qg,reduceCtorEq, *,-hTN,-hno,-h4]
 |with_reducible refine fun(bn:Bool) hbn=>?_))
  ·have hT:(JB T0 (⟨k_kind,k_name⟩:Key)).getD false=false:=by simpa using hT
   (repeat' (first
 | (with_reducible first|assumption|(refine Qw hK _ ?_;clear hK K)|refine Qw ‹_› _ ?_|refine Qx ‹_› ?_|refine Qi fun K hK=>?_|refine Qj T fun K hK=>?_|refine Ql fun A B hA hB=>?_|refine Qm ?_|refine Qn ?_|refine Qp ?_|refine Qr ?_)
 | ((with_reducible first|apply Qy|apply Qz|apply QA)<;>intro hb<;>try simp only[nr] at hb)
 |simp only[go_sem,↓reduceIte,reduceIte,Qa,Qh,Qb,Qc,Qd,Qe,Qf,Qg,reduceCtorEq, *,-hTN,-hno,-h4]
 |with_reducible refine fun(bn:Bool) hbn=>?_))
 |succ n ih =>
  intro k_kind k_name M hmu
  by_cases hT:(JB T0 (⟨k_kind,k_name⟩:Key)).getD false=true
  rotate_left
  ·have hT:(JB T0 (⟨k_kind,k_name⟩:Key)).getD false=false:=by simpa using hT
   have e:JQ T0 N (n+1) (⟨k_kind,k_name⟩:Key) M=M:=by unfold JQ;rw[if_neg (by simp[Jn,hT])]
   rw[e]
   refine CallH.go5 (T:=T) Tryz.call106 Tryz.func106 rfl Tryz.ntmps106 (congrArg Array.toList Tryz.results106) (by decide) fun ts hn h0 h1 h2 h3 h4 hg ho=>?_
   (repeat' (first
 | (with_reducible first|assumption|(refine Qw hK _ ?_;clear hK K)|refine Qw ‹_› _ ?_|refine Qx ‹_› ?_|refine Qi fun K hK=>?_|refine Qj T fun K hK=>?_|refine Ql fun A B hA hB=>?_|refine Qm ?_|refine Qn ?_|refine Qp ?_|refine Qr ?_)
 | ((with_reducible first|apply Qy|apply Qz|apply QA)<;>intro hb<;>try simp only[nr] at hb)
 |simp only[go_sem,↓reduceIte,reduceIte,Qa,Qh,Qb,Qc,Qd,Qe,Qf,Qg,reduceCtorEq, *,-hTN,-h4]
 |with_reducible refine fun(bn:Bool) hbn=>?_))
  by_cases hO:(JB M (⟨k_kind,k_name⟩:Key)).getD false=true
  ·have e:JQ T0 N (n+1) (⟨k_kind,k_name⟩:Key) M=M:=by unfold JQ;rw[if_neg (by simp[Jn,hO])]
   rw[e]
   refine CallH.go5 (T:=T) Tryz.call106 Tryz.func106 rfl Tryz.ntmps106 (congrArg Array.toList Tryz.results106) (by decide) fun ts hn h0 h1 h2 h3 h4 hg ho=>?_
   (repeat' (first
 | (with_reducible first|assumption|(refine Qw hK _ ?_;clear hK K)|refine Qw ‹_› _ ?_|refine Qx ‹_› ?_|refine Qi fun K hK=>?_|refine Qj T fun K hK=>?_|refine Ql fun A B hA hB=>?_|refine Qm ?_|refine Qn ?_|refine Qp ?_|refine Qr ?_)
 | ((with_reducible first|apply Qy|apply Qz|apply QA)<;>intro hb<;>try simp only[nr] at hb)
 |simp only[go_sem,↓reduceIte,reduceIte,Qa,Qh,Qb,Qc,Qd,Qe,Qf,Qg,reduceCtorEq, *,-hTN,-h4]
 |with_reducible refine fun(bn:Bool) hbn=>?_))
  have hO:(JB M (⟨k_kind,k_name⟩:Key)).getD false=false:=by simpa using hO
  obtain⟨v,hv,hvs⟩:=hTN (⟨k_kind,k_name⟩:Key) hT
  have hlk:=Jmi hv
  have e:JQ T0 N (n+1) (⟨k_kind,k_name⟩:Key) M=v.foldl (fun M x=>JQ T0 N n x M) (JV M (⟨k_kind,k_name⟩:Key) true):=by
   rw[JQ,if_pos ⟨hT,hO⟩,hv];rfl
  rw[e]
  have hmu1:YE T0 (JV M (⟨k_kind,k_name⟩:Key) true)≤n:=by have:=Jeb (T0:=T0) (M:=M) hT hO;omega
  refine CallH.go5 (T:=T) Tryz.call106 Tryz.func106 rfl Tryz.ntmps106 (congrArg Array.toList Tryz.results106) (by decide) fun ts hn h0 h1 h2 h3 h4 hg ho=>?_
  rw[Jgc] at h4
  (repeat' (first
 | (with_reducible first|assumption|(refine Qw hK _ ?_;clear hK K)|refine Qw ‹_› _ ?_|refine Qx ‹_› ?_|refine Qi fun K hK=>?_|refine Qj T fun K hK=>?_|refine Ql fun A B hA hB=>?_|refine Qm ?_|refine Qn ?_|refine Qp ?_|refine Qr ?_)
 | ((with_reducible first|apply Qy|apply Qz|apply QA)<;>intro hb<;>try simp only[nr] at hb)
 |simp only[go_sem,↓reduceIte,reduceIte,Qa,Qh,Qb,Qc,Qd,Qe,Qf,Qg,reduceCtorEq, *,-hTN,-ih]
 |with_reducible refine fun(bn:Bool) hbn=>?_))
  have hre:(VY 106 (.ro [.mp (Js T0) (Jy T0)]) (.ro [.mref 1000 0]) (.ro [.mp (Js N) (Jy N)]) n).renM 1000 0 1000=VY 106 (.ro [.mp (Js T0) (Jy T0)]) (.ro [.mref 1000 0]) (.ro [.mp (Js N) (Jy N)]) n :=
   Jjt _ _ _ _ _ _ _ _ (by simp only[go_sem,Bool.and_self]) (by simp only[go_sem,Bool.and_self])
  have hpe:(VY 106 (.ro [.mp (Js T0) (Jy T0)]) (.ro [.mref 1000 0]) (.ro [.mp (Js N) (Jy N)]) n).pureH 1000 0=true :=
   Jje _ _ _ _ _ _ _ (by simp only[go_sem,Bool.and_self]) (by decide) (by simp only[go_sem,Bool.and_self])
  refine Qs [4,21,22] (fun m ts'=>∃(i:Nat),∃(M2:KS),m=v.length-i∧i≤v.length∧YE T0 M2≤n∧v.foldl (fun M x=>JQ T0 N n x M) (JV M (⟨k_kind,k_name⟩:Key) true)=(v.drop i).foldl (fun M x=>JQ T0 N n x M) M2∧ts'.gen 1000=0∧ts'.obj 1000=.mp (Js M2) (Jy M2)∧ts'.tmp 23=.int .i64 i) v.length ?_ ?_
  ·refine⟨0,JV M (⟨k_kind,k_name⟩:Key) true,rfl,Nat.zero_le _,hmu1,rfl,?_⟩
   simp only[go_sem,↓reduceIte,reduceIte,Qa,Qh,Qb,Qc,Qd,Qe,Qf,Qg,reduceCtorEq, *,-hTN,-ih,-e]
  ·rintro m A hM ts' hk ⟨i,M2,hm,f1,f2,f3,s1,s2,s3⟩
   simp only[go_sem,↓reduceIte,reduceIte,Qa,Qh,Qb,Qc,Qd,Qe,Qf,Qg,reduceCtorEq, *] at hk
   by_cases hlt:i<v.length
   ·rw[List.drop_eq_getElem_cons hlt,List.foldl_cons] at f3
    (repeat' (first
 | (with_reducible first|refine callX.hm (d:=1000) (g:=0) ?_ ?_ (ih v[i].kind v[i].name M2 f2) ?_|assumption|(refine Qw hK _ ?_;clear hK K)|refine Qw ‹_› _ ?_|refine Qx ‹_› ?_|refine Qi fun K hK=>?_|refine Qj T fun K hK=>?_|refine Ql fun A B hA hB=>?_|refine Qm ?_|refine Qn ?_|refine Qp ?_|refine Qr ?_)
 | ((with_reducible first|apply Qy|apply Qz|apply QA)<;>intro hb<;>try simp only[nr] at hb)
 |simp only[go_sem,↓reduceIte,reduceIte,Qa,Qh,Qb,Qc,Qd,Qe,Qf,Qg,reduceCtorEq, *,-hTN,-ih,-f3,-e]
 |with_reducible refine fun(bn:Bool) hbn=>?_))
    all_goals ((repeat clear hK);(repeat clear hA);(repeat clear hB))
    (refine hM.on (v.length-(i+1)) (by omega) (by simp only[go_sem,↓reduceIte,reduceIte,Qa,Qh,Qb,Qc,Qd,Qe,Qf,Qg,reduceCtorEq, *,Jf hlt hvs,-hTN,-ih,-f3,-e]) ⟨i+1,JQ T0 N n v[i] M2,rfl,by omega,Nat.le_trans (Jix fun x hx=>JeW T0 N n _ M2 x hx) f2,f3,?_⟩;simp only[go_sem,↓reduceIte,reduceIte,Qa,Qh,Qb,Qc,Qd,Qe,Qf,Qg,reduceCtorEq, *,Jf hlt hvs,-hTN,-ih,-f3,-e];done)
   ·rw[List.drop_eq_nil_of_le (by omega),List.foldl_nil] at f3
    (repeat' (first
 | (with_reducible first|assumption|(refine Qw hK _ ?_;clear hK K)|refine Qw ‹_› _ ?_|refine Qx ‹_› ?_|refine Qi fun K hK=>?_|refine Qj T fun K hK=>?_|refine Ql fun A B hA hB=>?_|refine Qm ?_|refine Qn ?_|refine Qp ?_|refine Qr ?_)
 | ((with_reducible first|apply Qy|apply Qz|apply QA)<;>intro hb<;>try simp only[nr] at hb)
 |simp only[go_sem,↓reduceIte,reduceIte,Qa,Qh,Qb,Qc,Qd,Qe,Qf,Qg,reduceCtorEq, *,-hTN,-ih,-e]
 |with_reducible refine fun(bn:Bool) hbn=>?_))
theorem Jiu(l:List Res)(k:Key):∀M:KS,Jn (Vj l M) k=(decide (k∈l.map Jg) || Jn M k):=by
 unfold Vj
 induction l with
 |nil=>intro M;simp
 |cons r l ih =>
  intro M
  rw[List.foldl_cons,ih,Ja8]
  by_cases h1:k=Jg r<;>by_cases h2:k∈l.map Jg<;>simp_all
def Z3(k:Key)(l:List Res):List Key:=l.flatMap fun r=>if Jg r=k then JH r else []
theorem mem_cat{k x:Key}{l:List Res}:x∈Z3 k l↔∃r∈l,Jg r=k∧x∈JH r:=by
 unfold Z3
 rw[List.mem_flatMap]
 refine⟨fun⟨r,h1,h2⟩=>?_,fun⟨r,h1,h2,h3⟩=>⟨r,h1,by rw[if_pos h2];exact h3⟩⟩
 split at h2
 ·rename_i h;exact⟨r,h1,h,h2⟩
 ·simp at h2
theorem Jg5(k:Key)(r:Res)(l:List Res):Z3 k (r :: l)=(if Jg r=k then JH r else [])++Z3 k l:=rfl
theorem Jg6(k:Key):∀l:List Res,(Z3 k l).length≤33*l.length
 | []=>Nat.le_refl _
 |r :: l=>by
  have:=Jg6 k l
  have:=Jeu r
  rw[Jg5,List.length_append,List.length_cons]
  split<;>simp<;>omega
theorem JhT(k:Key):∀(l:List Res) (M:List (Key×List Key)),JB (l.foldl Vu M) k=if k∈l.map Jg then some ((JB M k).getD []++Z3 k l) else JB M k
 | [],M=>by simp
 |r :: l,M=>by
  have hm:JB (Vu M r) k=if k=Jg r then some ((JB M k).getD []++JH r) else JB M k:=by
   unfold Vu
   rw[Jiv]
   by_cases h:k=Jg r
   ·subst h;simp
   ·simp[h]
  rw[List.foldl_cons,JhT k l,hm,Jg5]
  by_cases h:k=Jg r
  ·subst h
   simp only[if_true,List.map_cons,List.mem_cons,true_or,Option.getD_some,List.append_assoc]
   split
   ·rfl
   ·rename_i hn
    have:Z3 (Jg r) l=[]:=List.eq_nil_iff_forall_not_mem.2 fun x hx=>by
     obtain⟨q,h1,h2,_⟩:=mem_cat.1 hx
     exact hn (h2▸List.mem_map_of_mem h1)
    rw[this,List.append_nil]
  ·simp only[h,if_false,List.map_cons,List.mem_cons,false_or,show ¬Jg r=k from fun e=>h e.symm,List.nil_append]
theorem JiE{l:List Res}{k:Key}(h:k∈l.map Jg):JB (YP l) k=some (Z3 k l):=by
 unfold YP
 rw[JhT,if_pos h]
 rfl
def YR(T0:KS)(N:List (Key×List Key))(n:Nat)(l:List Res)(M:KS):KS:=l.foldl (fun M r=>if r.kind=0 then JQ T0 N n (Jg r) M else M) M
def V2(l:List Res):KS:=YR (Vj l []) (YP l) (Vj l []).length l []
set_option maxHeartbeats 4000000 in
theorem Jjn(xs:List Res)(hl:xs.length≤65536)(hs:∀r∈xs,Ju r):CallR Tryz.prog 69 [.slice false (Ja xs)] (.val (.mp (Js (V2 xs)) (Jy (V2 xs)))):=by
 have hsl:=ZE hl
 obtain⟨T0,hT0⟩:∃T0,Vj xs []=T0:=⟨_,rfl⟩
 obtain⟨N,hN⟩:∃N,YP xs=N:=⟨_,rfl⟩
 have hTN:∀k,Jn T0 k=true→∃ks,JB N k=some ks∧Jc ks.length:=fun k hk=>by
  rw[←hT0,Jiu] at hk
  have hk':k∈xs.map Jg:=by simpa[Jn] using hk
  have:=Jg6 k xs
  exact⟨_,by rw[←hN];exact JiE hk',by unfold Jc;omega⟩
 have hmu:∀M,YE T0 M≤T0.length:=fun M=>List.length_filter_le _ _
 have hR:V2 xs=YR T0 N T0.length xs []:=by rw[←hT0,←hN];rfl
 rw[hR]
 clear hR
 have hof:=YS xs hsl
 have hna:=JeA xs hl hs
 rw[hT0] at hof
 rw[hN] at hna
 refine QD (T:=T) Tryz.call69 Tryz.func69 rfl Tryz.ntmps69 (congrArg Array.toList Tryz.results69) (by decide) fun ts hn h0=>?_
 (repeat' (first
 | (with_reducible first|refine SpecC.mkRec T 3 fun K hK=>?_|refine callX.by (hof) ?_|refine callX.by (hna) ?_|refine callX.by (YS _ ?_) ?_|refine callX.by (JeA _ ?_ ?_) ?_|refine callX.by (J6 _ _ _ _ _ _ _) ?_|assumption|(refine Qw hK _ ?_;clear hK K)|refine Qw ‹_› _ ?_|refine Qx ‹_› ?_|refine Qi fun K hK=>?_|refine Qj T fun K hK=>?_|refine Qk (id:=8) T mixed Je4 (by kernel_rfl) fun K hK=>?_|refine Ql fun A B hA hB=>?_|refine Qm ?_|refine Qn ?_|refine Qp ?_|refine Qr ?_)
 | ((with_reducible first|apply Qy|apply Qz|apply QA)<;>intro hb<;>try simp only[nr] at hb)
 |simp only[go_sem,↓reduceIte,reduceIte,Qa,Qh,Qb,Qc,Qd,Qe,Qf,Qg,reduceCtorEq, *,-hs,-hTN,-hmu,-hof,-hna,-hT0,-hN]
 |with_reducible refine fun(bn:Bool) hbn=>?_))
 have hp1:AV.pure (.ro [.mp (Js T0) (Jy T0)])=true:=by simp only[go_sem,Bool.and_self]
 have hp2:AV.pure (.ro [.mp (Js N) (Jy N)])=true:=by simp only[go_sem,Bool.and_self]
 have hre:∀g n,(VY 106 (.ro [.mp (Js T0) (Jy T0)]) (.ro [.mref 13 g]) (.ro [.mp (Js N) (Jy N)]) n).renM 13 g 1000=VY 106 (.ro [.mp (Js T0) (Jy T0)]) (.ro [.mref 1000 0]) (.ro [.mp (Js N) (Jy N)]) n:=fun g n=>by
  rw[Jjt _ _ _ _ _ _ _ _ hp1 hp2];simp[AV.renM,AV.renM.renML]
 have hpe:∀g n,(VY 106 (.ro [.mp (Js T0) (Jy T0)]) (.ro [.mref 13 g]) (.ro [.mp (Js N) (Jy N)]) n).pureH 13 g=true:=fun g n =>
  Jje _ _ _ _ _ _ _ hp1 (by simp[AV.pureH,AV.pureH.pureHL]) hp2
 refine SpecC.ent (Ent.frzRec 106 (T0.length+1) 3 5 4 6 (x:=.mp (Js T0) (Jy T0)) (y:=.mref 13 (ts.gen 13+1)) (z:=.mp (Js N) (Jy N)) (by simp only[go_sem,↓reduceIte,reduceIte,Qa,Qh,Qb,Qc,Qd,Qe,Qf,Qg,reduceCtorEq, *,-hs,-hTN,-hmu,-hof,-hna,-hT0,-hN,-hp1,-hp2];done) (by simp only[go_sem,↓reduceIte,reduceIte,Qa,Qh,Qb,Qc,Qd,Qe,Qf,Qg,reduceCtorEq, *,-hs,-hTN,-hmu,-hof,-hna,-hT0,-hN,-hp1,-hp2];done) (by simp only[go_sem,↓reduceIte,reduceIte,Qa,Qh,Qb,Qc,Qd,Qe,Qf,Qg,reduceCtorEq, *,-hs,-hTN,-hmu,-hof,-hna,-hT0,-hN,-hp1,-hp2];done) (by simp only[go_sem,↓reduceIte,reduceIte,Qa,Qh,Qb,Qc,Qd,Qe,Qf,Qg,reduceCtorEq, *,-hs,-hTN,-hmu,-hof,-hna,-hT0,-hN,-hp1,-hp2];done)) ?_
 refine Qs [5,6,15,16] (fun m ts'=>∃(i:Nat),∃(M:KS),m=xs.length-i∧i≤xs.length∧YR T0 N T0.length xs []=YR T0 N T0.length (xs.drop i) M∧ts'.gen 13=ts.gen 13+1∧ts'.obj 13=.mp (Js M) (Jy M)∧ts'.tmp 17=.int .i64 i) xs.length ?_ ?_
 ·refine⟨0,[],rfl,Nat.zero_le _,rfl,?_⟩
  simp only[go_sem,↓reduceIte,reduceIte,Qa,Qh,Qb,Qc,Qd,Qe,Qf,Qg,reduceCtorEq, *,-hs,-hTN,-hmu,-hof,-hna,-hT0,-hN,-hp1,-hp2]
 ·rintro m A hM ts' hk ⟨i,M,hm,f1,f2,s1,s2,s3⟩
  simp only[go_sem,↓reduceIte,reduceIte,Qa,Qh,Qb,Qc,Qd,Qe,Qf,Qg,reduceCtorEq, *] at hk
  have hxx:∀x∈xs,True:=fun _ _=>trivial
  clear hof hna hs hxx
  by_cases hlt:i<xs.length
  ·have hstep:YR T0 N T0.length (xs.drop i) M=YR T0 N T0.length (xs.drop (i+1)) (if xs[i].kind=0 then JQ T0 N T0.length (Jg xs[i]) M else M):=by
    rw[List.drop_eq_getElem_cons hlt];rfl
   rw[hstep] at f2
   clear hstep
   (repeat' (first
 | (with_reducible first|refine callX.hm (d:=13) (g:=ts.gen 13+1) ?_ ?_ (JrZ T0 N hTN T0.length xs[i].kind xs[i].name M (hmu M)) ?_|refine callX.by (YS _ ?_) ?_|refine callX.by (JeA _ ?_ ?_) ?_|refine callX.by (J6 _ _ _ _ _ _ _) ?_|assumption|(refine Qw hK _ ?_;clear hK K)|refine Qw ‹_› _ ?_|refine Qx ‹_› ?_|refine Qi fun K hK=>?_|refine Qj T fun K hK=>?_|refine Qk (id:=8) T mixed Je4 (by kernel_rfl) fun K hK=>?_|refine Ql fun A B hA hB=>?_|refine Qm ?_|refine Qn ?_|refine Qp ?_|refine Qr ?_)
 | ((with_reducible first|apply Qy|apply Qz|apply QA)<;>intro hb<;>try simp only[nr] at hb)
 |simp only[go_sem,↓reduceIte,reduceIte,Qa,Qh,Qb,Qc,Qd,Qe,Qf,Qg,reduceCtorEq, *,-hTN,-hmu,-hT0,-hN,-hp1,-hp2,-f2,Jgc,false_and,true_and]
 |with_reducible refine fun(bn:Bool) hbn=>?_))
   all_goals ((repeat clear hK);(repeat clear hA);(repeat clear hB))
   ·rw[if_pos (of_decide_eq_true hb)] at f2
    (refine hM.on (xs.length-(i+1)) (by omega) (by simp only[go_sem,↓reduceIte,reduceIte,Qa,Qh,Qb,Qc,Qd,Qe,Qf,Qg,reduceCtorEq, *,Jf hlt hsl,Jg,-hTN,-hmu,-hT0,-hN,-hp1,-hp2,-f2]) ⟨i+1,JQ T0 N T0.length (Jg xs[i]) M,rfl,by omega,f2,?_⟩;simp only[go_sem,↓reduceIte,reduceIte,Qa,Qh,Qb,Qc,Qd,Qe,Qf,Qg,reduceCtorEq, *,Jf hlt hsl,Jg,-hTN,-hmu,-hT0,-hN,-hp1,-hp2,-f2];done)
   ·rw[if_neg (of_decide_eq_false hb)] at f2
    (refine hM.on (xs.length-(i+1)) (by omega) (by simp only[go_sem,↓reduceIte,reduceIte,Qa,Qh,Qb,Qc,Qd,Qe,Qf,Qg,reduceCtorEq, *,Jf hlt hsl,Jg,-hTN,-hmu,-hT0,-hN,-hp1,-hp2,-f2]) ⟨i+1,M,rfl,by omega,f2,?_⟩;simp only[go_sem,↓reduceIte,reduceIte,Qa,Qh,Qb,Qc,Qd,Qe,Qf,Qg,reduceCtorEq, *,Jf hlt hsl,Jg,-hTN,-hmu,-hT0,-hN,-hp1,-hp2,-f2];done)
  ·rw[List.drop_eq_nil_of_le (by omega)] at f2
   have f3:YR T0 N T0.length xs []=M:=f2
   clear f2
   (repeat' (first
 | (with_reducible first|refine callX.by (YS _ ?_) ?_|refine callX.by (JeA _ ?_ ?_) ?_|refine callX.by (J6 _ _ _ _ _ _ _) ?_|assumption|(refine Qw hK _ ?_;clear hK K)|refine Qw ‹_› _ ?_|refine Qx ‹_› ?_|refine Qi fun K hK=>?_|refine Qj T fun K hK=>?_|refine Qk (id:=8) T mixed Je4 (by kernel_rfl) fun K hK=>?_|refine Ql fun A B hA hB=>?_|refine Qm ?_|refine Qn ?_|refine Qp ?_|refine Qr ?_)
 | ((with_reducible first|apply Qy|apply Qz|apply QA)<;>intro hb<;>try simp only[nr] at hb)
 |simp only[go_sem,↓reduceIte,reduceIte,Qa,Qh,Qb,Qc,Qd,Qe,Qf,Qg,reduceCtorEq, *,-hTN,-hmu,-hT0,-hN,-hp1,-hp2,false_and,true_and]
 |with_reducible refine fun(bn:Bool) hbn=>?_))
theorem Jff(M:KS):Caps [.ro [.mp (Js M) (Jy M)]]:=⟨by simp only[go_sem,Bool.and_self],by simp only[go_sem]⟩
theorem Jnr(r_kind:Int)(r_name:List UInt8)(r_ver:Int)(r_port:Int)(r_to:List UInt8)(r_rules:List Rule)(r_hosts:List Int)(M:KS):CallR Tryz.prog 141 [.agg [.int .i64 r_kind,.str r_name,.int .i64 r_ver,.int .i64 r_port,.str r_to,.slice false (Ja r_rules),.slice false (Ja r_hosts)],.ro [.mp (Js M) (Jy M)]] (.val (.bool (!Jn M (Jg (⟨r_kind,r_name,r_ver,r_port,r_to,r_rules,r_hosts⟩:Res))))):=by
 refine CallR.go2 (T:=T) Tryz.call141 Tryz.func141 rfl Tryz.ntmps141 (congrArg Array.toList Tryz.results141) (by decide) fun ts hn h0 h1=>?_
 (repeat' (first
 | (with_reducible first|refine callX.by (J6 _ _ _ _ _ _ _) ?_|assumption|(refine Qw hK _ ?_;clear hK K)|refine Qw ‹_› _ ?_|refine Qx ‹_› ?_|refine Qi fun K hK=>?_|refine Qj T fun K hK=>?_|refine Qk (id:=1) T mixed [([4],[5,6]),([5],[4]),([6],[4])] (by kernel_rfl) fun K hK=>?_|refine Ql fun A B hA hB=>?_|refine Qn ?_|refine Qr ?_)
 | ((with_reducible first|apply Qy|apply Qz|apply QA)<;>intro hb<;>try simp only[nr] at hb)
 |simp only[go_sem,↓reduceIte,reduceIte,Qa,Qh,Qb,Qc,Qd,Qe,Qf,Qg,reduceCtorEq, *]
 |with_reducible refine fun(bn:Bool) hbn=>?_))
 all_goals rfl
def JL(l:List Res):List Res:=l.filter fun r=>Jn (V2 l) (Jg r)
theorem Jer(l:List Res):(JL l).length≤l.length:=List.length_filter_le _ _
theorem Jcl(xs:List Res)(hl:xs.length≤65536)(hs:∀r∈xs,Ju r):CallR Tryz.prog 95 [.slice false (Ja xs)] (.own 7 (Ja (JL xs))):=by
 have hsl:=ZE hl
 have hd:=JdM 141 [.ro [.mp (Js (V2 xs)) (Jy (V2 xs))]] (Jff _) (fun r=>!Jn (V2 xs) (Jg r)) xs (fun x _=>Jnr x.kind x.name x.ver x.port x.to' x.rules' x.hosts _) hsl
 simp only[Bool.not_not] at hd
 have e:xs.filter (fun x=>Jn (V2 xs) (Jg x))=JL xs:=rfl
 rw[e] at hd
 refine QD (T:=T) Tryz.call95 Tryz.func95 rfl Tryz.ntmps95 (congrArg Array.toList Tryz.results95) (by decide) fun ts hn h0=>?_
 (repeat' (first
 | (with_reducible refine callX.mv ?_ ?_ ?_ (hd);(focus(simp only[go_sem,↓reduceIte,reduceIte,Qa,Qh,Qb,Qc,Qd,Qe,Qf,Qg,reduceCtorEq, *,-hs,-hd,-e];first|done|rfl));(focus(simp only[go_sem,↓reduceIte,reduceIte,Qa,Qh,Qb,Qc,Qd,Qe,Qf,Qg,reduceCtorEq, *,-hs,-hd,-e];first|done|rfl)))
 | (with_reducible first|refine callX.by (Jjn _ ?_ ?_) ?_|refine callX.by (Jhg _ _ ?_) ?_)
 | (with_reducible refine callX.mv ?_ ?_ ?_ (JdM ?_ ?_ ?_ ?_ ?_ ?_ ?_);(focus(simp only[go_sem,↓reduceIte,reduceIte,Qa,Qh,Qb,Qc,Qd,Qe,Qf,Qg,reduceCtorEq, *,-hs,-hd,-e];first|done|rfl));(focus(simp only[go_sem,↓reduceIte,reduceIte,Qa,Qh,Qb,Qc,Qd,Qe,Qf,Qg,reduceCtorEq, *,-hs,-hd,-e];first|done|rfl)))
 | (with_reducible first|assumption|(refine Qw hK _ ?_;clear hK K)|refine Qw ‹_› _ ?_|refine Qx ‹_› ?_|refine Qi fun K hK=>?_|refine Qj T fun K hK=>?_|refine Ql fun A B hA hB=>?_|refine Qn ?_|refine Qr ?_)
 | ((with_reducible first|apply Qy|apply Qz|apply QA)<;>intro hb<;>try simp only[nr] at hb)
 |simp only[go_sem,↓reduceIte,reduceIte,Qa,Qh,Qb,Qc,Qd,Qe,Qf,Qg,reduceCtorEq, *,-hs,-hd,-e]
 |with_reducible refine fun(bn:Bool) hbn=>?_))
theorem JmX(k_kind:Int)(k_name:List UInt8)(M:KS):CallR Tryz.prog 72 [.agg [.int .i64 k_kind,.str k_name],.ro [.mp (Js M) (Jy M)]] (.val (.bool (Jn M (⟨k_kind,k_name⟩:Key)))):=by
 refine CallR.go2 (T:=T) Tryz.call72 Tryz.func72 rfl Tryz.ntmps72 (congrArg Array.toList Tryz.results72) (by decide) fun ts hn h0 h1=>?_
 (repeat' (first
 | (with_reducible first|assumption|(refine Qw hK _ ?_;clear hK K)|refine Qw ‹_› _ ?_|refine Qx ‹_› ?_|refine Qi fun K hK=>?_|refine Qj T fun K hK=>?_|refine Ql fun A B hA hB=>?_|refine Qn ?_|refine Qr ?_)
 | ((with_reducible first|apply Qy|apply Qz|apply QA)<;>intro hb<;>try simp only[nr] at hb)
 |simp only[go_sem,↓reduceIte,reduceIte,Qa,Qh,Qb,Qc,Qd,Qe,Qf,Qg,reduceCtorEq, *]
 |with_reducible refine fun(bn:Bool) hbn=>?_))
 all_goals rfl
def Jce(l:List Res):List Key:=(l.map Jg).filter fun k=>!Jn (V2 l) k
theorem Zy(xs:List Res)(hl:xs.length≤65536)(hs:∀r∈xs,Ju r):CallR Tryz.prog 26 [.slice false (Ja xs)] (.own 2 (Ja (Jce xs))):=by
 have hsl:=ZE hl
 have hkl:Jc (xs.map Jg).length:=by simpa using hsl
 have hlk:(xs.map Jg).length=xs.length:=List.length_map _
 have hd:=Jhq 72 [.ro [.mp (Js (V2 xs)) (Jy (V2 xs))]] (Jff _) (fun k=>Jn (V2 xs) k) (xs.map Jg) (fun x _=>JmX x.kind x.name _) hkl
 have e:(xs.map Jg).filter (fun x=>!Jn (V2 xs) x)=Jce xs:=rfl
 rw[e] at hd
 have htk:(xs.map Jg).take xs.length=xs.map Jg:=List.take_of_length_le (by omega)
 refine QD (T:=T) Tryz.call26 Tryz.func26 rfl Tryz.ntmps26 (congrArg Array.toList Tryz.results26) (by decide) fun ts hn h0=>?_
 (repeat' (first
 | (with_reducible refine callX.mv ?_ ?_ ?_ (hd);(focus(simp only[go_sem,↓reduceIte,reduceIte,Qa,Qh,Qb,Qc,Qd,Qe,Qf,Qg,reduceCtorEq, *,-hs,-hd,-e];first|done|rfl));(focus(simp only[go_sem,↓reduceIte,reduceIte,Qa,Qh,Qb,Qc,Qd,Qe,Qf,Qg,reduceCtorEq, *,-hs,-hd,-e];first|done|rfl)))
 | (with_reducible first|refine callX.by (Jjn _ ?_ ?_) ?_|refine callX.by (JeS _ ?_) ?_)
 | (with_reducible refine callX.mv ?_ ?_ ?_ (Jhq ?_ ?_ ?_ ?_ ?_ ?_ ?_);(focus(simp only[go_sem,↓reduceIte,reduceIte,Qa,Qh,Qb,Qc,Qd,Qe,Qf,Qg,reduceCtorEq, *,-hs,-hd,-e];first|done|rfl));(focus(simp only[go_sem,↓reduceIte,reduceIte,Qa,Qh,Qb,Qc,Qd,Qe,Qf,Qg,reduceCtorEq, *,-hs,-hd,-e];first|done|rfl)))
 | (with_reducible first|assumption|(refine Qw hK _ ?_;clear hK K)|refine Qw ‹_› _ ?_|refine Qx ‹_› ?_|refine Qi fun K hK=>?_|refine Qj T fun K hK=>?_|refine Ql fun A B hA hB=>?_|refine Qn ?_|refine Qr ?_)
 | ((with_reducible first|apply Qy|apply Qz|apply QA)<;>intro hb<;>try simp only[nr] at hb)
 |simp only[go_sem,↓reduceIte,reduceIte,Qa,Qh,Qb,Qc,Qd,Qe,Qf,Qg,reduceCtorEq, *,-hs,-hd,-e]
 |with_reducible refine fun(bn:Bool) hbn=>?_))
theorem Jn0(k_kind:Int)(k_name:List UInt8)(M:KS):CallR Tryz.prog 97 [.agg [.int .i64 k_kind,.str k_name],.ro [.mp (Js M) (Jy M)]] (.val (.bool (!Jn M (⟨k_kind,k_name⟩:Key)))):=by
 refine CallR.go2 (T:=T) Tryz.call97 Tryz.func97 rfl Tryz.ntmps97 (congrArg Array.toList Tryz.results97) (by decide) fun ts hn h0 h1=>?_
 (repeat' (first
 | (with_reducible first|assumption|(refine Qw hK _ ?_;clear hK K)|refine Qw ‹_› _ ?_|refine Qx ‹_› ?_|refine Qi fun K hK=>?_|refine Qj T fun K hK=>?_|refine Ql fun A B hA hB=>?_|refine Qn ?_|refine Qr ?_)
 | ((with_reducible first|apply Qy|apply Qz|apply QA)<;>intro hb<;>try simp only[nr] at hb)
 |simp only[go_sem,↓reduceIte,reduceIte,Qa,Qh,Qb,Qc,Qd,Qe,Qf,Qg,reduceCtorEq, *]
 |with_reducible refine fun(bn:Bool) hbn=>?_))
 all_goals rfl
def JaW(r:Res):Bool:=decide (r.kind=3) && decide (r.hosts.length=0)
theorem JeK(r_kind:Int)(r_name:List UInt8)(r_ver:Int)(r_port:Int)(r_to:List UInt8)(r_rules:List Rule)(r_hosts:List Int):CallR Tryz.prog 99 [.agg [.int .i64 r_kind,.str r_name,.int .i64 r_ver,.int .i64 r_port,.str r_to,.slice false (Ja r_rules),.slice false (Ja r_hosts)]] (.val (.bool (JaW (⟨r_kind,r_name,r_ver,r_port,r_to,r_rules,r_hosts⟩:Res)))):=by
 refine QD (T:=T) Tryz.call99 Tryz.func99 rfl Tryz.ntmps99 (congrArg Array.toList Tryz.results99) (by decide) fun ts hn h0=>?_
 (repeat' (first
 | (with_reducible first|assumption|(refine Qw hK _ ?_;clear hK K)|refine Qw ‹_› _ ?_|refine Qx ‹_› ?_|refine Qi fun K hK=>?_|refine Qj T fun K hK=>?_|refine Ql fun A B hA hB=>?_|refine Qn ?_|refine Qr ?_)
 | ((with_reducible first|apply Qy|apply Qz|apply QA)<;>intro hb<;>try simp only[nr] at hb)
 |simp only[go_sem,↓reduceIte,reduceIte,Qa,Qh,Qb,Qc,Qd,Qe,Qf,Qg,reduceCtorEq, *]
 |with_reducible refine fun(bn:Bool) hbn=>?_))
 all_goals simp_all[JaW]
def ZN(M:KS)(r:Res):Bool:=(JH r).any fun k=>!Jn M k
def Vq(l:List Res):Int:=if(JL l).any (ZN (Vj l []))=true then 6 else if(JL l).any JaW=true then 7 else 0
set_option maxHeartbeats 4000000 in
theorem Jbp(xs:List Res)(hl:xs.length≤65536)(hs:∀r∈xs,Ju r):CallR Tryz.prog 63 [.slice false (Ja xs)] (.val (.int .i64 (Vq xs))):=by
 have hsl:=ZE hl
 have hrl:=Jer xs
 have hrs:Jc (JL xs).length:=ZE (by omega)
 have hr1:=Jcl xs hl hs
 have hsr:∀r∈JL xs,Ju r:=fun r hr=>hs r (List.mem_filter.1 hr).1
 have hc2:=JbI 99 [] Caps.nil JaW (JL xs) (fun x _=>JeK x.kind x.name x.ver x.port x.to' x.rules' x.hosts) hrs
 obtain⟨M,hM0⟩:∃M,Vj xs []=M:=⟨_,rfl⟩
 have hof:=YS xs hsl
 have hsv:Vq xs=if(JL xs).any (ZN M)=true then 6 else if(JL xs).any JaW=true then 7 else 0:=by rw[←hM0];rfl
 rw[hM0] at hof
 clear hM0
 obtain⟨R,hR⟩:∃R,JL xs=R:=⟨_,rfl⟩
 rw[hR] at hr1 hsr hc2 hsv hrs hrl
 clear hR hs
 refine QD (T:=T) Tryz.call63 Tryz.func63 rfl Tryz.ntmps63 (congrArg Array.toList Tryz.results63) (by decide) fun ts hn h0=>?_
 (repeat' (first
 | (with_reducible first|refine callX.by (hof) ?_|refine callX.by (hr1) ?_|refine callX.by (YS _ ?_) ?_|refine callX.by (Jcl _ ?_ ?_) ?_|refine callX.by (Jc9 _ ?_ ?_ _) ?_|refine callX.by a6rc ?_|refine callX.by (YT _ _ _ _ _ _ _ ?_ ?_ ?_) ?_|refine callX.by Y1 ?_|refine callX.by (Z5 _ _ ?_ _ _ ?_ ?_) ?_|refine callX.by (JbI _ _ ?_ _ _ ?_ ?_) ?_|refine callX.by (JeK _ _ _ _ _ _ _) ?_|assumption|(refine Qw hK _ ?_;clear hK K)|refine Qw ‹_› _ ?_|refine Qx ‹_› ?_|refine Qi fun K hK=>?_|refine Qj T fun K hK=>?_|refine Ql fun A B hA hB=>?_|refine Qm ?_|refine Qn ?_|refine Qp ?_|refine Qr ?_)
 | ((with_reducible first|apply Qy|apply Qz|apply QA)<;>intro hb<;>try simp only[nr] at hb)
 |simp only[go_sem,↓reduceIte,reduceIte,Qa,Qh,Qb,Qc,Qd,Qe,Qf,Qg,reduceCtorEq, *,-hr1,-hsr,-hc2,-hof,-hsv]
 |with_reducible refine fun(bn:Bool) hbn=>?_))
 refine SpecC.ent (Ent.frzBox _ 3) ?_
 refine Qs [3,4,11,12] (fun m ts'=>∃(i:Nat),m=R.length-i∧i≤R.length∧R.any (ZN M)=(R.drop i).any (ZN M)∧ts'.gen 10=ts.gen 10+1∧ts'.obj 10=.arr 7 (Ja R)∧ts'.tmp 13=.int .i64 i) R.length ?_ ?_
 ·refine⟨0,?_⟩
  simp only[go_sem,↓reduceIte,reduceIte,Qa,Qh,Qb,Qc,Qd,Qe,Qf,Qg,reduceCtorEq, *,-hr1,-hsr,-hc2,-hof,-hsv]
 ·rintro m A hM ts' hk ⟨i,hm,f1,f2,s1,s2,s3⟩
  simp only[go_sem,↓reduceIte,reduceIte,Qa,Qh,Qb,Qc,Qd,Qe,Qf,Qg,reduceCtorEq, *] at hk
  by_cases hlt:i<R.length
  ·rw[List.drop_eq_getElem_cons hlt,List.any_cons] at f2
   obtain⟨_,_,hx1,hx2,hx3⟩:=hsr _ (List.getElem_mem hlt)
   have hql:=Jeu R[i]
   have hqs:Jc (JH R[i]).length:=by unfold Jc;omega
   have hc1:=Z5 97 [.ro [.mp (Js M) (Jy M)]] (Jff M) (fun k=>!Jn M k) (JH R[i]) (fun x _=>Jn0 x.kind x.name M) hqs
   have hlk:(JH R[i]).any (fun k=>!Jn M k)=ZN M R[i]:=rfl
   rw[hlk] at hc1
   clear hr1 hof hlk
   (repeat' (first
 | (with_reducible first|refine callX.by (hc1) ?_|refine callX.by (YS _ ?_) ?_|refine callX.by (Jcl _ ?_ ?_) ?_|refine callX.by (Jc9 _ ?_ ?_ _) ?_|refine callX.by a6rc ?_|refine callX.by (YT _ _ _ _ _ _ _ ?_ ?_ ?_) ?_|refine callX.by Y1 ?_|refine callX.by (Z5 _ _ ?_ _ _ ?_ ?_) ?_|refine callX.by (JbI _ _ ?_ _ _ ?_ ?_) ?_|refine callX.by (JeK _ _ _ _ _ _ _) ?_|assumption|(refine Qw hK _ ?_;clear hK K)|refine Qw ‹_› _ ?_|refine Qx ‹_› ?_|refine Qi fun K hK=>?_|refine Qj T fun K hK=>?_|refine Ql fun A B hA hB=>?_|refine Qm ?_|refine Qn ?_|refine Qp ?_|refine Qr ?_)
 | ((with_reducible first|apply Qy|apply Qz|apply QA)<;>intro hb<;>try simp only[nr] at hb)
 |simp only[go_sem,↓reduceIte,reduceIte,Qa,Qh,Qb,Qc,Qd,Qe,Qf,Qg,reduceCtorEq, *,-hsr,-hc1,-hc2,-hsv,-hx2,-f2]
 |with_reducible refine fun(bn:Bool) hbn=>?_))
   all_goals ((repeat clear hK);(repeat clear hA);(repeat clear hB))
   ·rw[hb,Bool.true_or] at f2
    rw[hsv,if_pos f2]
   ·rw[hb,Bool.false_or] at f2
    (refine hM.on (R.length-(i+1)) (by omega) (by simp only[go_sem,↓reduceIte,reduceIte,Qa,Qh,Qb,Qc,Qd,Qe,Qf,Qg,reduceCtorEq, *,Jf hlt hrs,-hsr,-hc1,-hc2,-hsv,-hx2,-f2]) ⟨i+1,rfl,by omega,f2,?_⟩;simp only[go_sem,↓reduceIte,reduceIte,Qa,Qh,Qb,Qc,Qd,Qe,Qf,Qg,reduceCtorEq, *,Jf hlt hrs,-hsr,-hc1,-hc2,-hsv,-hx2,-f2];done)
  ·rw[List.drop_eq_nil_of_le (by omega),List.any_nil] at f2
   rw[f2] at hsv
   simp only[Bool.false_eq_true,if_false] at hsv
   clear hr1 hof f2
   have htkR:(Ja R).take R.length=Ja R:=List.take_of_length_le (by simp[Ja])
   (repeat' (first
 | (with_reducible first|refine callX.by (hc2) ?_|refine callX.by (YS _ ?_) ?_|refine callX.by (Jcl _ ?_ ?_) ?_|refine callX.by (Jc9 _ ?_ ?_ _) ?_|refine callX.by a6rc ?_|refine callX.by (YT _ _ _ _ _ _ _ ?_ ?_ ?_) ?_|refine callX.by Y1 ?_|refine callX.by (Z5 _ _ ?_ _ _ ?_ ?_) ?_|refine callX.by (JbI _ _ ?_ _ _ ?_ ?_) ?_|refine callX.by (JeK _ _ _ _ _ _ _) ?_|assumption|(refine Qw hK _ ?_;clear hK K)|refine Qw ‹_› _ ?_|refine Qx ‹_› ?_|refine Qi fun K hK=>?_|refine Qj T fun K hK=>?_|refine Ql fun A B hA hB=>?_|refine Qm ?_|refine Qn ?_|refine Qp ?_|refine Qr ?_)
 | ((with_reducible first|apply Qy|apply Qz|apply QA)<;>intro hb<;>try simp only[nr] at hb)
 |simp only[go_sem,↓reduceIte,reduceIte,Qa,Qh,Qb,Qc,Qd,Qe,Qf,Qg,reduceCtorEq, *,-hsr,-hc2,-hsv]
 |with_reducible refine fun(bn:Bool) hbn=>?_))
   all_goals ((repeat clear hK);(repeat clear hA);(repeat clear hB))
   all_goals (rw[hsv];simp[hb])
theorem Jc9(xs:List Res)(hl:xs.length≤65536)(hs:∀r∈xs,Ju r)(_:(xs.map Jg).Nodup):CallR Tryz.prog 95 [.slice false (Ja xs)]
  (.own 7 (Ja (JL xs))):=Jcl xs hl hs
theorem Zz(xs:List Res)(hl:xs.length≤65536)(hs:∀r∈xs,Ju r)(_:(xs.map Jg).Nodup):CallR Tryz.prog 26 [.slice false (Ja xs)]
  (.own 2 (Ja (Jce xs))):=Zy xs hl hs
theorem JaP(xs:List Res)(hl:xs.length≤65536)(hs:∀r∈xs,Ju r)(_:(xs.map Jg).Nodup):CallR Tryz.prog 63 [.slice false (Ja xs)]
  (.val (.int .i64 (Vq xs))):=Jbp xs hl hs
end Go.Proofs.YtihahfhagobnoaaGreatDoor.Lg
