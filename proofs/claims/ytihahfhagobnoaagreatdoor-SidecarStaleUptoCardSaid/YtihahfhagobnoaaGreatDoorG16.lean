/- Parts of the proof, one behind the other. -/
import Derived.Test.YtihahfhagobnoaaGreatDoorG15
namespace Go.Proofs.YtihahfhagobnoaaGreatDoor.Lg
set_option maxRecDepth 100000
set_option linter.unusedVariables false
set_option linter.unusedSimpArgs false
open Go
open Nat renaming reduceEqDiff → Qa, reduceLT → Qb, reduceLeDiff → Qc, reduceAdd → Qd, reduceMul → Qe, reduceSub → Qf, reduceBEq → Qg
open String renaming reduceEq → Qh
open NxK renaming out → Qw
@[go_sem] def JeJ:List (List Nat×List Nat):=[([16],[17,19,20]),([17],[16,19,20]),([19],[16,17]),([20],[16,17]),([21,7],[]),([18],[23]),([22],[23]),([23],[18,22])]
instance:Dat (List Key) where
 av l:=.slice false (Ja l)
 sz:=1
 len _:=rfl
 pure l:=by simp only[go_sem]
 nrm l:=by simp only[go_sem]
 one _:=rfl
 known _:=rfl
theorem Jkz(l:List Key):Dat.av l=.slice false (Ja l):=rfl
section
variable {α β:Type}
theorem Jmh [Dat α](M:List (α×β))(p:α×β):Jq (M++[p])=Jq M++[Dat.av p.1]:=by simp[Jq,Ja]
theorem JnO{γ:Type}(l:List γ)(x y:γ)(n:Nat)(h:n=l.length):(l++[x]).set n y=l++[y]:=by subst h;simp
end
def Vq(M:List (Key×List Key))(r:Res):List (Key×List Key):=JS M (Jj r) ((JB M (Jj r)).getD []++JH r)
def ZB(l:List Res):List (Key×List Key):=l.foldl Vq []
def YQ:Key×List Key:=(⟨0,[]⟩,[])
def JW(h:Nat→Nat)(M:List (Key×List Key)):List AV:=(List.range M.length).map fun j=>.os (j+1000) (h j) (M.getD j YQ).2.length
theorem JaW(h:Nat→Nat)(M:List (Key×List Key)):(JW h M).length=M.length:=by simp[JW]
theorem JiF(h:Nat→Nat){M:List (Key×List Key)}{j:Nat}(hj:j<M.length):(JW h M).getD j .any=.os (j+1000) (h j) (M.getD j YQ).2.length:=by
 simp[JW,hj]
theorem JmK(h:Nat→Nat)(M:List (Key×List Key))(p:Key×List Key)(g:Nat):JW h M++[.os (M.length+1000) g p.2.length]=JW (fun i=>if i=M.length then g else h i) (M++[p]):=by
 refine List.ext_getElem (by simp[JaW]) fun i h1 h2=>?_
 have hi:i≤M.length:=by simp[JaW] at h1;omega
 by_cases hl:i<M.length
 ·have hne:¬i=M.length:=by omega
  simp[JW,hl,List.getElem_append,hne,List.getElem?_append]
 ·have:i=M.length:=by omega
  subst this
  simp[JW,List.getElem_append]
theorem JmJ(h:Nat→Nat)(M:List (Key×List Key))(p:Key×List Key)(g j:Nat)(hj:j<M.length):(JW h M).set j (.os (j+1000) g p.2.length)=JW (fun i=>if i=j then g else h i) (M.set j p):=by
 refine List.ext_getElem (by simp[JaW]) fun i h1 h2=>?_
 have hi:i<M.length:=by simpa[JaW] using h1
 by_cases hl:i=j
 ·subst hl
  simp[JW,hi]
 ·simp[JW,List.getElem_set,Ne.symm hl,hl,List.getElem?_set]
theorem Jgm{M:List (Key×List Key)}{r:Res}(h:JF (Jj r) M=none):Vq M r=M++[(Jj r,JH r)]:=by
 unfold Vq
 rw[Jmi _ (Jby h),Jby h]
 rfl
theorem Jgn{M:List (Key×List Key)}{r:Res}{j:Nat}(h:JF (Jj r) M=some j):Vq M r=M.set j (Jj r,(M.getD j YQ).2++JH r):=by
 obtain⟨h1,h2⟩:=Jct h
 unfold Vq JS
 rw[h,h2]
 simp[h1]
theorem Jgl(M:List (Key×List Key))(r:Res):(Vq M r).length≤M.length+1:=by
 cases h:JF (Jj r) M with
 |none=>rw[Jgm h];simp
 |some j=>rw[Jgn h];simp
set_option maxHeartbeats 8000000 in
theorem Jek(xs:List Res)(hl:xs.length≤65536)(hs:∀r∈xs,Jv r):CallR Tryz.prog 105 [.slice false (Ja xs)] (.val (.mp (Jq (ZB xs)) (Jw (ZB xs)))):=by
 have hsl:=Ja6 hl
 refine CallR.go1 (T:=T) Tryz.call105 Tryz.func105 rfl Tryz.ntmps105 (congrArg Array.toList Tryz.results105) (by decide) fun ts hn h0=>?_
 (repeat' (first
 | (with_reducible first|refine callX.by (J0 _ _ _ _ _ _ _) ?_|refine callX.by (Jan _ _ _ _ _ _ _ ?_ ?_ ?_) ?_|refine callX.by JaC ?_|assumption|(refine Qw hK _ ?_;clear hK K)|refine Qw ‹_› _ ?_|refine Nx.out ‹_› ?_|refine SpecC.seqW fun K hK=>?_|refine SpecC.regW T fun K hK=>?_|refine SpecC.drawW (id:=6) T mixed JeJ (by kernel_rfl) fun K hK=>?_|refine SpecC.condW fun A B hA hB=>?_|refine SpecC.block ?_|refine SpecC.skip ?_|refine SpecC.exit ?_|refine SpecC.ret ?_)
 | ((with_reducible first|apply condK.split|apply gK.split_t|apply gK.split_f)<;>intro hb<;>try simp only[nr] at hb)
 |simp only[go_sem,↓reduceIte,reduceIte,Qa,Qh,Qb,Qc,Qd,Qe,Qf,Qg,reduceCtorEq, *,-hs]
 |with_reducible refine fun(bn:Bool) hbn=>?_))
 refine SpecC.loopF [8,9] (fun m ts'=>∃(i:Nat),∃(g:Nat),∃(M:List (Key×List Key)),∃(h:Nat→Nat),m=xs.length-i∧i≤xs.length∧ZB xs=(xs.drop i).foldl Vq M∧M.length≤i∧(∀p∈M,p.2.length≤33*i)∧(∀j,j<M.length→ts'.obj (j+1000)=.arr 2 (Ja (M.getD j YQ).2)∧ts'.gen (j+1000)=h j)∧ts'.tmp 3=.mref 7 g∧ts'.gen 7=g∧ts'.obj 7=.mp (Jq M) (JW h M)∧ts'.tmp 10=.int .i64 i) xs.length ?_ ?_
 ·refine⟨0,ts.gen 7+1,[],fun _=>0,rfl,Nat.zero_le _,rfl,Nat.le_refl _,by simp,fun j hj=>absurd hj (by simp),?_⟩
  simp only[go_sem,↓reduceIte,reduceIte,Qa,Qh,Qb,Qc,Qd,Qe,Qf,Qg,reduceCtorEq, *,-hs,show JW (fun _=>0) []=[] from rfl]
 ·rintro m A hM ts' hk ⟨i,g,M,h,hm,f1,f2,f3,f4,f5,s1,s2,s3,s4⟩
  simp only[go_sem,↓reduceIte,reduceIte,Qa,Qh,Qb,Qc,Qd,Qe,Qf,Qg,reduceCtorEq, *] at hk
  by_cases hlt:i<xs.length
  ·rw[List.drop_eq_getElem_cons hlt,List.foldl_cons] at f2
   obtain⟨_,_,hx1,hx2,hx3⟩:=hs _ (List.getElem_mem hlt)
   have hrl:=JfI xs[i]
   have hrs:Jc (JH xs[i]).length:=by unfold Jc;omega
   have hr1:Vn (JH xs[i]).length 24:=Jao (by omega) (by decide)
   cases hix:JF ⟨xs[i].kind,xs[i].name⟩ M with
   |none =>
    have hol:(JW h M).length=M.length:=JaW h M
    have hset:∀y x:AV,(JW h M++[y]).set M.length x=JW h M++[x]:=fun y x=>JnO _ _ _ _ hol.symm
    have hgd:∀x:AV,(JW h M++[x]).getD M.length .any=x:=fun x=>by simp[List.getD_eq_getElem?_getD,hol]
    have hlt1:(M.length:Int)<((M.length+1:Nat):Int):=by omega
    have hlt2:M.length<M.length+1:=by omega
    (repeat' (first
 | (with_reducible first|refine callX.by (J0 _ _ _ _ _ _ _) ?_|refine callX.by (Jan _ _ _ _ _ _ _ ?_ ?_ ?_) ?_|refine callX.by JaC ?_|assumption|(refine Qw hK _ ?_;clear hK K)|refine Qw ‹_› _ ?_|refine Nx.out ‹_› ?_|refine SpecC.seqW fun K hK=>?_|refine SpecC.regW T fun K hK=>?_|refine SpecC.drawW (id:=6) T mixed JeJ (by kernel_rfl) fun K hK=>?_|refine SpecC.condW fun A B hA hB=>?_|refine SpecC.block ?_|refine SpecC.skip ?_|refine SpecC.exit ?_|refine SpecC.ret ?_)
 | ((with_reducible first|apply condK.split|apply gK.split_t|apply gK.split_f)<;>intro hb<;>try simp only[nr] at hb)
 |simp only[go_sem,↓reduceIte,reduceIte,Qa,Qh,Qb,Qc,Qd,Qe,Qf,Qg,reduceCtorEq, *,-hs,-hx2,-f2,-f4,-f5]
 |with_reducible refine fun(bn:Bool) hbn=>?_))
    all_goals ((repeat clear hK);(repeat clear hA);(repeat clear hB))
    have e:=Jgm (r:=xs[i]) hix
    have ek:Jq M++[.agg [.int .i64 xs[i].kind,.str xs[i].name]]=Jq (Vq M xs[i]):=by rw[e,Jmh];rfl
    have ev:JW h M++[AV.os (M.length+1000) (ts'.gen (M.length+1000)+1) (JH xs[i]).length]=JW (fun u=>if u=M.length then ts'.gen (M.length+1000)+1 else h u) (Vq M xs[i]):=by rw[e];exact JmK h M (Jj xs[i],JH xs[i]) _
    have hal:=Jgl M xs[i]
    refine hM.onE (xs.length-(i+1)) (Ent.renM2 7 M.length 22 (M.length+1000) (JH xs[i]).length ?_) (by omega) ?_ ?_
    ·simp only[go_sem,↓reduceIte,reduceIte,Qa,Qh,Qb,Qc,Qd,Qe,Qf,Qg,reduceCtorEq, *,-hs,-hx2,-f2,-f4,-f5,-e,-ek,-ev]
     done
    ·simp only[go_sem,↓reduceIte,reduceIte,Qa,Qh,Qb,Qc,Qd,Qe,Qf,Qg,reduceCtorEq, *,-hs,-hx2,-f2,-f4,-f5,-e,-ek,-ev]
     done
    ·refine⟨i+1,g,Vq M xs[i],fun u=>if u=M.length then ts'.gen (M.length+1000)+1 else h u,rfl,by omega,f2,by omega,fun p hp=>?_,fun q hq=>?_,?_⟩
     ·rw[e] at hp
      rcases List.mem_append.1 hp with hp|hp
      ·have:=f4 p hp;omega
      ·rw[List.mem_singleton] at hp;subst hp;show(JH xs[i]).length≤_;omega
     ·by_cases hql:q=M.length
      ·subst hql
       have e1:((Vq M xs[i]).getD M.length YQ).2=JH xs[i]:=by rw[e];simp
       simp only[go_sem,↓reduceIte,reduceIte,Qa,Qh,Qb,Qc,Qd,Qe,Qf,Qg,reduceCtorEq, *,-hs,-hx2,-f2,-f4,-f5,-e,-ek,-ev]
       done
      ·have hq2:q<M.length:=by rw[e] at hq;simp at hq;omega
       have e1:(Vq M xs[i]).getD q YQ=M.getD q YQ:=by rw[e];simp[List.getElem?_append,hq2]
       obtain⟨f6,f7⟩:=f5 q hq2
       simp only[go_sem,↓reduceIte,reduceIte,Qa,Qh,Qb,Qc,Qd,Qe,Qf,Qg,reduceCtorEq, *,-hs,-hx2,-f2,-f4,-f5,-e,-ek,-ev]
       done
     ·simp only[go_sem,↓reduceIte,reduceIte,Qa,Qh,Qb,Qc,Qd,Qe,Qf,Qg,reduceCtorEq, *,Jf hlt hsl,-hs,-hx2,-f2,-f4,-f5,-e,hgd]
      all_goals trace_state
   |some j =>
    obtain⟨hj,hk0⟩:=JhT hix
    obtain⟨f6,f7⟩:=f5 j hj
    have e:=Jgn (r:=xs[i]) hix
    have hvl:(M.getD j YQ).2.length≤33*i:=f4 _ (by simp[hj])
    generalize hV:(M.getD j YQ).2=V at *
    have hol:(JW h M).length=M.length:=JaW h M
    have hjo:j<(JW h M).length:=by omega
    have hgo:(JW h M).getD j .any=.os (j+1000) (ts'.gen (j+1000)) V.length:=by rw[JiF h hj,f7,hV]
    refine SpecC.ent (Ent.renM2 7 j (j+1000) 900 V.length ?_) ?_
    ·simp only[go_sem,↓reduceIte,reduceIte,Qa,Qh,Qb,Qc,Qd,Qe,Qf,Qg,reduceCtorEq, *,-hs,-hx2,-f2,-f4,-f5,-e]
     done
    have hset:∀y x:AV,((JW h M).set j y).set j x=(JW h M).set j x:=fun y x=>by rw[List.set_set]
    have hgd:∀x:AV,((JW h M).set j x).getD j .any=x:=fun x=>by simp[hjo]
    have hks:(Jq M).set j (.agg [.int .i64 xs[i].kind,.str xs[i].name])=Jq M:=by
     refine List.ext_getElem (by simp) fun u h1 h2=>?_
     rw[List.getElem_set]
     split
     ·rename_i hu
      subst hu
      have:(Jq M)[j]=Dat.av (M[j]).1:=by simp[Jq,Ja]
      rw[this,hk0,JeR]
     ·rfl
    have hjl:(j:Int)<(M.length:Int):=by omega
    have hls:∀x:AV,((JW h M).set j x).length=M.length:=fun x=>by simp[hol]
    have hr2:Vn (V.length+(JH xs[i]).length) 24:=Jao (by omega) (by decide)
    (repeat' (first
 | (with_reducible first|refine callX.by (J0 _ _ _ _ _ _ _) ?_|refine callX.by (Jan _ _ _ _ _ _ _ ?_ ?_ ?_) ?_|refine callX.by JaC ?_|assumption|(refine Qw hK _ ?_;clear hK K)|refine Qw ‹_› _ ?_|refine Nx.out ‹_› ?_|refine SpecC.seqW fun K hK=>?_|refine SpecC.regW T fun K hK=>?_|refine SpecC.drawX (id:=6) T mixed [([16],[17,19,20]),([17],[16,19,20]),([19],[16,17]),([20],[16,17]),([7,21],[]),([18],[23]),([22,900],[23]),([23],[18,22,900])] (by kernel_rfl) fun K hK=>?_|refine SpecC.condW fun A B hA hB=>?_|refine SpecC.block ?_|refine SpecC.skip ?_|refine SpecC.exit ?_|refine SpecC.ret ?_)
 | ((with_reducible first|apply condK.split|apply gK.split_t|apply gK.split_f)<;>intro hb<;>try simp only[nr] at hb)
 |simp only[go_sem,↓reduceIte,reduceIte,Qa,Qh,Qb,Qc,Qd,Qe,Qf,Qg,reduceCtorEq, *,-hs,-hx2,-f2,-f4,-f5,-e,-hV]
 |with_reducible refine fun(bn:Bool) hbn=>?_))
    all_goals ((repeat clear hK);(repeat clear hA);(repeat clear hB))
    have hlen:(V++JH xs[i]).length=V.length+(JH xs[i]).length:=List.length_append
    have ek:Jq M=Jq (Vq M xs[i]):=by
     rw[e]
     refine List.ext_getElem (by simp[Jq,Ja]) fun u h1 h2=>?_
     simp only[Jq,Ja,List.getElem_map,List.getElem_set]
     split
     ·rename_i hu;subst hu;rw[hk0];rfl
     ·rfl
    have ev:(JW h M).set j (AV.os (j+1000) (ts'.gen (j+1000)+1) (V.length+(JH xs[i]).length))=JW (fun u=>if u=j then ts'.gen (j+1000)+1 else h u) (Vq M xs[i]):=by
     rw[e,←hlen];exact JmJ h M (Jj xs[i],V++JH xs[i]) _ j hj
    have hal:=Jgl M xs[i]
    refine hM.onE (xs.length-(i+1)) (Ent.renM2 7 j 22 (j+1000) (V.length+(JH xs[i]).length) ?_) (by omega) ?_ ?_
    ·simp only[go_sem,↓reduceIte,reduceIte,Qa,Qh,Qb,Qc,Qd,Qe,Qf,Qg,reduceCtorEq, *,-hs,-hx2,-f2,-f4,-f5,-e,-ek,-ev,-hV]
     done
    ·simp only[go_sem,↓reduceIte,reduceIte,Qa,Qh,Qb,Qc,Qd,Qe,Qf,Qg,reduceCtorEq, *,-hs,-hx2,-f2,-f4,-f5,-e,-ek,-ev,-hV]
     done
    ·refine⟨i+1,g,Vq M xs[i],fun u=>if u=j then ts'.gen (j+1000)+1 else h u,rfl,by omega,f2,by omega,fun p hp=>?_,fun q hq=>?_,?_⟩
     ·rw[e] at hp
      rcases List.mem_or_eq_of_mem_set hp with hp|hp
      ·have:=f4 p hp;omega
      ·subst hp;show(V++JH xs[i]).length≤_;omega
     ·by_cases hql:q=j
      ·subst hql
       have e1:((Vq M xs[i]).getD q YQ).2=V++JH xs[i]:=by rw[e];simp[hj]
       simp only[go_sem,↓reduceIte,reduceIte,Qa,Qh,Qb,Qc,Qd,Qe,Qf,Qg,reduceCtorEq, *,-hs,-hx2,-f2,-f4,-f5,-e,-ek,-ev,-hV]
       all_goals trace_state
      ·have hq2:q<M.length:=by rw[e] at hq;simpa using hq
       have e1:(Vq M xs[i]).getD q YQ=M.getD q YQ:=by rw[e];simp[List.getElem?_set,Ne.symm hql]
       obtain⟨g6,g7⟩:=f5 q hq2
       simp only[go_sem,↓reduceIte,reduceIte,Qa,Qh,Qb,Qc,Qd,Qe,Qf,Qg,reduceCtorEq, *,-hs,-hx2,-f2,-f4,-f5,-e,-ek,-ev,-hV]
       all_goals trace_state
     ·simp only[go_sem,↓reduceIte,reduceIte,Qa,Qh,Qb,Qc,Qd,Qe,Qf,Qg,reduceCtorEq, *,Jf hlt hsl,-hs,-hx2,-f2,-f4,-f5,-e,-hV,-ek]
      rw[f7] at ev
      rw[←ek,ev]
  ·rw[List.drop_eq_nil_of_le (by omega)] at f2
   have e:ZB xs=M:=f2
   rw[e]
   obtain⟨ts2,r1,r2,r3,r4,r5,r6⟩:=Ent.frzFrom (d:=7) (B:=1000) (sz:=2) (ks:=Jq M) (xs:=M.map fun p=>Ja p.2) (by omega) M.length ts' (JW h M) (by simp) s3 (by simp[JaW]) (fun j hj _=>by
     have hj:j<M.length:=by simpa using hj
     obtain⟨f6,f7⟩:=f5 j hj
     have e2:(M.map fun p=>Ja p.2).getD j []=Ja (M.getD j YQ).2:=by simp[hj]
     rw[e2,JiF h hj,f6,f7,Jh5]
     exact⟨rfl,rfl⟩) (fun j hj=>absurd hj (by simp))
   have em:(M.map fun p=>Ja p.2).map (AV.slice false)=Jw M:=by
    simp only[Jw,Ja,List.map_map]
    rfl
   rw[em] at r5
   refine SpecC.ent r1 ?_
   (repeat' (first
 | (with_reducible first|refine callX.by (J0 _ _ _ _ _ _ _) ?_|refine callX.by (Jan _ _ _ _ _ _ _ ?_ ?_ ?_) ?_|refine callX.by JaC ?_|assumption|(refine Qw hK _ ?_;clear hK K)|refine Qw ‹_› _ ?_|refine Nx.out ‹_› ?_|refine SpecC.seqW fun K hK=>?_|refine SpecC.regW T fun K hK=>?_|refine SpecC.drawW (id:=6) T mixed JeJ (by kernel_rfl) fun K hK=>?_|refine SpecC.condW fun A B hA hB=>?_|refine SpecC.block ?_|refine SpecC.skip ?_|refine SpecC.exit ?_|refine SpecC.ret ?_)
 | ((with_reducible first|apply condK.split|apply gK.split_t|apply gK.split_f)<;>intro hb<;>try simp only[nr] at hb)
 |simp only[go_sem,↓reduceIte,reduceIte,Qa,Qh,Qb,Qc,Qd,Qe,Qf,Qg,reduceCtorEq, *,-hs,-f2,-f4,-f5,-e,-em,-r6,r2,r3,r4]
 |with_reducible refine fun(bn:Bool) hbn=>?_))
   all_goals rw[e]
end Go.Proofs.YtihahfhagobnoaaGreatDoor.Lg
namespace Go.Proofs.YtihahfhagobnoaaGreatDoor.Lg
set_option maxRecDepth 100000
set_option linter.unusedVariables false
set_option linter.unusedSimpArgs false
open Go
open Nat renaming reduceEqDiff → Qa, reduceLT → Qb, reduceLeDiff → Qc, reduceAdd → Qd, reduceMul → Qe, reduceSub → Qf, reduceBEq → Qg
open String renaming reduceEq → Qh
open SpecC renaming seqW → Qi, regW → Qj, drawW → Qk, condW → Ql, block → Qm, skip → Qn, exit → Qp, ret → Qr, loopF → Qs
open NxK renaming out → Qw
open Nx renaming out → Qx
open condK renaming split → Qy
open gK renaming split_t → Qz, split_f → QA
@[go_sem] def JeK:List (List Nat×List Nat):=[([24],[25,26]),([25],[24]),([26],[24])]
abbrev KS:=List (Key×Bool)
def Jp(M:KS)(k:Key):Bool:=(JB M k).getD false
def JO(T0:KS)(N:List (Key×List Key)):Nat→Key→KS→KS
 |0,_,M=>M
 |n+1,k,M=>if Jp T0 k=true∧Jp M k=false then ((JB N k).getD []).foldl (fun M x=>JO T0 N n x M) (JS M k true) else M
def YK(T0 M:KS):Nat:=(T0.filter fun p=>p.2 && !Jp M p.1).length
theorem JaN(M:KS)(k x:Key):Jp (JS M k true) x=(decide (x=k) || Jp M x):=by
 unfold Jp
 rw[Jia]
 by_cases h:x=k<;>simp[h]
theorem Jf3(T0:KS)(N:List (Key×List Key)):∀(n:Nat) (k:Key) (M:KS) (x:Key),Jp M x=true→Jp (JO T0 N n k M) x=true
 |0,_,_,_,h=>h
 |n+1,k,M,x,h=>by
  unfold JO
  split
  ·have:∀(l:List Key) (M:KS),Jp M x=true→Jp (l.foldl (fun M y=>JO T0 N n y M) M) x=true:=by
    intro l
    induction l with
    |nil=>exact fun M h=>h
    |cons y l ih=>exact fun M h=>ih _ (Jf3 T0 N n y M x h)
   exact this _ _ (by rw[JaN];simp[h])
  ·exact h
theorem Jic{T0 M M':KS}(h:∀x,Jp M x=true→Jp M' x=true):YK T0 M'≤YK T0 M:=by
 unfold YK
 rw[←List.countP_eq_length_filter,←List.countP_eq_length_filter]
 refine List.countP_mono_left fun p _ hp=>?_
 simp only[Bool.and_eq_true,Bool.not_eq_true'] at hp ⊢
 refine⟨hp.1,?_⟩
 cases hm:Jp M p.1 with
 |false=>rfl
 |true=>rw[h _ hm] at hp;simp at hp
theorem Jmd{α β:Type} [DecidableEq α]{M:List (α×β)}{x:α}{v:β}(h:JB M x=some v):(x,v)∈M:=by
 unfold JB at h
 obtain⟨p,h1,h2⟩:=Option.map_eq_some_iff.1 h
 have h3:=List.find?_some h1
 have h4:=List.mem_of_find?_eq_some h1
 have:p.1=x:=by simpa using(of_decide_eq_true h3).symm
 rw[←this,←h2];exact h4
theorem JlS{M:KS}{k:Key}(h:Jp M k=true):(k,true)∈M:=by
 unfold Jp at h
 cases hm:JB M k with
 |none=>rw[hm] at h;simp at h
 |some b=>rw[hm] at h;simp at h;subst h;exact Jmd hm
theorem Jd0{T0 M:KS}{k:Key}(h1:Jp T0 k=true)(h2:Jp M k=false):YK T0 (JS M k true)<YK T0 M:=by
 have hm:=JlS h1
 unfold YK
 have key:∀(l:KS),(l.filter fun p=>p.2 && !Jp (JS M k true) p.1).length≤(l.filter fun p=>p.2 && !Jp M p.1).length∧((k,true)∈l→(l.filter fun p=>p.2 && !Jp (JS M k true) p.1).length<(l.filter fun p=>p.2 && !Jp M p.1).length):=by
  intro l
  induction l with
  |nil=>simp
  |cons p l ih =>
   obtain⟨i1,i2⟩:=ih
   have hp:(p.2 && !Jp (JS M k true) p.1)=true→(p.2 && !Jp M p.1)=true:=by
    rw[JaN]
    simp only[Bool.and_eq_true,Bool.not_eq_true',Bool.or_eq_false_iff]
    exact fun⟨a,_,b⟩=>⟨a,b⟩
   refine⟨?_,fun hmem=>?_⟩
   ·rw[List.filter_cons,List.filter_cons]
    by_cases q1:(p.2 && !Jp (JS M k true) p.1)=true
    ·rw[if_pos q1,if_pos (hp q1)];simp;exact i1
    ·rw[if_neg q1]
     split
     ·simp;omega
     ·exact i1
   ·rw[List.filter_cons,List.filter_cons]
    rcases List.mem_cons.1 hmem with rfl|hmem
    ·rw[if_neg (by rw[JaN];simp),if_pos (by simp[h2])]
     simp;omega
    ·have:=i2 hmem
     by_cases q1:(p.2 && !Jp (JS M k true) p.1)=true
     ·rw[if_pos q1,if_pos (hp q1)];simp;exact this
     ·rw[if_neg q1]
      split
      ·simp;omega
      ·exact this
 exact(key T0).2 hm
theorem Jl6{N:List (Key×List Key)}{k:Key}{v:List Key}(h:JB N k=some v)(z:AV):YJ false z (Jw N) (JF k N)=.slice false (Ja v):=by
 cases hi:JF k N with
 |none=>rw[Jby hi] at h;cases h
 |some i =>
  obtain⟨h1,h2⟩:=Jct hi
  rw[h2] at h
  cases h
  show(Jw N).getD i .any=_
  unfold Jw
  rw[JgB _ i (by simpa using h1)]
  simp[Jkz]
set_option maxHeartbeats 4000000 in
theorem JrD(T0:KS)(N:List (Key×List Key))(hTN:∀k,Jp T0 k=true→∃ks,JB N k=some ks∧Jc ks.length):∀(n:Nat) (k_kind:Int) (k_name:List UInt8) (M:KS),YK T0 M≤n →
  CallH Tryz.prog 106 1000 [.agg [.int .i64 k_kind,.str k_name],.ro [.mp (Jq T0) (Jw T0)],.ro [.mref 1000 0],.ro [.mp (Jq N) (Jw N)],VU 106 (.ro [.mp (Jq T0) (Jw T0)]) (.ro [.mref 1000 0]) (.ro [.mp (Jq N) (Jw N)]) n] (Jq M) (Jw M) (.tup [])
   (Jq (JO T0 N n (⟨k_kind,k_name⟩:Key) M)) (Jw (JO T0 N n (⟨k_kind,k_name⟩:Key) M)):=by
 intro n
 induction n with
 |zero =>
  intro k_kind k_name M hmu
  have hno:¬(Jp T0 (⟨k_kind,k_name⟩:Key)=true∧Jp M (⟨k_kind,k_name⟩:Key)=false):=fun⟨h1,h2⟩=>by have:=Jd0 h1 h2;omega
  have e:JO T0 N 0 (⟨k_kind,k_name⟩:Key) M=M:=rfl
  rw[e]
  refine CallH.go5 (T:=T) Tryz.call106 Tryz.func106 rfl Tryz.ntmps106 (congrArg Array.toList Tryz.results106) (by decide) fun ts hn h0 h1 h2 h3 h4 hg ho=>?_
  by_cases hT:(JB T0 (⟨k_kind,k_name⟩:Key)).getD false=true
  ·have hO:(JB M (⟨k_kind,k_name⟩:Key)).getD false=true:=by
    cases hm:(JB M (⟨k_kind,k_name⟩:Key)).getD false with
    |true=>rfl
    |false=>exact absurd ⟨hT,hm⟩ hno
   (repeat' (first
 | (with_reducible first|assumption|(refine Qw hK _ ?_;clear hK K)|refine Qw ‹_› _ ?_|refine Qx ‹_› ?_|refine Qi fun K hK=>?_|refine Qj T fun K hK=>?_|refine Ql fun A B hA hB=>?_|refine Qm ?_|refine Qn ?_|refine Qp ?_|refine Qr ?_)
 | ((with_reducible first|apply Qy|apply Qz|apply QA)<;>intro hb<;>try simp only[nr] at hb)
 |simp only[go_sem,↓reduceIte,reduceIte,Qa,Qh,Qb,Qc,Qd,Qe,Qf,Qg,reduceCtorEq, *,-hTN,-hno,-h4]
 |with_reducible refine fun(bn:Bool) hbn=>?_))
  ·have hT:(JB T0 (⟨k_kind,k_name⟩:Key)).getD false=false:=by simpa using hT
   (repeat' (first
 | (with_reducible first|assumption|(refine Qw hK _ ?_;clear hK K)|refine Qw ‹_› _ ?_|refine Qx ‹_› ?_|refine Qi fun K hK=>?_|refine Qj T fun K hK=>?_|refine Ql fun A B hA hB=>?_|refine Qm ?_|refine Qn ?_|refine Qp ?_|refine Qr ?_)
 | ((with_reducible first|apply Qy|apply Qz|apply QA)<;>intro hb<;>try simp only[nr] at hb)
 |simp only[go_sem,↓reduceIte,reduceIte,Qa,Qh,Qb,Qc,Qd,Qe,Qf,Qg,reduceCtorEq, *,-hTN,-hno,-h4]
 |with_reducible refine fun(bn:Bool) hbn=>?_))
 |succ n ih =>
  intro k_kind k_name M hmu
  by_cases hT:(JB T0 (⟨k_kind,k_name⟩:Key)).getD false=true
  rotate_left
  ·have hT:(JB T0 (⟨k_kind,k_name⟩:Key)).getD false=false:=by simpa using hT
   have e:JO T0 N (n+1) (⟨k_kind,k_name⟩:Key) M=M:=by unfold JO;rw[if_neg (by simp[Jp,hT])]
   rw[e]
   refine CallH.go5 (T:=T) Tryz.call106 Tryz.func106 rfl Tryz.ntmps106 (congrArg Array.toList Tryz.results106) (by decide) fun ts hn h0 h1 h2 h3 h4 hg ho=>?_
   (repeat' (first
 | (with_reducible first|assumption|(refine Qw hK _ ?_;clear hK K)|refine Qw ‹_› _ ?_|refine Qx ‹_› ?_|refine Qi fun K hK=>?_|refine Qj T fun K hK=>?_|refine Ql fun A B hA hB=>?_|refine Qm ?_|refine Qn ?_|refine Qp ?_|refine Qr ?_)
 | ((with_reducible first|apply Qy|apply Qz|apply QA)<;>intro hb<;>try simp only[nr] at hb)
 |simp only[go_sem,↓reduceIte,reduceIte,Qa,Qh,Qb,Qc,Qd,Qe,Qf,Qg,reduceCtorEq, *,-hTN,-h4]
 |with_reducible refine fun(bn:Bool) hbn=>?_))
  by_cases hO:(JB M (⟨k_kind,k_name⟩:Key)).getD false=true
  ·have e:JO T0 N (n+1) (⟨k_kind,k_name⟩:Key) M=M:=by unfold JO;rw[if_neg (by simp[Jp,hO])]
   rw[e]
   refine CallH.go5 (T:=T) Tryz.call106 Tryz.func106 rfl Tryz.ntmps106 (congrArg Array.toList Tryz.results106) (by decide) fun ts hn h0 h1 h2 h3 h4 hg ho=>?_
   (repeat' (first
 | (with_reducible first|assumption|(refine Qw hK _ ?_;clear hK K)|refine Qw ‹_› _ ?_|refine Qx ‹_› ?_|refine Qi fun K hK=>?_|refine Qj T fun K hK=>?_|refine Ql fun A B hA hB=>?_|refine Qm ?_|refine Qn ?_|refine Qp ?_|refine Qr ?_)
 | ((with_reducible first|apply Qy|apply Qz|apply QA)<;>intro hb<;>try simp only[nr] at hb)
 |simp only[go_sem,↓reduceIte,reduceIte,Qa,Qh,Qb,Qc,Qd,Qe,Qf,Qg,reduceCtorEq, *,-hTN,-h4]
 |with_reducible refine fun(bn:Bool) hbn=>?_))
  have hO:(JB M (⟨k_kind,k_name⟩:Key)).getD false=false:=by simpa using hO
  obtain⟨v,hv,hvs⟩:=hTN (⟨k_kind,k_name⟩:Key) hT
  have hlk:=Jl6 hv
  have e:JO T0 N (n+1) (⟨k_kind,k_name⟩:Key) M=v.foldl (fun M x=>JO T0 N n x M) (JS M (⟨k_kind,k_name⟩:Key) true):=by
   rw[JO,if_pos ⟨hT,hO⟩,hv];rfl
  rw[e]
  have hmu1:YK T0 (JS M (⟨k_kind,k_name⟩:Key) true)≤n:=by have:=Jd0 (T0:=T0) (M:=M) hT hO;omega
  refine CallH.go5 (T:=T) Tryz.call106 Tryz.func106 rfl Tryz.ntmps106 (congrArg Array.toList Tryz.results106) (by decide) fun ts hn h0 h1 h2 h3 h4 hg ho=>?_
  rw[JfH] at h4
  (repeat' (first
 | (with_reducible first|assumption|(refine Qw hK _ ?_;clear hK K)|refine Qw ‹_› _ ?_|refine Qx ‹_› ?_|refine Qi fun K hK=>?_|refine Qj T fun K hK=>?_|refine Ql fun A B hA hB=>?_|refine Qm ?_|refine Qn ?_|refine Qp ?_|refine Qr ?_)
 | ((with_reducible first|apply Qy|apply Qz|apply QA)<;>intro hb<;>try simp only[nr] at hb)
 |simp only[go_sem,↓reduceIte,reduceIte,Qa,Qh,Qb,Qc,Qd,Qe,Qf,Qg,reduceCtorEq, *,-hTN,-ih]
 |with_reducible refine fun(bn:Bool) hbn=>?_))
  have hre:(VU 106 (.ro [.mp (Jq T0) (Jw T0)]) (.ro [.mref 1000 0]) (.ro [.mp (Jq N) (Jw N)]) n).renM 1000 0 1000=VU 106 (.ro [.mp (Jq T0) (Jw T0)]) (.ro [.mref 1000 0]) (.ro [.mp (Jq N) (Jw N)]) n :=
   Ji5 _ _ _ _ _ _ _ _ (by simp only[go_sem,Bool.and_self]) (by simp only[go_sem,Bool.and_self])
  have hpe:(VU 106 (.ro [.mp (Jq T0) (Jw T0)]) (.ro [.mref 1000 0]) (.ro [.mp (Jq N) (Jw N)]) n).pureH 1000 0=true :=
   JiR _ _ _ _ _ _ _ (by simp only[go_sem,Bool.and_self]) (by decide) (by simp only[go_sem,Bool.and_self])
  refine Qs [4,21,22] (fun m ts'=>∃(i:Nat),∃(M2:KS),m=v.length-i∧i≤v.length∧YK T0 M2≤n∧v.foldl (fun M x=>JO T0 N n x M) (JS M (⟨k_kind,k_name⟩:Key) true)=(v.drop i).foldl (fun M x=>JO T0 N n x M) M2∧ts'.gen 1000=0∧ts'.obj 1000=.mp (Jq M2) (Jw M2)∧ts'.tmp 23=.int .i64 i) v.length ?_ ?_
  ·refine⟨0,JS M (⟨k_kind,k_name⟩:Key) true,rfl,Nat.zero_le _,hmu1,rfl,?_⟩
   simp only[go_sem,↓reduceIte,reduceIte,Qa,Qh,Qb,Qc,Qd,Qe,Qf,Qg,reduceCtorEq, *,-hTN,-ih,-e]
  ·rintro m A hM ts' hk ⟨i,M2,hm,f1,f2,f3,s1,s2,s3⟩
   simp only[go_sem,↓reduceIte,reduceIte,Qa,Qh,Qb,Qc,Qd,Qe,Qf,Qg,reduceCtorEq, *] at hk
   by_cases hlt:i<v.length
   ·rw[List.drop_eq_getElem_cons hlt,List.foldl_cons] at f3
    (repeat' (first
 | (with_reducible first|refine callX.hm (d:=1000) (g:=0) ?_ ?_ (ih v[i].kind v[i].name M2 f2) ?_|assumption|(refine Qw hK _ ?_;clear hK K)|refine Qw ‹_› _ ?_|refine Qx ‹_› ?_|refine Qi fun K hK=>?_|refine Qj T fun K hK=>?_|refine Ql fun A B hA hB=>?_|refine Qm ?_|refine Qn ?_|refine Qp ?_|refine Qr ?_)
 | ((with_reducible first|apply Qy|apply Qz|apply QA)<;>intro hb<;>try simp only[nr] at hb)
 |simp only[go_sem,↓reduceIte,reduceIte,Qa,Qh,Qb,Qc,Qd,Qe,Qf,Qg,reduceCtorEq, *,-hTN,-ih,-f3,-e]
 |with_reducible refine fun(bn:Bool) hbn=>?_))
    all_goals ((repeat clear hK);(repeat clear hA);(repeat clear hB))
    (refine hM.on (v.length-(i+1)) (by omega) (by simp only[go_sem,↓reduceIte,reduceIte,Qa,Qh,Qb,Qc,Qd,Qe,Qf,Qg,reduceCtorEq, *,Jf hlt hvs,-hTN,-ih,-f3,-e]) ⟨i+1,JO T0 N n v[i] M2,rfl,by omega,Nat.le_trans (Jic fun x hx=>Jf3 T0 N n _ M2 x hx) f2,f3,?_⟩;simp only[go_sem,↓reduceIte,reduceIte,Qa,Qh,Qb,Qc,Qd,Qe,Qf,Qg,reduceCtorEq, *,Jf hlt hvs,-hTN,-ih,-f3,-e];done)
   ·rw[List.drop_eq_nil_of_le (by omega),List.foldl_nil] at f3
    (repeat' (first
 | (with_reducible first|assumption|(refine Qw hK _ ?_;clear hK K)|refine Qw ‹_› _ ?_|refine Qx ‹_› ?_|refine Qi fun K hK=>?_|refine Qj T fun K hK=>?_|refine Ql fun A B hA hB=>?_|refine Qm ?_|refine Qn ?_|refine Qp ?_|refine Qr ?_)
 | ((with_reducible first|apply Qy|apply Qz|apply QA)<;>intro hb<;>try simp only[nr] at hb)
 |simp only[go_sem,↓reduceIte,reduceIte,Qa,Qh,Qb,Qc,Qd,Qe,Qf,Qg,reduceCtorEq, *,-hTN,-ih,-e]
 |with_reducible refine fun(bn:Bool) hbn=>?_))
theorem Jma(l:List Res)(k:Key):∀M:KS,Jp (YY l M) k=(decide (k∈l.map Jj) || Jp M k):=by
 unfold YY
 induction l with
 |nil=>intro M;simp
 |cons r l ih =>
  intro M
  rw[List.foldl_cons,ih,JaN]
  by_cases h1:k=Jj r<;>by_cases h2:k∈l.map Jj<;>simp_all
def Z7(k:Key)(l:List Res):List Key:=l.flatMap fun r=>if Jj r=k then JH r else []
theorem mem_cat{k x:Key}{l:List Res}:x∈Z7 k l↔∃r∈l,Jj r=k∧x∈JH r:=by
 unfold Z7
 rw[List.mem_flatMap]
 refine⟨fun⟨r,h1,h2⟩=>?_,fun⟨r,h1,h2,h3⟩=>⟨r,h1,by rw[if_pos h2];exact h3⟩⟩
 split at h2
 ·rename_i h;exact⟨r,h1,h,h2⟩
 ·simp at h2
theorem JgK(k:Key)(r:Res)(l:List Res):Z7 k (r :: l)=(if Jj r=k then JH r else [])++Z7 k l:=rfl
theorem JgL(k:Key):∀l:List Res,(Z7 k l).length≤33*l.length
 | []=>Nat.le_refl _
 |r :: l=>by
  have:=JgL k l
  have:=JfI r
  rw[JgK,List.length_append,List.length_cons]
  split<;>simp<;>omega
theorem Jhy(k:Key):∀(l:List Res) (M:List (Key×List Key)),JB (l.foldl Vq M) k=if k∈l.map Jj then some ((JB M k).getD []++Z7 k l) else JB M k
 | [],M=>by simp
 |r :: l,M=>by
  have hm:JB (Vq M r) k=if k=Jj r then some ((JB M k).getD []++JH r) else JB M k:=by
   unfold Vq
   rw[Jia]
   by_cases h:k=Jj r
   ·subst h;simp
   ·simp[h]
  rw[List.foldl_cons,Jhy k l,hm,JgK]
  by_cases h:k=Jj r
  ·subst h
   simp only[if_true,List.map_cons,List.mem_cons,true_or,Option.getD_some,List.append_assoc]
   split
   ·rfl
   ·rename_i hn
    have:Z7 (Jj r) l=[]:=List.eq_nil_iff_forall_not_mem.2 fun x hx=>by
     obtain⟨q,h1,h2,_⟩:=mem_cat.1 hx
     exact hn (h2▸List.mem_map_of_mem h1)
    rw[this,List.append_nil]
  ·simp only[h,if_false,List.map_cons,List.mem_cons,false_or,show ¬Jj r=k from fun e=>h e.symm,List.nil_append]
theorem Jmr{l:List Res}{k:Key}(h:k∈l.map Jj):JB (ZB l) k=some (Z7 k l):=by
 unfold ZB
 rw[Jhy,if_pos h]
 rfl
def JaY(T0:KS)(N:List (Key×List Key))(n:Nat)(l:List Res)(M:KS):KS:=l.foldl (fun M r=>if r.kind=0 then JO T0 N n (Jj r) M else M) M
def ZX(l:List Res):KS:=JaY (YY l []) (ZB l) (YY l []).length l []
set_option maxHeartbeats 4000000 in
theorem Jng(xs:List Res)(hl:xs.length≤65536)(hs:∀r∈xs,Jv r):CallR Tryz.prog 69 [.slice false (Ja xs)] (.val (.mp (Jq (ZX xs)) (Jw (ZX xs)))):=by
 have hsl:=Ja6 hl
 obtain⟨T0,hT0⟩:∃T0,YY xs []=T0:=⟨_,rfl⟩
 obtain⟨N,hN⟩:∃N,ZB xs=N:=⟨_,rfl⟩
 have hTN:∀k,Jp T0 k=true→∃ks,JB N k=some ks∧Jc ks.length:=fun k hk=>by
  rw[←hT0,Jma] at hk
  have hk':k∈xs.map Jj:=by simpa[Jp] using hk
  have:=JgL k xs
  exact⟨_,by rw[←hN];exact Jmr hk',by unfold Jc;omega⟩
 have hmu:∀M,YK T0 M≤T0.length:=fun M=>List.length_filter_le _ _
 have hR:ZX xs=JaY T0 N T0.length xs []:=by rw[←hT0,←hN];rfl
 rw[hR]
 clear hR
 have hof:=Jam xs hsl
 have hna:=Jek xs hl hs
 rw[hT0] at hof
 rw[hN] at hna
 refine CallR.go1 (T:=T) Tryz.call69 Tryz.func69 rfl Tryz.ntmps69 (congrArg Array.toList Tryz.results69) (by decide) fun ts hn h0=>?_
 (repeat' (first
 | (with_reducible first|refine SpecC.mkRec T 3 fun K hK=>?_|refine callX.by (hof) ?_|refine callX.by (hna) ?_|refine callX.by (Jam _ ?_) ?_|refine callX.by (Jek _ ?_ ?_) ?_|refine callX.by (J0 _ _ _ _ _ _ _) ?_|assumption|(refine Qw hK _ ?_;clear hK K)|refine Qw ‹_› _ ?_|refine Qx ‹_› ?_|refine Qi fun K hK=>?_|refine Qj T fun K hK=>?_|refine Qk (id:=8) T mixed JeK (by kernel_rfl) fun K hK=>?_|refine Ql fun A B hA hB=>?_|refine Qm ?_|refine Qn ?_|refine Qp ?_|refine Qr ?_)
 | ((with_reducible first|apply Qy|apply Qz|apply QA)<;>intro hb<;>try simp only[nr] at hb)
 |simp only[go_sem,↓reduceIte,reduceIte,Qa,Qh,Qb,Qc,Qd,Qe,Qf,Qg,reduceCtorEq, *,-hs,-hTN,-hmu,-hof,-hna,-hT0,-hN]
 |with_reducible refine fun(bn:Bool) hbn=>?_))
 have hp1:AV.pure (.ro [.mp (Jq T0) (Jw T0)])=true:=by simp only[go_sem,Bool.and_self]
 have hp2:AV.pure (.ro [.mp (Jq N) (Jw N)])=true:=by simp only[go_sem,Bool.and_self]
 have hre:∀g n,(VU 106 (.ro [.mp (Jq T0) (Jw T0)]) (.ro [.mref 13 g]) (.ro [.mp (Jq N) (Jw N)]) n).renM 13 g 1000=VU 106 (.ro [.mp (Jq T0) (Jw T0)]) (.ro [.mref 1000 0]) (.ro [.mp (Jq N) (Jw N)]) n:=fun g n=>by
  rw[Ji5 _ _ _ _ _ _ _ _ hp1 hp2];simp[AV.renM,AV.renM.renML]
 have hpe:∀g n,(VU 106 (.ro [.mp (Jq T0) (Jw T0)]) (.ro [.mref 13 g]) (.ro [.mp (Jq N) (Jw N)]) n).pureH 13 g=true:=fun g n =>
  JiR _ _ _ _ _ _ _ hp1 (by simp[AV.pureH,AV.pureH.pureHL]) hp2
 refine SpecC.ent (Ent.frzRec 106 (T0.length+1) 3 5 4 6 (x:=.mp (Jq T0) (Jw T0)) (y:=.mref 13 (ts.gen 13+1)) (z:=.mp (Jq N) (Jw N)) (by simp only[go_sem,↓reduceIte,reduceIte,Qa,Qh,Qb,Qc,Qd,Qe,Qf,Qg,reduceCtorEq, *,-hs,-hTN,-hmu,-hof,-hna,-hT0,-hN,-hp1,-hp2];done) (by simp only[go_sem,↓reduceIte,reduceIte,Qa,Qh,Qb,Qc,Qd,Qe,Qf,Qg,reduceCtorEq, *,-hs,-hTN,-hmu,-hof,-hna,-hT0,-hN,-hp1,-hp2];done) (by simp only[go_sem,↓reduceIte,reduceIte,Qa,Qh,Qb,Qc,Qd,Qe,Qf,Qg,reduceCtorEq, *,-hs,-hTN,-hmu,-hof,-hna,-hT0,-hN,-hp1,-hp2];done) (by simp only[go_sem,↓reduceIte,reduceIte,Qa,Qh,Qb,Qc,Qd,Qe,Qf,Qg,reduceCtorEq, *,-hs,-hTN,-hmu,-hof,-hna,-hT0,-hN,-hp1,-hp2];done)) ?_
 refine Qs [5,6,15,16] (fun m ts'=>∃(i:Nat),∃(M:KS),m=xs.length-i∧i≤xs.length∧JaY T0 N T0.length xs []=JaY T0 N T0.length (xs.drop i) M∧ts'.gen 13=ts.gen 13+1∧ts'.obj 13=.mp (Jq M) (Jw M)∧ts'.tmp 17=.int .i64 i) xs.length ?_ ?_
 ·refine⟨0,[],rfl,Nat.zero_le _,rfl,?_⟩
  simp only[go_sem,↓reduceIte,reduceIte,Qa,Qh,Qb,Qc,Qd,Qe,Qf,Qg,reduceCtorEq, *,-hs,-hTN,-hmu,-hof,-hna,-hT0,-hN,-hp1,-hp2]
 ·rintro m A hM ts' hk ⟨i,M,hm,f1,f2,s1,s2,s3⟩
  simp only[go_sem,↓reduceIte,reduceIte,Qa,Qh,Qb,Qc,Qd,Qe,Qf,Qg,reduceCtorEq, *] at hk
  have hxx:∀x∈xs,True:=fun _ _=>trivial
  clear hof hna hs hxx
  by_cases hlt:i<xs.length
  ·have hstep:JaY T0 N T0.length (xs.drop i) M=JaY T0 N T0.length (xs.drop (i+1)) (if xs[i].kind=0 then JO T0 N T0.length (Jj xs[i]) M else M):=by
    rw[List.drop_eq_getElem_cons hlt];rfl
   rw[hstep] at f2
   clear hstep
   (repeat' (first
 | (with_reducible first|refine callX.hm (d:=13) (g:=ts.gen 13+1) ?_ ?_ (JrD T0 N hTN T0.length xs[i].kind xs[i].name M (hmu M)) ?_|refine callX.by (Jam _ ?_) ?_|refine callX.by (Jek _ ?_ ?_) ?_|refine callX.by (J0 _ _ _ _ _ _ _) ?_|assumption|(refine Qw hK _ ?_;clear hK K)|refine Qw ‹_› _ ?_|refine Qx ‹_› ?_|refine Qi fun K hK=>?_|refine Qj T fun K hK=>?_|refine Qk (id:=8) T mixed JeK (by kernel_rfl) fun K hK=>?_|refine Ql fun A B hA hB=>?_|refine Qm ?_|refine Qn ?_|refine Qp ?_|refine Qr ?_)
 | ((with_reducible first|apply Qy|apply Qz|apply QA)<;>intro hb<;>try simp only[nr] at hb)
 |simp only[go_sem,↓reduceIte,reduceIte,Qa,Qh,Qb,Qc,Qd,Qe,Qf,Qg,reduceCtorEq, *,-hTN,-hmu,-hT0,-hN,-hp1,-hp2,-f2,JfH,false_and,true_and]
 |with_reducible refine fun(bn:Bool) hbn=>?_))
   all_goals ((repeat clear hK);(repeat clear hA);(repeat clear hB))
   ·rw[if_pos (of_decide_eq_true hb)] at f2
    (refine hM.on (xs.length-(i+1)) (by omega) (by simp only[go_sem,↓reduceIte,reduceIte,Qa,Qh,Qb,Qc,Qd,Qe,Qf,Qg,reduceCtorEq, *,Jf hlt hsl,Jj,-hTN,-hmu,-hT0,-hN,-hp1,-hp2,-f2]) ⟨i+1,JO T0 N T0.length (Jj xs[i]) M,rfl,by omega,f2,?_⟩;simp only[go_sem,↓reduceIte,reduceIte,Qa,Qh,Qb,Qc,Qd,Qe,Qf,Qg,reduceCtorEq, *,Jf hlt hsl,Jj,-hTN,-hmu,-hT0,-hN,-hp1,-hp2,-f2];done)
   ·rw[if_neg (of_decide_eq_false hb)] at f2
    (refine hM.on (xs.length-(i+1)) (by omega) (by simp only[go_sem,↓reduceIte,reduceIte,Qa,Qh,Qb,Qc,Qd,Qe,Qf,Qg,reduceCtorEq, *,Jf hlt hsl,Jj,-hTN,-hmu,-hT0,-hN,-hp1,-hp2,-f2]) ⟨i+1,M,rfl,by omega,f2,?_⟩;simp only[go_sem,↓reduceIte,reduceIte,Qa,Qh,Qb,Qc,Qd,Qe,Qf,Qg,reduceCtorEq, *,Jf hlt hsl,Jj,-hTN,-hmu,-hT0,-hN,-hp1,-hp2,-f2];done)
  ·rw[List.drop_eq_nil_of_le (by omega)] at f2
   have f3:JaY T0 N T0.length xs []=M:=f2
   clear f2
   (repeat' (first
 | (with_reducible first|refine callX.by (Jam _ ?_) ?_|refine callX.by (Jek _ ?_ ?_) ?_|refine callX.by (J0 _ _ _ _ _ _ _) ?_|assumption|(refine Qw hK _ ?_;clear hK K)|refine Qw ‹_› _ ?_|refine Qx ‹_› ?_|refine Qi fun K hK=>?_|refine Qj T fun K hK=>?_|refine Qk (id:=8) T mixed JeK (by kernel_rfl) fun K hK=>?_|refine Ql fun A B hA hB=>?_|refine Qm ?_|refine Qn ?_|refine Qp ?_|refine Qr ?_)
 | ((with_reducible first|apply Qy|apply Qz|apply QA)<;>intro hb<;>try simp only[nr] at hb)
 |simp only[go_sem,↓reduceIte,reduceIte,Qa,Qh,Qb,Qc,Qd,Qe,Qf,Qg,reduceCtorEq, *,-hTN,-hmu,-hT0,-hN,-hp1,-hp2,false_and,true_and]
 |with_reducible refine fun(bn:Bool) hbn=>?_))
theorem JgJ(M:KS):Caps [.ro [.mp (Jq M) (Jw M)]]:=⟨by simp only[go_sem,Bool.and_self],by simp only[go_sem]⟩
theorem Jnf(r_kind:Int)(r_name:List UInt8)(r_ver:Int)(r_port:Int)(r_to:List UInt8)(r_rules:List Rule)(r_hosts:List Int)(M:KS):CallR Tryz.prog 141 [.agg [.int .i64 r_kind,.str r_name,.int .i64 r_ver,.int .i64 r_port,.str r_to,.slice false (Ja r_rules),.slice false (Ja r_hosts)],.ro [.mp (Jq M) (Jw M)]] (.val (.bool (!Jp M (Jj (⟨r_kind,r_name,r_ver,r_port,r_to,r_rules,r_hosts⟩:Res))))):=by
 refine CallR.go2 (T:=T) Tryz.call141 Tryz.func141 rfl Tryz.ntmps141 (congrArg Array.toList Tryz.results141) (by decide) fun ts hn h0 h1=>?_
 (repeat' (first
 | (with_reducible first|refine callX.by (J0 _ _ _ _ _ _ _) ?_|assumption|(refine Qw hK _ ?_;clear hK K)|refine Qw ‹_› _ ?_|refine Qx ‹_› ?_|refine Qi fun K hK=>?_|refine Qj T fun K hK=>?_|refine Qk (id:=1) T mixed [([4],[5,6]),([5],[4]),([6],[4])] (by kernel_rfl) fun K hK=>?_|refine Ql fun A B hA hB=>?_|refine Qn ?_|refine Qr ?_)
 | ((with_reducible first|apply Qy|apply Qz|apply QA)<;>intro hb<;>try simp only[nr] at hb)
 |simp only[go_sem,↓reduceIte,reduceIte,Qa,Qh,Qb,Qc,Qd,Qe,Qf,Qg,reduceCtorEq, *]
 |with_reducible refine fun(bn:Bool) hbn=>?_))
 all_goals rfl
def VI(l:List Res):List Res:=l.filter fun r=>Jp (ZX l) (Jj r)
theorem JfE(l:List Res):(VI l).length≤l.length:=List.length_filter_le _ _
theorem JbT(xs:List Res)(hl:xs.length≤65536)(hs:∀r∈xs,Jv r):CallR Tryz.prog 95 [.slice false (Ja xs)] (.own 7 (Ja (VI xs))):=by
 have hsl:=Ja6 hl
 have hd:=Jdy 141 [.ro [.mp (Jq (ZX xs)) (Jw (ZX xs))]] (JgJ _) (fun r=>!Jp (ZX xs) (Jj r)) xs (fun x _=>Jnf x.kind x.name x.ver x.port x.to' x.rules' x.hosts _) hsl
 simp only[Bool.not_not] at hd
 have e:xs.filter (fun x=>Jp (ZX xs) (Jj x))=VI xs:=rfl
 rw[e] at hd
 refine CallR.go1 (T:=T) Tryz.call95 Tryz.func95 rfl Tryz.ntmps95 (congrArg Array.toList Tryz.results95) (by decide) fun ts hn h0=>?_
 (repeat' (first
 | (with_reducible refine callX.mv ?_ ?_ ?_ (hd);(focus(simp only[go_sem,↓reduceIte,reduceIte,Qa,Qh,Qb,Qc,Qd,Qe,Qf,Qg,reduceCtorEq, *,-hs,-hd,-e];first|done|rfl));(focus(simp only[go_sem,↓reduceIte,reduceIte,Qa,Qh,Qb,Qc,Qd,Qe,Qf,Qg,reduceCtorEq, *,-hs,-hd,-e];first|done|rfl)))
 | (with_reducible first|refine callX.by (Jng _ ?_ ?_) ?_|refine callX.by (JgV _ _ ?_) ?_)
 | (with_reducible refine callX.mv ?_ ?_ ?_ (Jdy ?_ ?_ ?_ ?_ ?_ ?_ ?_);(focus(simp only[go_sem,↓reduceIte,reduceIte,Qa,Qh,Qb,Qc,Qd,Qe,Qf,Qg,reduceCtorEq, *,-hs,-hd,-e];first|done|rfl));(focus(simp only[go_sem,↓reduceIte,reduceIte,Qa,Qh,Qb,Qc,Qd,Qe,Qf,Qg,reduceCtorEq, *,-hs,-hd,-e];first|done|rfl)))
 | (with_reducible first|assumption|(refine Qw hK _ ?_;clear hK K)|refine Qw ‹_› _ ?_|refine Qx ‹_› ?_|refine Qi fun K hK=>?_|refine Qj T fun K hK=>?_|refine Ql fun A B hA hB=>?_|refine Qn ?_|refine Qr ?_)
 | ((with_reducible first|apply Qy|apply Qz|apply QA)<;>intro hb<;>try simp only[nr] at hb)
 |simp only[go_sem,↓reduceIte,reduceIte,Qa,Qh,Qb,Qc,Qd,Qe,Qf,Qg,reduceCtorEq, *,-hs,-hd,-e]
 |with_reducible refine fun(bn:Bool) hbn=>?_))
theorem JnK(k_kind:Int)(k_name:List UInt8)(M:KS):CallR Tryz.prog 97 [.agg [.int .i64 k_kind,.str k_name],.ro [.mp (Jq M) (Jw M)]] (.val (.bool (!Jp M (⟨k_kind,k_name⟩:Key)))):=by
 refine CallR.go2 (T:=T) Tryz.call97 Tryz.func97 rfl Tryz.ntmps97 (congrArg Array.toList Tryz.results97) (by decide) fun ts hn h0 h1=>?_
 (repeat' (first
 | (with_reducible first|assumption|(refine Qw hK _ ?_;clear hK K)|refine Qw ‹_› _ ?_|refine Qx ‹_› ?_|refine Qi fun K hK=>?_|refine Qj T fun K hK=>?_|refine Ql fun A B hA hB=>?_|refine Qn ?_|refine Qr ?_)
 | ((with_reducible first|apply Qy|apply Qz|apply QA)<;>intro hb<;>try simp only[nr] at hb)
 |simp only[go_sem,↓reduceIte,reduceIte,Qa,Qh,Qb,Qc,Qd,Qe,Qf,Qg,reduceCtorEq, *]
 |with_reducible refine fun(bn:Bool) hbn=>?_))
 all_goals rfl
def Jcd(r:Res):Bool:=decide (r.kind=3) && decide (r.hosts.length=0)
theorem Jeu(r_kind:Int)(r_name:List UInt8)(r_ver:Int)(r_port:Int)(r_to:List UInt8)(r_rules:List Rule)(r_hosts:List Int):CallR Tryz.prog 99 [.agg [.int .i64 r_kind,.str r_name,.int .i64 r_ver,.int .i64 r_port,.str r_to,.slice false (Ja r_rules),.slice false (Ja r_hosts)]] (.val (.bool (Jcd (⟨r_kind,r_name,r_ver,r_port,r_to,r_rules,r_hosts⟩:Res)))):=by
 refine CallR.go1 (T:=T) Tryz.call99 Tryz.func99 rfl Tryz.ntmps99 (congrArg Array.toList Tryz.results99) (by decide) fun ts hn h0=>?_
 (repeat' (first
 | (with_reducible first|assumption|(refine Qw hK _ ?_;clear hK K)|refine Qw ‹_› _ ?_|refine Qx ‹_› ?_|refine Qi fun K hK=>?_|refine Qj T fun K hK=>?_|refine Ql fun A B hA hB=>?_|refine Qn ?_|refine Qr ?_)
 | ((with_reducible first|apply Qy|apply Qz|apply QA)<;>intro hb<;>try simp only[nr] at hb)
 |simp only[go_sem,↓reduceIte,reduceIte,Qa,Qh,Qb,Qc,Qd,Qe,Qf,Qg,reduceCtorEq, *]
 |with_reducible refine fun(bn:Bool) hbn=>?_))
 all_goals simp_all[Jcd]
def JcA(M:KS)(r:Res):Bool:=(JH r).any fun k=>!Jp M k
def Yz(l:List Res):Int:=if(VI l).any (JcA (YY l []))=true then 6 else if(VI l).any Jcd=true then 7 else 0
set_option maxHeartbeats 4000000 in
theorem Jc2(xs:List Res)(hl:xs.length≤65536)(hs:∀r∈xs,Jv r):CallR Tryz.prog 63 [.slice false (Ja xs)] (.val (.int .i64 (Yz xs))):=by
 have hsl:=Ja6 hl
 have hrl:=JfE xs
 have hrs:Jc (VI xs).length:=Ja6 (by omega)
 have hr1:=JbT xs hl hs
 have hsr:∀r∈VI xs,Jv r:=fun r hr=>hs r (List.mem_filter.1 hr).1
 have hc2:=Jbl 99 [] Caps.nil Jcd (VI xs) (fun x _=>Jeu x.kind x.name x.ver x.port x.to' x.rules' x.hosts) hrs
 obtain⟨M,hM0⟩:∃M,YY xs []=M:=⟨_,rfl⟩
 have hof:=Jam xs hsl
 have hsv:Yz xs=if(VI xs).any (JcA M)=true then 6 else if(VI xs).any Jcd=true then 7 else 0:=by rw[←hM0];rfl
 rw[hM0] at hof
 clear hM0
 obtain⟨R,hR⟩:∃R,VI xs=R:=⟨_,rfl⟩
 rw[hR] at hr1 hsr hc2 hsv hrs hrl
 clear hR hs
 refine CallR.go1 (T:=T) Tryz.call63 Tryz.func63 rfl Tryz.ntmps63 (congrArg Array.toList Tryz.results63) (by decide) fun ts hn h0=>?_
 (repeat' (first
 | (with_reducible first|refine callX.by (hof) ?_|refine callX.by (hr1) ?_|refine callX.by (Jam _ ?_) ?_|refine callX.by (JbT _ ?_ ?_) ?_|refine callX.by (JcR _ ?_ ?_ _) ?_|refine callX.by a6rc ?_|refine callX.by (Jan _ _ _ _ _ _ _ ?_ ?_ ?_) ?_|refine callX.by JaC ?_|refine callX.by (ZQ _ _ ?_ _ _ ?_ ?_) ?_|refine callX.by (Jbl _ _ ?_ _ _ ?_ ?_) ?_|refine callX.by (Jeu _ _ _ _ _ _ _) ?_|assumption|(refine Qw hK _ ?_;clear hK K)|refine Qw ‹_› _ ?_|refine Qx ‹_› ?_|refine Qi fun K hK=>?_|refine Qj T fun K hK=>?_|refine Ql fun A B hA hB=>?_|refine Qm ?_|refine Qn ?_|refine Qp ?_|refine Qr ?_)
 | ((with_reducible first|apply Qy|apply Qz|apply QA)<;>intro hb<;>try simp only[nr] at hb)
 |simp only[go_sem,↓reduceIte,reduceIte,Qa,Qh,Qb,Qc,Qd,Qe,Qf,Qg,reduceCtorEq, *,-hr1,-hsr,-hc2,-hof,-hsv]
 |with_reducible refine fun(bn:Bool) hbn=>?_))
 refine SpecC.ent (Ent.frzBox _ 3) ?_
 refine Qs [3,4,11,12] (fun m ts'=>∃(i:Nat),m=R.length-i∧i≤R.length∧R.any (JcA M)=(R.drop i).any (JcA M)∧ts'.gen 10=ts.gen 10+1∧ts'.obj 10=.arr 7 (Ja R)∧ts'.tmp 13=.int .i64 i) R.length ?_ ?_
 ·refine⟨0,?_⟩
  simp only[go_sem,↓reduceIte,reduceIte,Qa,Qh,Qb,Qc,Qd,Qe,Qf,Qg,reduceCtorEq, *,-hr1,-hsr,-hc2,-hof,-hsv]
 ·rintro m A hM ts' hk ⟨i,hm,f1,f2,s1,s2,s3⟩
  simp only[go_sem,↓reduceIte,reduceIte,Qa,Qh,Qb,Qc,Qd,Qe,Qf,Qg,reduceCtorEq, *] at hk
  by_cases hlt:i<R.length
  ·rw[List.drop_eq_getElem_cons hlt,List.any_cons] at f2
   obtain⟨_,_,hx1,hx2,hx3⟩:=hsr _ (List.getElem_mem hlt)
   have hql:=JfI R[i]
   have hqs:Jc (JH R[i]).length:=by unfold Jc;omega
   have hc1:=ZQ 97 [.ro [.mp (Jq M) (Jw M)]] (JgJ M) (fun k=>!Jp M k) (JH R[i]) (fun x _=>JnK x.kind x.name M) hqs
   have hlk:(JH R[i]).any (fun k=>!Jp M k)=JcA M R[i]:=rfl
   rw[hlk] at hc1
   clear hr1 hof hlk
   (repeat' (first
 | (with_reducible first|refine callX.by (hc1) ?_|refine callX.by (Jam _ ?_) ?_|refine callX.by (JbT _ ?_ ?_) ?_|refine callX.by (JcR _ ?_ ?_ _) ?_|refine callX.by a6rc ?_|refine callX.by (Jan _ _ _ _ _ _ _ ?_ ?_ ?_) ?_|refine callX.by JaC ?_|refine callX.by (ZQ _ _ ?_ _ _ ?_ ?_) ?_|refine callX.by (Jbl _ _ ?_ _ _ ?_ ?_) ?_|refine callX.by (Jeu _ _ _ _ _ _ _) ?_|assumption|(refine Qw hK _ ?_;clear hK K)|refine Qw ‹_› _ ?_|refine Qx ‹_› ?_|refine Qi fun K hK=>?_|refine Qj T fun K hK=>?_|refine Ql fun A B hA hB=>?_|refine Qm ?_|refine Qn ?_|refine Qp ?_|refine Qr ?_)
 | ((with_reducible first|apply Qy|apply Qz|apply QA)<;>intro hb<;>try simp only[nr] at hb)
 |simp only[go_sem,↓reduceIte,reduceIte,Qa,Qh,Qb,Qc,Qd,Qe,Qf,Qg,reduceCtorEq, *,-hsr,-hc1,-hc2,-hsv,-hx2,-f2]
 |with_reducible refine fun(bn:Bool) hbn=>?_))
   all_goals ((repeat clear hK);(repeat clear hA);(repeat clear hB))
   ·rw[hb,Bool.true_or] at f2
    rw[hsv,if_pos f2]
   ·rw[hb,Bool.false_or] at f2
    (refine hM.on (R.length-(i+1)) (by omega) (by simp only[go_sem,↓reduceIte,reduceIte,Qa,Qh,Qb,Qc,Qd,Qe,Qf,Qg,reduceCtorEq, *,Jf hlt hrs,-hsr,-hc1,-hc2,-hsv,-hx2,-f2]) ⟨i+1,rfl,by omega,f2,?_⟩;simp only[go_sem,↓reduceIte,reduceIte,Qa,Qh,Qb,Qc,Qd,Qe,Qf,Qg,reduceCtorEq, *,Jf hlt hrs,-hsr,-hc1,-hc2,-hsv,-hx2,-f2];done)
  ·rw[List.drop_eq_nil_of_le (by omega),List.any_nil] at f2
   rw[f2] at hsv
   simp only[Bool.false_eq_true,if_false] at hsv
   clear hr1 hof f2
   have htkR:(Ja R).take R.length=Ja R:=List.take_of_length_le (by simp[Ja])
   (repeat' (first
 | (with_reducible first|refine callX.by (hc2) ?_|refine callX.by (Jam _ ?_) ?_|refine callX.by (JbT _ ?_ ?_) ?_|refine callX.by (JcR _ ?_ ?_ _) ?_|refine callX.by a6rc ?_|refine callX.by (Jan _ _ _ _ _ _ _ ?_ ?_ ?_) ?_|refine callX.by JaC ?_|refine callX.by (ZQ _ _ ?_ _ _ ?_ ?_) ?_|refine callX.by (Jbl _ _ ?_ _ _ ?_ ?_) ?_|refine callX.by (Jeu _ _ _ _ _ _ _) ?_|assumption|(refine Qw hK _ ?_;clear hK K)|refine Qw ‹_› _ ?_|refine Qx ‹_› ?_|refine Qi fun K hK=>?_|refine Qj T fun K hK=>?_|refine Ql fun A B hA hB=>?_|refine Qm ?_|refine Qn ?_|refine Qp ?_|refine Qr ?_)
 | ((with_reducible first|apply Qy|apply Qz|apply QA)<;>intro hb<;>try simp only[nr] at hb)
 |simp only[go_sem,↓reduceIte,reduceIte,Qa,Qh,Qb,Qc,Qd,Qe,Qf,Qg,reduceCtorEq, *,-hsr,-hc2,-hsv]
 |with_reducible refine fun(bn:Bool) hbn=>?_))
   all_goals ((repeat clear hK);(repeat clear hA);(repeat clear hB))
   all_goals (rw[hsv];simp[hb])
theorem JcR(xs:List Res)(hl:xs.length≤65536)(hs:∀r∈xs,Jv r)(_:(xs.map Jj).Nodup):CallR Tryz.prog 95 [.slice false (Ja xs)]
  (.own 7 (Ja (VI xs))):=JbT xs hl hs
theorem JbZ(xs:List Res)(hl:xs.length≤65536)(hs:∀r∈xs,Jv r)(_:(xs.map Jj).Nodup):CallR Tryz.prog 63 [.slice false (Ja xs)]
  (.val (.int .i64 (Yz xs))):=Jc2 xs hl hs
end Go.Proofs.YtihahfhagobnoaaGreatDoor.Lg
namespace Go.Proofs.YtihahfhagobnoaaGreatDoor.Lg
set_option maxRecDepth 100000
set_option linter.unusedVariables false
set_option linter.unusedSimpArgs false
open Go
theorem Jld{l:List Res}(h:YT l=0):∀r∈l,Vi r=0:=by
 induction l with
 |nil=>simp
 |cons r l ih =>
  unfold YT at h
  split at h
  ·rename_i hs
   intro x hx
   rcases List.mem_cons.1 hx with rfl|hx
   ·exact hs
   ·exact ih h x hx
  ·rename_i hs;exact absurd h hs
theorem JjT:∀l:List Res,Y1 l=true↔Up (l.map Jj)
 | []=>by simp[Y1,Up]
 | [a]=>by simp[Y1,Up]
 |a :: b :: l=>by
  rw[JjS,Bool.and_eq_true,JjT (b :: l),decide_eq_true_eq]
  simp only[List.map_cons]
  constructor
  ·rintro⟨h1,h2⟩
   refine List.pairwise_cons.2 ⟨fun x hx=>?_,h2⟩
   rcases List.mem_cons.1 hx with rfl|hx
   ·exact h1
   ·exact Jcu _ _ _ h1 ((List.pairwise_cons.1 h2).1 x hx)
  ·intro h
   obtain⟨h1,h2⟩:=List.pairwise_cons.1 h
   exact⟨h1 _ (by simp),h2⟩
structure Conf(l:List Res):Prop where
 len:l.length≤64
 sane:∀r∈l,Vi r=0
 up:Up (l.map Jj)
theorem Jcg{l:List Res}(h:J2 l=0):Conf l:=by
 unfold J2 at h
 split at h
 ·cases h
 ·rename_i h1
  split at h
  ·rename_i h2;exact absurd h h2
  ·rename_i h2
   split at h
   ·cases h
   ·rename_i h3
    exact⟨by omega,Jld (by simpa using h2),(JjT l).1 (by simpa using h3)⟩
theorem JrC{l:List Key}(h:Up l):l.Nodup:=by
 unfold Up at h
 refine h.imp fun {a b} hab e=>?_
 subst e
 exact JhY _ hab
theorem Conf.nodup{l:List Res}(h:Conf l):(l.map Jj).Nodup:=JrC h.up
inductive Rch(l:List Res):Key→Prop
 |base (r:Res):r∈l→r.kind=0→Rch l (Jj r)
 |step (r:Res) (x:Key):r∈l→Rch l (Jj r)→x∈JH r→x∈l.map Jj→Rch l x
theorem Rch.mem{l:List Res}{k:Key}(h:Rch l k):k∈l.map Jj:=by
 cases h with
 |base r hr _=>exact List.mem_map_of_mem hr
 |step r x _ _ _ h=>exact h
section dfs
variable (T0:KS) (N:List (Key×List Key))
def Jex(k:Key):List Key:=(JB N k).getD []
inductive Way:Key→Key→Prop
 |refl (k:Key):Jp T0 k=true→Way k k
 |step (k x y:Key):Jp T0 k=true→x∈Jex N k→Way x y→Way k y
abbrev Jgf(A B:KS):Prop:=∀x,Jp B x=true→Jp A x=false→∀y∈Jex N x,Jp T0 y=true→Jp B y=true
theorem dfs(n:Nat):∀(k:Key) (M:KS),YK T0 M≤n →
  (Jp T0 k=true→Jp (JO T0 N n k M) k=true) ∧
  (∀x,Jp (JO T0 N n k M) x=true→Jp M x=false→Way T0 N k x)∧Jgf T0 N M (JO T0 N n k M):=by
 induction n with
 |zero =>
  intro k M hmu
  have h0:∀k,Jp T0 k=true→Jp M k=true:=fun k hk=>by
   cases hm:Jp M k with
   |true=>rfl
   |false=>have:=Jd0 hk hm;omega
  exact⟨h0 k,fun x hx hx'=>absurd (Eq.trans (Eq.symm (show Jp M x=true from hx)) hx') (by decide),fun x hx hx'=>absurd (Eq.trans (Eq.symm (show Jp M x=true from hx)) hx') (by decide)⟩
 |succ n ih =>
  intro k M hmu
  by_cases hc:Jp T0 k=true∧Jp M k=false
  rotate_left
  ·have e:JO T0 N (n+1) k M=M:=by rw[JO,if_neg hc]
   rw[e]
   refine⟨fun hk=>?_,fun x hx hx'=>absurd (Eq.trans (Eq.symm hx) hx') (by decide),fun x hx hx'=>absurd (Eq.trans (Eq.symm hx) hx') (by decide)⟩
   cases hm:Jp M k with
   |true=>rfl
   |false=>exact absurd ⟨hk,hm⟩ hc
  ·obtain⟨hk,hm⟩:=hc
   have e:JO T0 N (n+1) k M=(Jex N k).foldl (fun M x=>JO T0 N n x M) (JS M k true):=by rw[JO,if_pos ⟨hk,hm⟩];rfl
   have hmu1:YK T0 (JS M k true)≤n:=by have:=Jd0 hk hm;omega
   have fold:∀(v:List Key) (M1:KS),YK T0 M1≤n →
     (∀x,Jp M1 x=true→Jp (v.foldl (fun M x=>JO T0 N n x M) M1) x=true) ∧
     (∀y∈v,Jp T0 y=true→Jp (v.foldl (fun M x=>JO T0 N n x M) M1) y=true) ∧
     (∀x,Jp (v.foldl (fun M x=>JO T0 N n x M) M1) x=true→Jp M1 x=false→∃y∈v,Way T0 N y x) ∧
     Jgf T0 N M1 (v.foldl (fun M x=>JO T0 N n x M) M1):=by
    intro v
    induction v with
    |nil=>exact fun M1 _=>⟨fun x h=>h,by simp,fun x h h'=>absurd (Eq.trans (Eq.symm (show Jp M1 x=true from h)) h') (by decide),fun x h h'=>absurd (Eq.trans (Eq.symm (show Jp M1 x=true from h)) h') (by decide)⟩
    |cons y v ihv =>
     intro M1 h1
     rw[List.foldl_cons]
     obtain⟨a1,a2,a3⟩:=ih y M1 h1
     have hg:∀x,Jp M1 x=true→Jp (JO T0 N n y M1) x=true:=fun x hx=>Jf3 T0 N n y M1 x hx
     obtain⟨b1,b2,b3,b4⟩:=ihv (JO T0 N n y M1) (Nat.le_trans (Jic hg) h1)
     refine⟨fun x hx=>b1 x (hg x hx),fun z hz hzT=>?_,fun x hx hx'=>?_,fun x hx hx' z hz hzT=>?_⟩
     ·rcases List.mem_cons.1 hz with rfl|hz
      ·exact b1 _ (a1 hzT)
      ·exact b2 z hz hzT
     ·cases hv:Jp (JO T0 N n y M1) x with
      |true=>exact⟨y,by simp,a2 x hv hx'⟩
      |false=>obtain⟨z,hz,hw⟩:=b3 x hx hv;exact⟨z,by simp[hz],hw⟩
     ·cases hv:Jp (JO T0 N n y M1) x with
      |true=>exact b1 _ (a3 x hv hx' z hz hzT)
      |false=>exact b4 x hx hv z hz hzT
   obtain⟨b1,b2,b3,b4⟩:=fold (Jex N k) (JS M k true) hmu1
   rw[e]
   refine⟨fun _=>b1 k (by rw[JaN];simp),fun x hx hx'=>?_,fun x hx hx' y hy hyT=>?_⟩
   ·cases hp:Jp (JS M k true) x with
    |true =>
     rw[JaN,hx'] at hp
     have:x=k:=by simpa using hp
     subst this
     exact .refl _ hk
    |false =>
     obtain⟨y,hy,hw⟩:=b3 x hx hp
     exact .step k y x hk hy hw
   ·cases hp:Jp (JS M k true) x with
    |true =>
     rw[JaN,hx'] at hp
     have:x=k:=by simpa using hp
     subst this
     exact b2 y hy hyT
    |false=>exact b4 x hx hp y hy hyT
end dfs
theorem JiY(l:List Res):(VI l).Sublist l:=List.filter_sublist
end Go.Proofs.YtihahfhagobnoaaGreatDoor.Lg
