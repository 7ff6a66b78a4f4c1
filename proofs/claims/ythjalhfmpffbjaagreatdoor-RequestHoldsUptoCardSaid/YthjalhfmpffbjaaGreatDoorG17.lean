/- Parts of the proof, one behind the other. -/
import Derived.Test.YthjalhfmpffbjaaGreatDoorG16
set_option linter.unusedVariables false
set_option linter.unusedSimpArgs false
set_option maxRecDepth 100000
set_option maxHeartbeats 64000000
namespace Go.Proofs.YthjalhfmpffbjaaGreatDoor.Lg
open Go
open Tryz
open Nat renaming reduceEqDiff → Qa, reduceLT → Qb, reduceLeDiff → Qc, reduceAdd → Qd, reduceMul → Qe, reduceSub → Qf, reduceBEq → Qg
open String renaming reduceEq → Qh
open NxK renaming out → Qw
@[go_sem] def Jfo:List (List Nat×List Nat):=[([16],[17,19,20]),([17],[16,19,20]),([19],[16,17]),([20],[16,17]),([21,7],[]),([18],[23]),([22],[23]),([23],[18,22])]
instance:Dat (List Key) where
 av l:=.slice false (Ja l)
 sz:=1
 len _:=rfl
 pure l:=by simp only[go_sem]
 nrm l:=by simp only[go_sem]
 one _:=rfl
 known _:=rfl
theorem Jm0(l:List Key):Dat.av l=.slice false (Ja l):=rfl
section
variable {α β:Type}
theorem Jo0 [Dat α](M:List (α×β))(p:α×β):Ju (M++[p])=Ju M++[Dat.av p.1]:=by simp[Ju,Ja]
theorem JqJ{γ:Type}(l:List γ)(x y:γ)(n:Nat)(h:n=l.length):(l++[x]).set n y=l++[y]:=by subst h;simp
end
def VC(M:List (Key×List Key))(r:Res):List (Key×List Key):=JT M (Jo r) ((JE M (Jo r)).getD []++JP r)
def JaG(l:List Res):List (Key×List Key):=l.foldl VC []
def Y0:Key×List Key:=(⟨0,[]⟩,[])
def J0(h:Nat→Nat)(M:List (Key×List Key)):List AV:=(List.range M.length).map fun j=>.os (j+1000) (h j) (M.getD j Y0).2.length
theorem Jbp(h:Nat→Nat)(M:List (Key×List Key)):(J0 h M).length=M.length:=by simp[J0]
theorem Jjq(h:Nat→Nat){M:List (Key×List Key)}{j:Nat}(hj:j<M.length):(J0 h M).getD j .any=.os (j+1000) (h j) (M.getD j Y0).2.length:=by
 simp[J0,hj]
theorem Jpq(h:Nat→Nat)(M:List (Key×List Key))(p:Key×List Key)(g:Nat):J0 h M++[.os (M.length+1000) g p.2.length]=J0 (fun i=>if i=M.length then g else h i) (M++[p]):=by
 refine List.ext_getElem (by simp[Jbp]) fun i h1 h2=>?_
 have hi:i≤M.length:=by simp[Jbp] at h1;omega
 by_cases hl:i<M.length
 ·have hne:¬i=M.length:=by omega
  simp[J0,hl,List.getElem_append,hne,List.getElem?_append]
 ·have:i=M.length:=by omega
  subst this
  simp[J0,List.getElem_append]
theorem Jpp(h:Nat→Nat)(M:List (Key×List Key))(p:Key×List Key)(g j:Nat)(hj:j<M.length):(J0 h M).set j (.os (j+1000) g p.2.length)=J0 (fun i=>if i=j then g else h i) (M.set j p):=by
 refine List.ext_getElem (by simp[Jbp]) fun i h1 h2=>?_
 have hi:i<M.length:=by simpa[Jbp] using h1
 by_cases hl:i=j
 ·subst hl
  simp[J0,hi]
 ·simp[J0,List.getElem_set,Ne.symm hl,hl,List.getElem?_set]
theorem Jhg{M:List (Key×List Key)}{r:Res}(h:JI (Jo r) M=none):VC M r=M++[(Jo r,JP r)]:=by
 unfold VC
 rw[Jo1 _ (Jb6 h),Jb6 h]
 rfl
theorem Jhh{M:List (Key×List Key)}{r:Res}{j:Nat}(h:JI (Jo r) M=some j):VC M r=M.set j (Jo r,(M.getD j Y0).2++JP r):=by
 obtain⟨h1,h2⟩:=JcU h
 unfold VC JT
 rw[h,h2]
 simp[h1]
theorem Jhf(M:List (Key×List Key))(r:Res):(VC M r).length≤M.length+1:=by
 cases h:JI (Jo r) M with
 |none=>rw[Jhg h];simp
 |some j=>rw[Jhh h];simp
theorem JgH(xs:List Res)(hl:xs.length≤65536)(hs:∀r∈xs,Jy r):CallR prog 186 [.slice false (Ja xs)] (.val (.mp (Ju (JaG xs)) (JA (JaG xs)))):=by
 have hsl:=JbC hl
 refine Jl call186 func186 rfl ntmps186 results186 fun ts hn h0=>?_
 (repeat' (first
 | (with_reducible first|refine callX.by (Vf _ _ _ _ _ _ _) ?_|refine callX.by (JaN _ _ _ _ _ _ _ ?_ ?_ ?_) ?_|refine callX.by JaZ ?_|assumption|(refine Qw hK _ ?_;clear hK K)|refine Qw ‹_› _ ?_|refine Nx.out ‹_› ?_|refine SpecC.seqW fun K hK=>?_|refine SpecC.regW T fun K hK=>?_|refine SpecC.drawW (id:=6) T mixed Jfo (by kernel_rfl) fun K hK=>?_|refine SpecC.condW fun A B hA hB=>?_|refine SpecC.block ?_|refine SpecC.skip ?_|refine SpecC.exit ?_|refine SpecC.ret ?_)
 |(with_reducible first|apply condK.split|apply gK.split_t|apply gK.split_f)<;>intro hb<;>try simp only[nr] at hb
 |simp only[go_sem,↓reduceIte,Qa,Qh,Qb,Qc,Qd,Qe,Qf,Qg,reduceCtorEq, *,-hs]
 |intro(bn:Bool) hbn))
 refine SpecC.loopF [8,9] (fun m ts'=>∃(i:Nat),∃(g:Nat),∃(M:List (Key×List Key)),∃(h:Nat→Nat),m=xs.length-i∧i≤xs.length∧JaG xs=(xs.drop i).foldl VC M∧M.length≤i∧(∀p∈M,p.2.length≤33*i)∧(∀j,j<M.length→ts'.obj (j+1000)=.arr 2 (Ja (M.getD j Y0).2)∧ts'.gen (j+1000)=h j)∧ts'.tmp 3=.mref 7 g∧ts'.gen 7=g∧ts'.obj 7=.mp (Ju M) (J0 h M)∧ts'.tmp 10=.int .i64 i) xs.length ?_ ?_
 ·refine⟨0,ts.gen 7+1,[],fun _=>0,rfl,Nat.zero_le _,rfl,Nat.le_refl _,by simp,fun j hj=>absurd hj (by simp),?_⟩
  simp only[go_sem,↓reduceIte,Qa,Qh,Qb,Qc,Qd,Qe,Qf,Qg,reduceCtorEq, *,-hs,show J0 (fun _=>0) []=[] from rfl]
 ·rintro m A hM ts' hk ⟨i,g,M,h,hm,f1,f2,f3,f4,f5,s1,s2,s3,s4⟩
  simp only[go_sem,↓reduceIte,Qa,Qh,Qb,Qc,Qd,Qe,Qf,Qg,reduceCtorEq, *] at hk
  by_cases hlt:i<xs.length
  ·rw[List.drop_eq_getElem_cons hlt,List.foldl_cons] at f2
   obtain⟨_,_,hx1,hx2,hx3⟩:=hs _ (List.getElem_mem hlt)
   have hrl:=Jgx xs[i]
   have hrs:Jc (JP xs[i]).length:=by unfold Jc;omega
   have hr1:Vt (JP xs[i]).length 24:=Jbw (by omega) (by decide)
   cases hix:JI ⟨xs[i].kind,xs[i].name⟩ M with
   |none =>
    have hol:(J0 h M).length=M.length:=Jbp h M
    have hset:∀y x:AV,(J0 h M++[y]).set M.length x=J0 h M++[x]:=fun y x=>JqJ _ _ _ _ hol.symm
    have hgd:∀x:AV,(J0 h M++[x]).getD M.length .any=x:=fun x=>by simp[List.getD_eq_getElem?_getD,hol]
    have hlt1:(M.length:Int)<((M.length+1:Nat):Int):=by omega
    have hlt2:M.length<M.length+1:=by omega
    (repeat' (first
 | (with_reducible first|refine callX.by (Vf _ _ _ _ _ _ _) ?_|refine callX.by (JaN _ _ _ _ _ _ _ ?_ ?_ ?_) ?_|refine callX.by JaZ ?_|assumption|(refine Qw hK _ ?_;clear hK K)|refine Qw ‹_› _ ?_|refine Nx.out ‹_› ?_|refine SpecC.seqW fun K hK=>?_|refine SpecC.regW T fun K hK=>?_|refine SpecC.drawW (id:=6) T mixed Jfo (by kernel_rfl) fun K hK=>?_|refine SpecC.condW fun A B hA hB=>?_|refine SpecC.block ?_|refine SpecC.skip ?_|refine SpecC.exit ?_|refine SpecC.ret ?_)
 |(with_reducible first|apply condK.split|apply gK.split_t|apply gK.split_f)<;>intro hb<;>try simp only[nr] at hb
 |simp only[go_sem,↓reduceIte,Qa,Qh,Qb,Qc,Qd,Qe,Qf,Qg,reduceCtorEq, *,-hs,-hx2,-f2,-f4,-f5]
 |intro(bn:Bool) hbn))
    all_goals ((repeat clear hK);(repeat clear hA);(repeat clear hB))
    have e:=Jhg (r:=xs[i]) hix
    have ek:Ju M++[.agg [.int .i64 xs[i].kind,.str xs[i].name]]=Ju (VC M xs[i]):=by rw[e,Jo0];rfl
    have ev:J0 h M++[AV.os (M.length+1000) (ts'.gen (M.length+1000)+1) (JP xs[i]).length]=J0 (fun u=>if u=M.length then ts'.gen (M.length+1000)+1 else h u) (VC M xs[i]):=by rw[e];exact Jpq h M (Jo xs[i],JP xs[i]) _
    have hal:=Jhf M xs[i]
    refine hM.onE (xs.length-(i+1)) (Ent.renM2 7 M.length 22 (M.length+1000) (JP xs[i]).length ?_) (by omega) ?_ ?_
    ·simp only[go_sem,↓reduceIte,Qa,Qh,Qb,Qc,Qd,Qe,Qf,Qg,reduceCtorEq, *,-hs,-hx2,-f2,-f4,-f5,-e,-ek,-ev]
     done
    ·simp only[go_sem,↓reduceIte,Qa,Qh,Qb,Qc,Qd,Qe,Qf,Qg,reduceCtorEq, *,-hs,-hx2,-f2,-f4,-f5,-e,-ek,-ev]
     done
    ·refine⟨i+1,g,VC M xs[i],fun u=>if u=M.length then ts'.gen (M.length+1000)+1 else h u,rfl,by omega,f2,by omega,fun p hp=>?_,fun q hq=>?_,?_⟩
     ·rw[e] at hp
      rcases List.mem_append.1 hp with hp|hp
      ·have:=f4 p hp;omega
      ·rw[List.mem_singleton] at hp;subst hp;show(JP xs[i]).length≤_;omega
     ·by_cases hql:q=M.length
      ·subst hql
       have e1:((VC M xs[i]).getD M.length Y0).2=JP xs[i]:=by rw[e];simp
       simp only[go_sem,↓reduceIte,Qa,Qh,Qb,Qc,Qd,Qe,Qf,Qg,reduceCtorEq, *,-hs,-hx2,-f2,-f4,-f5,-e,-ek,-ev]
       done
      ·have hq2:q<M.length:=by rw[e] at hq;simp at hq;omega
       have e1:(VC M xs[i]).getD q Y0=M.getD q Y0:=by rw[e];simp[List.getElem?_append,hq2]
       obtain⟨f6,f7⟩:=f5 q hq2
       simp only[go_sem,↓reduceIte,Qa,Qh,Qb,Qc,Qd,Qe,Qf,Qg,reduceCtorEq, *,-hs,-hx2,-f2,-f4,-f5,-e,-ek,-ev]
       done
     ·simp only[go_sem,↓reduceIte,Qa,Qh,Qb,Qc,Qd,Qe,Qf,Qg,reduceCtorEq, *,Jg hlt hsl,-hs,-hx2,-f2,-f4,-f5,-e,hgd]
      all_goals trace_state
   |some j =>
    obtain⟨hj,hk0⟩:=JiJ hix
    obtain⟨f6,f7⟩:=f5 j hj
    have e:=Jhh (r:=xs[i]) hix
    have hvl:(M.getD j Y0).2.length≤33*i:=f4 _ (by simp[hj])
    generalize hV:(M.getD j Y0).2=V at *
    have hol:(J0 h M).length=M.length:=Jbp h M
    have hjo:j<(J0 h M).length:=by omega
    have hgo:(J0 h M).getD j .any=.os (j+1000) (ts'.gen (j+1000)) V.length:=by rw[Jjq h hj,f7,hV]
    refine SpecC.ent (Ent.renM2 7 j (j+1000) 900 V.length ?_) ?_
    ·simp only[go_sem,↓reduceIte,Qa,Qh,Qb,Qc,Qd,Qe,Qf,Qg,reduceCtorEq, *,-hs,-hx2,-f2,-f4,-f5,-e]
     done
    have hset:∀y x:AV,((J0 h M).set j y).set j x=(J0 h M).set j x:=fun y x=>by rw[List.set_set]
    have hgd:∀x:AV,((J0 h M).set j x).getD j .any=x:=fun x=>by simp[hjo]
    have hks:(Ju M).set j (.agg [.int .i64 xs[i].kind,.str xs[i].name])=Ju M:=by
     refine List.ext_getElem (by simp) fun u h1 h2=>?_
     rw[List.getElem_set]
     split
     ·rename_i hu
      subst hu
      have:(Ju M)[j]=Dat.av (M[j]).1:=by simp[Ju,Ja]
      rw[this,hk0,Jfz]
     ·rfl
    have hjl:(j:Int)<(M.length:Int):=by omega
    have hls:∀x:AV,((J0 h M).set j x).length=M.length:=fun x=>by simp[hol]
    have hr2:Vt (V.length+(JP xs[i]).length) 24:=Jbw (by omega) (by decide)
    (repeat' (first
 | (with_reducible first|refine callX.by (Vf _ _ _ _ _ _ _) ?_|refine callX.by (JaN _ _ _ _ _ _ _ ?_ ?_ ?_) ?_|refine callX.by JaZ ?_|assumption|(refine Qw hK _ ?_;clear hK K)|refine Qw ‹_› _ ?_|refine Nx.out ‹_› ?_|refine SpecC.seqW fun K hK=>?_|refine SpecC.regW T fun K hK=>?_|refine SpecC.drawX (id:=6) T mixed [([16],[17,19,20]),([17],[16,19,20]),([19],[16,17]),([20],[16,17]),([7,21],[]),([18],[23]),([22,900],[23]),([23],[18,22,900])] (by kernel_rfl) fun K hK=>?_|refine SpecC.condW fun A B hA hB=>?_|refine SpecC.block ?_|refine SpecC.skip ?_|refine SpecC.exit ?_|refine SpecC.ret ?_)
 |(with_reducible first|apply condK.split|apply gK.split_t|apply gK.split_f)<;>intro hb<;>try simp only[nr] at hb
 |simp only[go_sem,↓reduceIte,Qa,Qh,Qb,Qc,Qd,Qe,Qf,Qg,reduceCtorEq, *,-hs,-hx2,-f2,-f4,-f5,-e,-hV]
 |intro(bn:Bool) hbn))
    all_goals ((repeat clear hK);(repeat clear hA);(repeat clear hB))
    have hlen:(V++JP xs[i]).length=V.length+(JP xs[i]).length:=List.length_append
    have ek:Ju M=Ju (VC M xs[i]):=by
     rw[e]
     refine List.ext_getElem (by simp[Ju,Ja]) fun u h1 h2=>?_
     simp only[Ju,Ja,List.getElem_map,List.getElem_set]
     split
     ·rename_i hu;subst hu;rw[hk0];rfl
     ·rfl
    have ev:(J0 h M).set j (AV.os (j+1000) (ts'.gen (j+1000)+1) (V.length+(JP xs[i]).length))=J0 (fun u=>if u=j then ts'.gen (j+1000)+1 else h u) (VC M xs[i]):=by
     rw[e,←hlen];exact Jpp h M (Jo xs[i],V++JP xs[i]) _ j hj
    have hal:=Jhf M xs[i]
    refine hM.onE (xs.length-(i+1)) (Ent.renM2 7 j 22 (j+1000) (V.length+(JP xs[i]).length) ?_) (by omega) ?_ ?_
    ·simp only[go_sem,↓reduceIte,Qa,Qh,Qb,Qc,Qd,Qe,Qf,Qg,reduceCtorEq, *,-hs,-hx2,-f2,-f4,-f5,-e,-ek,-ev,-hV]
     done
    ·simp only[go_sem,↓reduceIte,Qa,Qh,Qb,Qc,Qd,Qe,Qf,Qg,reduceCtorEq, *,-hs,-hx2,-f2,-f4,-f5,-e,-ek,-ev,-hV]
     done
    ·refine⟨i+1,g,VC M xs[i],fun u=>if u=j then ts'.gen (j+1000)+1 else h u,rfl,by omega,f2,by omega,fun p hp=>?_,fun q hq=>?_,?_⟩
     ·rw[e] at hp
      rcases List.mem_or_eq_of_mem_set hp with hp|hp
      ·have:=f4 p hp;omega
      ·subst hp;show(V++JP xs[i]).length≤_;omega
     ·by_cases hql:q=j
      ·subst hql
       have e1:((VC M xs[i]).getD q Y0).2=V++JP xs[i]:=by rw[e];simp[hj]
       simp only[go_sem,↓reduceIte,Qa,Qh,Qb,Qc,Qd,Qe,Qf,Qg,reduceCtorEq, *,-hs,-hx2,-f2,-f4,-f5,-e,-ek,-ev,-hV]
       all_goals trace_state
      ·have hq2:q<M.length:=by rw[e] at hq;simpa using hq
       have e1:(VC M xs[i]).getD q Y0=M.getD q Y0:=by rw[e];simp[List.getElem?_set,Ne.symm hql]
       obtain⟨g6,g7⟩:=f5 q hq2
       simp only[go_sem,↓reduceIte,Qa,Qh,Qb,Qc,Qd,Qe,Qf,Qg,reduceCtorEq, *,-hs,-hx2,-f2,-f4,-f5,-e,-ek,-ev,-hV]
       all_goals trace_state
     ·simp only[go_sem,↓reduceIte,Qa,Qh,Qb,Qc,Qd,Qe,Qf,Qg,reduceCtorEq, *,Jg hlt hsl,-hs,-hx2,-f2,-f4,-f5,-e,-hV,-ek]
      rw[f7] at ev
      rw[←ek,ev]
  ·rw[List.drop_eq_nil_of_le (by omega)] at f2
   have e:JaG xs=M:=f2
   rw[e]
   obtain⟨ts2,r1,r2,r3,r4,r5,r6⟩:=Ent.frzFrom (d:=7) (B:=1000) (sz:=2) (ks:=Ju M) (xs:=M.map fun p=>Ja p.2) (by omega) M.length ts' (J0 h M) (by simp) s3 (by simp[Jbp]) (fun j hj _=>by
     have hj:j<M.length:=by simpa using hj
     obtain⟨f6,f7⟩:=f5 j hj
     have e2:(M.map fun p=>Ja p.2).getD j []=Ja (M.getD j Y0).2:=by simp[hj]
     rw[e2,Jjq h hj,f6,f7,JiS]
     exact⟨rfl,rfl⟩) (fun j hj=>absurd hj (by simp))
   have em:(M.map fun p=>Ja p.2).map (AV.slice false)=JA M:=by
    simp only[JA,Ja,List.map_map]
    rfl
   rw[em] at r5
   refine SpecC.ent r1 ?_
   (repeat' (first
 | (with_reducible first|refine callX.by (Vf _ _ _ _ _ _ _) ?_|refine callX.by (JaN _ _ _ _ _ _ _ ?_ ?_ ?_) ?_|refine callX.by JaZ ?_|assumption|(refine Qw hK _ ?_;clear hK K)|refine Qw ‹_› _ ?_|refine Nx.out ‹_› ?_|refine SpecC.seqW fun K hK=>?_|refine SpecC.regW T fun K hK=>?_|refine SpecC.drawW (id:=6) T mixed Jfo (by kernel_rfl) fun K hK=>?_|refine SpecC.condW fun A B hA hB=>?_|refine SpecC.block ?_|refine SpecC.skip ?_|refine SpecC.exit ?_|refine SpecC.ret ?_)
 |(with_reducible first|apply condK.split|apply gK.split_t|apply gK.split_f)<;>intro hb<;>try simp only[nr] at hb
 |simp only[go_sem,↓reduceIte,Qa,Qh,Qb,Qc,Qd,Qe,Qf,Qg,reduceCtorEq, *,-hs,-f2,-f4,-f5,-e,-em,-r6,r2,r3,r4]
 |intro(bn:Bool) hbn))
   all_goals rw[e]
end Go.Proofs.YthjalhfmpffbjaaGreatDoor.Lg
namespace Go.Proofs.YthjalhfmpffbjaaGreatDoor.Lg
open Go
open Tryz
open Nat renaming reduceEqDiff → Qa, reduceLT → Qb, reduceLeDiff → Qc, reduceAdd → Qd, reduceMul → Qe, reduceSub → Qf, reduceBEq → Qg
open String renaming reduceEq → Qh
open SpecC renaming seqW → Qi, regW → Qj, drawW → Qk, condW → Ql, block → Qm, skip → Qn, exit → Qp, ret → Qr, loopF → Qs
open NxK renaming out → Qw
open Nx renaming out → Qx
open condK renaming split → Qy
open gK renaming split_t → Qz, split_f → QA
@[go_sem] def Jfp:List (List Nat×List Nat):=[([24],[25,26]),([25],[24]),([26],[24])]
abbrev KS:=List (Key×Bool)
def Jt(M:KS)(k:Key):Bool:=(JE M k).getD false
def JQ(T0:KS)(N:List (Key×List Key)):Nat→Key→KS→KS
 |0,_,M=>M
 |n+1,k,M=>if Jt T0 k=true∧Jt M k=false then ((JE N k).getD []).foldl (fun M x=>JQ T0 N n x M) (JT M k true) else M
def YT(T0 M:KS):Nat:=(T0.filter fun p=>p.2 && !Jt M p.1).length
theorem Jbi(M:KS)(k x:Key):Jt (JT M k true) x=(decide (x=k) || Jt M x):=by
 unfold Jt
 rw[JiW]
 by_cases h:x=k<;>simp[h]
theorem Jg2(T0:KS)(N:List (Key×List Key)):∀(n:Nat) (k:Key) (M:KS) (x:Key),Jt M x=true→Jt (JQ T0 N n k M) x=true
 |0,_,_,_,h=>h
 |n+1,k,M,x,h=>by
  unfold JQ
  split
  ·have:∀(l:List Key) (M:KS),Jt M x=true→Jt (l.foldl (fun M y=>JQ T0 N n y M) M) x=true:=by
    intro l
    induction l with
    |nil=>exact fun M h=>h
    |cons y l ih=>exact fun M h=>ih _ (Jg2 T0 N n y M x h)
   exact this _ _ (by rw[Jbi];simp[h])
  ·exact h
theorem JiY{T0 M M':KS}(h:∀x,Jt M x=true→Jt M' x=true):YT T0 M'≤YT T0 M:=by
 unfold YT
 rw[←List.countP_eq_length_filter,←List.countP_eq_length_filter]
 refine List.countP_mono_left fun p _ hp=>?_
 simp only[Bool.and_eq_true,Bool.not_eq_true'] at hp ⊢
 refine⟨hp.1,?_⟩
 cases hm:Jt M p.1 with
 |false=>rfl
 |true=>rw[h _ hm] at hp;simp at hp
theorem JoW{α β:Type} [DecidableEq α]{M:List (α×β)}{x:α}{v:β}(h:JE M x=some v):(x,v)∈M:=by
 unfold JE at h
 obtain⟨p,h1,h2⟩:=Option.map_eq_some_iff.1 h
 have h3:=List.find?_some h1
 have h4:=List.mem_of_find?_eq_some h1
 have:p.1=x:=by simpa using(of_decide_eq_true h3).symm
 rw[←this,←h2];exact h4
theorem Jov{M:KS}{k:Key}(h:Jt M k=true):(k,true)∈M:=by
 unfold Jt at h
 cases hm:JE M k with
 |none=>rw[hm] at h;simp at h
 |some b=>rw[hm] at h;simp at h;subst h;exact JoW hm
theorem Jem{T0 M:KS}{k:Key}(h1:Jt T0 k=true)(h2:Jt M k=false):YT T0 (JT M k true)<YT T0 M:=by
 have hm:=Jov h1
 unfold YT
 have key:∀(l:KS),(l.filter fun p=>p.2 && !Jt (JT M k true) p.1).length≤(l.filter fun p=>p.2 && !Jt M p.1).length∧((k,true)∈l→(l.filter fun p=>p.2 && !Jt (JT M k true) p.1).length<(l.filter fun p=>p.2 && !Jt M p.1).length):=by
  intro l
  induction l with
  |nil=>simp
  |cons p l ih =>
   obtain⟨i1,i2⟩:=ih
   have hp:(p.2 && !Jt (JT M k true) p.1)=true→(p.2 && !Jt M p.1)=true:=by
    rw[Jbi]
    simp only[Bool.and_eq_true,Bool.not_eq_true',Bool.or_eq_false_iff]
    exact fun⟨a,_,b⟩=>⟨a,b⟩
   refine⟨?_,fun hmem=>?_⟩
   ·rw[List.filter_cons,List.filter_cons]
    by_cases q1:(p.2 && !Jt (JT M k true) p.1)=true
    ·rw[if_pos q1,if_pos (hp q1)];simp;exact i1
    ·rw[if_neg q1]
     split
     ·simp;omega
     ·exact i1
   ·rw[List.filter_cons,List.filter_cons]
    rcases List.mem_cons.1 hmem with rfl|hmem
    ·rw[if_neg (by rw[Jbi];simp),if_pos (by simp[h2])]
     simp;omega
    ·have:=i2 hmem
     by_cases q1:(p.2 && !Jt (JT M k true) p.1)=true
     ·rw[if_pos q1,if_pos (hp q1)];simp;exact this
     ·rw[if_neg q1]
      split
      ·simp;omega
      ·exact this
 exact(key T0).2 hm
theorem JoO{N:List (Key×List Key)}{k:Key}{v:List Key}(h:JE N k=some v)(z:AV):YS false z (JA N) (JI k N)=.slice false (Ja v):=by
 cases hi:JI k N with
 |none=>rw[Jb6 hi] at h;cases h
 |some i =>
  obtain⟨h1,h2⟩:=JcU hi
  rw[h2] at h
  cases h
  show(JA N).getD i .any=_
  unfold JA
  rw[Jhr _ i (by simpa using h1)]
  simp[Jm0]
theorem Jrs(T0:KS)(N:List (Key×List Key))(hTN:∀k,Jt T0 k=true→∃ks,JE N k=some ks∧Jc ks.length):∀(n:Nat) (Lm:Int) (k_name:List UInt8) (M:KS),YT T0 M≤n →
  CallH prog 187 1000 [.agg [.int .i64 Lm,.str k_name],.ro [.mp (Ju T0) (JA T0)],.ro [.mref 1000 0],.ro [.mp (Ju N) (JA N)],V0 187 (.ro [.mp (Ju T0) (JA T0)]) (.ro [.mref 1000 0]) (.ro [.mp (Ju N) (JA N)]) n] (Ju M) (JA M) (.tup [])
   (Ju (JQ T0 N n (⟨Lm,k_name⟩:Key) M)) (JA (JQ T0 N n (⟨Lm,k_name⟩:Key) M)):=by
 intro n
 induction n with
 |zero =>
  intro Lm k_name M hmu
  have hno:¬(Jt T0 (⟨Lm,k_name⟩:Key)=true∧Jt M (⟨Lm,k_name⟩:Key)=false):=fun⟨h1,h2⟩=>by have:=Jem h1 h2;omega
  have e:JQ T0 N 0 (⟨Lm,k_name⟩:Key) M=M:=rfl
  rw[e]
  refine CallH.go5 (T:=T) call187 func187 rfl ntmps187 (congrArg Array.toList results187) (by decide) fun ts hn h0 h1 h2 h3 h4 hg ho=>?_
  by_cases hT:(JE T0 (⟨Lm,k_name⟩:Key)).getD false=true
  ·have hO:(JE M (⟨Lm,k_name⟩:Key)).getD false=true:=by
    cases hm:(JE M (⟨Lm,k_name⟩:Key)).getD false with
    |true=>rfl
    |false=>exact absurd ⟨hT,hm⟩ hno
   (repeat' (first
 | (with_reducible first|assumption|(refine Qw hK _ ?_;clear hK K)|refine Qw ‹_› _ ?_|refine Qx ‹_› ?_|refine Qi fun K hK=>?_|refine Qj T fun K hK=>?_|refine Ql fun A B hA hB=>?_|refine Qm ?_|refine Qn ?_|refine Qp ?_|refine Qr ?_)
 |(with_reducible first|apply Qy|apply Qz|apply QA)<;>intro hb<;>try simp only[nr] at hb
 |simp only[go_sem,↓reduceIte,Qa,Qh,Qb,Qc,Qd,Qe,Qf,Qg,reduceCtorEq, *,-hTN,-hno,-h4]
 |intro(bn:Bool) hbn))
  ·have hT:(JE T0 (⟨Lm,k_name⟩:Key)).getD false=false:=by simpa using hT
   (repeat' (first
 | (with_reducible first|assumption|(refine Qw hK _ ?_;clear hK K)|refine Qw ‹_› _ ?_|refine Qx ‹_› ?_|refine Qi fun K hK=>?_|refine Qj T fun K hK=>?_|refine Ql fun A B hA hB=>?_|refine Qm ?_|refine Qn ?_|refine Qp ?_|refine Qr ?_)
 |(with_reducible first|apply Qy|apply Qz|apply QA)<;>intro hb<;>try simp only[nr] at hb
 |simp only[go_sem,↓reduceIte,Qa,Qh,Qb,Qc,Qd,Qe,Qf,Qg,reduceCtorEq, *,-hTN,-hno,-h4]
 |intro(bn:Bool) hbn))
 |succ n ih =>
  intro Lm k_name M hmu
  by_cases hT:(JE T0 (⟨Lm,k_name⟩:Key)).getD false=true
  rotate_left
  ·have hT:(JE T0 (⟨Lm,k_name⟩:Key)).getD false=false:=by simpa using hT
   have e:JQ T0 N (n+1) (⟨Lm,k_name⟩:Key) M=M:=by unfold JQ;rw[if_neg (by simp[Jt,hT])]
   rw[e]
   refine CallH.go5 (T:=T) call187 func187 rfl ntmps187 (congrArg Array.toList results187) (by decide) fun ts hn h0 h1 h2 h3 h4 hg ho=>?_
   (repeat' (first
 | (with_reducible first|assumption|(refine Qw hK _ ?_;clear hK K)|refine Qw ‹_› _ ?_|refine Qx ‹_› ?_|refine Qi fun K hK=>?_|refine Qj T fun K hK=>?_|refine Ql fun A B hA hB=>?_|refine Qm ?_|refine Qn ?_|refine Qp ?_|refine Qr ?_)
 |(with_reducible first|apply Qy|apply Qz|apply QA)<;>intro hb<;>try simp only[nr] at hb
 |simp only[go_sem,↓reduceIte,Qa,Qh,Qb,Qc,Qd,Qe,Qf,Qg,reduceCtorEq, *,-hTN,-h4]
 |intro(bn:Bool) hbn))
  by_cases hO:(JE M (⟨Lm,k_name⟩:Key)).getD false=true
  ·have e:JQ T0 N (n+1) (⟨Lm,k_name⟩:Key) M=M:=by unfold JQ;rw[if_neg (by simp[Jt,hO])]
   rw[e]
   refine CallH.go5 (T:=T) call187 func187 rfl ntmps187 (congrArg Array.toList results187) (by decide) fun ts hn h0 h1 h2 h3 h4 hg ho=>?_
   (repeat' (first
 | (with_reducible first|assumption|(refine Qw hK _ ?_;clear hK K)|refine Qw ‹_› _ ?_|refine Qx ‹_› ?_|refine Qi fun K hK=>?_|refine Qj T fun K hK=>?_|refine Ql fun A B hA hB=>?_|refine Qm ?_|refine Qn ?_|refine Qp ?_|refine Qr ?_)
 |(with_reducible first|apply Qy|apply Qz|apply QA)<;>intro hb<;>try simp only[nr] at hb
 |simp only[go_sem,↓reduceIte,Qa,Qh,Qb,Qc,Qd,Qe,Qf,Qg,reduceCtorEq, *,-hTN,-h4]
 |intro(bn:Bool) hbn))
  have hO:(JE M (⟨Lm,k_name⟩:Key)).getD false=false:=by simpa using hO
  obtain⟨v,hv,hvs⟩:=hTN (⟨Lm,k_name⟩:Key) hT
  have hlk:=JoO hv
  have e:JQ T0 N (n+1) (⟨Lm,k_name⟩:Key) M=v.foldl (fun M x=>JQ T0 N n x M) (JT M (⟨Lm,k_name⟩:Key) true):=by
   rw[JQ,if_pos ⟨hT,hO⟩,hv];rfl
  rw[e]
  have hmu1:YT T0 (JT M (⟨Lm,k_name⟩:Key) true)≤n:=by have:=Jem (T0:=T0) (M:=M) hT hO;omega
  refine CallH.go5 (T:=T) call187 func187 rfl ntmps187 (congrArg Array.toList results187) (by decide) fun ts hn h0 h1 h2 h3 h4 hg ho=>?_
  rw[Jgw] at h4
  (repeat' (first
 | (with_reducible first|assumption|(refine Qw hK _ ?_;clear hK K)|refine Qw ‹_› _ ?_|refine Qx ‹_› ?_|refine Qi fun K hK=>?_|refine Qj T fun K hK=>?_|refine Ql fun A B hA hB=>?_|refine Qm ?_|refine Qn ?_|refine Qp ?_|refine Qr ?_)
 |(with_reducible first|apply Qy|apply Qz|apply QA)<;>intro hb<;>try simp only[nr] at hb
 |simp only[go_sem,↓reduceIte,Qa,Qh,Qb,Qc,Qd,Qe,Qf,Qg,reduceCtorEq, *,-hTN,-ih]
 |intro(bn:Bool) hbn))
  have hre:(V0 187 (.ro [.mp (Ju T0) (JA T0)]) (.ro [.mref 1000 0]) (.ro [.mp (Ju N) (JA N)]) n).renM 1000 0 1000=V0 187 (.ro [.mp (Ju T0) (JA T0)]) (.ro [.mref 1000 0]) (.ro [.mp (Ju N) (JA N)]) n :=
   JjP _ _ _ _ _ _ _ _ (by simp only[go_sem,Bool.and_self]) (by simp only[go_sem,Bool.and_self])
  have hpe:(V0 187 (.ro [.mp (Ju T0) (JA T0)]) (.ro [.mref 1000 0]) (.ro [.mp (Ju N) (JA N)]) n).pureH 1000 0=true :=
   JjB _ _ _ _ _ _ _ (by simp only[go_sem,Bool.and_self]) (by decide) (by simp only[go_sem,Bool.and_self])
  refine Qs [4,21,22] (fun m ts'=>∃(i:Nat),∃(M2:KS),m=v.length-i∧i≤v.length∧YT T0 M2≤n∧v.foldl (fun M x=>JQ T0 N n x M) (JT M (⟨Lm,k_name⟩:Key) true)=(v.drop i).foldl (fun M x=>JQ T0 N n x M) M2∧ts'.gen 1000=0∧ts'.obj 1000=.mp (Ju M2) (JA M2)∧ts'.tmp 23=.int .i64 i) v.length ?_ ?_
  ·refine⟨0,JT M (⟨Lm,k_name⟩:Key) true,rfl,Nat.zero_le _,hmu1,rfl,?_⟩
   simp only[go_sem,↓reduceIte,Qa,Qh,Qb,Qc,Qd,Qe,Qf,Qg,reduceCtorEq, *,-hTN,-ih,-e]
  ·rintro m A hM ts' hk ⟨i,M2,hm,f1,f2,f3,s1,s2,s3⟩
   simp only[go_sem,↓reduceIte,Qa,Qh,Qb,Qc,Qd,Qe,Qf,Qg,reduceCtorEq, *] at hk
   by_cases hlt:i<v.length
   ·rw[List.drop_eq_getElem_cons hlt,List.foldl_cons] at f3
    (repeat' (first
 | (with_reducible first|refine callX.hm (d:=1000) (g:=0) ?_ ?_ (ih v[i].kind v[i].name M2 f2) ?_|assumption|(refine Qw hK _ ?_;clear hK K)|refine Qw ‹_› _ ?_|refine Qx ‹_› ?_|refine Qi fun K hK=>?_|refine Qj T fun K hK=>?_|refine Ql fun A B hA hB=>?_|refine Qm ?_|refine Qn ?_|refine Qp ?_|refine Qr ?_)
 |(with_reducible first|apply Qy|apply Qz|apply QA)<;>intro hb<;>try simp only[nr] at hb
 |simp only[go_sem,↓reduceIte,Qa,Qh,Qb,Qc,Qd,Qe,Qf,Qg,reduceCtorEq, *,-hTN,-ih,-f3,-e]
 |intro(bn:Bool) hbn))
    all_goals ((repeat clear hK);(repeat clear hA);(repeat clear hB))
    (refine hM.on (v.length-(i+1)) (by omega) (by simp only[go_sem,↓reduceIte,Qa,Qh,Qb,Qc,Qd,Qe,Qf,Qg,reduceCtorEq, *,Jg hlt hvs,-hTN,-ih,-f3,-e]) ⟨i+1,JQ T0 N n v[i] M2,rfl,by omega,Nat.le_trans (JiY fun x hx=>Jg2 T0 N n _ M2 x hx) f2,f3,?_⟩;simp only[go_sem,↓reduceIte,Qa,Qh,Qb,Qc,Qd,Qe,Qf,Qg,reduceCtorEq, *,Jg hlt hvs,-hTN,-ih,-f3,-e];done)
   ·rw[List.drop_eq_nil_of_le (by omega),List.foldl_nil] at f3
    (repeat' (first
 | (with_reducible first|assumption|(refine Qw hK _ ?_;clear hK K)|refine Qw ‹_› _ ?_|refine Qx ‹_› ?_|refine Qi fun K hK=>?_|refine Qj T fun K hK=>?_|refine Ql fun A B hA hB=>?_|refine Qm ?_|refine Qn ?_|refine Qp ?_|refine Qr ?_)
 |(with_reducible first|apply Qy|apply Qz|apply QA)<;>intro hb<;>try simp only[nr] at hb
 |simp only[go_sem,↓reduceIte,Qa,Qh,Qb,Qc,Qd,Qe,Qf,Qg,reduceCtorEq, *,-hTN,-ih,-e]
 |intro(bn:Bool) hbn))
theorem JoT(l:List Res)(k:Key):∀M:KS,Jt (Y7 l M) k=(decide (k∈l.map Jo) || Jt M k):=by
 unfold Y7
 induction l with
 |nil=>intro M;simp
 |cons r l ih =>
  intro M
  rw[List.foldl_cons,ih,Jbi]
  by_cases h1:k=Jo r<;>by_cases h2:k∈l.map Jo<;>simp_all
def cat(k:Key)(l:List Res):List Key:=l.flatMap fun r=>if Jo r=k then JP r else []
theorem mem_cat{k x:Key}{l:List Res}:x∈cat k l↔∃r∈l,Jo r=k∧x∈JP r:=by
 unfold cat
 rw[List.mem_flatMap]
 refine⟨fun⟨r,h1,h2⟩=>?_,fun⟨r,h1,h2,h3⟩=>⟨r,h1,by rw[if_pos h2];exact h3⟩⟩
 split at h2
 ·rename_i h;exact⟨r,h1,h,h2⟩
 ·simp at h2
theorem JhC(k:Key)(r:Res)(l:List Res):cat k (r :: l)=(if Jo r=k then JP r else [])++cat k l:=rfl
theorem JhD(k:Key):∀l:List Res,(cat k l).length≤33*l.length
 | []=>Nat.le_refl _
 |r :: l=>by
  have:=JhD k l
  have:=Jgx r
  rw[JhC,List.length_append,List.length_cons]
  split<;>simp<;>omega
theorem Jin(k:Key):∀(l:List Res) (M:List (Key×List Key)),JE (l.foldl VC M) k=if k∈l.map Jo then some ((JE M k).getD []++cat k l) else JE M k
 | [],M=>by simp
 |r :: l,M=>by
  have hm:JE (VC M r) k=if k=Jo r then some ((JE M k).getD []++JP r) else JE M k:=by
   unfold VC
   rw[JiW]
   by_cases h:k=Jo r
   ·subst h;simp
   ·simp[h]
  rw[List.foldl_cons,Jin k l,hm,JhC]
  by_cases h:k=Jo r
  ·subst h
   simp only[if_true,List.map_cons,List.mem_cons,true_or,Option.getD_some,List.append_assoc]
   split
   ·rfl
   ·rename_i hn
    have:cat (Jo r) l=[]:=List.eq_nil_iff_forall_not_mem.2 fun x hx=>by
     obtain⟨q,h1,h2,_⟩:=mem_cat.1 hx
     exact hn (h2▸List.mem_map_of_mem h1)
    rw[this,List.append_nil]
  ·simp only[h,if_false,List.map_cons,List.mem_cons,false_or,show ¬Jo r=k from fun e=>h e.symm,List.nil_append]
theorem Jo8{l:List Res}{k:Key}(h:k∈l.map Jo):JE (JaG l) k=some (cat k l):=by
 unfold JaG
 rw[Jin,if_pos h]
 rfl
def Jbr(T0:KS)(N:List (Key×List Key))(n:Nat)(l:List Res)(M:KS):KS:=l.foldl (fun M r=>if r.kind=0 then JQ T0 N n (Jo r) M else M) M
def JaM(l:List Res):KS:=Jbr (Y7 l []) (JaG l) (Y7 l []).length l []
theorem Jp3(xs:List Res)(hl:xs.length≤65536)(hs:∀r∈xs,Jy r):CallR prog 145 [.slice false (Ja xs)] (.val (.mp (Ju (JaM xs)) (JA (JaM xs)))):=by
 have hsl:=JbC hl
 obtain⟨T0,hT0⟩:∃T0,Y7 xs []=T0:=⟨_,rfl⟩
 obtain⟨N,hN⟩:∃N,JaG xs=N:=⟨_,rfl⟩
 have hTN:∀k,Jt T0 k=true→∃ks,JE N k=some ks∧Jc ks.length:=fun k hk=>by
  rw[←hT0,JoT] at hk
  have hk':k∈xs.map Jo:=by simpa[Jt] using hk
  have:=JhD k xs
  exact⟨_,by rw[←hN];exact Jo8 hk',by unfold Jc;omega⟩
 have hmu:∀M,YT T0 M≤T0.length:=fun M=>List.length_filter_le _ _
 have hR:JaM xs=Jbr T0 N T0.length xs []:=by rw[←hT0,←hN];rfl
 rw[hR]
 clear hR
 have hof:=Jbs xs hsl
 have hna:=JgH xs hl hs
 rw[hT0] at hof
 rw[hN] at hna
 refine Jl call145 func145 rfl ntmps145 results145 fun ts hn h0=>?_
 (repeat' (first
 | (with_reducible first|refine SpecC.mkRec T 3 fun K hK=>?_|refine callX.by (hof) ?_|refine callX.by (hna) ?_|assumption|(refine Qw hK _ ?_;clear hK K)|refine Qw ‹_› _ ?_|refine Qx ‹_› ?_|refine Qi fun K hK=>?_|refine Qj T fun K hK=>?_|refine Qk (id:=8) T mixed Jfp (by kernel_rfl) fun K hK=>?_|refine Ql fun A B hA hB=>?_|refine Qm ?_|refine Qn ?_|refine Qp ?_|refine Qr ?_)
 |(with_reducible first|apply Qy|apply Qz|apply QA)<;>intro hb<;>try simp only[nr] at hb
 |simp only[go_sem,↓reduceIte,Qa,Qh,Qb,Qc,Qd,Qe,Qf,Qg,reduceCtorEq, *,-hs,-hTN,-hmu,-hof,-hna,-hT0,-hN]
 |intro(bn:Bool) hbn))
 have hp1:AV.pure (.ro [.mp (Ju T0) (JA T0)])=true:=by simp only[go_sem,Bool.and_self]
 have hp2:AV.pure (.ro [.mp (Ju N) (JA N)])=true:=by simp only[go_sem,Bool.and_self]
 have hre:∀g n,(V0 187 (.ro [.mp (Ju T0) (JA T0)]) (.ro [.mref 13 g]) (.ro [.mp (Ju N) (JA N)]) n).renM 13 g 1000=V0 187 (.ro [.mp (Ju T0) (JA T0)]) (.ro [.mref 1000 0]) (.ro [.mp (Ju N) (JA N)]) n:=fun g n=>by
  rw[JjP _ _ _ _ _ _ _ _ hp1 hp2];simp[AV.renM,AV.renM.renML]
 have hpe:∀g n,(V0 187 (.ro [.mp (Ju T0) (JA T0)]) (.ro [.mref 13 g]) (.ro [.mp (Ju N) (JA N)]) n).pureH 13 g=true:=fun g n =>
  JjB _ _ _ _ _ _ _ hp1 (by simp[AV.pureH,AV.pureH.pureHL]) hp2
 refine SpecC.ent (Ent.frzRec 187 (T0.length+1) 3 5 4 6 (x:=.mp (Ju T0) (JA T0)) (y:=.mref 13 (ts.gen 13+1)) (z:=.mp (Ju N) (JA N)) (by simp only[go_sem,↓reduceIte,Qa,Qh,Qb,Qc,Qd,Qe,Qf,Qg,reduceCtorEq, *,-hs,-hTN,-hmu,-hof,-hna,-hT0,-hN,-hp1,-hp2];done) (by simp only[go_sem,↓reduceIte,Qa,Qh,Qb,Qc,Qd,Qe,Qf,Qg,reduceCtorEq, *,-hs,-hTN,-hmu,-hof,-hna,-hT0,-hN,-hp1,-hp2];done) (by simp only[go_sem,↓reduceIte,Qa,Qh,Qb,Qc,Qd,Qe,Qf,Qg,reduceCtorEq, *,-hs,-hTN,-hmu,-hof,-hna,-hT0,-hN,-hp1,-hp2];done) (by simp only[go_sem,↓reduceIte,Qa,Qh,Qb,Qc,Qd,Qe,Qf,Qg,reduceCtorEq, *,-hs,-hTN,-hmu,-hof,-hna,-hT0,-hN,-hp1,-hp2];done)) ?_
 refine Qs [5,6,15,16] (fun m ts'=>∃(i:Nat),∃(M:KS),m=xs.length-i∧i≤xs.length∧Jbr T0 N T0.length xs []=Jbr T0 N T0.length (xs.drop i) M∧ts'.gen 13=ts.gen 13+1∧ts'.obj 13=.mp (Ju M) (JA M)∧ts'.tmp 17=.int .i64 i) xs.length ?_ ?_
 ·refine⟨0,[],rfl,Nat.zero_le _,rfl,?_⟩
  simp only[go_sem,↓reduceIte,Qa,Qh,Qb,Qc,Qd,Qe,Qf,Qg,reduceCtorEq, *,-hs,-hTN,-hmu,-hof,-hna,-hT0,-hN,-hp1,-hp2]
 ·rintro m A hM ts' hk ⟨i,M,hm,f1,f2,s1,s2,s3⟩
  simp only[go_sem,↓reduceIte,Qa,Qh,Qb,Qc,Qd,Qe,Qf,Qg,reduceCtorEq, *] at hk
  have hxx:∀x∈xs,True:=fun _ _=>trivial
  clear hof hna hs hxx
  by_cases hlt:i<xs.length
  ·have hstep:Jbr T0 N T0.length (xs.drop i) M=Jbr T0 N T0.length (xs.drop (i+1)) (if xs[i].kind=0 then JQ T0 N T0.length (Jo xs[i]) M else M):=by
    rw[List.drop_eq_getElem_cons hlt];rfl
   rw[hstep] at f2
   clear hstep
   (repeat' (first
 | (with_reducible first|refine callX.hm (d:=13) (g:=ts.gen 13+1) ?_ ?_ (Jrs T0 N hTN T0.length xs[i].kind xs[i].name M (hmu M)) ?_|refine callX.by (Jbs _ ?_) ?_|refine callX.by (JgH _ ?_ ?_) ?_|refine callX.by (Vf _ _ _ _ _ _ _) ?_|assumption|(refine Qw hK _ ?_;clear hK K)|refine Qw ‹_› _ ?_|refine Qx ‹_› ?_|refine Qi fun K hK=>?_|refine Qj T fun K hK=>?_|refine Qk (id:=8) T mixed Jfp (by kernel_rfl) fun K hK=>?_|refine Ql fun A B hA hB=>?_|refine Qm ?_|refine Qn ?_|refine Qp ?_|refine Qr ?_)
 |(with_reducible first|apply Qy|apply Qz|apply QA)<;>intro hb<;>try simp only[nr] at hb
 |simp only[go_sem,↓reduceIte,Qa,Qh,Qb,Qc,Qd,Qe,Qf,Qg,reduceCtorEq, *,-hTN,-hmu,-hT0,-hN,-hp1,-hp2,-f2,Jgw,false_and,true_and]
 |intro(bn:Bool) hbn))
   all_goals ((repeat clear hK);(repeat clear hA);(repeat clear hB))
   ·rw[if_pos (of_decide_eq_true hb)] at f2
    (refine hM.on (xs.length-(i+1)) (by omega) (by simp only[go_sem,↓reduceIte,Qa,Qh,Qb,Qc,Qd,Qe,Qf,Qg,reduceCtorEq, *,Jg hlt hsl,Jo,-hTN,-hmu,-hT0,-hN,-hp1,-hp2,-f2]) ⟨i+1,JQ T0 N T0.length (Jo xs[i]) M,rfl,by omega,f2,?_⟩;simp only[go_sem,↓reduceIte,Qa,Qh,Qb,Qc,Qd,Qe,Qf,Qg,reduceCtorEq, *,Jg hlt hsl,Jo,-hTN,-hmu,-hT0,-hN,-hp1,-hp2,-f2];done)
   ·rw[if_neg (of_decide_eq_false hb)] at f2
    (refine hM.on (xs.length-(i+1)) (by omega) (by simp only[go_sem,↓reduceIte,Qa,Qh,Qb,Qc,Qd,Qe,Qf,Qg,reduceCtorEq, *,Jg hlt hsl,Jo,-hTN,-hmu,-hT0,-hN,-hp1,-hp2,-f2]) ⟨i+1,M,rfl,by omega,f2,?_⟩;simp only[go_sem,↓reduceIte,Qa,Qh,Qb,Qc,Qd,Qe,Qf,Qg,reduceCtorEq, *,Jg hlt hsl,Jo,-hTN,-hmu,-hT0,-hN,-hp1,-hp2,-f2];done)
  ·rw[List.drop_eq_nil_of_le (by omega)] at f2
   have f3:Jbr T0 N T0.length xs []=M:=f2
   clear f2
   (repeat' (first
 | (with_reducible first|refine callX.by (Jbs _ ?_) ?_|refine callX.by (JgH _ ?_ ?_) ?_|refine callX.by (Vf _ _ _ _ _ _ _) ?_|assumption|(refine Qw hK _ ?_;clear hK K)|refine Qw ‹_› _ ?_|refine Qx ‹_› ?_|refine Qi fun K hK=>?_|refine Qj T fun K hK=>?_|refine Qk (id:=8) T mixed Jfp (by kernel_rfl) fun K hK=>?_|refine Ql fun A B hA hB=>?_|refine Qm ?_|refine Qn ?_|refine Qp ?_|refine Qr ?_)
 |(with_reducible first|apply Qy|apply Qz|apply QA)<;>intro hb<;>try simp only[nr] at hb
 |simp only[go_sem,↓reduceIte,Qa,Qh,Qb,Qc,Qd,Qe,Qf,Qg,reduceCtorEq, *,-hTN,-hmu,-hT0,-hN,-hp1,-hp2,false_and,true_and]
 |intro(bn:Bool) hbn))
theorem JhB(M:KS):Caps [.ro [.mp (Ju M) (JA M)]]:=⟨by simp only[go_sem,Bool.and_self],by simp only[go_sem]⟩
theorem Jp2(Ln:Int)(Lp:List UInt8)(Lx Lq:Int)(LA:List UInt8)(r_rules:List Rule)(r_hosts:List Int)(M:KS):CallR prog 148 [.agg [.int .i64 Ln,.str Lp,.int .i64 Lx,.int .i64 Lq,.str LA,.slice false (Ja r_rules),.slice false (Ja r_hosts)],.ro [.mp (Ju M) (JA M)]] (.val (.bool (!Jt M (Jo (⟨Ln,Lp,Lx,Lq,LA,r_rules,r_hosts⟩:Res))))):=by
 refine Jn call148 func148 rfl ntmps148 results148 fun ts hn h0 h1=>?_
 (repeat' (first
 | (with_reducible first|refine callX.by (Vf _ _ _ _ _ _ _) ?_|assumption|(refine Qw hK _ ?_;clear hK K)|refine Qw ‹_› _ ?_|refine Qx ‹_› ?_|refine Qi fun K hK=>?_|refine Qj T fun K hK=>?_|refine Qk (id:=1) T mixed [([4],[5,6]),([5],[4]),([6],[4])] (by kernel_rfl) fun K hK=>?_|refine Ql fun A B hA hB=>?_|refine Qn ?_|refine Qr ?_)
 |(with_reducible first|apply Qy|apply Qz|apply QA)<;>intro hb<;>try simp only[nr] at hb
 |simp only[go_sem,↓reduceIte,Qa,Qh,Qb,Qc,Qd,Qe,Qf,Qg,reduceCtorEq, *]
 |intro(bn:Bool) hbn))
 all_goals rfl
def Yc(l:List Res):List Res:=l.filter fun r=>Jt (JaM l) (Jo r)
theorem Jgt(l:List Res):(Yc l).length≤l.length:=List.length_filter_le _ _
theorem Jdg(xs:List Res)(hl:xs.length≤65536)(hs:∀r∈xs,Jy r):CallR prog 108 [.slice false (Ja xs)] (.own 7 (Ja (Yc xs))):=by
 have hsl:=JbC hl
 have hd:=Jd1 148 [.ro [.mp (Ju (JaM xs)) (JA (JaM xs))]] (JhB _) (fun r=>!Jt (JaM xs) (Jo r)) xs (fun x _=>Jp2 x.kind x.name x.ver x.port x.to' x.rules' x.hosts _) hsl
 simp only[Bool.not_not] at hd
 have e:xs.filter (fun x=>Jt (JaM xs) (Jo x))=Yc xs:=rfl
 rw[e] at hd
 refine Jl call108 func108 rfl ntmps108 results108 fun ts hn h0=>?_
 (repeat' (first
 | (with_reducible refine callX.mv ?_ ?_ ?_ (hd);(focus(simp only[go_sem,↓reduceIte,Qa,Qh,Qb,Qc,Qd,Qe,Qf,Qg,reduceCtorEq, *,-hs,-hd,-e];first|done|rfl));(focus(simp only[go_sem,↓reduceIte,Qa,Qh,Qb,Qc,Qd,Qe,Qf,Qg,reduceCtorEq, *,-hs,-hd,-e];first|done|rfl)))
 | (with_reducible first|refine callX.by (Jp3 _ ?_ ?_) ?_|refine callX.by (JhN _ _ ?_) ?_)
 | (with_reducible refine callX.mv ?_ ?_ ?_ (Jd1 ?_ ?_ ?_ ?_ ?_ ?_ ?_);(focus(simp only[go_sem,↓reduceIte,Qa,Qh,Qb,Qc,Qd,Qe,Qf,Qg,reduceCtorEq, *,-hs,-hd,-e];first|done|rfl));(focus(simp only[go_sem,↓reduceIte,Qa,Qh,Qb,Qc,Qd,Qe,Qf,Qg,reduceCtorEq, *,-hs,-hd,-e];first|done|rfl)))
 | (with_reducible first|assumption|(refine Qw hK _ ?_;clear hK K)|refine Qw ‹_› _ ?_|refine Qx ‹_› ?_|refine Qi fun K hK=>?_|refine Qj T fun K hK=>?_|refine Ql fun A B hA hB=>?_|refine Qn ?_|refine Qr ?_)
 |(with_reducible first|apply Qy|apply Qz|apply QA)<;>intro hb<;>try simp only[nr] at hb
 |simp only[go_sem,↓reduceIte,Qa,Qh,Qb,Qc,Qd,Qe,Qf,Qg,reduceCtorEq, *,-hs,-hd,-e]
 |intro(bn:Bool) hbn))
theorem JqF(Lm:Int)(k_name:List UInt8)(M:KS):CallR prog 180 [.agg [.int .i64 Lm,.str k_name],.ro [.mp (Ju M) (JA M)]] (.val (.bool (!Jt M (⟨Lm,k_name⟩:Key)))):=by
 refine Jn call180 func180 rfl ntmps180 results180 fun ts hn h0 h1=>?_
 (repeat' (first
 | (with_reducible first|assumption|(refine Qw hK _ ?_;clear hK K)|refine Qw ‹_› _ ?_|refine Qx ‹_› ?_|refine Qi fun K hK=>?_|refine Qj T fun K hK=>?_|refine Ql fun A B hA hB=>?_|refine Qn ?_|refine Qr ?_)
 |(with_reducible first|apply Qy|apply Qz|apply QA)<;>intro hb<;>try simp only[nr] at hb
 |simp only[go_sem,↓reduceIte,Qa,Qh,Qb,Qc,Qd,Qe,Qf,Qg,reduceCtorEq, *]
 |intro(bn:Bool) hbn))
 all_goals rfl
def JcF(r:Res):Bool:=decide (r.kind=3) && decide (r.hosts.length=0)
theorem Je2(Ln:Int)(Lp:List UInt8)(Lx Lq:Int)(LA:List UInt8)(r_rules:List Rule)(r_hosts:List Int):CallR prog 181 [.agg [.int .i64 Ln,.str Lp,.int .i64 Lx,.int .i64 Lq,.str LA,.slice false (Ja r_rules),.slice false (Ja r_hosts)]] (.val (.bool (JcF (⟨Ln,Lp,Lx,Lq,LA,r_rules,r_hosts⟩:Res)))):=by
 refine Jl call181 func181 rfl ntmps181 results181 fun ts hn h0=>?_
 (repeat' (first
 | (with_reducible first|assumption|(refine Qw hK _ ?_;clear hK K)|refine Qw ‹_› _ ?_|refine Qx ‹_› ?_|refine Qi fun K hK=>?_|refine Qj T fun K hK=>?_|refine Ql fun A B hA hB=>?_|refine Qn ?_|refine Qr ?_)
 |(with_reducible first|apply Qy|apply Qz|apply QA)<;>intro hb<;>try simp only[nr] at hb
 |simp only[go_sem,↓reduceIte,Qa,Qh,Qb,Qc,Qd,Qe,Qf,Qg,reduceCtorEq, *]
 |intro(bn:Bool) hbn))
 all_goals simp_all[JcF]
def Jc0(M:KS)(r:Res):Bool:=(JP r).any fun k=>!Jt M k
def Zy(l:List Res):Int:=if(Yc l).any (Jc0 (Y7 l []))=true then 6 else if(Yc l).any JcF=true then 7 else 0
theorem Jdt(xs:List Res)(hl:xs.length≤65536)(hs:∀r∈xs,Jy r):CallR prog 143 [.slice false (Ja xs)] (.val (.int .i64 (Zy xs))):=by
 have hsl:=JbC hl
 have hrl:=Jgt xs
 have hrs:Jc (Yc xs).length:=JbC (by omega)
 have hr1:=Jdg xs hl hs
 have hsr:∀r∈Yc xs,Jy r:=fun r hr=>hs r (List.mem_filter.1 hr).1
 have hc2:=JcH 181 [] Caps.nil JcF (Yc xs) (fun x _=>Je2 x.kind x.name x.ver x.port x.to' x.rules' x.hosts) hrs
 obtain⟨M,hM0⟩:∃M,Y7 xs []=M:=⟨_,rfl⟩
 have hof:=Jbs xs hsl
 have hsv:Zy xs=if(Yc xs).any (Jc0 M)=true then 6 else if(Yc xs).any JcF=true then 7 else 0:=by rw[←hM0];rfl
 rw[hM0] at hof
 clear hM0
 obtain⟨R,hR⟩:∃R,Yc xs=R:=⟨_,rfl⟩
 rw[hR] at hr1 hsr hc2 hsv hrs hrl
 clear hR hs
 refine Jl call143 func143 rfl ntmps143 results143 fun ts hn h0=>?_
 (repeat' (first
 | (with_reducible first|refine callX.by (hof) ?_|refine callX.by (hr1) ?_|refine callX.by (Jbs _ ?_) ?_|refine callX.by (Jdg _ ?_ ?_) ?_|refine callX.by (JeH _ ?_ ?_ _) ?_|refine callX.by a6rc ?_|refine callX.by (JaN _ _ _ _ _ _ _ ?_ ?_ ?_) ?_|refine callX.by JaZ ?_|refine callX.by (Jas _ _ ?_ _ _ ?_ ?_) ?_|refine callX.by (JcH _ _ ?_ _ _ ?_ ?_) ?_|refine callX.by (Je2 _ _ _ _ _ _ _) ?_|assumption|(refine Qw hK _ ?_;clear hK K)|refine Qw ‹_› _ ?_|refine Qx ‹_› ?_|refine Qi fun K hK=>?_|refine Qj T fun K hK=>?_|refine Ql fun A B hA hB=>?_|refine Qm ?_|refine Qn ?_|refine Qp ?_|refine Qr ?_)
 |(with_reducible first|apply Qy|apply Qz|apply QA)<;>intro hb<;>try simp only[nr] at hb
 |simp only[go_sem,↓reduceIte,Qa,Qh,Qb,Qc,Qd,Qe,Qf,Qg,reduceCtorEq, *,-hr1,-hsr,-hc2,-hof,-hsv]
 |intro(bn:Bool) hbn))
 refine SpecC.ent (Ent.frzBox _ 3) ?_
 refine Qs [3,4,11,12] (fun m ts'=>∃(i:Nat),m=R.length-i∧i≤R.length∧R.any (Jc0 M)=(R.drop i).any (Jc0 M)∧ts'.gen 10=ts.gen 10+1∧ts'.obj 10=.arr 7 (Ja R)∧ts'.tmp 13=.int .i64 i) R.length ?_ ?_
 ·refine⟨0,?_⟩
  simp only[go_sem,↓reduceIte,Qa,Qh,Qb,Qc,Qd,Qe,Qf,Qg,reduceCtorEq, *,-hr1,-hsr,-hc2,-hof,-hsv]
 ·rintro m A hM ts' hk ⟨i,hm,f1,f2,s1,s2,s3⟩
  simp only[go_sem,↓reduceIte,Qa,Qh,Qb,Qc,Qd,Qe,Qf,Qg,reduceCtorEq, *] at hk
  by_cases hlt:i<R.length
  ·rw[List.drop_eq_getElem_cons hlt,List.any_cons] at f2
   obtain⟨_,_,hx1,hx2,hx3⟩:=hsr _ (List.getElem_mem hlt)
   have hql:=Jgx R[i]
   have hqs:Jc (JP R[i]).length:=by unfold Jc;omega
   have hc1:=Jas 180 [.ro [.mp (Ju M) (JA M)]] (JhB M) (fun k=>!Jt M k) (JP R[i]) (fun x _=>JqF x.kind x.name M) hqs
   have hlk:(JP R[i]).any (fun k=>!Jt M k)=Jc0 M R[i]:=rfl
   rw[hlk] at hc1
   clear hr1 hof hlk
   (repeat' (first
 | (with_reducible first|refine callX.by (hc1) ?_|refine callX.by (Jbs _ ?_) ?_|refine callX.by (Jdg _ ?_ ?_) ?_|refine callX.by (JeH _ ?_ ?_ _) ?_|refine callX.by a6rc ?_|refine callX.by (JaN _ _ _ _ _ _ _ ?_ ?_ ?_) ?_|refine callX.by JaZ ?_|refine callX.by (Jas _ _ ?_ _ _ ?_ ?_) ?_|refine callX.by (JcH _ _ ?_ _ _ ?_ ?_) ?_|refine callX.by (Je2 _ _ _ _ _ _ _) ?_|assumption|(refine Qw hK _ ?_;clear hK K)|refine Qw ‹_› _ ?_|refine Qx ‹_› ?_|refine Qi fun K hK=>?_|refine Qj T fun K hK=>?_|refine Ql fun A B hA hB=>?_|refine Qm ?_|refine Qn ?_|refine Qp ?_|refine Qr ?_)
 |(with_reducible first|apply Qy|apply Qz|apply QA)<;>intro hb<;>try simp only[nr] at hb
 |simp only[go_sem,↓reduceIte,Qa,Qh,Qb,Qc,Qd,Qe,Qf,Qg,reduceCtorEq, *,-hsr,-hc1,-hc2,-hsv,-hx2,-f2]
 |intro(bn:Bool) hbn))
   all_goals ((repeat clear hK);(repeat clear hA);(repeat clear hB))
   ·rw[hb,Bool.true_or] at f2
    rw[hsv,if_pos f2]
   ·rw[hb,Bool.false_or] at f2
    (refine hM.on (R.length-(i+1)) (by omega) (by simp only[go_sem,↓reduceIte,Qa,Qh,Qb,Qc,Qd,Qe,Qf,Qg,reduceCtorEq, *,Jg hlt hrs,-hsr,-hc1,-hc2,-hsv,-hx2,-f2]) ⟨i+1,rfl,by omega,f2,?_⟩;simp only[go_sem,↓reduceIte,Qa,Qh,Qb,Qc,Qd,Qe,Qf,Qg,reduceCtorEq, *,Jg hlt hrs,-hsr,-hc1,-hc2,-hsv,-hx2,-f2];done)
  ·rw[List.drop_eq_nil_of_le (by omega),List.any_nil] at f2
   rw[f2] at hsv
   simp only[Bool.false_eq_true,if_false] at hsv
   clear hr1 hof f2
   have htkR:(Ja R).take R.length=Ja R:=List.take_of_length_le (by simp[Ja])
   (repeat' (first
 | (with_reducible first|refine callX.by (hc2) ?_|refine callX.by (Jbs _ ?_) ?_|refine callX.by (Jdg _ ?_ ?_) ?_|refine callX.by (JeH _ ?_ ?_ _) ?_|refine callX.by a6rc ?_|refine callX.by (JaN _ _ _ _ _ _ _ ?_ ?_ ?_) ?_|refine callX.by JaZ ?_|refine callX.by (Jas _ _ ?_ _ _ ?_ ?_) ?_|refine callX.by (JcH _ _ ?_ _ _ ?_ ?_) ?_|refine callX.by (Je2 _ _ _ _ _ _ _) ?_|assumption|(refine Qw hK _ ?_;clear hK K)|refine Qw ‹_› _ ?_|refine Qx ‹_› ?_|refine Qi fun K hK=>?_|refine Qj T fun K hK=>?_|refine Ql fun A B hA hB=>?_|refine Qm ?_|refine Qn ?_|refine Qp ?_|refine Qr ?_)
 |(with_reducible first|apply Qy|apply Qz|apply QA)<;>intro hb<;>try simp only[nr] at hb
 |simp only[go_sem,↓reduceIte,Qa,Qh,Qb,Qc,Qd,Qe,Qf,Qg,reduceCtorEq, *,-hsr,-hc2,-hsv]
 |intro(bn:Bool) hbn))
   all_goals ((repeat clear hK);(repeat clear hA);(repeat clear hB))
   all_goals (rw[hsv];simp[hb])
theorem JeH(xs:List Res)(hl:xs.length≤65536)(hs:∀r∈xs,Jy r)(_:(xs.map Jo).Nodup):CallR prog 108 [.slice false (Ja xs)]
  (.own 7 (Ja (Yc xs))):=Jdg xs hl hs
theorem Jcu(xs:List Res)(hl:xs.length≤65536)(hs:∀r∈xs,Jy r)(_:(xs.map Jo).Nodup):CallR prog 143 [.slice false (Ja xs)]
  (.val (.int .i64 (Zy xs))):=Jdt xs hl hs
end Go.Proofs.YthjalhfmpffbjaaGreatDoor.Lg
namespace Go.Proofs.YthjalhfmpffbjaaGreatDoor.Lg
open Go
open Tryz
theorem JnR{l:List Res}(h:Y4 l=0):∀r∈l,V1 r=0:=by
 induction l with
 |nil=>simp
 |cons r l ih =>
  unfold Y4 at h
  split at h
  ·rename_i hs
   intro x hx
   rcases List.mem_cons.1 hx with rfl|hx
   ·exact hs
   ·exact ih h x hx
  ·rename_i hs;exact absurd h hs
theorem Jmr:∀l:List Res,Ze l=true↔Up (l.map Jo)
 | []=>by simp[Ze,Up]
 | [a]=>by simp[Ze,Up]
 |a :: b :: l=>by
  rw[Jmq,Bool.and_eq_true,Jmr (b :: l),decide_eq_true_eq]
  simp only[List.map_cons]
  constructor
  ·rintro⟨h1,h2⟩
   refine List.pairwise_cons.2 ⟨fun x hx=>?_,h2⟩
   rcases List.mem_cons.1 hx with rfl|hx
   ·exact h1
   ·exact JcV _ _ _ h1 ((List.pairwise_cons.1 h2).1 x hx)
  ·intro h
   obtain⟨h1,h2⟩:=List.pairwise_cons.1 h
   exact⟨h1 _ (by simp),h2⟩
structure Conf(l:List Res):Prop where
 len:l.length≤64
 sane:∀r∈l,V1 r=0
 up:Up (l.map Jo)
theorem JcJ{l:List Res}(h:Vb l=0):Conf l:=by
 unfold Vb at h
 split at h
 ·cases h
 ·rename_i h1
  split at h
  ·rename_i h2;exact absurd h h2
  ·rename_i h2
   split at h
   ·cases h
   ·rename_i h3
    exact⟨by omega,JnR (by simpa using h2),(Jmr l).1 (by simpa using h3)⟩
theorem Jms{l:List Key}(h:Up l):l.Nodup:=by
 unfold Up at h
 refine h.imp fun {a b} hab e=>?_
 subst e
 exact JiO _ hab
theorem Conf.nodup{l:List Res}(h:Conf l):(l.map Jo).Nodup:=Jms h.up
inductive Rch(l:List Res):Key→Prop
 |base (r:Res):r∈l→r.kind=0→Rch l (Jo r)
 |step (r:Res) (x:Key):r∈l→Rch l (Jo r)→x∈JP r→x∈l.map Jo→Rch l x
theorem Rch.mem{l:List Res}{k:Key}(h:Rch l k):k∈l.map Jo:=by
 cases h with
 |base r hr _=>exact List.mem_map_of_mem hr
 |step r x _ _ _ h=>exact h
section dfs
variable (T0:KS) (N:List (Key×List Key))
def Je7(k:Key):List Key:=(JE N k).getD []
inductive Way:Key→Key→Prop
 |refl (k:Key):Jt T0 k=true→Way k k
 |step (k x y:Key):Jt T0 k=true→x∈Je7 N k→Way x y→Way k y
abbrev Jg9(A B:KS):Prop:=∀x,Jt B x=true→Jt A x=false→∀y∈Je7 N x,Jt T0 y=true→Jt B y=true
theorem dfs(n:Nat):∀(k:Key) (M:KS),YT T0 M≤n →
  (Jt T0 k=true→Jt (JQ T0 N n k M) k=true) ∧
  (∀x,Jt (JQ T0 N n k M) x=true→Jt M x=false→Way T0 N k x)∧Jg9 T0 N M (JQ T0 N n k M):=by
 induction n with
 |zero =>
  intro k M hmu
  have h0:∀k,Jt T0 k=true→Jt M k=true:=fun k hk=>by
   cases hm:Jt M k with
   |true=>rfl
   |false=>have:=Jem hk hm;omega
  exact⟨h0 k,fun x hx hx'=>absurd (Eq.trans (Eq.symm (show Jt M x=true from hx)) hx') (by decide),fun x hx hx'=>absurd (Eq.trans (Eq.symm (show Jt M x=true from hx)) hx') (by decide)⟩
 |succ n ih =>
  intro k M hmu
  by_cases hc:Jt T0 k=true∧Jt M k=false
  rotate_left
  ·have e:JQ T0 N (n+1) k M=M:=by rw[JQ,if_neg hc]
   rw[e]
   refine⟨fun hk=>?_,fun x hx hx'=>absurd (Eq.trans (Eq.symm hx) hx') (by decide),fun x hx hx'=>absurd (Eq.trans (Eq.symm hx) hx') (by decide)⟩
   cases hm:Jt M k with
   |true=>rfl
   |false=>exact absurd ⟨hk,hm⟩ hc
  ·obtain⟨hk,hm⟩:=hc
   have e:JQ T0 N (n+1) k M=(Je7 N k).foldl (fun M x=>JQ T0 N n x M) (JT M k true):=by rw[JQ,if_pos ⟨hk,hm⟩];rfl
   have hmu1:YT T0 (JT M k true)≤n:=by have:=Jem hk hm;omega
   have fold:∀(v:List Key) (M1:KS),YT T0 M1≤n →
     (∀x,Jt M1 x=true→Jt (v.foldl (fun M x=>JQ T0 N n x M) M1) x=true) ∧
     (∀y∈v,Jt T0 y=true→Jt (v.foldl (fun M x=>JQ T0 N n x M) M1) y=true) ∧
     (∀x,Jt (v.foldl (fun M x=>JQ T0 N n x M) M1) x=true→Jt M1 x=false→∃y∈v,Way T0 N y x) ∧
     Jg9 T0 N M1 (v.foldl (fun M x=>JQ T0 N n x M) M1):=by
    intro v
    induction v with
    |nil=>exact fun M1 _=>⟨fun x h=>h,by simp,fun x h h'=>absurd (Eq.trans (Eq.symm (show Jt M1 x=true from h)) h') (by decide),fun x h h'=>absurd (Eq.trans (Eq.symm (show Jt M1 x=true from h)) h') (by decide)⟩
    |cons y v ihv =>
     intro M1 h1
     rw[List.foldl_cons]
     obtain⟨a1,a2,a3⟩:=ih y M1 h1
     have hg:∀x,Jt M1 x=true→Jt (JQ T0 N n y M1) x=true:=fun x hx=>Jg2 T0 N n y M1 x hx
     obtain⟨b1,b2,b3,b4⟩:=ihv (JQ T0 N n y M1) (Nat.le_trans (JiY hg) h1)
     refine⟨fun x hx=>b1 x (hg x hx),fun z hz hzT=>?_,fun x hx hx'=>?_,fun x hx hx' z hz hzT=>?_⟩
     ·rcases List.mem_cons.1 hz with rfl|hz
      ·exact b1 _ (a1 hzT)
      ·exact b2 z hz hzT
     ·cases hv:Jt (JQ T0 N n y M1) x with
      |true=>exact⟨y,by simp,a2 x hv hx'⟩
      |false=>obtain⟨z,hz,hw⟩:=b3 x hx hv;exact⟨z,by simp[hz],hw⟩
     ·cases hv:Jt (JQ T0 N n y M1) x with
      |true=>exact b1 _ (a3 x hv hx' z hz hzT)
      |false=>exact b4 x hx hv z hz hzT
   obtain⟨b1,b2,b3,b4⟩:=fold (Je7 N k) (JT M k true) hmu1
   rw[e]
   refine⟨fun _=>b1 k (by rw[Jbi];simp),fun x hx hx'=>?_,fun x hx hx' y hy hyT=>?_⟩
   ·cases hp:Jt (JT M k true) x with
    |true =>
     rw[Jbi,hx'] at hp
     have:x=k:=by simpa using hp
     subst this
     exact .refl _ hk
    |false =>
     obtain⟨y,hy,hw⟩:=b3 x hx hp
     exact .step k y x hk hy hw
   ·cases hp:Jt (JT M k true) x with
    |true =>
     rw[Jbi,hx'] at hp
     have:x=k:=by simpa using hp
     subst this
     exact b2 y hy hyT
    |false=>exact b4 x hx hp y hy hyT
end dfs
theorem JjJ(l:List Res):(Yc l).Sublist l:=List.filter_sublist
end Go.Proofs.YthjalhfmpffbjaaGreatDoor.Lg
