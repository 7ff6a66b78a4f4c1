/- Parts of the proof, one behind the other. -/
import Derived.Test.YtihahfhagobnoaaGreatDoorG18
namespace Go.Proofs.YtihahfhagobnoaaGreatDoor.Lg
set_option maxRecDepth 100000
set_option linter.unusedVariables false
set_option linter.unusedSimpArgs false
open Go
open Nat renaming reduceEqDiff → Qa, reduceLT → Qb, reduceLeDiff → Qc, reduceAdd → Qd, reduceMul → Qe, reduceSub → Qf, reduceBEq → Qg
open String renaming reduceEq → Qh
open SpecC renaming seqW → Qi, regW → Qj, drawW → Qk, condW → Ql, block → Qm, skip → Qn, exit → Qp, ret → Qr, loopF → Qs, regMidW → Qu
open NxK renaming out → Qw
open Nx renaming out → Qx
open condK renaming split → Qy
open gK renaming split_t → Qz, split_f → QA
open List renaming getElem_mem → QC
open CallR renaming go1 → QD
theorem Jku(cap:Int)(l adds:List Res)(gone:List Key)(hl:l.length+adds.length≤65536)(hg:Jc gone.length)(hs:∀r∈l,Ju r)(ha:∀r∈adds,Ju r) :
  Done 165 ([.ro [.int .i64 cap,.slice false (Ja l)],.ro [.slice false (Ja adds)],.ro [.slice false (Ja gone)]].map Arg.v++[.io [.int .i64 cap,.slice false (Ja l)]]) (J0 cap (Yq l adds gone))
   (fun io=>io [AV.ro [.int .i64 cap,.slice false (Ja l)],.ro [.slice false (Ja adds)],.ro [.slice false (Ja gone)]].length=[.int .i64 cap,.slice false (Ja (Yq l adds gone))]):=by
 have hlen:=Ji4 l adds gone
 have hsp:∀r∈Yq l adds gone,Ju r:=fun r hr=>(Ji5 hr).elim (hs r) (ha r)
 have w0:=JoG l adds gone (by unfold Jc;omega) (by unfold Jc;omega) hg (by unfold Jc;omega)
 unfold Done
 split
 ·rename_i hm
  have w1:=Jiz cap l _ (by omega) hsp (fun h=>(Z6 h).nodup) hm
  clear hsp hs ha hlen
  refine CallV.goB3 Tryz.call165 Tryz.func165 rfl Tryz.ntmps165 T (congrArg Array.toList Tryz.results165) (by decide) fun ts hn h0 h1 h2 h3 hg3 ho3=>?_
  (repeat' (first
 | (with_reducible first|refine callX.by (w0) ?_|refine callX.by (w1) ?_|assumption|(refine Qw hK _ ?_;clear hK K)|refine Qw ‹_› _ ?_|refine Qx ‹_› ?_|refine Qi fun K hK=>?_|refine Qj T fun K hK=>?_|refine Ql fun A B hA hB=>?_|refine Qn ?_|refine Qr ?_)
 | ((with_reducible first|apply Qy|apply Qz|apply QA)<;>intro hb<;>try simp only[nr] at hb)
 |simp only[go_sem,↓reduceIte,reduceIte,Qa,Qh,Qb,Qc,Qd,Qe,Qf,Qg,reduceCtorEq, *,-w0,-w1,-hm]
 |with_reducible refine fun(bn:Bool) hbn=>?_))
  all_goals trace_state
 ·rename_i hm
  have w1:=JiA cap l _ (by omega) hsp (fun h=>(Z6 h).nodup) hm
  clear hsp hs ha hlen
  refine CallUV.goB3 Tryz.call165 Tryz.func165 rfl Tryz.ntmps165 (by decide) fun ts hn h0 h1 h2 h3 hg3 ho3=>?_
  (repeat' (first
 | (with_reducible first|refine SpecC.regUW T 3 (id:=1) rfl rfl fun K hK=>?_|refine UpK.callF w1 ?_ ?_|refine callX.by (w0) ?_|assumption|(refine Qw hK _ ?_;clear hK K)|refine Qw ‹_› _ ?_|refine Qx ‹_› ?_|refine Qi fun K hK=>?_|refine Qj T fun K hK=>?_|refine Ql fun A B hA hB=>?_|refine Qn ?_|refine Qr ?_)
 | ((with_reducible first|apply Qy|apply Qz|apply QA)<;>intro hb<;>try simp only[nr] at hb)
 |simp only[go_sem,↓reduceIte,reduceIte,Qa,Qh,Qb,Qc,Qd,Qe,Qf,Qg,reduceCtorEq, *,-w0,-w1,-hm]
 |with_reducible refine fun(bn:Bool) hbn=>?_))
  all_goals trace_state
def J4(c:Cache)(adds:List Res)(gone:List Key):Cache×Int :=
 let d:=Vo c
 let e:=J0 d.cap (Yq d.l adds gone)
 if e=0 then (⟨d.cap,Yq d.l adds gone⟩,0) else (d,e)
theorem JeJ(c:Cache):(Vo c).l.length≤c.l.length:=by unfold Vo;split<;>simp
theorem Jdh{c:Cache}{x:Res}(h:x∈(Vo c).l):x∈c.l:=by unfold Vo at h;split at h<;>simp_all
theorem Jkv(c_cap:Int)(c_l:List Res)(adds:List Res)(gone:List Key)(hl:c_l.length+adds.length≤65536)(hg:Jc gone.length)(hs:∀r∈c_l,Ju r)(ha:∀r∈adds,Ju r) :
  CallR Tryz.prog 122 [.agg [.int .i64 c_cap,.slice false (Ja c_l)],.slice false (Ja adds),.slice false (Ja gone)] (.val (.tup [.agg [.int .i64 (J4 (⟨c_cap,c_l⟩:Cache) adds gone).1.cap,.slice false (Ja (J4 (⟨c_cap,c_l⟩:Cache) adds gone).1.l)],.int .i64 (J4 (⟨c_cap,c_l⟩:Cache) adds gone).2])):=by
 have w0:=Jdg c_cap c_l (by omega) hs
 have hdl:=JeJ (⟨c_cap,c_l⟩:Cache)
 have hdm:∀r∈(Vo (⟨c_cap,c_l⟩:Cache)).l,Ju r:=fun r hr=>hs r (Jdh hr)
 unfold J4
 generalize Vo (⟨c_cap,c_l⟩:Cache)=d at *
 have w1:=Jku d.cap d.l adds gone (by simp only at hdl;omega) hg hdm ha
 clear hdl hdm hs ha hl hg
 by_cases he:J0 d.cap (Yq d.l adds gone)=0
 ·rw[he] at w1
  simp only[he,if_true]
  refine CallR.go3 (T:=T.withF [13]) Tryz.call122 Tryz.func122 rfl Tryz.ntmps122 (congrArg Array.toList Tryz.results122) (by decide) fun ts hn h0 h1 h2=>?_
  (repeat' (first
 | (with_reducible first|refine callX.by (w0) ?_|refine SpecC.ent (Ent.frzBox _ 3) (SpecC.ent (Ent.frzBox _ 4) (SpecC.ent (Ent.frzBox _ 5) (Qu (T.withF [13]) 1 (id:=3) rfl rfl fun K hK=>?_)))|refine fun(K2:TS→Prop) (hK2:NxK _ K2)=>?_|refine SpecO.caughtB rfl 8 ?_ ?_ ?_ ?_ Tryz.call165 w1 ?_|refine Qw hK2 _ ?_|refine fun(K3:TS→Prop) (hK3:NxK _ K3)=>?_|refine callX.by (Jdg _ _ ?_ ?_) ?_|assumption|(refine Qw hK _ ?_;clear hK K)|refine Qw ‹_› _ ?_|refine Qx ‹_› ?_|refine Qi fun K hK=>?_|refine Qj (T.withF [13]) fun K hK=>?_|refine Ql fun A B hA hB=>?_|refine Qn ?_|refine Qr ?_)
 | ((with_reducible first|apply Qy|apply Qz|apply QA)<;>intro hb<;>try simp only[nr] at hb)
 |simp only[go_sem,↓reduceIte,reduceIte,Qa,Qh,Qb,Qc,Qd,Qe,Qf,Qg,reduceCtorEq, *,-w0,-w1,-he]
 |with_reducible refine fun(bn:Bool) hbn=>?_))
  all_goals trace_state
 ·simp only[he,if_false]
  refine CallR.go3 (T:=T.withF [13]) Tryz.call122 Tryz.func122 rfl Tryz.ntmps122 (congrArg Array.toList Tryz.results122) (by decide) fun ts hn h0 h1 h2=>?_
  (repeat' (first
 | (with_reducible first|refine callX.by (w0) ?_|refine SpecC.ent (Ent.frzBox _ 3) (SpecC.ent (Ent.frzBox _ 4) (SpecC.ent (Ent.frzBox _ 5) (Qu (T.withF [13]) 1 (id:=3) rfl rfl fun K hK=>?_)))|refine fun(K2:TS→Prop) (hK2:NxK _ K2)=>?_|refine SpecO.caughtB rfl 8 ?_ ?_ ?_ ?_ Tryz.call165 w1 ?_|refine Qw hK2 _ ?_|refine fun(K3:TS→Prop) (hK3:NxK _ K3)=>?_|refine callX.by (Jdg _ _ ?_ ?_) ?_|assumption|(refine Qw hK _ ?_;clear hK K)|refine Qw ‹_› _ ?_|refine Qx ‹_› ?_|refine Qi fun K hK=>?_|refine Qj (T.withF [13]) fun K hK=>?_|refine Ql fun A B hA hB=>?_|refine Qn ?_|refine Qr ?_)
 | ((with_reducible first|apply Qy|apply Qz|apply QA)<;>intro hb<;>try simp only[nr] at hb)
 |simp only[go_sem,↓reduceIte,reduceIte,Qa,Qh,Qb,Qc,Qd,Qe,Qf,Qg,reduceCtorEq, *,-w0,-w1]
 |with_reducible refine fun(bn:Bool) hbn=>?_))
  all_goals trace_state
theorem JnR{c:Cache}(h:VD c=true):Conf c.l:=by
 unfold VD at h
 simp only[Bool.and_eq_true,decide_eq_true_eq] at h
 refine Z6 ?_
 by_cases ht:JN c.l=0
 ·exact ht
 ·have:=h.2
  unfold J0 at this
  rw[if_pos ht] at this
  exact this
theorem JnU(c:Cache):((Vo c).l.map Jg).Nodup:=by
 unfold Vo
 split
 ·rename_i h;exact(JnR h).nodup
 ·simp
def VP(c:Cache):List Res:=JL (Vo c).l
theorem JaQ(c_cap:Int)(c_l:List Res)(hl:c_l.length≤65536)(hs:∀r∈c_l,Ju r):CallR Tryz.prog 78 [.agg [.int .i64 c_cap,.slice false (Ja c_l)]] (.own 7 (Ja (VP (⟨c_cap,c_l⟩:Cache)))):=by
 have w0:=Jdg c_cap c_l hl hs
 have hdl:=JeJ (⟨c_cap,c_l⟩:Cache)
 have hdm:∀r∈(Vo (⟨c_cap,c_l⟩:Cache)).l,Ju r:=fun r hr=>hs r (Jdh hr)
 have hdn:=JnU (⟨c_cap,c_l⟩:Cache)
 unfold VP
 generalize Vo (⟨c_cap,c_l⟩:Cache)=d at *
 have w1:=Jc9 d.l (by simp only at hdl;omega) hdm hdn
 clear hdl hdm hs hl hdn
 refine QD (T:=T) Tryz.call78 Tryz.func78 rfl Tryz.ntmps78 (congrArg Array.toList Tryz.results78) (by decide) fun ts hn h0=>?_
 (repeat' (first
 | (with_reducible first|refine callX.by (w0) ?_|refine callX.by (w1) ?_|refine callX.by (Jdg _ _ ?_ ?_) ?_|refine callX.by (Jcl _ ?_ ?_) ?_|refine callX.by (Jc9 _ ?_ ?_ _) ?_|refine callX.by a6rc ?_|assumption|(refine Qw hK _ ?_;clear hK K)|refine Qw ‹_› _ ?_|refine Qx ‹_› ?_|refine Qi fun K hK=>?_|refine Qj T fun K hK=>?_|refine Ql fun A B hA hB=>?_|refine Qn ?_|refine Qr ?_)
 | ((with_reducible first|apply Qy|apply Qz|apply QA)<;>intro hb<;>try simp only[nr] at hb)
 |simp only[go_sem,↓reduceIte,reduceIte,Qa,Qh,Qb,Qc,Qd,Qe,Qf,Qg,reduceCtorEq, *,-w0,-w1]
 |with_reducible refine fun(bn:Bool) hbn=>?_))
def eR:Res:=⟨3,[101],0,0,[],[],[]⟩
theorem eRr:JH eR=[]:=Jnu rfl
theorem JmR{r:Res}(h1:r.rules'=[])(h2:Jc r.name.length)(h3:Jc r.to'.length)(h4:Jc r.hosts.length):∀x∈[r],Ju x:=by
 intro x hx
 rw[List.mem_singleton] at hx
 subst hx
 exact⟨h2,h3,by rw[h1];simp[Jc],by rw[h1];simp,h4⟩
theorem JcG:∀x∈[eR],Ju x:=JmR rfl (by simp[Jc,eR]) (by simp[Jc,eR]) (by simp[Jc,eR])
theorem eRn:YP [eR]=[(⟨3,[101]⟩,[])]:=by simp only[YP,List.foldl_cons,List.foldl_nil,Vu,eRr];rfl
theorem Jhy:JL [eR]=[]:=by unfold JL V2;rw[eRn];decide
theorem Jlj:Vq [eR]=0:=by unfold Vq;rw[Jhy];rfl
theorem eRt:JN [eR]=0:=by decide
theorem eRm:J0 9 [eR]=0:=by unfold J0;rw[eRt,Jlj];decide
theorem JmF(n:Int)(h:0≤n):J0 n []=0:=by
 unfold J0
 have h1:JN []=0:=by decide
 have h2:Vq []=0:=by decide
 rw[h1,h2];simp[h]
theorem JmG:Vo ⟨9,[]⟩=⟨9,[]⟩:=by
 unfold Vo
 rw[if_pos]
 unfold VD
 rw[JmF 9 (by decide)];decide
theorem Jkz:J4 ⟨9,[]⟩ [eR] []=(⟨9,[eR]⟩,0):=by
 unfold J4
 rw[JmG]
 have e:Yq [] [eR] []=[eR]:=by decide
 simp only[e,eRm]
 rfl
theorem JmH:VD ⟨9,[eR]⟩=true:=by unfold VD;rw[eRm];decide
@[go_sem] def JdA:List (List Nat×List Nat):=[([3],[6,7,8,9,10,11,12,13,14,15,16,17,18,19,20,21]),([4],[7,8,9,10,11,12,13,14,15,16,17,18,19,20,21]),([5],[14,15,16,17,18,19,20,21]),([6],[3,15,16,17,18,19,20,21]),([7],[3,4,9,10,11,13,14,15,16,17,18,19,20,21]),([8],[3,4,9,10,11,15,16,17,18,19,20,21]),([9],[3,4,7,8,12,13,14,15,16,17,18,19,20,21]),([10],[3,4,7,8,13,14,15,16,17,18,19,20,21]),([11],[3,4,7,8,15,16,17,18,19,20,21]),([12],[3,4,9,18,19,20,21]),([13],[3,4,7,9,10,18,19,20,21]),([14],[3,4,5,7,9,10]),([15],[3,4,5,6,7,8,9,10,11,18,19,20,21]),([16],[3,4,5,6,7,8,9,10,11]),([17],[3,4,5,6,7,8,9,10,11]),([18],[3,4,5,6,7,8,9,10,11,12,13,15,21]),([19],[3,4,5,6,7,8,9,10,11,12,13,15]),([20],[3,4,5,6,7,8,9,10,11,12,13,15]),([21],[3,4,5,6,7,8,9,10,11,12,13,15,18])]
theorem JdO(fn:FuncId)(caps:List AV)(hc:Caps caps)(xs ys:List Res)(hp:∀x∈xs,∀y,CallR Tryz.prog fn (.agg [.int .i64 x.kind,.str x.name,.int .i64 x.ver,.int .i64 x.port,.str x.to',.slice false (Ja x.rules'),.slice false (Ja x.hosts)] :: .agg [.int .i64 y.kind,.str y.name,.int .i64 y.ver,.int .i64 y.port,.str y.to',.slice false (Ja y.rules'),.slice false (Ja y.hosts)] :: caps) (.val (.bool (decide (x=y)))))(hl:Jc xs.length):CallR Tryz.prog 49 [.slice false (Ja xs),.slice false (Ja ys),.clo (.func fn) [] caps] (.val (.bool (decide (xs=ys)))):=by
 have hca:=hc.args
 have hcp:=hc.pure
 have hcn:=hc.nrm
 refine CallR.go3 (T:=T) Tryz.call49 Tryz.func49 rfl Tryz.ntmps49 (congrArg Array.toList Tryz.results49) (by decide) fun ts hn h0 h1 h2=>?_
 by_cases hll:xs.length=ys.length
 ·(repeat' (first
 | (with_reducible first|assumption|(refine Qw hK _ ?_;clear hK K)|refine Qw ‹_› _ ?_|refine Qx ‹_› ?_|refine Qi fun K hK=>?_|refine Qj T fun K hK=>?_|refine Ql fun A B hA hB=>?_|refine Qm ?_|refine Qn ?_|refine Qp ?_|refine Qr ?_)
 | ((with_reducible first|apply Qy|apply Qz|apply QA)<;>intro hb<;>try simp only[nr] at hb)
 |simp only[go_sem,↓reduceIte,reduceIte,Qa,Qh,Qb,Qc,Qd,Qe,Qf,Qg,reduceCtorEq, *,-hp]
 |with_reducible refine fun(bn:Bool) hbn=>?_))
  refine Qs [1,2,15,16] (fun m ts'=>∃(i:Nat),m=xs.length-i∧i≤xs.length∧xs.take i=ys.take i∧ts'.tmp 17=.int .i64 i) xs.length ?_ ?_
  ·refine⟨0,?_⟩
   simp only[go_sem,↓reduceIte,reduceIte,Qa,Qh,Qb,Qc,Qd,Qe,Qf,Qg,reduceCtorEq, *,-hp]
  ·rintro m A hM ts' hk ⟨i,hm,f1,f2,s1⟩
   simp only[go_sem,↓reduceIte,reduceIte,Qa,Qh,Qb,Qc,Qd,Qe,Qf,Qg,reduceCtorEq, *] at hk
   by_cases hlt:i<xs.length
   ·have hlu:i<ys.length:=by omega
    have hne:=ZZ hlt hlu
    have hpi:=hp _ (QC hlt) ys[i]
    (repeat' (first
 | (with_reducible first|refine callX.by (hpi) ?_|assumption|(refine Qw hK _ ?_;clear hK K)|refine Qw ‹_› _ ?_|refine Qx ‹_› ?_|refine Qi fun K hK=>?_|refine Qj T fun K hK=>?_|refine Ql fun A B hA hB=>?_|refine Qm ?_|refine Qn ?_|refine Qp ?_|refine Qr ?_)
 | ((with_reducible first|apply Qy|apply Qz|apply QA)<;>intro hb<;>try simp only[nr] at hb)
 |simp only[go_sem,↓reduceIte,reduceIte,Qa,Qh,Qb,Qc,Qd,Qe,Qf,Qg,reduceCtorEq, *,-hp,-hpi]
 |with_reducible refine fun(bn:Bool) hbn=>?_))
    all_goals ((repeat clear hK);(repeat clear hA);(repeat clear hB))
    all_goals first
     | (refine hM.on (xs.length-(i+1)) (by omega) (by simp only[go_sem,↓reduceIte,reduceIte,Qa,Qh,Qb,Qc,Qd,Qe,Qf,Qg,reduceCtorEq, *,Jf hlt hl,-hp,-hpi]) ⟨i+1,rfl,by omega,ZY f2 hlt hlu (of_decide_eq_true hb),?_⟩;simp only[go_sem,↓reduceIte,reduceIte,Qa,Qh,Qb,Qc,Qd,Qe,Qf,Qg,reduceCtorEq, *,Jf hlt hl,-hp,-hpi];done)
     | (clear hM hp hpi;grind)
   ·have:=ZX f2 hlt hll
    (repeat' (first
 | (with_reducible first|assumption|(refine Qw hK _ ?_;clear hK K)|refine Qw ‹_› _ ?_|refine Qx ‹_› ?_|refine Qi fun K hK=>?_|refine Qj T fun K hK=>?_|refine Ql fun A B hA hB=>?_|refine Qm ?_|refine Qn ?_|refine Qp ?_|refine Qr ?_)
 | ((with_reducible first|apply Qy|apply Qz|apply QA)<;>intro hb<;>try simp only[nr] at hb)
 |simp only[go_sem,↓reduceIte,reduceIte,Qa,Qh,Qb,Qc,Qd,Qe,Qf,Qg,reduceCtorEq, *,-hp]
 |with_reducible refine fun(bn:Bool) hbn=>?_))
    all_goals ((repeat clear hK);(repeat clear hA);(repeat clear hB))
    all_goals (clear hM hp;grind)
 ·have:¬xs=ys:=by rintro rfl;exact hll rfl
  (repeat' (first
 | (with_reducible first|assumption|(refine Qw hK _ ?_;clear hK K)|refine Qw ‹_› _ ?_|refine Qx ‹_› ?_|refine Qi fun K hK=>?_|refine Qj T fun K hK=>?_|refine Ql fun A B hA hB=>?_|refine Qm ?_|refine Qn ?_|refine Qp ?_|refine Qr ?_)
 | ((with_reducible first|apply Qy|apply Qz|apply QA)<;>intro hb<;>try simp only[nr] at hb)
 |simp only[go_sem,↓reduceIte,reduceIte,Qa,Qh,Qb,Qc,Qd,Qe,Qf,Qg,reduceCtorEq, *,-hp]
 |with_reducible refine fun(bn:Bool) hbn=>?_))
  all_goals ((repeat clear hK);(repeat clear hA);(repeat clear hB))
  all_goals (clear hp;grind)
theorem Z0(xs ys:List Res)(hl:Jc xs.length)(hs:∀x∈xs,Ju x):CallR Tryz.prog 77 [.slice false (Ja xs),.slice false (Ja ys)] (.val (.bool (decide (xs=ys)))):=by
 have w1:=JdO 50 [] Caps.nil xs ys (fun x hx y=>Jdf x.kind x.name x.ver x.port x.to' x.rules' x.hosts y.kind y.name y.ver y.port y.to' y.rules' y.hosts (hs x hx).2.2.2.2 (hs x hx).2.2.1 (hs x hx).2.2.2.1) hl
 refine CallR.go2 (T:=T) Tryz.call77 Tryz.func77 rfl Tryz.ntmps77 (congrArg Array.toList Tryz.results77) (by decide) fun ts hn h0 h1=>?_
 (repeat' (first
 | (with_reducible first|refine callX.by (w1) ?_|refine callX.by (JdO _ _ ?_ _ _ ?_ ?_) ?_|refine callX.by (Jdf _ _ _ _ _ _ _ _ _ _ _ _ _ _ ?_ ?_ ?_) ?_|refine callX.by Jg0 ?_|assumption|(refine Qw hK _ ?_;clear hK K)|refine Qw ‹_› _ ?_|refine Qx ‹_› ?_|refine Qi fun K hK=>?_|refine Qj T fun K hK=>?_|refine Ql fun A B hA hB=>?_|refine Qn ?_|refine Qr ?_)
 | ((with_reducible first|apply Qy|apply Qz|apply QA)<;>intro hb<;>try simp only[nr] at hb)
 |simp only[go_sem,↓reduceIte,reduceIte,Qa,Qh,Qb,Qc,Qd,Qe,Qf,Qg,reduceCtorEq, *,-hs,-w1]
 |with_reducible refine fun(bn:Bool) hbn=>?_))
theorem Jef(n:Int):CallR Tryz.prog 58 [.int .i64 n] (.val (.agg [.int .i64 (VI n),.slice false [],.bool false,.slice false []])):=by
 have w0:=Jed n
 refine QD (T:=T) Tryz.call58 Tryz.func58 rfl Tryz.ntmps58 (congrArg Array.toList Tryz.results58) (by decide) fun ts hn h0=>?_
 (repeat' (first
 | (with_reducible first|refine callX.by (w0) ?_|refine callX.by (Jed _) ?_|assumption|(refine Qw hK _ ?_;clear hK K)|refine Qw ‹_› _ ?_|refine Qx ‹_› ?_|refine Qi fun K hK=>?_|refine Qj T fun K hK=>?_|refine Ql fun A B hA hB=>?_|refine Qn ?_|refine Qr ?_)
 | ((with_reducible first|apply Qy|apply Qz|apply QA)<;>intro hb<;>try simp only[nr] at hb)
 |simp only[go_sem,↓reduceIte,reduceIte,Qa,Qh,Qb,Qc,Qd,Qe,Qf,Qg,reduceCtorEq, *,-w0]
 |with_reducible refine fun(bn:Bool) hbn=>?_))
def Vp(w:Warm):Bool:=VD w.c && decide (w.shown=VP w.c) && (w.ready || decide (w.shown=[]))
theorem Jdi(w_c_cap:Int)(w_c_l:List Res)(w_ready:Bool)(w_shown:List Res)(hl:w_c_l.length≤65536)(hs:∀r∈w_c_l,Ju r)(hl2:Jc w_shown.length)(hs2:∀r∈w_shown,Ju r):CallR Tryz.prog 33 [.agg [.int .i64 w_c_cap,.slice false (Ja w_c_l),.bool w_ready,.slice false (Ja w_shown)]] (.val (.bool (Vp (⟨⟨w_c_cap,w_c_l⟩,w_ready,w_shown⟩:Warm)))):=by
 have w1:=JaN w_c_cap w_c_l hl hs
 have w2:=(JaQ w_c_cap w_c_l hl hs).frz
 have w3:=Z0 w_shown (VP ⟨w_c_cap,w_c_l⟩) hl2 hs2
 have hlen:decide ((w_shown.length:Int)=0)=decide (w_shown=[]):=by
  rw[Bool.eq_iff_iff];simp
 unfold Vp
 simp only
 generalize VP ⟨w_c_cap,w_c_l⟩=sh at *
 cases hb0:VD ⟨w_c_cap,w_c_l⟩
 ·rw[hb0] at w1
  refine QD (T:=T) Tryz.call33 Tryz.func33 rfl Tryz.ntmps33 (congrArg Array.toList Tryz.results33) (by decide) fun ts hn h0=>?_
  (repeat' (first
 | (with_reducible first|refine callX.by (w1) ?_|refine callX.by (JaN _ _ ?_ ?_) ?_|refine callX.by (JaQ _ _ ?_ ?_) ?_|refine callX.by (Z0 _ _ ?_ ?_) ?_|assumption|(refine Qw hK _ ?_;clear hK K)|refine Qw ‹_› _ ?_|refine Qx ‹_› ?_|refine Qi fun K hK=>?_|refine Qj T fun K hK=>?_|refine Qk (id:=1) T mixed JdA (by kernel_rfl) fun K hK=>?_|refine Ql fun A B hA hB=>?_|refine Qn ?_|refine Qr ?_)
 | ((with_reducible first|apply Qy|apply Qz|apply QA)<;>intro hb<;>try simp only[nr] at hb)
 |simp only[go_sem,↓reduceIte,reduceIte,Qa,Qh,Qb,Qc,Qd,Qe,Qf,Qg,reduceCtorEq, *,-hs,-hs2,-w1,-w2,-w3]
 |with_reducible refine fun(bn:Bool) hbn=>?_))
 ·rw[hb0] at w1
  by_cases hsh:w_shown=sh
  ·rw[decide_eq_true hsh] at w3
   cases w_ready
   ·refine QD (T:=T) Tryz.call33 Tryz.func33 rfl Tryz.ntmps33 (congrArg Array.toList Tryz.results33) (by decide) fun ts hn h0=>?_
    (repeat' (first
 | (with_reducible first|refine callX.by (w1) ?_|refine callX.by (w2) ?_|refine callX.by (w3) ?_|refine callX.by (JaN _ _ ?_ ?_) ?_|refine callX.by (JaQ _ _ ?_ ?_) ?_|refine callX.by (Z0 _ _ ?_ ?_) ?_|assumption|(refine Qw hK _ ?_;clear hK K)|refine Qw ‹_› _ ?_|refine Qx ‹_› ?_|refine Qi fun K hK=>?_|refine Qj T fun K hK=>?_|refine Qk (id:=1) T mixed JdA (by kernel_rfl) fun K hK=>?_|refine Ql fun A B hA hB=>?_|refine Qn ?_|refine Qr ?_)
 | ((with_reducible first|apply Qy|apply Qz|apply QA)<;>intro hb<;>try simp only[nr] at hb)
 |simp only[go_sem,↓reduceIte,reduceIte,Qa,Qh,Qb,Qc,Qd,Qe,Qf,Qg,reduceCtorEq, *,-hs,-hs2,-w1,-w2,-w3,-hsh]
 |with_reducible refine fun(bn:Bool) hbn=>?_))
    all_goals simp_all
   ·refine QD (T:=T) Tryz.call33 Tryz.func33 rfl Tryz.ntmps33 (congrArg Array.toList Tryz.results33) (by decide) fun ts hn h0=>?_
    (repeat' (first
 | (with_reducible first|refine callX.by (w1) ?_|refine callX.by (w2) ?_|refine callX.by (w3) ?_|refine callX.by (JaN _ _ ?_ ?_) ?_|refine callX.by (JaQ _ _ ?_ ?_) ?_|refine callX.by (Z0 _ _ ?_ ?_) ?_|assumption|(refine Qw hK _ ?_;clear hK K)|refine Qw ‹_› _ ?_|refine Qx ‹_› ?_|refine Qi fun K hK=>?_|refine Qj T fun K hK=>?_|refine Qk (id:=1) T mixed JdA (by kernel_rfl) fun K hK=>?_|refine Ql fun A B hA hB=>?_|refine Qn ?_|refine Qr ?_)
 | ((with_reducible first|apply Qy|apply Qz|apply QA)<;>intro hb<;>try simp only[nr] at hb)
 |simp only[go_sem,↓reduceIte,reduceIte,Qa,Qh,Qb,Qc,Qd,Qe,Qf,Qg,reduceCtorEq, *,-hs,-hs2,-w1,-w2,-w3,-hsh]
 |with_reducible refine fun(bn:Bool) hbn=>?_))
    all_goals simp_all
  ·rw[decide_eq_false hsh] at w3
   refine QD (T:=T) Tryz.call33 Tryz.func33 rfl Tryz.ntmps33 (congrArg Array.toList Tryz.results33) (by decide) fun ts hn h0=>?_
   (repeat' (first
 | (with_reducible first|refine callX.by (w1) ?_|refine callX.by (w2) ?_|refine callX.by (w3) ?_|refine callX.by (JaN _ _ ?_ ?_) ?_|refine callX.by (JaQ _ _ ?_ ?_) ?_|refine callX.by (Z0 _ _ ?_ ?_) ?_|assumption|(refine Qw hK _ ?_;clear hK K)|refine Qw ‹_› _ ?_|refine Qx ‹_› ?_|refine Qi fun K hK=>?_|refine Qj T fun K hK=>?_|refine Qk (id:=1) T mixed JdA (by kernel_rfl) fun K hK=>?_|refine Ql fun A B hA hB=>?_|refine Qn ?_|refine Qr ?_)
 | ((with_reducible first|apply Qy|apply Qz|apply QA)<;>intro hb<;>try simp only[nr] at hb)
 |simp only[go_sem,↓reduceIte,reduceIte,Qa,Qh,Qb,Qc,Qd,Qe,Qf,Qg,reduceCtorEq, *,-hs,-hs2,-w1,-w2,-w3,-hsh]
 |with_reducible refine fun(bn:Bool) hbn=>?_))
   all_goals simp_all
def Yt(w:Warm):Warm:=if Vp w=true then w else ⟨⟨VI w.c.cap,[]⟩,false,[]⟩
theorem JeI(w_c_cap:Int)(w_c_l:List Res)(w_ready:Bool)(w_shown:List Res)(hl:w_c_l.length≤65536)(hs:∀r∈w_c_l,Ju r)(hl2:Jc w_shown.length)(hs2:∀r∈w_shown,Ju r):CallR Tryz.prog 121 [.agg [.int .i64 w_c_cap,.slice false (Ja w_c_l),.bool w_ready,.slice false (Ja w_shown)]] (.val (.agg [.int .i64 (Yt (⟨⟨w_c_cap,w_c_l⟩,w_ready,w_shown⟩:Warm)).c.cap,.slice false (Ja (Yt (⟨⟨w_c_cap,w_c_l⟩,w_ready,w_shown⟩:Warm)).c.l),.bool (Yt (⟨⟨w_c_cap,w_c_l⟩,w_ready,w_shown⟩:Warm)).ready,.slice false (Ja (Yt (⟨⟨w_c_cap,w_c_l⟩,w_ready,w_shown⟩:Warm)).shown)])):=by
 have w1:=Jdi w_c_cap w_c_l w_ready w_shown hl hs hl2 hs2
 unfold Yt
 cases hb0:Vp (⟨⟨w_c_cap,w_c_l⟩,w_ready,w_shown⟩:Warm)
 ·rw[hb0] at w1
  refine QD (T:=T) Tryz.call121 Tryz.func121 rfl Tryz.ntmps121 (congrArg Array.toList Tryz.results121) (by decide) fun ts hn h0=>?_
  (repeat' (first
 | (with_reducible first|refine callX.by (w1) ?_|refine callX.by (Jdi _ _ _ _ ?_ ?_ ?_ ?_) ?_|refine callX.by (Jef _) ?_|assumption|(refine Qw hK _ ?_;clear hK K)|refine Qw ‹_› _ ?_|refine Qx ‹_› ?_|refine Qi fun K hK=>?_|refine Qj T fun K hK=>?_|refine Ql fun A B hA hB=>?_|refine Qn ?_|refine Qr ?_)
 | ((with_reducible first|apply Qy|apply Qz|apply QA)<;>intro hb<;>try simp only[nr] at hb)
 |simp only[go_sem,↓reduceIte,reduceIte,Qa,Qh,Qb,Qc,Qd,Qe,Qf,Qg,reduceCtorEq, *,-hs,-hs2,-w1]
 |with_reducible refine fun(bn:Bool) hbn=>?_))
  all_goals rfl
 ·rw[hb0] at w1
  refine QD (T:=T) Tryz.call121 Tryz.func121 rfl Tryz.ntmps121 (congrArg Array.toList Tryz.results121) (by decide) fun ts hn h0=>?_
  (repeat' (first
 | (with_reducible first|refine callX.by (w1) ?_|refine callX.by (Jdi _ _ _ _ ?_ ?_ ?_ ?_) ?_|refine callX.by (Jef _) ?_|assumption|(refine Qw hK _ ?_;clear hK K)|refine Qw ‹_› _ ?_|refine Qx ‹_› ?_|refine Qi fun K hK=>?_|refine Qj T fun K hK=>?_|refine Ql fun A B hA hB=>?_|refine Qn ?_|refine Qr ?_)
 | ((with_reducible first|apply Qy|apply Qz|apply QA)<;>intro hb<;>try simp only[nr] at hb)
 |simp only[go_sem,↓reduceIte,reduceIte,Qa,Qh,Qb,Qc,Qd,Qe,Qf,Qg,reduceCtorEq, *,-hs,-hs2,-w1]
 |with_reducible refine fun(bn:Bool) hbn=>?_))
  all_goals trace_state
theorem Jia(fn:FuncId)(caps:List AV)(hc:Caps caps)(p:Mark→Bool)(xs:List Mark)(hp:∀x∈xs,CallR Tryz.prog fn (.agg [.int .i64 x.k.kind,.str x.k.name,.int .i64 x.ver] :: caps) (.val (.bool (p x))))(hl:Jc xs.length):CallR Tryz.prog 186 [.slice false (Ja xs),.clo (.func fn) [] caps] (.val (.int .i64 (JF p xs 0))):=by
 have hca:=hc.args
 have hcp:=hc.pure
 have hcn:=hc.nrm
 refine CallR.go2 (T:=T) Tryz.call186 Tryz.func186 rfl Tryz.ntmps186 (congrArg Array.toList Tryz.results186) (by decide) fun ts hn h0 h1=>?_
 (repeat' (first
 | (with_reducible first|assumption|(refine Qw hK _ ?_;clear hK K)|refine Qw ‹_› _ ?_|refine Qx ‹_› ?_|refine Qi fun K hK=>?_|refine Qj T fun K hK=>?_|refine Ql fun A B hA hB=>?_|refine Qm ?_|refine Qn ?_|refine Qp ?_|refine Qr ?_)
 | ((with_reducible first|apply Qy|apply Qz|apply QA)<;>intro hb<;>try simp only[nr] at hb)
 |simp only[go_sem,↓reduceIte,reduceIte,Qa,Qh,Qb,Qc,Qd,Qe,Qf,Qg,reduceCtorEq, *,-hp]
 |with_reducible refine fun(bn:Bool) hbn=>?_))
 refine Qs [0,1,7] (fun m ts'=>∃(i:Nat),m=xs.length-i∧i≤xs.length∧JF p xs 0=JF p (xs.drop i) i∧ts'.tmp 8=.int .i64 i) xs.length ?_ ?_
 ·refine⟨0,?_⟩
  simp only[go_sem,↓reduceIte,reduceIte,Qa,Qh,Qb,Qc,Qd,Qe,Qf,Qg,reduceCtorEq, *,-hp]
 ·rintro m A hM ts' hk ⟨i,hm,f1,f2,s1⟩
  simp only[go_sem,↓reduceIte,reduceIte,Qa,Qh,Qb,Qc,Qd,Qe,Qf,Qg,reduceCtorEq, *] at hk
  by_cases hlt:i<xs.length
  ·rw[List.drop_eq_getElem_cons hlt,JF] at f2
   have hpi:=hp _ (QC hlt)
   (repeat' (first
 | (with_reducible first|refine callX.by (hpi) ?_|assumption|(refine Qw hK _ ?_;clear hK K)|refine Qw ‹_› _ ?_|refine Qx ‹_› ?_|refine Qi fun K hK=>?_|refine Qj T fun K hK=>?_|refine Ql fun A B hA hB=>?_|refine Qm ?_|refine Qn ?_|refine Qp ?_|refine Qr ?_)
 | ((with_reducible first|apply Qy|apply Qz|apply QA)<;>intro hb<;>try simp only[nr] at hb)
 |simp only[go_sem,↓reduceIte,reduceIte,Qa,Qh,Qb,Qc,Qd,Qe,Qf,Qg,reduceCtorEq, *,-hp,-hpi]
 |with_reducible refine fun(bn:Bool) hbn=>?_))
   all_goals ((repeat clear hK);(repeat clear hA);(repeat clear hB))
   rw[if_neg (by simp[hb])] at f2
   (refine hM.on (xs.length-(i+1)) (by omega) (by simp only[go_sem,↓reduceIte,reduceIte,Qa,Qh,Qb,Qc,Qd,Qe,Qf,Qg,reduceCtorEq, *,Jf hlt hl,-f2,-hp,-hpi]) ⟨i+1,rfl,by omega,f2,?_⟩;simp only[go_sem,↓reduceIte,reduceIte,Qa,Qh,Qb,Qc,Qd,Qe,Qf,Qg,reduceCtorEq, *,Jf hlt hl,-f2,-hp,-hpi];done)
  ·rw[List.drop_eq_nil_of_le (by omega),JF] at f2
   (repeat' (first
 | (with_reducible first|assumption|(refine Qw hK _ ?_;clear hK K)|refine Qw ‹_› _ ?_|refine Qx ‹_› ?_|refine Qi fun K hK=>?_|refine Qj T fun K hK=>?_|refine Ql fun A B hA hB=>?_|refine Qm ?_|refine Qn ?_|refine Qp ?_|refine Qr ?_)
 | ((with_reducible first|apply Qy|apply Qz|apply QA)<;>intro hb<;>try simp only[nr] at hb)
 |simp only[go_sem,↓reduceIte,reduceIte,Qa,Qh,Qb,Qc,Qd,Qe,Qf,Qg,reduceCtorEq, *,-hp]
 |with_reducible refine fun(bn:Bool) hbn=>?_))
theorem JdK(fn:FuncId)(caps:List AV)(hc:Caps caps)(p:Mark→Bool)(xs:List Mark)(hp:∀x∈xs,CallR Tryz.prog fn (.agg [.int .i64 x.k.kind,.str x.k.name,.int .i64 x.ver] :: caps) (.val (.bool (p x))))(hl:Jc xs.length):CallR Tryz.prog 158 [.slice false (Ja xs),.clo (.func fn) [] caps] (.val (.bool (xs.any p))):=by
 have hca:=hc.args
 have hcp:=hc.pure
 have hcn:=hc.nrm
 have hi:=Jia fn caps hc p xs hp hl
 have ha:=Ja7 p xs
 refine CallR.go2 (T:=T) Tryz.call158 Tryz.func158 rfl Tryz.ntmps158 (congrArg Array.toList Tryz.results158) (by decide) fun ts hn h0 h1=>?_
 (repeat' (first
 | (with_reducible first|refine callX.by (hi) ?_|refine callX.by (Jia _ _ ?_ _ _ ?_ ?_) ?_|assumption|(refine Qw hK _ ?_;clear hK K)|refine Qw ‹_› _ ?_|refine Qx ‹_› ?_|refine Qi fun K hK=>?_|refine Qj T fun K hK=>?_|refine Ql fun A B hA hB=>?_|refine Qn ?_|refine Qr ?_)
 | ((with_reducible first|apply Qy|apply Qz|apply QA)<;>intro hb<;>try simp only[nr] at hb)
 |simp only[go_sem,↓reduceIte,reduceIte,Qa,Qh,Qb,Qc,Qd,Qe,Qf,Qg,reduceCtorEq, *,-hp,-hi]
 |with_reducible refine fun(bn:Bool) hbn=>?_))
theorem Jh9(fn:FuncId)(caps:List AV)(hc:Caps caps)(p:Int→Bool)(xs:List Int)(hp:∀x∈xs,CallR Tryz.prog fn (.int .i64 x :: caps) (.val (.bool (p x))))(hl:Jc xs.length):CallR Tryz.prog 74 [.slice false (Ja xs),.clo (.func fn) [] caps] (.val (.int .i64 (JF p xs 0))):=by
 have hca:=hc.args
 have hcp:=hc.pure
 have hcn:=hc.nrm
 refine CallR.go2 (T:=T) Tryz.call74 Tryz.func74 rfl Tryz.ntmps74 (congrArg Array.toList Tryz.results74) (by decide) fun ts hn h0 h1=>?_
 (repeat' (first
 | (with_reducible first|assumption|(refine Qw hK _ ?_;clear hK K)|refine Qw ‹_› _ ?_|refine Qx ‹_› ?_|refine Qi fun K hK=>?_|refine Qj T fun K hK=>?_|refine Ql fun A B hA hB=>?_|refine Qm ?_|refine Qn ?_|refine Qp ?_|refine Qr ?_)
 | ((with_reducible first|apply Qy|apply Qz|apply QA)<;>intro hb<;>try simp only[nr] at hb)
 |simp only[go_sem,↓reduceIte,reduceIte,Qa,Qh,Qb,Qc,Qd,Qe,Qf,Qg,reduceCtorEq, *,-hp]
 |with_reducible refine fun(bn:Bool) hbn=>?_))
 refine Qs [0,1,7] (fun m ts'=>∃(i:Nat),m=xs.length-i∧i≤xs.length∧JF p xs 0=JF p (xs.drop i) i∧ts'.tmp 8=.int .i64 i) xs.length ?_ ?_
 ·refine⟨0,?_⟩
  simp only[go_sem,↓reduceIte,reduceIte,Qa,Qh,Qb,Qc,Qd,Qe,Qf,Qg,reduceCtorEq, *,-hp]
 ·rintro m A hM ts' hk ⟨i,hm,f1,f2,s1⟩
  simp only[go_sem,↓reduceIte,reduceIte,Qa,Qh,Qb,Qc,Qd,Qe,Qf,Qg,reduceCtorEq, *] at hk
  by_cases hlt:i<xs.length
  ·rw[List.drop_eq_getElem_cons hlt,JF] at f2
   have hpi:=hp _ (QC hlt)
   (repeat' (first
 | (with_reducible first|refine callX.by (hpi) ?_|assumption|(refine Qw hK _ ?_;clear hK K)|refine Qw ‹_› _ ?_|refine Qx ‹_› ?_|refine Qi fun K hK=>?_|refine Qj T fun K hK=>?_|refine Ql fun A B hA hB=>?_|refine Qm ?_|refine Qn ?_|refine Qp ?_|refine Qr ?_)
 | ((with_reducible first|apply Qy|apply Qz|apply QA)<;>intro hb<;>try simp only[nr] at hb)
 |simp only[go_sem,↓reduceIte,reduceIte,Qa,Qh,Qb,Qc,Qd,Qe,Qf,Qg,reduceCtorEq, *,-hp,-hpi]
 |with_reducible refine fun(bn:Bool) hbn=>?_))
   all_goals ((repeat clear hK);(repeat clear hA);(repeat clear hB))
   rw[if_neg (by simp[hb])] at f2
   (refine hM.on (xs.length-(i+1)) (by omega) (by simp only[go_sem,↓reduceIte,reduceIte,Qa,Qh,Qb,Qc,Qd,Qe,Qf,Qg,reduceCtorEq, *,Jf hlt hl,-f2,-hp,-hpi]) ⟨i+1,rfl,by omega,f2,?_⟩;simp only[go_sem,↓reduceIte,reduceIte,Qa,Qh,Qb,Qc,Qd,Qe,Qf,Qg,reduceCtorEq, *,Jf hlt hl,-f2,-hp,-hpi];done)
  ·rw[List.drop_eq_nil_of_le (by omega),JF] at f2
   (repeat' (first
 | (with_reducible first|assumption|(refine Qw hK _ ?_;clear hK K)|refine Qw ‹_› _ ?_|refine Qx ‹_› ?_|refine Qi fun K hK=>?_|refine Qj T fun K hK=>?_|refine Ql fun A B hA hB=>?_|refine Qm ?_|refine Qn ?_|refine Qp ?_|refine Qr ?_)
 | ((with_reducible first|apply Qy|apply Qz|apply QA)<;>intro hb<;>try simp only[nr] at hb)
 |simp only[go_sem,↓reduceIte,reduceIte,Qa,Qh,Qb,Qc,Qd,Qe,Qf,Qg,reduceCtorEq, *,-hp]
 |with_reducible refine fun(bn:Bool) hbn=>?_))
theorem Jhk(fn:FuncId)(caps:List AV)(hc:Caps caps)(p:Int→Bool)(xs:List Int)(hp:∀x∈xs,CallR Tryz.prog fn (.int .i64 x :: caps) (.val (.bool (p x))))(hl:Jc xs.length):CallR Tryz.prog 30 [.slice false (Ja xs),.clo (.func fn) [] caps] (.val (.bool (xs.any p))):=by
 have hca:=hc.args
 have hcp:=hc.pure
 have hcn:=hc.nrm
 have hi:=Jh9 fn caps hc p xs hp hl
 have ha:=Ja7 p xs
 refine CallR.go2 (T:=T) Tryz.call30 Tryz.func30 rfl Tryz.ntmps30 (congrArg Array.toList Tryz.results30) (by decide) fun ts hn h0 h1=>?_
 (repeat' (first
 | (with_reducible first|refine callX.by (hi) ?_|refine callX.by (Jh9 _ _ ?_ _ _ ?_ ?_) ?_|assumption|(refine Qw hK _ ?_;clear hK K)|refine Qw ‹_› _ ?_|refine Qx ‹_› ?_|refine Qi fun K hK=>?_|refine Qj T fun K hK=>?_|refine Ql fun A B hA hB=>?_|refine Qn ?_|refine Qr ?_)
 | ((with_reducible first|apply Qy|apply Qz|apply QA)<;>intro hb<;>try simp only[nr] at hb)
 |simp only[go_sem,↓reduceIte,reduceIte,Qa,Qh,Qb,Qc,Qd,Qe,Qf,Qg,reduceCtorEq, *,-hp,-hi]
 |with_reducible refine fun(bn:Bool) hbn=>?_))
@[go_sem] theorem JxC:Tryz.prog.eqGuardType Tryz.prog.depth 110=false:=by kernel_rfl
@[go_sem] theorem JIN:Tryz.prog.stoodInHeld 110=false:=by kernel_rfl
theorem Jfk(xs ys:List Key)(hl:Jc xs.length):CallR Tryz.prog 51 [.slice false (Ja xs),.slice false (Ja ys)] (.val (.bool (decide (xs=ys)))):=by
 refine CallR.go2 (T:=T) Tryz.call51 Tryz.func51 rfl Tryz.ntmps51 (congrArg Array.toList Tryz.results51) (by decide) fun ts hn h0 h1=>?_
 by_cases hll:xs.length=ys.length
 ·(repeat' (first
 | (with_reducible first|assumption|(refine Qw hK _ ?_;clear hK K)|refine Qw ‹_› _ ?_|refine Qx ‹_› ?_|refine Qi fun K hK=>?_|refine Qj T fun K hK=>?_|refine Qk (id:=6) T mixed V4 (by kernel_rfl) fun K hK=>?_|refine Ql fun A B hA hB=>?_|refine Qm ?_|refine Qn ?_|refine Qp ?_|refine Qr ?_)
 | ((with_reducible first|apply Qy|apply Qz|apply QA)<;>intro hb<;>try simp only[nr] at hb)
 |simp only[go_sem,↓reduceIte,reduceIte,Qa,Qh,Qb,Qc,Qd,Qe,Qf,Qg,reduceCtorEq, *]
 |with_reducible refine fun(bn:Bool) hbn=>?_))
  refine Qs [0,1,12] (fun m ts'=>∃(i:Nat),m=xs.length-i∧i≤xs.length∧xs.take i=ys.take i∧ts'.tmp 13=.int .i64 i) xs.length ?_ ?_
  ·refine⟨0,?_⟩
   simp only[go_sem,↓reduceIte,reduceIte,Qa,Qh,Qb,Qc,Qd,Qe,Qf,Qg,reduceCtorEq, *]
  ·rintro m A hM ts' hk ⟨i,hm,f1,f2,s1⟩
   simp only[go_sem,↓reduceIte,reduceIte,Qa,Qh,Qb,Qc,Qd,Qe,Qf,Qg,reduceCtorEq, *] at hk
   by_cases hlt:i<xs.length
   ·have hlu:i<ys.length:=by omega
    have hne:=ZZ hlt hlu
    rw[Jax] at hne
    (repeat' (first
 | (with_reducible first|assumption|(refine Qw hK _ ?_;clear hK K)|refine Qw ‹_› _ ?_|refine Qx ‹_› ?_|refine Qi fun K hK=>?_|refine Qj T fun K hK=>?_|refine Qk (id:=6) T mixed V4 (by kernel_rfl) fun K hK=>?_|refine Ql fun A B hA hB=>?_|refine Qm ?_|refine Qn ?_|refine Qp ?_|refine Qr ?_)
 | ((with_reducible first|apply Qy|apply Qz|apply QA)<;>intro hb<;>try simp only[nr] at hb)
 |simp only[go_sem,↓reduceIte,reduceIte,Qa,Qh,Qb,Qc,Qd,Qe,Qf,Qg,reduceCtorEq, *]
 |with_reducible refine fun(bn:Bool) hbn=>?_))
    all_goals ((repeat clear hK);(repeat clear hA);(repeat clear hB))
    all_goals first
     | (refine hM.on (xs.length-(i+1)) (by omega) (by simp only[go_sem,↓reduceIte,reduceIte,Qa,Qh,Qb,Qc,Qd,Qe,Qf,Qg,reduceCtorEq, *,Jf hlt hl]) ⟨i+1,rfl,by omega,by clear hM;apply ZY f2 hlt hlu;rw[Jax];grind,?_⟩;simp only[go_sem,↓reduceIte,reduceIte,Qa,Qh,Qb,Qc,Qd,Qe,Qf,Qg,reduceCtorEq, *,Jf hlt hl];done)
     | (clear hM;grind)
   ·have:=ZX f2 hlt hll
    (repeat' (first
 | (with_reducible first|assumption|(refine Qw hK _ ?_;clear hK K)|refine Qw ‹_› _ ?_|refine Qx ‹_› ?_|refine Qi fun K hK=>?_|refine Qj T fun K hK=>?_|refine Qk (id:=6) T mixed V4 (by kernel_rfl) fun K hK=>?_|refine Ql fun A B hA hB=>?_|refine Qm ?_|refine Qn ?_|refine Qp ?_|refine Qr ?_)
 | ((with_reducible first|apply Qy|apply Qz|apply QA)<;>intro hb<;>try simp only[nr] at hb)
 |simp only[go_sem,↓reduceIte,reduceIte,Qa,Qh,Qb,Qc,Qd,Qe,Qf,Qg,reduceCtorEq, *]
 |with_reducible refine fun(bn:Bool) hbn=>?_))
    all_goals ((repeat clear hK);(repeat clear hA);(repeat clear hB))
    all_goals (clear hM;grind)
 ·have:¬xs=ys:=by rintro rfl;exact hll rfl
  (repeat' (first
 | (with_reducible first|assumption|(refine Qw hK _ ?_;clear hK K)|refine Qw ‹_› _ ?_|refine Qx ‹_› ?_|refine Qi fun K hK=>?_|refine Qj T fun K hK=>?_|refine Qk (id:=6) T mixed V4 (by kernel_rfl) fun K hK=>?_|refine Ql fun A B hA hB=>?_|refine Qm ?_|refine Qn ?_|refine Qp ?_|refine Qr ?_)
 | ((with_reducible first|apply Qy|apply Qz|apply QA)<;>intro hb<;>try simp only[nr] at hb)
 |simp only[go_sem,↓reduceIte,reduceIte,Qa,Qh,Qb,Qc,Qd,Qe,Qf,Qg,reduceCtorEq, *]
 |with_reducible refine fun(bn:Bool) hbn=>?_))
  all_goals ((repeat clear hK);(repeat clear hA);(repeat clear hB))
  all_goals grind
theorem JhB(xs ys:List Mark)(hl:Jc xs.length):CallR Tryz.prog 52 [.slice false (Ja xs),.slice false (Ja ys)] (.val (.bool (decide (xs=ys)))):=by
 refine CallR.go2 (T:=T) Tryz.call52 Tryz.func52 rfl Tryz.ntmps52 (congrArg Array.toList Tryz.results52) (by decide) fun ts hn h0 h1=>?_
 by_cases hll:xs.length=ys.length
 ·(repeat' (first
 | (with_reducible first|assumption|(refine Qw hK _ ?_;clear hK K)|refine Qw ‹_› _ ?_|refine Qx ‹_› ?_|refine Qi fun K hK=>?_|refine Qj T fun K hK=>?_|refine Qk (id:=6) T mixed V4 (by kernel_rfl) fun K hK=>?_|refine Ql fun A B hA hB=>?_|refine Qm ?_|refine Qn ?_|refine Qp ?_|refine Qr ?_)
 | ((with_reducible first|apply Qy|apply Qz|apply QA)<;>intro hb<;>try simp only[nr] at hb)
 |simp only[go_sem,↓reduceIte,reduceIte,Qa,Qh,Qb,Qc,Qd,Qe,Qf,Qg,reduceCtorEq, *]
 |with_reducible refine fun(bn:Bool) hbn=>?_))
  refine Qs [0,1,12] (fun m ts'=>∃(i:Nat),m=xs.length-i∧i≤xs.length∧xs.take i=ys.take i∧ts'.tmp 13=.int .i64 i) xs.length ?_ ?_
  ·refine⟨0,?_⟩
   simp only[go_sem,↓reduceIte,reduceIte,Qa,Qh,Qb,Qc,Qd,Qe,Qf,Qg,reduceCtorEq, *]
  ·rintro m A hM ts' hk ⟨i,hm,f1,f2,s1⟩
   simp only[go_sem,↓reduceIte,reduceIte,Qa,Qh,Qb,Qc,Qd,Qe,Qf,Qg,reduceCtorEq, *] at hk
   by_cases hlt:i<xs.length
   ·have hlu:i<ys.length:=by omega
    have hne:=ZZ hlt hlu
    rw[JhC,Jax] at hne
    (repeat' (first
 | (with_reducible first|assumption|(refine Qw hK _ ?_;clear hK K)|refine Qw ‹_› _ ?_|refine Qx ‹_› ?_|refine Qi fun K hK=>?_|refine Qj T fun K hK=>?_|refine Qk (id:=6) T mixed V4 (by kernel_rfl) fun K hK=>?_|refine Ql fun A B hA hB=>?_|refine Qm ?_|refine Qn ?_|refine Qp ?_|refine Qr ?_)
 | ((with_reducible first|apply Qy|apply Qz|apply QA)<;>intro hb<;>try simp only[nr] at hb)
 |simp only[go_sem,↓reduceIte,reduceIte,Qa,Qh,Qb,Qc,Qd,Qe,Qf,Qg,reduceCtorEq, *]
 |with_reducible refine fun(bn:Bool) hbn=>?_))
    all_goals ((repeat clear hK);(repeat clear hA);(repeat clear hB))
    all_goals first
     | (refine hM.on (xs.length-(i+1)) (by omega) (by simp only[go_sem,↓reduceIte,reduceIte,Qa,Qh,Qb,Qc,Qd,Qe,Qf,Qg,reduceCtorEq, *,Jf hlt hl]) ⟨i+1,rfl,by omega,by clear hM;apply ZY f2 hlt hlu;rw[JhC,Jax];grind,?_⟩;simp only[go_sem,↓reduceIte,reduceIte,Qa,Qh,Qb,Qc,Qd,Qe,Qf,Qg,reduceCtorEq, *,Jf hlt hl];done)
     | (clear hM;grind)
   ·have:=ZX f2 hlt hll
    (repeat' (first
 | (with_reducible first|assumption|(refine Qw hK _ ?_;clear hK K)|refine Qw ‹_› _ ?_|refine Qx ‹_› ?_|refine Qi fun K hK=>?_|refine Qj T fun K hK=>?_|refine Qk (id:=6) T mixed V4 (by kernel_rfl) fun K hK=>?_|refine Ql fun A B hA hB=>?_|refine Qm ?_|refine Qn ?_|refine Qp ?_|refine Qr ?_)
 | ((with_reducible first|apply Qy|apply Qz|apply QA)<;>intro hb<;>try simp only[nr] at hb)
 |simp only[go_sem,↓reduceIte,reduceIte,Qa,Qh,Qb,Qc,Qd,Qe,Qf,Qg,reduceCtorEq, *]
 |with_reducible refine fun(bn:Bool) hbn=>?_))
    all_goals ((repeat clear hK);(repeat clear hA);(repeat clear hB))
    all_goals (clear hM;grind)
 ·have:¬xs=ys:=by rintro rfl;exact hll rfl
  (repeat' (first
 | (with_reducible first|assumption|(refine Qw hK _ ?_;clear hK K)|refine Qw ‹_› _ ?_|refine Qx ‹_› ?_|refine Qi fun K hK=>?_|refine Qj T fun K hK=>?_|refine Qk (id:=6) T mixed V4 (by kernel_rfl) fun K hK=>?_|refine Ql fun A B hA hB=>?_|refine Qm ?_|refine Qn ?_|refine Qp ?_|refine Qr ?_)
 | ((with_reducible first|apply Qy|apply Qz|apply QA)<;>intro hb<;>try simp only[nr] at hb)
 |simp only[go_sem,↓reduceIte,reduceIte,Qa,Qh,Qb,Qc,Qd,Qe,Qf,Qg,reduceCtorEq, *]
 |with_reducible refine fun(bn:Bool) hbn=>?_))
  all_goals ((repeat clear hK);(repeat clear hA);(repeat clear hB))
  all_goals grind
end Go.Proofs.YtihahfhagobnoaaGreatDoor.Lg
