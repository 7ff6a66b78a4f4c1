/- Parts of the proof, one behind the other. -/
import Derived.Test.YtmjkjmoeicnbnaaGreatDoorG20
namespace Go.Proofs.YtmjkjmoeicnbnaaGreatDoor.Lg
set_option maxRecDepth 100000
set_option linter.unusedVariables false
set_option linter.unusedSimpArgs false
open Go
open Nat renaming reduceEqDiff → Qa, reduceLT → Qb, reduceLeDiff → Qc, reduceAdd → Qd, reduceMul → Qe, reduceSub → Qf, reduceBEq → Qg
open String renaming reduceEq → Qh
open SpecC renaming seqW → Qi, regW → Qj, drawW → Qk, condW → Ql, block → Qm, skip → Qn, exit → Qp, ret → Qr, loopF → Qs
open NxK renaming out → Qw
open Nx renaming out → Qx
open condK renaming split → Qy
open gK renaming split_t → Qz, split_f → QA
open List renaming getElem_mem → QC
def ZU(l:List Weight)(ys:List Key):List Key:=(VO l).foldl YX ys
def Yq(l:List Rule)(ys:List Key):List Key:=(JK l).foldl YX ys
theorem Jgs(y:Weight)(l:List Weight)(ys:List Key):ZU (y :: l) ys=ZU l (if 0<y.w then YX ys ⟨2,y.cluster⟩ else ys):=by
 unfold ZU VO
 rw[List.filter_cons]
 by_cases h:0<y.w
 ·rw[if_pos h,if_pos (by simpa using h)];rfl
 ·rw[if_neg h,if_neg (by simpa using h)]
theorem Jgr(z:Rule)(l:List Rule)(ys:List Key):Yq (z :: l) ys=Yq l (ZU z.split ys):=by
 unfold Yq ZU JK
 rw[List.flatMap_cons,List.foldl_append]
theorem JlW{r:Res}(h:JW r=0):Yq r.rules' (Vg r)=Jk r:=by
 obtain⟨u1,u2⟩:=Jdx h
 have hb:Up (Vg r):=by unfold Vg Up;split<;>simp
 obtain⟨v1,v2⟩:=Jgu (JK r.rules') hb
 exact Jix v1 u1 fun x=>by rw[u2,List.mem_append];exact v2 x
theorem Jkt(l:List Weight):(VO l).length≤l.length:=by unfold VO;rw[List.length_map];exact List.length_filter_le _ _
theorem JgK:∀(l:List Rule),(∀x∈l,x.split.length≤4)→(JK l).length≤4*l.length
 | [],_=>by simp[JK]
 |x :: l,h=>by
  rw[Jch,List.length_append,List.length_cons]
  have h1:=Jkt x.split
  have h2:=h x (by simp)
  have h3:=JgK l fun y hy=>h y (by simp[hy])
  omega
set_option maxHeartbeats 8000000 in
theorem VG(r_kind:Int)(r_name:List UInt8)(r_ver:Int)(r_port:Int)(r_to:List UInt8)(r_rules:List Rule)(r_hosts:List Int)(hl:Jc r_rules.length)(hh:Jc r_hosts.length)(hs:∀x∈r_rules,VB x)(hto:Jc r_to.length):CallR Tryz.prog 75 [.agg [.int .i64 r_kind,.str r_name,.int .i64 r_ver,.int .i64 r_port,.str r_to,.slice false (Ja r_rules),.slice false (Ja r_hosts)]] (.val (.slice false (Ja (Jk (⟨r_kind,r_name,r_ver,r_port,r_to,r_rules,r_hosts⟩:Res))))):=by
 have hsc:=Yy r_kind r_name r_ver r_port r_to r_rules r_hosts hl hh hs
 by_cases hsn:JW (⟨r_kind,r_name,r_ver,r_port,r_to,r_rules,r_hosts⟩:Res)=0
 rotate_left
 ·rw[Je1 hsn]
  refine CallR.go1 (T:=T) Tryz.call75 Tryz.func75 rfl Tryz.ntmps75 (congrArg Array.toList Tryz.results75) (by decide) fun ts hn h0=>?_
  (repeat' (first
 | (with_reducible first|refine callX.by (hsc) ?_|refine callX.by (Yy _ _ _ _ _ _ _ ?_ ?_ ?_) ?_|refine callX.by (YI _ _ _ ?_ ?_ ?_) ?_|assumption|(refine Qw hK _ ?_;clear hK K)|refine Qw ‹_› _ ?_|refine Qx ‹_› ?_|refine Qi fun K hK=>?_|refine Qj T fun K hK=>?_|refine Ql fun A B hA hB=>?_|refine Qm ?_|refine Qn ?_|refine Qp ?_|refine Qr ?_)
 | ((with_reducible first|apply Qy|apply Qz|apply QA)<;>intro hb<;>try simp only[nr] at hb)
 |simp only[go_sem,↓reduceIte,reduceIte,Qa,Qh,Qb,Qc,Qd,Qe,Qf,Qg,reduceCtorEq, *,-hs,-hsc,Vo]
 |with_reducible refine fun(bn:Bool) hbn=>?_))
 rw[hsn] at hsc
 have e:=JlW hsn
 rw[←e]
 clear e
 have hsm:=Jff hsn
 have hw4:∀x∈r_rules,x.split.length≤4:=fun x hx=>(Jik hsm hx).1
 have hkl:=JgK r_rules hw4
 have hl8:r_rules.length≤8:=by
  simp only[Vj,Bool.and_eq_true,decide_eq_true_eq] at hsm
  exact hsm.2.2.1
 have hk4:=Jig hsn
 have hne:=JeD hsn
 have hwk:=Jfw hsn
 simp only at hk4 hne hwk hkl
 have hsp:∀x∈r_rules,Jc x.split.length:=fun x hx=>by have:=hw4 x hx;unfold Jc;omega
 have hcl:∀x∈r_rules,∀y∈x.split,Jc y.cluster.length:=fun x hx y hy=>(hs x hx).2.2.2 y hy
 have t0:(0:Int).tmod 2=0:=by decide
 have t1:¬(1:Int).tmod 2=0:=by decide
 have t2:(2:Int).tmod 2=0:=by decide
 have t3:¬(3:Int).tmod 2=0:=by decide
 have hbs:Vg ⟨r_kind,r_name,r_ver,r_port,r_to,r_rules,r_hosts⟩=if r_kind.tmod 2=0 then [⟨r_kind+1,r_to⟩] else []:=by
  unfold Vg
  rcases hk4 with rfl|rfl|rfl|rfl
  ·rw[if_neg (hne.2 (.inl rfl)),if_pos t0];rfl
  ·rw[if_pos (Classical.byContradiction fun h=>by have:=hne.1 h;omega),if_neg t1]
  ·rw[if_neg (hne.2 (.inr rfl)),if_pos t2];rfl
  ·rw[if_pos (Classical.byContradiction fun h=>by have:=hne.1 h;omega),if_neg t3]
 have hkk:(r_kind.tmod 2=0)∨¬(r_kind.tmod 2=0):=Classical.em _
 rw[hbs]
 clear hsn hsm hk4 hne t0 t1 t2 t3 hbs hw4
 have hro:JT 1 24:=Jaa (by omega) (by decide)
 have hys0:∀ys0:List Key,(ys0=[]∨ys0=[⟨r_kind+1,r_to⟩])→ys0.length≤1∧∀x∈ys0,Jc x.name.length:=by
  rintro ys0 (rfl|rfl)
  ·simp
  ·refine⟨by simp,fun x hx=>?_⟩
   rw[List.mem_singleton] at hx
   subst hx;exact hto
 rcases hkk with hk|hk
 ·rw[if_pos hk]
  obtain⟨hy1,hy2⟩:=hys0 [⟨r_kind+1,r_to⟩] (.inr rfl)
  clear hys0
  refine CallR.go1 (T:=T) Tryz.call75 Tryz.func75 rfl Tryz.ntmps75 (congrArg Array.toList Tryz.results75) (by decide) fun ts hn h0=>?_
  (repeat' (first
 | (with_reducible first|refine callX.by (hsc) ?_|refine callX.by (Yy _ _ _ _ _ _ _ ?_ ?_ ?_) ?_|refine callX.by (YI _ _ _ ?_ ?_ ?_) ?_|assumption|(refine Qw hK _ ?_;clear hK K)|refine Qw ‹_› _ ?_|refine Qx ‹_› ?_|refine Qi fun K hK=>?_|refine Qj T fun K hK=>?_|refine Ql fun A B hA hB=>?_|refine Qm ?_|refine Qn ?_|refine Qp ?_|refine Qr ?_)
 | ((with_reducible first|apply Qy|apply Qz|apply QA)<;>intro hb<;>try simp only[nr] at hb)
 |simp only[go_sem,↓reduceIte,reduceIte,Qa,Qh,Qb,Qc,Qd,Qe,Qf,Qg,reduceCtorEq, *,-hs,-hsc,-hsp,-hcl,-hy1,-hy2,Int.reduceEq]
 |with_reducible refine fun(bn:Bool) hbn=>?_))
  refine SpecC.ent (Ent.ren 3 21 (by simp only[go_sem,↓reduceIte,reduceIte,Qa,Qh,Qb,Qc,Qd,Qe,Qf,Qg,reduceCtorEq, *,-hs,-hsc,-hsp,-hcl,-hy1,-hy2];done) (by simp only[go_sem,↓reduceIte,reduceIte,Qa,Qh,Qb,Qc,Qd,Qe,Qf,Qg,reduceCtorEq, *,-hs,-hsc,-hsp,-hcl,-hy1,-hy2];done)) ?_
  clear hk hwk hsc hro
  generalize hY:[(⟨r_kind+1,r_to⟩:Key)]=ys0 at *
  have hYl:ys0.length=1:=by rw[←hY];rfl
  have hYa:Ja ys0=[AV.agg [.int .i64 (r_kind+1),.str r_to]]:=by rw[←hY];rfl
  refine Qs [1] (fun m ts'=>∃(i:Nat),∃(g:Nat),∃(ys:List Key),m=r_rules.length-i∧i≤r_rules.length∧Yq r_rules ys0=Yq (r_rules.drop i) ys∧ys.length+(JK (r_rules.drop i)).length≤(JK r_rules).length+1∧(∀x∈ys,Jc x.name.length)∧ts'.tmp 3=.os 3 g ys.length∧ts'.gen 3=g∧ts'.obj 3=.arr 2 (Ja ys)∧ts'.tmp 4=.int .i64 i) r_rules.length ?_ ?_
  ·refine⟨0,ts.gen 3+1,ys0,rfl,Nat.zero_le _,rfl,by simp;omega,hy2,?_⟩
   simp only[go_sem,↓reduceIte,reduceIte,Qa,Qh,Qb,Qc,Qd,Qe,Qf,Qg,reduceCtorEq, *,-hs,-hsp,-hcl,-hy2,-hY]
  ·clear hY hYl hYa
   rintro m A hM ts' hk ⟨i,g,ys,hm,f1,f2,f3,f4,s1,s2,s3,s4⟩
   simp only[go_sem,↓reduceIte,reduceIte,Qa,Qh,Qb,Qc,Qd,Qe,Qf,Qg,reduceCtorEq, *] at hk
   by_cases hlt:i<r_rules.length
   ·rw[List.drop_eq_getElem_cons hlt,Jgr] at f2
    rw[List.drop_eq_getElem_cons hlt,Jch,List.length_append] at f3
    have hspi:=hsp _ (QC hlt)
    have hcli:=hcl _ (QC hlt)
    (repeat' (first
 | (with_reducible first|refine callX.by (Yy _ _ _ _ _ _ _ ?_ ?_ ?_) ?_|refine callX.by (YI _ _ _ ?_ ?_ ?_) ?_|assumption|(refine Qw hK _ ?_;clear hK K)|refine Qw ‹_› _ ?_|refine Qx ‹_› ?_|refine Qi fun K hK=>?_|refine Qj T fun K hK=>?_|refine Ql fun A B hA hB=>?_|refine Qm ?_|refine Qn ?_|refine Qp ?_|refine Qr ?_)
 | ((with_reducible first|apply Qy|apply Qz|apply QA)<;>intro hb<;>try simp only[nr] at hb)
 |simp only[go_sem,↓reduceIte,reduceIte,Qa,Qh,Qb,Qc,Qd,Qe,Qf,Qg,reduceCtorEq, *,-hs,-hsp,-hcl,-hy2,-f2,-f3,-f4,-hcli]
 |with_reducible refine fun(bn:Bool) hbn=>?_))
    refine Qs [1,4] (fun m ts'=>∃(j:Nat),∃(g:Nat),∃(ys:List Key),m=r_rules[i].split.length-j∧j≤r_rules[i].split.length∧Yq r_rules ys0=Yq (r_rules.drop (i+1)) (ZU (r_rules[i].split.drop j) ys)∧ys.length+((VO (r_rules[i].split.drop j)).length+(JK (r_rules.drop (i+1))).length)≤(JK r_rules).length+1∧(∀x∈ys,Jc x.name.length)∧ts'.tmp 3=.os 3 g ys.length∧ts'.gen 3=g∧ts'.obj 3=.arr 2 (Ja ys)∧ts'.tmp 5=.int .i64 j) r_rules[i].split.length ?_ ?_
    ·refine⟨0,g,ys,rfl,Nat.zero_le _,f2,f3,f4,?_⟩
     simp only[go_sem,↓reduceIte,reduceIte,Qa,Qh,Qb,Qc,Qd,Qe,Qf,Qg,reduceCtorEq, *,-hs,-hsp,-hcl,-hy2,-f2,-f3,-f4,-hcli]
    ·clear f2 f3 f4
     revert hM
     intro hM0
     rintro m A hM ts' hk ⟨j,g,ys,hm,f1,f2,f3,f4,s1,s2,s3,s4⟩
     simp only[go_sem,↓reduceIte,reduceIte,Qa,Qh,Qb,Qc,Qd,Qe,Qf,Qg,reduceCtorEq, *] at hk
     have hly:Jc ys.length:=by unfold Jc;omega
     by_cases hjt:j<r_rules[i].split.length
     ·have hn1:=hcli _ (QC hjt)
      rw[List.drop_eq_getElem_cons hjt,Jgs] at f2
      rw[List.drop_eq_getElem_cons hjt,JeC,List.length_append] at f3
      by_cases hp:0<r_rules[i].split[j].w
      ·rw[if_pos hp] at f2 f3
       (repeat' (first
 | (with_reducible first|refine callX.by (Yy _ _ _ _ _ _ _ ?_ ?_ ?_) ?_|refine callX.by (YI _ _ _ ?_ ?_ ?_) ?_|assumption|(refine Qw hK _ ?_;clear hK K)|refine Qw ‹_› _ ?_|refine Qx ‹_› ?_|refine Qi fun K hK=>?_|refine Qj T fun K hK=>?_|refine Ql fun A B hA hB=>?_|refine Qm ?_|refine Qn ?_|refine Qp ?_|refine Qr ?_)
 | ((with_reducible first|apply Qy|apply Qz|apply QA)<;>intro hb<;>try simp only[nr] at hb)
 |simp only[go_sem,↓reduceIte,reduceIte,Qa,Qh,Qb,Qc,Qd,Qe,Qf,Qg,reduceCtorEq, *,-hs,-hsp,-hcl,-hy2,-f2,-f3,-hcli]
 |with_reducible refine fun(bn:Bool) hbn=>?_))
       all_goals ((repeat clear hK);(repeat clear hA);(repeat clear hB))
       have hkl2:=JgP ys ⟨2,r_rules[i].split[j].cluster⟩
       (refine hM.onE (r_rules[i].split.length-(j+1)) (Ent.ren 3 63 ?_ ?_) ?_ ?_ ?_;(focus(simp only[go_sem,↓reduceIte,reduceIte,Qa,Qh,Qb,Qc,Qd,Qe,Qf,Qg,reduceCtorEq, *,Jd hjt hspi,-hs,-hsp,-hcl,-hy2,-f2,-f3,-hkl2,-hcli];first|done|rfl));(focus(simp only[go_sem,↓reduceIte,reduceIte,Qa,Qh,Qb,Qc,Qd,Qe,Qf,Qg,reduceCtorEq, *,Jd hjt hspi,-hs,-hsp,-hcl,-hy2,-f2,-f3,-hkl2,-hcli];first|done|rfl));omega;(focus(simp only[go_sem,↓reduceIte,reduceIte,Qa,Qh,Qb,Qc,Qd,Qe,Qf,Qg,reduceCtorEq, *,Jd hjt hspi,-hs,-hsp,-hcl,-hy2,-f2,-f3,-hkl2,-hcli];done));refine⟨j+1,g+1,YX ys ⟨2,r_rules[i].split[j].cluster⟩,rfl,by omega,f2,by simp only[List.length_singleton] at f3;omega,fun x hx=>(JgQ hx).elim (fun e=>by rw[e];exact hn1) (f4 x),?_⟩;simp only[go_sem,↓reduceIte,reduceIte,Qa,Qh,Qb,Qc,Qd,Qe,Qf,Qg,reduceCtorEq, *,Jd hjt hspi,-hs,-hsp,-hcl,-hy2,-f2,-f3,-hkl2,-hcli];done)
      ·rw[if_neg hp] at f2 f3
       (repeat' (first
 | (with_reducible first|refine callX.by (Yy _ _ _ _ _ _ _ ?_ ?_ ?_) ?_|refine callX.by (YI _ _ _ ?_ ?_ ?_) ?_|assumption|(refine Qw hK _ ?_;clear hK K)|refine Qw ‹_› _ ?_|refine Qx ‹_› ?_|refine Qi fun K hK=>?_|refine Qj T fun K hK=>?_|refine Ql fun A B hA hB=>?_|refine Qm ?_|refine Qn ?_|refine Qp ?_|refine Qr ?_)
 | ((with_reducible first|apply Qy|apply Qz|apply QA)<;>intro hb<;>try simp only[nr] at hb)
 |simp only[go_sem,↓reduceIte,reduceIte,Qa,Qh,Qb,Qc,Qd,Qe,Qf,Qg,reduceCtorEq, *,-hs,-hsp,-hcl,-hy2,-f2,-f3,-hcli]
 |with_reducible refine fun(bn:Bool) hbn=>?_))
       all_goals ((repeat clear hK);(repeat clear hA);(repeat clear hB))
       (refine hM.on (r_rules[i].split.length-(j+1)) (by omega) (by simp only[go_sem,↓reduceIte,reduceIte,Qa,Qh,Qb,Qc,Qd,Qe,Qf,Qg,reduceCtorEq, *,Jd hjt hspi,-hs,-hsp,-hcl,-hy2,-f2,-f3,-hcli]) ⟨j+1,g,ys,rfl,by omega,f2,by simp only[List.length_nil] at f3;omega,f4,?_⟩;simp only[go_sem,↓reduceIte,reduceIte,Qa,Qh,Qb,Qc,Qd,Qe,Qf,Qg,reduceCtorEq, *,Jd hjt hspi,-hs,-hsp,-hcl,-hy2,-f2,-f3,-hcli];done)
     ·rw[List.drop_eq_nil_of_le (show r_rules[i].split.length≤j by omega)] at f2
      rw[show ZU [] ys=ys from rfl] at f2
      (repeat' (first
 | (with_reducible first|refine callX.by (Yy _ _ _ _ _ _ _ ?_ ?_ ?_) ?_|refine callX.by (YI _ _ _ ?_ ?_ ?_) ?_|assumption|(refine Qw hK _ ?_;clear hK K)|refine Qw ‹_› _ ?_|refine Qx ‹_› ?_|refine Qi fun K hK=>?_|refine Qj T fun K hK=>?_|refine Ql fun A B hA hB=>?_|refine Qm ?_|refine Qn ?_|refine Qp ?_|refine Qr ?_)
 | ((with_reducible first|apply Qy|apply Qz|apply QA)<;>intro hb<;>try simp only[nr] at hb)
 |simp only[go_sem,↓reduceIte,reduceIte,Qa,Qh,Qb,Qc,Qd,Qe,Qf,Qg,reduceCtorEq, *,-hs,-hsp,-hcl,-hy2,-f2,-f3,-hcli]
 |with_reducible refine fun(bn:Bool) hbn=>?_))
      all_goals ((repeat clear hK);(repeat clear hA);(repeat clear hB))
      all_goals (clear hM;revert hM0;intro hM)
      (refine hM.on (r_rules.length-(i+1)) (by omega) (by simp only[go_sem,↓reduceIte,reduceIte,Qa,Qh,Qb,Qc,Qd,Qe,Qf,Qg,reduceCtorEq, *,Jd hlt hl,-hs,-hsp,-hcl,-hy2,-f2,-f3,-hcli]) ⟨i+1,ts'.gen 3,ys,rfl,by omega,f2,by omega,f4,?_⟩;simp only[go_sem,↓reduceIte,reduceIte,Qa,Qh,Qb,Qc,Qd,Qe,Qf,Qg,reduceCtorEq, *,Jd hlt hl,-hs,-hsp,-hcl,-hy2,-f2,-f3,-hcli];done)
   ·rw[List.drop_eq_nil_of_le (by omega)] at f2
    rw[show Yq [] ys=ys from rfl] at f2
    (repeat' (first
 | (with_reducible first|refine callX.by (Yy _ _ _ _ _ _ _ ?_ ?_ ?_) ?_|refine callX.by (YI _ _ _ ?_ ?_ ?_) ?_|assumption|(refine Qw hK _ ?_;clear hK K)|refine Qw ‹_› _ ?_|refine Qx ‹_› ?_|refine Qi fun K hK=>?_|refine Qj T fun K hK=>?_|refine Ql fun A B hA hB=>?_|refine Qm ?_|refine Qn ?_|refine Qp ?_|refine Qr ?_)
 | ((with_reducible first|apply Qy|apply Qz|apply QA)<;>intro hb<;>try simp only[nr] at hb)
 |simp only[go_sem,↓reduceIte,reduceIte,Qa,Qh,Qb,Qc,Qd,Qe,Qf,Qg,reduceCtorEq, *,-hs,-hsp,-hcl,-hy2,-f2,-f3]
 |with_reducible refine fun(bn:Bool) hbn=>?_))
    all_goals ((repeat clear hK);(repeat clear hA);(repeat clear hB))
    all_goals (first|rfl|(rw[f2];done)|(rw[f2];simp;done))
 ·rw[if_neg hk]
  clear hys0
  obtain⟨ys0,hY⟩:∃ys0:List Key,ys0=[]:=⟨_,rfl⟩
  rw[←hY]
  refine CallR.go1 (T:=T) Tryz.call75 Tryz.func75 rfl Tryz.ntmps75 (congrArg Array.toList Tryz.results75) (by decide) fun ts hn h0=>?_
  (repeat' (first
 | (with_reducible first|refine callX.by (hsc) ?_|refine callX.by (Yy _ _ _ _ _ _ _ ?_ ?_ ?_) ?_|refine callX.by (YI _ _ _ ?_ ?_ ?_) ?_|assumption|(refine Qw hK _ ?_;clear hK K)|refine Qw ‹_› _ ?_|refine Qx ‹_› ?_|refine Qi fun K hK=>?_|refine Qj T fun K hK=>?_|refine Ql fun A B hA hB=>?_|refine Qm ?_|refine Qn ?_|refine Qp ?_|refine Qr ?_)
 | ((with_reducible first|apply Qy|apply Qz|apply QA)<;>intro hb<;>try simp only[nr] at hb)
 |simp only[go_sem,↓reduceIte,reduceIte,Qa,Qh,Qb,Qc,Qd,Qe,Qf,Qg,reduceCtorEq, *,-hs,-hsc,-hsp,-hcl,-hY,Int.reduceEq]
 |with_reducible refine fun(bn:Bool) hbn=>?_))
  refine SpecC.ent (Ent.virt 3 2 (by simp only[go_sem,↓reduceIte,reduceIte,Qa,Qh,Qb,Qc,Qd,Qe,Qf,Qg,reduceCtorEq, *,-hs,-hsc,-hsp,-hcl,-hY]) (by decide)) ?_
  clear hk hwk hsc hro
  have hYl:ys0.length=0:=by rw[hY];rfl
  have hYa:Ja ys0=[]:=by rw[hY];rfl
  have hy2:∀x∈ys0,Jc x.name.length:=by rw[hY];simp
  refine Qs [1] (fun m ts'=>∃(i:Nat),∃(g:Nat),∃(ys:List Key),m=r_rules.length-i∧i≤r_rules.length∧Yq r_rules ys0=Yq (r_rules.drop i) ys∧ys.length+(JK (r_rules.drop i)).length≤(JK r_rules).length+1∧(∀x∈ys,Jc x.name.length)∧ts'.tmp 3=.os 3 g ys.length∧ts'.gen 3=g∧ts'.obj 3=.arr 2 (Ja ys)∧ts'.tmp 4=.int .i64 i) r_rules.length ?_ ?_
  ·refine⟨0,ts.gen 3+1,ys0,rfl,Nat.zero_le _,rfl,by simp;omega,hy2,?_⟩
   simp only[go_sem,↓reduceIte,reduceIte,Qa,Qh,Qb,Qc,Qd,Qe,Qf,Qg,reduceCtorEq, *,-hs,-hsp,-hcl,-hy2,-hY]
  ·clear hY hYl hYa
   rintro m A hM ts' hk ⟨i,g,ys,hm,f1,f2,f3,f4,s1,s2,s3,s4⟩
   simp only[go_sem,↓reduceIte,reduceIte,Qa,Qh,Qb,Qc,Qd,Qe,Qf,Qg,reduceCtorEq, *] at hk
   by_cases hlt:i<r_rules.length
   ·rw[List.drop_eq_getElem_cons hlt,Jgr] at f2
    rw[List.drop_eq_getElem_cons hlt,Jch,List.length_append] at f3
    have hspi:=hsp _ (QC hlt)
    have hcli:=hcl _ (QC hlt)
    (repeat' (first
 | (with_reducible first|refine callX.by (Yy _ _ _ _ _ _ _ ?_ ?_ ?_) ?_|refine callX.by (YI _ _ _ ?_ ?_ ?_) ?_|assumption|(refine Qw hK _ ?_;clear hK K)|refine Qw ‹_› _ ?_|refine Qx ‹_› ?_|refine Qi fun K hK=>?_|refine Qj T fun K hK=>?_|refine Ql fun A B hA hB=>?_|refine Qm ?_|refine Qn ?_|refine Qp ?_|refine Qr ?_)
 | ((with_reducible first|apply Qy|apply Qz|apply QA)<;>intro hb<;>try simp only[nr] at hb)
 |simp only[go_sem,↓reduceIte,reduceIte,Qa,Qh,Qb,Qc,Qd,Qe,Qf,Qg,reduceCtorEq, *,-hs,-hsp,-hcl,-hy2,-f2,-f3,-f4,-hcli]
 |with_reducible refine fun(bn:Bool) hbn=>?_))
    refine Qs [1,4] (fun m ts'=>∃(j:Nat),∃(g:Nat),∃(ys:List Key),m=r_rules[i].split.length-j∧j≤r_rules[i].split.length∧Yq r_rules ys0=Yq (r_rules.drop (i+1)) (ZU (r_rules[i].split.drop j) ys)∧ys.length+((VO (r_rules[i].split.drop j)).length+(JK (r_rules.drop (i+1))).length)≤(JK r_rules).length+1∧(∀x∈ys,Jc x.name.length)∧ts'.tmp 3=.os 3 g ys.length∧ts'.gen 3=g∧ts'.obj 3=.arr 2 (Ja ys)∧ts'.tmp 5=.int .i64 j) r_rules[i].split.length ?_ ?_
    ·refine⟨0,g,ys,rfl,Nat.zero_le _,f2,f3,f4,?_⟩
     simp only[go_sem,↓reduceIte,reduceIte,Qa,Qh,Qb,Qc,Qd,Qe,Qf,Qg,reduceCtorEq, *,-hs,-hsp,-hcl,-hy2,-f2,-f3,-f4,-hcli]
    ·clear f2 f3 f4
     revert hM
     intro hM0
     rintro m A hM ts' hk ⟨j,g,ys,hm,f1,f2,f3,f4,s1,s2,s3,s4⟩
     simp only[go_sem,↓reduceIte,reduceIte,Qa,Qh,Qb,Qc,Qd,Qe,Qf,Qg,reduceCtorEq, *] at hk
     have hly:Jc ys.length:=by unfold Jc;omega
     by_cases hjt:j<r_rules[i].split.length
     ·have hn1:=hcli _ (QC hjt)
      rw[List.drop_eq_getElem_cons hjt,Jgs] at f2
      rw[List.drop_eq_getElem_cons hjt,JeC,List.length_append] at f3
      by_cases hp:0<r_rules[i].split[j].w
      ·rw[if_pos hp] at f2 f3
       (repeat' (first
 | (with_reducible first|refine callX.by (Yy _ _ _ _ _ _ _ ?_ ?_ ?_) ?_|refine callX.by (YI _ _ _ ?_ ?_ ?_) ?_|assumption|(refine Qw hK _ ?_;clear hK K)|refine Qw ‹_› _ ?_|refine Qx ‹_› ?_|refine Qi fun K hK=>?_|refine Qj T fun K hK=>?_|refine Ql fun A B hA hB=>?_|refine Qm ?_|refine Qn ?_|refine Qp ?_|refine Qr ?_)
 | ((with_reducible first|apply Qy|apply Qz|apply QA)<;>intro hb<;>try simp only[nr] at hb)
 |simp only[go_sem,↓reduceIte,reduceIte,Qa,Qh,Qb,Qc,Qd,Qe,Qf,Qg,reduceCtorEq, *,-hs,-hsp,-hcl,-hy2,-f2,-f3,-hcli]
 |with_reducible refine fun(bn:Bool) hbn=>?_))
       all_goals ((repeat clear hK);(repeat clear hA);(repeat clear hB))
       have hkl2:=JgP ys ⟨2,r_rules[i].split[j].cluster⟩
       (refine hM.onE (r_rules[i].split.length-(j+1)) (Ent.ren 3 63 ?_ ?_) ?_ ?_ ?_;(focus(simp only[go_sem,↓reduceIte,reduceIte,Qa,Qh,Qb,Qc,Qd,Qe,Qf,Qg,reduceCtorEq, *,Jd hjt hspi,-hs,-hsp,-hcl,-hy2,-f2,-f3,-hkl2,-hcli];first|done|rfl));(focus(simp only[go_sem,↓reduceIte,reduceIte,Qa,Qh,Qb,Qc,Qd,Qe,Qf,Qg,reduceCtorEq, *,Jd hjt hspi,-hs,-hsp,-hcl,-hy2,-f2,-f3,-hkl2,-hcli];first|done|rfl));omega;(focus(simp only[go_sem,↓reduceIte,reduceIte,Qa,Qh,Qb,Qc,Qd,Qe,Qf,Qg,reduceCtorEq, *,Jd hjt hspi,-hs,-hsp,-hcl,-hy2,-f2,-f3,-hkl2,-hcli];done));refine⟨j+1,g+1,YX ys ⟨2,r_rules[i].split[j].cluster⟩,rfl,by omega,f2,by simp only[List.length_singleton] at f3;omega,fun x hx=>(JgQ hx).elim (fun e=>by rw[e];exact hn1) (f4 x),?_⟩;simp only[go_sem,↓reduceIte,reduceIte,Qa,Qh,Qb,Qc,Qd,Qe,Qf,Qg,reduceCtorEq, *,Jd hjt hspi,-hs,-hsp,-hcl,-hy2,-f2,-f3,-hkl2,-hcli];done)
      ·rw[if_neg hp] at f2 f3
       (repeat' (first
 | (with_reducible first|refine callX.by (Yy _ _ _ _ _ _ _ ?_ ?_ ?_) ?_|refine callX.by (YI _ _ _ ?_ ?_ ?_) ?_|assumption|(refine Qw hK _ ?_;clear hK K)|refine Qw ‹_› _ ?_|refine Qx ‹_› ?_|refine Qi fun K hK=>?_|refine Qj T fun K hK=>?_|refine Ql fun A B hA hB=>?_|refine Qm ?_|refine Qn ?_|refine Qp ?_|refine Qr ?_)
 | ((with_reducible first|apply Qy|apply Qz|apply QA)<;>intro hb<;>try simp only[nr] at hb)
 |simp only[go_sem,↓reduceIte,reduceIte,Qa,Qh,Qb,Qc,Qd,Qe,Qf,Qg,reduceCtorEq, *,-hs,-hsp,-hcl,-hy2,-f2,-f3,-hcli]
 |with_reducible refine fun(bn:Bool) hbn=>?_))
       all_goals ((repeat clear hK);(repeat clear hA);(repeat clear hB))
       (refine hM.on (r_rules[i].split.length-(j+1)) (by omega) (by simp only[go_sem,↓reduceIte,reduceIte,Qa,Qh,Qb,Qc,Qd,Qe,Qf,Qg,reduceCtorEq, *,Jd hjt hspi,-hs,-hsp,-hcl,-hy2,-f2,-f3,-hcli]) ⟨j+1,g,ys,rfl,by omega,f2,by simp only[List.length_nil] at f3;omega,f4,?_⟩;simp only[go_sem,↓reduceIte,reduceIte,Qa,Qh,Qb,Qc,Qd,Qe,Qf,Qg,reduceCtorEq, *,Jd hjt hspi,-hs,-hsp,-hcl,-hy2,-f2,-f3,-hcli];done)
     ·rw[List.drop_eq_nil_of_le (show r_rules[i].split.length≤j by omega)] at f2
      rw[show ZU [] ys=ys from rfl] at f2
      (repeat' (first
 | (with_reducible first|refine callX.by (Yy _ _ _ _ _ _ _ ?_ ?_ ?_) ?_|refine callX.by (YI _ _ _ ?_ ?_ ?_) ?_|assumption|(refine Qw hK _ ?_;clear hK K)|refine Qw ‹_› _ ?_|refine Qx ‹_› ?_|refine Qi fun K hK=>?_|refine Qj T fun K hK=>?_|refine Ql fun A B hA hB=>?_|refine Qm ?_|refine Qn ?_|refine Qp ?_|refine Qr ?_)
 | ((with_reducible first|apply Qy|apply Qz|apply QA)<;>intro hb<;>try simp only[nr] at hb)
 |simp only[go_sem,↓reduceIte,reduceIte,Qa,Qh,Qb,Qc,Qd,Qe,Qf,Qg,reduceCtorEq, *,-hs,-hsp,-hcl,-hy2,-f2,-f3,-hcli]
 |with_reducible refine fun(bn:Bool) hbn=>?_))
      all_goals ((repeat clear hK);(repeat clear hA);(repeat clear hB))
      all_goals (clear hM;revert hM0;intro hM)
      (refine hM.on (r_rules.length-(i+1)) (by omega) (by simp only[go_sem,↓reduceIte,reduceIte,Qa,Qh,Qb,Qc,Qd,Qe,Qf,Qg,reduceCtorEq, *,Jd hlt hl,-hs,-hsp,-hcl,-hy2,-f2,-f3,-hcli]) ⟨i+1,ts'.gen 3,ys,rfl,by omega,f2,by omega,f4,?_⟩;simp only[go_sem,↓reduceIte,reduceIte,Qa,Qh,Qb,Qc,Qd,Qe,Qf,Qg,reduceCtorEq, *,Jd hlt hl,-hs,-hsp,-hcl,-hy2,-f2,-f3,-hcli];done)
   ·rw[List.drop_eq_nil_of_le (by omega)] at f2
    rw[show Yq [] ys=ys from rfl] at f2
    (repeat' (first
 | (with_reducible first|refine callX.by (Yy _ _ _ _ _ _ _ ?_ ?_ ?_) ?_|refine callX.by (YI _ _ _ ?_ ?_ ?_) ?_|assumption|(refine Qw hK _ ?_;clear hK K)|refine Qw ‹_› _ ?_|refine Qx ‹_› ?_|refine Qi fun K hK=>?_|refine Qj T fun K hK=>?_|refine Ql fun A B hA hB=>?_|refine Qm ?_|refine Qn ?_|refine Qp ?_|refine Qr ?_)
 | ((with_reducible first|apply Qy|apply Qz|apply QA)<;>intro hb<;>try simp only[nr] at hb)
 |simp only[go_sem,↓reduceIte,reduceIte,Qa,Qh,Qb,Qc,Qd,Qe,Qf,Qg,reduceCtorEq, *,-hs,-hsp,-hcl,-hy2,-f2,-f3]
 |with_reducible refine fun(bn:Bool) hbn=>?_))
    all_goals ((repeat clear hK);(repeat clear hA);(repeat clear hB))
    all_goals (first|rfl|(rw[f2];done)|(rw[f2];simp;done))
@[go_sem] def YR:List (List Nat×List Nat):=[([13],[14,17,18]),([14],[13,17,18]),([15],[18]),([16],[18]),([17],[13,14,18]),([18],[13,14,15,16,17])]
@[go_sem] def JcO:List (List Nat×List Nat):=[([15],[16,19,20,21,22]),([16],[15,19,20,21,22]),([17],[20,21,22]),([18],[20,22]),([19],[15,16,20,22]),([20],[15,16,17,18,19,22]),([21],[15,16,17,22]),([22],[15,16,17,18,19,20,21])]
theorem JmN(x:Res)(l:List Res)(k:Key):JF (x :: l) k=if Je x=k then some x else JF l k:=by
 unfold JF
 rw[List.find?_cons]
 by_cases h:Je x=k<;>simp[h]
theorem YT(xs:List Res)(k_kind:Int)(k_name:List UInt8)(hl:Jc xs.length):CallR Tryz.prog 134 [.slice false (Ja xs),.agg [.int .i64 k_kind,.str k_name]] (.val (.tup [Dat.av ((JF xs (⟨k_kind,k_name⟩:Key)).getD Jbb),.bool (JF xs (⟨k_kind,k_name⟩:Key)).isSome])):=by
 rw[JbZ]
 refine CallR.go2 (T:=T) Tryz.call134 Tryz.func134 rfl Tryz.ntmps134 (congrArg Array.toList Tryz.results134) (by decide) fun ts hn h0 h1=>?_
 (repeat' (first
 | (with_reducible first|refine callX.by (JC _ _ _ _ _ _ _) ?_|assumption|(refine Qw hK _ ?_;clear hK K)|refine Qw ‹_› _ ?_|refine Qx ‹_› ?_|refine Qi fun K hK=>?_|refine Qj T fun K hK=>?_|refine Qk (id:=4) T mixed YR (by kernel_rfl) fun K hK=>?_|refine Ql fun A B hA hB=>?_|refine Qm ?_|refine Qn ?_|refine Qp ?_|refine Qr ?_)
 | ((with_reducible first|apply Qy|apply Qz|apply QA)<;>intro hb<;>try simp only[nr] at hb)
 |simp only[go_sem,↓reduceIte,reduceIte,Qa,Qh,Qb,Qc,Qd,Qe,Qf,Qg,reduceCtorEq, *]
 |with_reducible refine fun(bn:Bool) hbn=>?_))
 refine Qs [0,3] (fun m ts'=>∃(i:Nat),m=xs.length-i∧i≤xs.length∧JF xs (⟨k_kind,k_name⟩:Key)=JF (xs.drop i) (⟨k_kind,k_name⟩:Key)∧ts'.tmp 6=.int .i64 i∧ts'.tmp 4=.ref 4 (ts.gen 4+1) 0∧ts'.gen 4=ts.gen 4+1∧ts'.obj 4=.box [.int .i64 0,.str [],.int .i64 0,.int .i64 0,.str [],.slice true [],.slice true []]) xs.length ?_ ?_
 ·refine⟨0,?_⟩
  simp only[go_sem,↓reduceIte,reduceIte,Qa,Qh,Qb,Qc,Qd,Qe,Qf,Qg,reduceCtorEq, *]
 ·rintro m A hM ts' hk ⟨i,hm,f1,f2,s1,s2,s3,s4⟩
  simp only[go_sem,↓reduceIte,reduceIte,Qa,Qh,Qb,Qc,Qd,Qe,Qf,Qg,reduceCtorEq, *] at hk
  by_cases hlt:i<xs.length
  ·rw[List.drop_eq_getElem_cons hlt,JmN] at f2
   by_cases hk:Je xs[i]=(⟨k_kind,k_name⟩:Key)
   ·rw[if_pos hk] at f2
    have hk1:xs[i].kind=k_kind:=congrArg Key.kind hk
    have hk2:xs[i].name=k_name:=congrArg Key.name hk
    rw[f2]
    (repeat' (first
 | (with_reducible first|refine callX.by (JC _ _ _ _ _ _ _) ?_|assumption|(refine Qw hK _ ?_;clear hK K)|refine Qw ‹_› _ ?_|refine Qx ‹_› ?_|refine Qi fun K hK=>?_|refine Qj T fun K hK=>?_|refine Qk (id:=4) T mixed YR (by kernel_rfl) fun K hK=>?_|refine Ql fun A B hA hB=>?_|refine Qm ?_|refine Qn ?_|refine Qp ?_|refine Qr ?_)
 | ((with_reducible first|apply Qy|apply Qz|apply QA)<;>intro hb<;>try simp only[nr] at hb)
 |simp only[go_sem,↓reduceIte,reduceIte,Qa,Qh,Qb,Qc,Qd,Qe,Qf,Qg,reduceCtorEq, *,-f2,-hk,Option.getD_some,Option.isSome_some]
 |with_reducible refine fun(bn:Bool) hbn=>?_))
    all_goals trace_state
   ·rw[if_neg hk] at f2
    have hk1:¬(xs[i].kind=k_kind∧xs[i].name=k_name):=fun h=>hk (by unfold Je;rw[h.1,h.2])
    (repeat' (first
 | (with_reducible first|refine callX.by (JC _ _ _ _ _ _ _) ?_|assumption|(refine Qw hK _ ?_;clear hK K)|refine Qw ‹_› _ ?_|refine Qx ‹_› ?_|refine Qi fun K hK=>?_|refine Qj T fun K hK=>?_|refine Qk (id:=4) T mixed YR (by kernel_rfl) fun K hK=>?_|refine Ql fun A B hA hB=>?_|refine Qm ?_|refine Qn ?_|refine Qp ?_|refine Qr ?_)
 | ((with_reducible first|apply Qy|apply Qz|apply QA)<;>intro hb<;>try simp only[nr] at hb)
 |simp only[go_sem,↓reduceIte,reduceIte,Qa,Qh,Qb,Qc,Qd,Qe,Qf,Qg,reduceCtorEq, *,-f2,-hk]
 |with_reducible refine fun(bn:Bool) hbn=>?_))
    all_goals ((repeat clear hK);(repeat clear hA);(repeat clear hB))
    all_goals first
     | (refine hM.on (xs.length-(i+1)) (by omega) (by simp only[go_sem,↓reduceIte,reduceIte,Qa,Qh,Qb,Qc,Qd,Qe,Qf,Qg,reduceCtorEq, *,Jd hlt hl,-f2,-hk]) ⟨i+1,rfl,by omega,f2,?_⟩;simp only[go_sem,↓reduceIte,reduceIte,Qa,Qh,Qb,Qc,Qd,Qe,Qf,Qg,reduceCtorEq, *,Jd hlt hl,-f2,-hk];done)
     | (exfalso;simp_all;done)
     |trace_state
  ·rw[List.drop_eq_nil_of_le (by omega)] at f2
   have e:JF xs (⟨k_kind,k_name⟩:Key)=none:=by rw[f2];rfl
   rw[e]
   (repeat' (first
 | (with_reducible first|refine callX.by (JC _ _ _ _ _ _ _) ?_|assumption|(refine Qw hK _ ?_;clear hK K)|refine Qw ‹_› _ ?_|refine Qx ‹_› ?_|refine Qi fun K hK=>?_|refine Qj T fun K hK=>?_|refine Qk (id:=4) T mixed YR (by kernel_rfl) fun K hK=>?_|refine Ql fun A B hA hB=>?_|refine Qm ?_|refine Qn ?_|refine Qp ?_|refine Qr ?_)
 | ((with_reducible first|apply Qy|apply Qz|apply QA)<;>intro hb<;>try simp only[nr] at hb)
 |simp only[go_sem,↓reduceIte,reduceIte,Qa,Qh,Qb,Qc,Qd,Qe,Qf,Qg,reduceCtorEq, *,-f2,Jbb,Option.getD_none,Option.isSome_none]
 |with_reducible refine fun(bn:Bool) hbn=>?_))
   all_goals ((repeat clear hK);(repeat clear hA);(repeat clear hB))
   all_goals first|rfl|exact⟨rfl,rfl⟩
theorem Jmy(x:Res)(l:List Res)(k:Key)(c:Int):J5 (x :: l) k c=if Jv (Je x) k=c then x :: J5 l k c else J5 l k c:=by
 unfold J5
 rw[List.filter_cons]
 by_cases h:Jv (Je x) k=c<;>simp[h]
theorem JeS(xs:List Res)(k_kind:Int)(k_name:List UInt8)(c:Int)(hl:Jc xs.length)(hs:∀r∈xs,Jw r)(hkn:Jc k_name.length):CallR Tryz.prog 187 [.slice false (Ja xs),.agg [.int .i64 k_kind,.str k_name],.int .i64 c] (.own 7 (Ja (J5 xs (⟨k_kind,k_name⟩:Key) c))):=by
 refine CallR.go3 (T:=T) Tryz.call187 Tryz.func187 rfl Tryz.ntmps187 (congrArg Array.toList Tryz.results187) (by decide) fun ts hn h0 h1 h2=>?_
 (repeat' (first
 | (with_reducible first|refine callX.by (JC _ _ _ _ _ _ _) ?_|refine callX.by (Jat _ _ _ _ ?_ ?_) ?_|assumption|(refine Qw hK _ ?_;clear hK K)|refine Qw ‹_› _ ?_|refine Qx ‹_› ?_|refine Qi fun K hK=>?_|refine Qj T fun K hK=>?_|refine Qk (id:=5) T mixed JcO (by kernel_rfl) fun K hK=>?_|refine Ql fun A B hA hB=>?_|refine Qm ?_|refine Qn ?_|refine Qp ?_|refine Qr ?_)
 | ((with_reducible first|apply Qy|apply Qz|apply QA)<;>intro hb<;>try simp only[nr] at hb)
 |simp only[go_sem,↓reduceIte,reduceIte,Qa,Qh,Qb,Qc,Qd,Qe,Qf,Qg,reduceCtorEq, *,-hs]
 |with_reducible refine fun(bn:Bool) hbn=>?_))
 refine SpecC.ent (Ent.virt 7 7 (by simp only[go_sem,↓reduceIte,reduceIte,Qa,Qh,Qb,Qc,Qd,Qe,Qf,Qg,reduceCtorEq, *,-hs]) (by decide)) ?_
 refine Qs [0,2,4] (fun m ts'=>∃(i:Nat),∃(g:Nat),∃(ys:List Res),m=xs.length-i∧i≤xs.length∧ys.length≤i∧J5 xs (⟨k_kind,k_name⟩:Key) c=ys++J5 (xs.drop i) (⟨k_kind,k_name⟩:Key) c∧ts'.tmp 7=.os 7 g ys.length∧ts'.gen 7=g∧ts'.obj 7=.arr 7 (Ja ys)∧ts'.tmp 8=.int .i64 i) xs.length ?_ ?_
 ·refine⟨0,ts.gen 7+1,[],rfl,Nat.zero_le _,Nat.le_refl _,rfl,?_⟩
  simp only[go_sem,↓reduceIte,reduceIte,Qa,Qh,Qb,Qc,Qd,Qe,Qf,Qg,reduceCtorEq, *,-hs,Vo]
 ·rintro m A hM ts' hk ⟨i,g,ys,hm,f1,f2,f3,s1,s2,s3,s4⟩
  simp only[go_sem,↓reduceIte,reduceIte,Qa,Qh,Qb,Qc,Qd,Qe,Qf,Qg,reduceCtorEq, *] at hk
  by_cases hlt:i<xs.length
  ·rw[List.drop_eq_getElem_cons hlt,Jmy,show Je xs[i]=⟨xs[i].kind,xs[i].name⟩ from rfl] at f3
   have hr:JT (ys.length+1) 104:=Vt (by unfold Jc at hl;omega) (by decide)
   have w1:=Jat xs[i].kind k_kind xs[i].name k_name (hs _ (QC hlt)).1 hkn
   rw[Jce] at w1
   by_cases hc:Jv ⟨xs[i].kind,xs[i].name⟩ (⟨k_kind,k_name⟩:Key)=c
   ·rw[if_pos hc] at f3
    (repeat' (first
 | (with_reducible first|refine callX.by (w1) ?_|refine callX.by (JC _ _ _ _ _ _ _) ?_|refine callX.by (Jat _ _ _ _ ?_ ?_) ?_|assumption|(refine Qw hK _ ?_;clear hK K)|refine Qw ‹_› _ ?_|refine Qx ‹_› ?_|refine Qi fun K hK=>?_|refine Qj T fun K hK=>?_|refine Qk (id:=5) T mixed JcO (by kernel_rfl) fun K hK=>?_|refine Ql fun A B hA hB=>?_|refine Qm ?_|refine Qn ?_|refine Qp ?_|refine Qr ?_)
 | ((with_reducible first|apply Qy|apply Qz|apply QA)<;>intro hb<;>try simp only[nr] at hb)
 |simp only[go_sem,↓reduceIte,reduceIte,Qa,Qh,Qb,Qc,Qd,Qe,Qf,Qg,reduceCtorEq, *,-hs,-w1,-f3]
 |with_reducible refine fun(bn:Bool) hbn=>?_))
    all_goals ((repeat clear hK);(repeat clear hA);(repeat clear hB))
    all_goals (refine hM.onE (xs.length-(i+1)) (Ent.ren 7 30 ?_ ?_) ?_ ?_ ?_;(focus(simp only[go_sem,↓reduceIte,reduceIte,Qa,Qh,Qb,Qc,Qd,Qe,Qf,Qg,reduceCtorEq, *,Jd hlt hl,List.length_append,-hs,-w1,-f3];first|done|rfl));(focus(simp only[go_sem,↓reduceIte,reduceIte,Qa,Qh,Qb,Qc,Qd,Qe,Qf,Qg,reduceCtorEq, *,Jd hlt hl,List.length_append,-hs,-w1,-f3];first|done|rfl));omega;(focus(simp only[go_sem,↓reduceIte,reduceIte,Qa,Qh,Qb,Qc,Qd,Qe,Qf,Qg,reduceCtorEq, *,Jd hlt hl,List.length_append,-hs,-w1,-f3];done));refine⟨i+1,ts'.gen 7+1,ys++[xs[i]],rfl,by omega,by simp;omega,by rw[f3,List.append_assoc];rfl,?_⟩;simp only[go_sem,↓reduceIte,reduceIte,Qa,Qh,Qb,Qc,Qd,Qe,Qf,Qg,reduceCtorEq, *,Jd hlt hl,List.length_append,-hs,-w1,-f3];done)
   ·rw[if_neg hc] at f3
    (repeat' (first
 | (with_reducible first|refine callX.by (w1) ?_|refine callX.by (JC _ _ _ _ _ _ _) ?_|refine callX.by (Jat _ _ _ _ ?_ ?_) ?_|assumption|(refine Qw hK _ ?_;clear hK K)|refine Qw ‹_› _ ?_|refine Qx ‹_› ?_|refine Qi fun K hK=>?_|refine Qj T fun K hK=>?_|refine Qk (id:=5) T mixed JcO (by kernel_rfl) fun K hK=>?_|refine Ql fun A B hA hB=>?_|refine Qm ?_|refine Qn ?_|refine Qp ?_|refine Qr ?_)
 | ((with_reducible first|apply Qy|apply Qz|apply QA)<;>intro hb<;>try simp only[nr] at hb)
 |simp only[go_sem,↓reduceIte,reduceIte,Qa,Qh,Qb,Qc,Qd,Qe,Qf,Qg,reduceCtorEq, *,-hs,-w1,-f3]
 |with_reducible refine fun(bn:Bool) hbn=>?_))
    all_goals ((repeat clear hK);(repeat clear hA);(repeat clear hB))
    all_goals (refine hM.on (xs.length-(i+1)) (by omega) (by simp only[go_sem,↓reduceIte,reduceIte,Qa,Qh,Qb,Qc,Qd,Qe,Qf,Qg,reduceCtorEq, *,Jd hlt hl,-hs,-w1,-f3]) ⟨i+1,g,ys,rfl,by omega,by omega,f3,?_⟩;simp only[go_sem,↓reduceIte,reduceIte,Qa,Qh,Qb,Qc,Qd,Qe,Qf,Qg,reduceCtorEq, *,Jd hlt hl,-hs,-w1,-f3];done)
  ·rw[List.drop_eq_nil_of_le (by omega)] at f3
   have e:J5 xs (⟨k_kind,k_name⟩:Key) c=ys:=by rw[f3];simp[J5]
   rw[e]
   (repeat' (first
 | (with_reducible first|refine callX.by (JC _ _ _ _ _ _ _) ?_|refine callX.by (Jat _ _ _ _ ?_ ?_) ?_|assumption|(refine Qw hK _ ?_;clear hK K)|refine Qw ‹_› _ ?_|refine Qx ‹_› ?_|refine Qi fun K hK=>?_|refine Qj T fun K hK=>?_|refine Qk (id:=5) T mixed JcO (by kernel_rfl) fun K hK=>?_|refine Ql fun A B hA hB=>?_|refine Qm ?_|refine Qn ?_|refine Qp ?_|refine Qr ?_)
 | ((with_reducible first|apply Qy|apply Qz|apply QA)<;>intro hb<;>try simp only[nr] at hb)
 |simp only[go_sem,↓reduceIte,reduceIte,Qa,Qh,Qb,Qc,Qd,Qe,Qf,Qg,reduceCtorEq, *,-hs,-f3]
 |with_reducible refine fun(bn:Bool) hbn=>?_))
   all_goals ((repeat clear hK);(repeat clear hA);(repeat clear hB))
   all_goals trace_state
theorem JbR(xs:List Res)(r:Res)(hl:Jc xs.length)(hl2:Jc (J1 xs r).length)(hs:∀r∈xs,Jw r)(hr:Jw r):CallR Tryz.prog 148 [.slice false (Ja xs),.agg [.int .i64 r.kind,.str r.name,.int .i64 r.ver,.int .i64 r.port,.str r.to',.slice false (Ja r.rules'),.slice false (Ja r.hosts)]] (.own 7 (Ja (J1 xs r))):=by
 have w1:=JeS xs r.kind r.name (-1) hl hs hr.1
 have w2:=JeS xs r.kind r.name 1 hl hs hr.1
 have e:J1 xs r=J5 xs ⟨r.kind,r.name⟩ (-1)++[r]++J5 xs ⟨r.kind,r.name⟩ 1:=rfl
 rw[e] at hl2 ⊢
 generalize J5 xs ⟨r.kind,r.name⟩ (-1)=A1 at *
 generalize J5 xs ⟨r.kind,r.name⟩ 1=A2 at *
 have hr1:JT (A1.length+1) 104:=Vt (by unfold Jc at hl2;simp only[List.length_append,List.length_singleton] at hl2;omega) (by decide)
 have hr2:JT (A1.length+1+A2.length) 104:=Vt (by unfold Jc at hl2;simp only[List.length_append,List.length_singleton] at hl2;omega) (by decide)
 clear e
 refine CallR.go2 (T:=T) Tryz.call148 Tryz.func148 rfl Tryz.ntmps148 (congrArg Array.toList Tryz.results148) (by decide) fun ts hn h0 h1=>?_
 (repeat' (first
 | (with_reducible first|refine callX.by (w1) ?_|refine callX.by (w2) ?_|refine callX.by (JC _ _ _ _ _ _ _) ?_|refine callX.by (JeS _ _ _ _ ?_ ?_ ?_) ?_|assumption|(refine Qw hK _ ?_;clear hK K)|refine Qw ‹_› _ ?_|refine Qx ‹_› ?_|refine Qi fun K hK=>?_|refine Qj T fun K hK=>?_|refine Ql fun A B hA hB=>?_|refine Qn ?_|refine Qr ?_)
 | ((with_reducible first|apply Qy|apply Qz|apply QA)<;>intro hb<;>try simp only[nr] at hb)
 |simp only[go_sem,↓reduceIte,reduceIte,Qa,Qh,Qb,Qc,Qd,Qe,Qf,Qg,reduceCtorEq, *,-hs,-hr,-w1,-w2,List.length_append]
 |with_reducible refine fun(bn:Bool) hbn=>?_))
 all_goals rw[List.take_of_length_le (by simp;omega)]
theorem Jm3(x:Res)(l:List Res)(k:Key):J0 (x :: l) k=if Je x=k then J0 l k else x :: J0 l k:=by
 unfold J0
 rw[List.filter_cons]
 by_cases h:Je x=k<;>simp[h]
theorem JbT(xs:List Res)(k_kind:Int)(k_name:List UInt8)(hl:Jc xs.length):CallR Tryz.prog 147 [.slice false (Ja xs),.agg [.int .i64 k_kind,.str k_name]] (.own 7 (Ja (J0 xs (⟨k_kind,k_name⟩:Key)))):=by
 refine CallR.go2 (T:=T) Tryz.call147 Tryz.func147 rfl Tryz.ntmps147 (congrArg Array.toList Tryz.results147) (by decide) fun ts hn h0 h1=>?_
 (repeat' (first
 | (with_reducible first|refine callX.by (JC _ _ _ _ _ _ _) ?_|assumption|(refine Qw hK _ ?_;clear hK K)|refine Qw ‹_› _ ?_|refine Qx ‹_› ?_|refine Qi fun K hK=>?_|refine Qj T fun K hK=>?_|refine Qk (id:=5) T mixed YR (by kernel_rfl) fun K hK=>?_|refine Ql fun A B hA hB=>?_|refine Qm ?_|refine Qn ?_|refine Qp ?_|refine Qr ?_)
 | ((with_reducible first|apply Qy|apply Qz|apply QA)<;>intro hb<;>try simp only[nr] at hb)
 |simp only[go_sem,↓reduceIte,reduceIte,Qa,Qh,Qb,Qc,Qd,Qe,Qf,Qg,reduceCtorEq, *]
 |with_reducible refine fun(bn:Bool) hbn=>?_))
 refine SpecC.ent (Ent.virt 5 7 (by simp only[go_sem,↓reduceIte,reduceIte,Qa,Qh,Qb,Qc,Qd,Qe,Qf,Qg,reduceCtorEq, *]) (by decide)) ?_
 refine Qs [0,3] (fun m ts'=>∃(i:Nat),∃(g:Nat),∃(ys:List Res),m=xs.length-i∧i≤xs.length∧ys.length≤i∧J0 xs (⟨k_kind,k_name⟩:Key)=ys++J0 (xs.drop i) (⟨k_kind,k_name⟩:Key)∧ts'.tmp 5=.os 5 g ys.length∧ts'.gen 5=g∧ts'.obj 5=.arr 7 (Ja ys)∧ts'.tmp 6=.int .i64 i) xs.length ?_ ?_
 ·refine⟨0,ts.gen 5+1,[],rfl,Nat.zero_le _,Nat.le_refl _,rfl,?_⟩
  simp only[go_sem,↓reduceIte,reduceIte,Qa,Qh,Qb,Qc,Qd,Qe,Qf,Qg,reduceCtorEq, *,Vo]
 ·rintro m A hM ts' hk ⟨i,g,ys,hm,f1,f2,f3,s1,s2,s3,s4⟩
  simp only[go_sem,↓reduceIte,reduceIte,Qa,Qh,Qb,Qc,Qd,Qe,Qf,Qg,reduceCtorEq, *] at hk
  by_cases hlt:i<xs.length
  ·rw[List.drop_eq_getElem_cons hlt,Jm3] at f3
   have hr:JT (ys.length+1) 104:=Vt (by unfold Jc at hl;omega) (by decide)
   by_cases hk:Je xs[i]=(⟨k_kind,k_name⟩:Key)
   ·rw[if_pos hk] at f3
    have hk1:xs[i].kind=k_kind:=congrArg Key.kind hk
    have hk2:xs[i].name=k_name:=congrArg Key.name hk
    (repeat' (first
 | (with_reducible first|refine callX.by (JC _ _ _ _ _ _ _) ?_|assumption|(refine Qw hK _ ?_;clear hK K)|refine Qw ‹_› _ ?_|refine Qx ‹_› ?_|refine Qi fun K hK=>?_|refine Qj T fun K hK=>?_|refine Qk (id:=5) T mixed YR (by kernel_rfl) fun K hK=>?_|refine Ql fun A B hA hB=>?_|refine Qm ?_|refine Qn ?_|refine Qp ?_|refine Qr ?_)
 | ((with_reducible first|apply Qy|apply Qz|apply QA)<;>intro hb<;>try simp only[nr] at hb)
 |simp only[go_sem,↓reduceIte,reduceIte,Qa,Qh,Qb,Qc,Qd,Qe,Qf,Qg,reduceCtorEq, *,-hk,-f3]
 |with_reducible refine fun(bn:Bool) hbn=>?_))
    all_goals ((repeat clear hK);(repeat clear hA);(repeat clear hB))
    all_goals first
     | (refine hM.on (xs.length-(i+1)) (by omega) (by simp only[go_sem,↓reduceIte,reduceIte,Qa,Qh,Qb,Qc,Qd,Qe,Qf,Qg,reduceCtorEq, *,Jd hlt hl,-hk,-f3]) ⟨i+1,g,ys,rfl,by omega,by omega,f3,?_⟩;simp only[go_sem,↓reduceIte,reduceIte,Qa,Qh,Qb,Qc,Qd,Qe,Qf,Qg,reduceCtorEq, *,Jd hlt hl,-hk,-f3];done)
     | (exfalso;simp_all;done)
     |trace_state
   ·rw[if_neg hk] at f3
    have hk1:¬(xs[i].kind=k_kind∧xs[i].name=k_name):=fun h=>hk (by unfold Je;rw[h.1,h.2])
    (repeat' (first
 | (with_reducible first|refine callX.by (JC _ _ _ _ _ _ _) ?_|assumption|(refine Qw hK _ ?_;clear hK K)|refine Qw ‹_› _ ?_|refine Qx ‹_› ?_|refine Qi fun K hK=>?_|refine Qj T fun K hK=>?_|refine Qk (id:=5) T mixed YR (by kernel_rfl) fun K hK=>?_|refine Ql fun A B hA hB=>?_|refine Qm ?_|refine Qn ?_|refine Qp ?_|refine Qr ?_)
 | ((with_reducible first|apply Qy|apply Qz|apply QA)<;>intro hb<;>try simp only[nr] at hb)
 |simp only[go_sem,↓reduceIte,reduceIte,Qa,Qh,Qb,Qc,Qd,Qe,Qf,Qg,reduceCtorEq, *,-hk,-f3]
 |with_reducible refine fun(bn:Bool) hbn=>?_))
    all_goals ((repeat clear hK);(repeat clear hA);(repeat clear hB))
    all_goals first
     | (refine hM.onE (xs.length-(i+1)) (Ent.ren 5 26 ?_ ?_) ?_ ?_ ?_;(focus(simp only[go_sem,↓reduceIte,reduceIte,Qa,Qh,Qb,Qc,Qd,Qe,Qf,Qg,reduceCtorEq, *,Jd hlt hl,List.length_append,-hk,-f3];first|done|rfl));(focus(simp only[go_sem,↓reduceIte,reduceIte,Qa,Qh,Qb,Qc,Qd,Qe,Qf,Qg,reduceCtorEq, *,Jd hlt hl,List.length_append,-hk,-f3];first|done|rfl));omega;(focus(simp only[go_sem,↓reduceIte,reduceIte,Qa,Qh,Qb,Qc,Qd,Qe,Qf,Qg,reduceCtorEq, *,Jd hlt hl,List.length_append,-hk,-f3];done));refine⟨i+1,ts'.gen 5+1,ys++[xs[i]],rfl,by omega,by simp;omega,by rw[f3,List.append_assoc];rfl,?_⟩;simp only[go_sem,↓reduceIte,reduceIte,Qa,Qh,Qb,Qc,Qd,Qe,Qf,Qg,reduceCtorEq, *,Jd hlt hl,List.length_append,-hk,-f3];done)
     | (exfalso;simp_all;done)
     |trace_state
  ·rw[List.drop_eq_nil_of_le (by omega)] at f3
   have e:J0 xs (⟨k_kind,k_name⟩:Key)=ys:=by rw[f3];simp[J0]
   rw[e]
   (repeat' (first
 | (with_reducible first|refine callX.by (JC _ _ _ _ _ _ _) ?_|assumption|(refine Qw hK _ ?_;clear hK K)|refine Qw ‹_› _ ?_|refine Qx ‹_› ?_|refine Qi fun K hK=>?_|refine Qj T fun K hK=>?_|refine Qk (id:=5) T mixed YR (by kernel_rfl) fun K hK=>?_|refine Ql fun A B hA hB=>?_|refine Qm ?_|refine Qn ?_|refine Qp ?_|refine Qr ?_)
 | ((with_reducible first|apply Qy|apply Qz|apply QA)<;>intro hb<;>try simp only[nr] at hb)
 |simp only[go_sem,↓reduceIte,reduceIte,Qa,Qh,Qb,Qc,Qd,Qe,Qf,Qg,reduceCtorEq, *,-f3]
 |with_reducible refine fun(bn:Bool) hbn=>?_))
   all_goals ((repeat clear hK);(repeat clear hA);(repeat clear hB))
   all_goals trace_state
theorem Jlr(xs adds:List Res)(gone:List Key)(hx:Jc xs.length)(ha:Jc adds.length)(hg:Jc gone.length)(hl:Jc (xs.length+adds.length))(hs:∀r∈xs,Jw r)(hsa:∀r∈adds,Jw r) :
  CallR Tryz.prog 103 [.slice false (Ja xs),.slice false (Ja adds),.slice false (Ja gone)] (.val (.slice false (Ja (Y2 xs adds gone)))):=by
 refine CallR.go3 (T:=T) Tryz.call103 Tryz.func103 rfl Tryz.ntmps103 (congrArg Array.toList Tryz.results103) (by decide) fun ts hn h0 h1 h2=>?_
 (repeat' (first
 | (with_reducible first|refine callX.by (JbT _ _ _ ?_) ?_|refine callX.by (JbR _ _ ?_ ?_ ?_ ?_) ?_|assumption|(refine Qw hK _ ?_;clear hK K)|refine Qw ‹_› _ ?_|refine Qx ‹_› ?_|refine Qi fun K hK=>?_|refine Qj T fun K hK=>?_|refine Ql fun A B hA hB=>?_|refine Qm ?_|refine Qn ?_|refine Qp ?_|refine Qr ?_)
 | ((with_reducible first|apply Qy|apply Qz|apply QA)<;>intro hb<;>try simp only[nr] at hb)
 |simp only[go_sem,↓reduceIte,reduceIte,Qa,Qh,Qb,Qc,Qd,Qe,Qf,Qg,reduceCtorEq, *,-hs,-hsa]
 |with_reducible refine fun(bn:Bool) hbn=>?_))
 refine Qs [1,2] (fun m ts'=>∃(i:Nat),∃(ys:List Res),m=gone.length-i∧i≤gone.length∧ys.length≤xs.length∧(gone.drop i).foldl J0 ys=gone.foldl J0 xs∧(∀r∈ys,Jw r)∧ts'.tmp 0=.slice false (Ja ys)∧ts'.tmp 7=.int .i64 i) gone.length ?_ ?_
 ·refine⟨0,xs,rfl,Nat.zero_le _,Nat.le_refl _,rfl,hs,?_⟩
  simp only[go_sem,↓reduceIte,reduceIte,Qa,Qh,Qb,Qc,Qd,Qe,Qf,Qg,reduceCtorEq, *,-hs,-hsa]
 ·rintro m A hM ts' hk ⟨i,ys,hm,f1,f2,f3,f4,s1,s2⟩
  simp only[go_sem,↓reduceIte,reduceIte,Qa,Qh,Qb,Qc,Qd,Qe,Qf,Qg,reduceCtorEq, *] at hk
  by_cases hlt:i<gone.length
  ·rw[List.drop_eq_getElem_cons hlt,List.foldl_cons] at f3
   have hys:Jc ys.length:=by unfold Jc at hx ⊢;omega
   have w1:=(JbT ys gone[i].kind gone[i].name hys).frz
   have hle:=Jfm ys gone[i]
   have hm:∀r∈J0 ys gone[i],Jw r:=fun r hr=>f4 r (Jiu hr)
   (repeat' (first
 | (with_reducible first|refine callX.by (w1) ?_|refine callX.by (JbT _ _ _ ?_) ?_|refine callX.by (JbR _ _ ?_ ?_ ?_ ?_) ?_|assumption|(refine Qw hK _ ?_;clear hK K)|refine Qw ‹_› _ ?_|refine Qx ‹_› ?_|refine Qi fun K hK=>?_|refine Qj T fun K hK=>?_|refine Ql fun A B hA hB=>?_|refine Qm ?_|refine Qn ?_|refine Qp ?_|refine Qr ?_)
 | ((with_reducible first|apply Qy|apply Qz|apply QA)<;>intro hb<;>try simp only[nr] at hb)
 |simp only[go_sem,↓reduceIte,reduceIte,Qa,Qh,Qb,Qc,Qd,Qe,Qf,Qg,reduceCtorEq, *,-hs,-hsa,-f3,-f4,-hm,-w1]
 |with_reducible refine fun(bn:Bool) hbn=>?_))
   all_goals ((repeat clear hK);(repeat clear hA);(repeat clear hB))
   all_goals (refine hM.on (gone.length-(i+1)) (by omega) (by simp only[go_sem,↓reduceIte,reduceIte,Qa,Qh,Qb,Qc,Qd,Qe,Qf,Qg,reduceCtorEq, *,Jd hlt hg,-hs,-hsa,-f3,-f4,-hm,-w1]) ⟨i+1,J0 ys gone[i],rfl,by omega,by omega,f3,hm,?_⟩;simp only[go_sem,↓reduceIte,reduceIte,Qa,Qh,Qb,Qc,Qd,Qe,Qf,Qg,reduceCtorEq, *,Jd hlt hg,-hs,-hsa,-f3,-f4,-hm,-w1];done)
  ·rw[List.drop_eq_nil_of_le (by omega),List.foldl_nil] at f3
   subst f3
   (repeat' (first
 | (with_reducible first|refine callX.by (JbT _ _ _ ?_) ?_|refine callX.by (JbR _ _ ?_ ?_ ?_ ?_) ?_|assumption|(refine Qw hK _ ?_;clear hK K)|refine Qw ‹_› _ ?_|refine Qx ‹_› ?_|refine Qi fun K hK=>?_|refine Qj T fun K hK=>?_|refine Ql fun A B hA hB=>?_|refine Qm ?_|refine Qn ?_|refine Qp ?_|refine Qr ?_)
 | ((with_reducible first|apply Qy|apply Qz|apply QA)<;>intro hb<;>try simp only[nr] at hb)
 |simp only[go_sem,↓reduceIte,reduceIte,Qa,Qh,Qb,Qc,Qd,Qe,Qf,Qg,reduceCtorEq, *,-hs,-hsa,-f4]
 |with_reducible refine fun(bn:Bool) hbn=>?_))
   clear hM hm
   refine Qs [1] (fun m ts'=>∃(j:Nat),∃(zs:List Res),m=adds.length-j∧j≤adds.length∧zs.length≤xs.length+j∧(adds.drop j).foldl J1 zs=Y2 xs adds gone∧(∀r∈zs,Jw r)∧ts'.tmp 0=.slice false (Ja zs)∧ts'.tmp 8=.int .i64 j) adds.length ?_ ?_
   ·refine⟨0,gone.foldl J0 xs,rfl,Nat.zero_le _,by omega,rfl,f4,?_⟩
    simp only[go_sem,↓reduceIte,reduceIte,Qa,Qh,Qb,Qc,Qd,Qe,Qf,Qg,reduceCtorEq, *,-hs,-hsa,-f4]
   ·clear f4 f2 f1
    rintro m A hM ts' hk ⟨j,zs,hm,f1,f2,f3,f4,s1,s2⟩
    simp only[go_sem,↓reduceIte,reduceIte,Qa,Qh,Qb,Qc,Qd,Qe,Qf,Qg,reduceCtorEq, *] at hk
    by_cases hlt2:j<adds.length
    ·rw[List.drop_eq_getElem_cons hlt2,List.foldl_cons] at f3
     have hle:=Jfr zs adds[j]
     have hzs:Jc zs.length:=by unfold Jc at hl ⊢;omega
     have hzr:Jc (J1 zs adds[j]).length:=by unfold Jc at hl ⊢;omega
     have w1:=(JbR zs adds[j] hzs hzr f4 (hsa _ (QC hlt2))).frz
     have hm:∀r∈J1 zs adds[j],Jw r:=fun r hr=>(JiF hr).elim (fun e=>e▸hsa _ (QC hlt2)) (f4 r)
     (repeat' (first
 | (with_reducible first|refine callX.by (w1) ?_|refine callX.by (JbT _ _ _ ?_) ?_|refine callX.by (JbR _ _ ?_ ?_ ?_ ?_) ?_|assumption|(refine Qw hK _ ?_;clear hK K)|refine Qw ‹_› _ ?_|refine Qx ‹_› ?_|refine Qi fun K hK=>?_|refine Qj T fun K hK=>?_|refine Ql fun A B hA hB=>?_|refine Qm ?_|refine Qn ?_|refine Qp ?_|refine Qr ?_)
 | ((with_reducible first|apply Qy|apply Qz|apply QA)<;>intro hb<;>try simp only[nr] at hb)
 |simp only[go_sem,↓reduceIte,reduceIte,Qa,Qh,Qb,Qc,Qd,Qe,Qf,Qg,reduceCtorEq, *,-hs,-hsa,-f3,-f4,-hm,-w1]
 |with_reducible refine fun(bn:Bool) hbn=>?_))
     all_goals ((repeat clear hK);(repeat clear hA);(repeat clear hB))
     all_goals (refine hM.on (adds.length-(j+1)) (by omega) (by simp only[go_sem,↓reduceIte,reduceIte,Qa,Qh,Qb,Qc,Qd,Qe,Qf,Qg,reduceCtorEq, *,Jd hlt2 ha,-hs,-hsa,-f3,-f4,-hm,-w1]) ⟨j+1,J1 zs adds[j],rfl,by omega,by omega,f3,hm,?_⟩;simp only[go_sem,↓reduceIte,reduceIte,Qa,Qh,Qb,Qc,Qd,Qe,Qf,Qg,reduceCtorEq, *,Jd hlt2 ha,-hs,-hsa,-f3,-f4,-hm,-w1];done)
    ·rw[List.drop_eq_nil_of_le (by omega),List.foldl_nil] at f3
     subst f3
     (repeat' (first
 | (with_reducible first|refine callX.by (JbT _ _ _ ?_) ?_|refine callX.by (JbR _ _ ?_ ?_ ?_ ?_) ?_|assumption|(refine Qw hK _ ?_;clear hK K)|refine Qw ‹_› _ ?_|refine Qx ‹_› ?_|refine Qi fun K hK=>?_|refine Qj T fun K hK=>?_|refine Ql fun A B hA hB=>?_|refine Qm ?_|refine Qn ?_|refine Qp ?_|refine Qr ?_)
 | ((with_reducible first|apply Qy|apply Qz|apply QA)<;>intro hb<;>try simp only[nr] at hb)
 |simp only[go_sem,↓reduceIte,reduceIte,Qa,Qh,Qb,Qc,Qd,Qe,Qf,Qg,reduceCtorEq, *,-hs,-hsa,-f4]
 |with_reducible refine fun(bn:Bool) hbn=>?_))
end Go.Proofs.YtmjkjmoeicnbnaaGreatDoor.Lg
