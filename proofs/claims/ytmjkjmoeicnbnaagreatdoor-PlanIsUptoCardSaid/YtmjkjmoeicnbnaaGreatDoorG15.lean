/- Parts of the proof, one behind the other. -/
import Derived.Test.YtmjkjmoeicnbnaaGreatDoorG14
namespace Go.Proofs.YtmjkjmoeicnbnaaGreatDoor.Lg
set_option maxRecDepth 100000
set_option linter.unusedVariables false
set_option linter.unusedSimpArgs false
open Go
open Nat renaming reduceEqDiff → Qa, reduceLT → Qb, reduceLeDiff → Qc, reduceAdd → Qd, reduceMul → Qe, reduceSub → Qf, reduceBEq → Qg
open String renaming reduceEq → Qh
open SpecC renaming seqW → Qi, regW → Qj, drawW → Qk, condW → Ql, block → Qm, skip → Qn, exit → Qp, ret → Qr, loopF → Qs
open NxK renaming out → Qw
open Nx renaming out → Qx
open condK renaming split → Qy
open gK renaming split_t → Qz, split_f → QA
open List renaming getElem_mem → QC
def VO(l:List Weight):List Key:=(l.filter fun w=>decide (0<w.w)).map fun w=>⟨2,w.cluster⟩
def JK(l:List Rule):List Key:=l.flatMap fun x=>VO x.split
def Vg(r:Res):List Key:=if r.to'=[] then [] else [⟨IntKind.i64.wrap (r.kind+1),r.to'⟩]
def Jk(r:Res):List Key:=if JW r=0 then Yd (JR (Vg r++JK r.rules')) else []
theorem Jch(x:Rule)(l:List Rule):JK (x :: l)=VO x.split++JK l:=rfl
theorem JeC(w:Weight)(l:List Weight):VO (w :: l)=(if 0<w.w then [⟨2,w.cluster⟩] else [])++VO l:=by
 unfold VO
 by_cases h:0<w.w<;>simp[h]
theorem Jff{r:Res}(h:JW r=0):Vj r=true:=by
 unfold JW at h
 cases hs:Vj r with
 |true=>rfl
 |false =>
  rw[hs] at h
  split at h
  ·cases h
  ·split at h
   ·cases h
   ·simp at h
theorem Jij{r:Res}(h:Vj r=true):r.rules'.length≤8∧r.hosts.length≤8∧∀x∈r.rules',x.split.length≤4:=by
 simp only[Vj,Bool.and_eq_true,decide_eq_true_eq,List.all_eq_true] at h
 refine⟨h.2.2.1,h.2.2.2.1,fun x hx=>?_⟩
 have:=h.2.2.2.2.2 x hx
 simp only[Ym,Bool.and_eq_true,decide_eq_true_eq] at this
 exact this.1
theorem JkC(l:List Weight):(VO l).length≤l.length:=by
 unfold VO
 rw[List.length_map]
 exact List.length_filter_le _ _
set_option maxHeartbeats 4000000 in
theorem JaB(r_kind:Int)(r_name:List UInt8)(r_ver:Int)(r_port:Int)(r_to:List UInt8)(r_rules:List Rule)(r_hosts:List Int)(hl:Jc r_rules.length)(hh:Jc r_hosts.length)(hs:∀x∈r_rules,VB x):CallR Tryz.prog 71 [.agg [.int .i64 r_kind,.str r_name,.int .i64 r_ver,.int .i64 r_port,.str r_to,.slice false (Ja r_rules),.slice false (Ja r_hosts)]] (.own 2 (Ja (Jk (⟨r_kind,r_name,r_ver,r_port,r_to,r_rules,r_hosts⟩:Res)))):=by
 by_cases hsn:JW (⟨r_kind,r_name,r_ver,r_port,r_to,r_rules,r_hosts⟩:Res)=0
 rotate_left
 ·have hr:Jk (⟨r_kind,r_name,r_ver,r_port,r_to,r_rules,r_hosts⟩:Res)=[]:=if_neg hsn
  rw[hr]
  refine CallR.go1 (T:=T) Tryz.call71 Tryz.func71 rfl Tryz.ntmps71 (congrArg Array.toList Tryz.results71) (by decide) fun ts hn h0=>?_
  (repeat' (first
 | (with_reducible first|refine callX.by (JaG _ _ _ _ _ _ _ ?_ ?_ ?_) ?_|refine callX.by JaQ ?_)
 | (with_reducible refine callX.ar ?_ ?_ (Ja7 ?_ ?_);(focus(simp only[go_sem,↓reduceIte,reduceIte,Qa,Qh,Qb,Qc,Qd,Qe,Qf,Qg,reduceCtorEq, *,-hs];first|done|rfl)))
 |with_reducible refine callX.by (ZW _ _ _ _) ?_
 | (with_reducible refine callX.mv ?_ ?_ ?_ (JaS ?_ ?_);(focus(simp only[go_sem,↓reduceIte,reduceIte,Qa,Qh,Qb,Qc,Qd,Qe,Qf,Qg,reduceCtorEq, *,-hs];first|done|rfl));(focus(simp only[go_sem,↓reduceIte,reduceIte,Qa,Qh,Qb,Qc,Qd,Qe,Qf,Qg,reduceCtorEq, *,-hs];first|done|rfl)))
 | (with_reducible first|assumption|(refine Qw hK _ ?_;clear hK K)|refine Qw ‹_› _ ?_|refine Qx ‹_› ?_|refine Qi fun K hK=>?_|refine Qj T fun K hK=>?_|refine Ql fun A B hA hB=>?_|refine Qm ?_|refine Qn ?_|refine Qp ?_|refine Qr ?_)
 | ((with_reducible first|apply Qy|apply Qz|apply QA)<;>intro hb<;>try simp only[nr] at hb)
 |simp only[go_sem,↓reduceIte,reduceIte,Qa,Qh,Qb,Qc,Qd,Qe,Qf,Qg,reduceCtorEq, *,-hs]
 |with_reducible refine fun(bn:Bool) hbn=>?_))
  all_goals rfl
 obtain⟨hb1,hb2,hb3⟩:=Jij (Jff hsn)
 simp only at hb1 hb2 hb3
 have hr:Jk (⟨r_kind,r_name,r_ver,r_port,r_to,r_rules,r_hosts⟩:Res)=Yd (JR (Vg (⟨r_kind,r_name,r_ver,r_port,r_to,r_rules,r_hosts⟩:Res)++JK r_rules)):=if_pos hsn
 rw[hr]
 obtain⟨bs,hbs⟩:∃bs,Vg (⟨r_kind,r_name,r_ver,r_port,r_to,r_rules,r_hosts⟩:Res)=bs:=⟨_,rfl⟩
 rw[hbs]
 have hbl:bs.length≤1:=by
  rw[←hbs];unfold Vg;split<;>simp
 clear hr
 have hr0:JT 1 24:=Jaa (by decide) (by decide)
 have hsk:∀x∈r_rules,Jc x.split.length:=fun x hx=>(hs x hx).2.2.1
 refine CallR.go1 (T:=T) Tryz.call71 Tryz.func71 rfl Tryz.ntmps71 (congrArg Array.toList Tryz.results71) (by decide) fun ts hn h0=>?_
 (repeat' (first
 | (with_reducible first|refine SpecC.cutAtS 6 [1] (fun ts'=>∃(g:Nat),ts'.tmp 3=.os 3 g bs.length∧ts'.gen 3=g∧ts'.obj 3=.arr 2 (Ja bs)) ?_ ?_|refine callX.by (JaG _ _ _ _ _ _ _ ?_ ?_ ?_) ?_|refine callX.by JaQ ?_)
 | (with_reducible refine callX.ar ?_ ?_ (Ja7 ?_ ?_);(focus(simp only[go_sem,↓reduceIte,reduceIte,Qa,Qh,Qb,Qc,Qd,Qe,Qf,Qg,reduceCtorEq, *,-hs,-hsk,-hb3];first|done|rfl)))
 |with_reducible refine callX.by (ZW _ _ _ _) ?_
 | (with_reducible refine callX.mv ?_ ?_ ?_ (JaS ?_ ?_);(focus(simp only[go_sem,↓reduceIte,reduceIte,Qa,Qh,Qb,Qc,Qd,Qe,Qf,Qg,reduceCtorEq, *,-hs,-hsk,-hb3];first|done|rfl));(focus(simp only[go_sem,↓reduceIte,reduceIte,Qa,Qh,Qb,Qc,Qd,Qe,Qf,Qg,reduceCtorEq, *,-hs,-hsk,-hb3];first|done|rfl)))
 | (with_reducible first|assumption|(refine Qw hK _ ?_;clear hK K)|refine Qw ‹_› _ ?_|refine Qx ‹_› ?_|refine Qi fun K hK=>?_|refine Qj T fun K hK=>?_|refine Ql fun A B hA hB=>?_|refine Qm ?_|refine Qn ?_|refine Qp ?_|refine Qr ?_)
 | ((with_reducible first|apply Qy|apply Qz|apply QA)<;>intro hb<;>try simp only[nr] at hb)
 |simp only[go_sem,↓reduceIte,reduceIte,Qa,Qh,Qb,Qc,Qd,Qe,Qf,Qg,reduceCtorEq, *,-hs,-hsk,-hb3]
 |with_reducible refine fun(bn:Bool) hbn=>?_))
 ·have e:bs=[⟨IntKind.i64.wrap (r_kind+1),r_to⟩]:=by rw[←hbs];unfold Vg;rw[if_neg (of_decide_eq_false hb)]
  subst e
  have ea:Ja [(⟨IntKind.i64.wrap (r_kind+1),r_to⟩:Key)]=[AV.agg [AV.int IntKind.i64 (IntKind.i64.wrap (r_kind+1)),AV.str r_to]]:=rfl
  (repeat clear hK);(repeat clear hA);(repeat clear hB)
  (refine⟨_,(Ent.ren 3 22 (by simp only[go_sem,↓reduceIte,reduceIte,Qa,Qh,Qb,Qc,Qd,Qe,Qf,Qg,reduceCtorEq, *,-hs,-hsk,-hb3];done) (by simp only[go_sem,↓reduceIte,reduceIte,Qa,Qh,Qb,Qc,Qd,Qe,Qf,Qg,reduceCtorEq, *,-hs,-hsk,-hb3];done)),by simp only[go_sem,↓reduceIte,reduceIte,Qa,Qh,Qb,Qc,Qd,Qe,Qf,Qg,reduceCtorEq, *,-hs,-hsk,-hb3];done,⟨ts.gen 3+1,?_⟩⟩;simp only[go_sem,↓reduceIte,reduceIte,Qa,Qh,Qb,Qc,Qd,Qe,Qf,Qg,reduceCtorEq, *,-hs,-hsk,-hb3];done)
 ·have e:bs=[]:=by rw[←hbs];unfold Vg;rw[if_pos (of_decide_eq_true hb)]
  subst e
  (repeat clear hK);(repeat clear hA);(repeat clear hB)
  (refine⟨_,(Ent.virt 3 2 (by simp only[go_sem,↓reduceIte,reduceIte,Qa,Qh,Qb,Qc,Qd,Qe,Qf,Qg,reduceCtorEq, *,-hs,-hsk,-hb3,Vo];done) (by decide)),by simp only[go_sem,↓reduceIte,reduceIte,Qa,Qh,Qb,Qc,Qd,Qe,Qf,Qg,reduceCtorEq, *,-hs,-hsk,-hb3,Vo];done,⟨ts.gen 3+1,?_⟩⟩;simp only[go_sem,↓reduceIte,reduceIte,Qa,Qh,Qb,Qc,Qd,Qe,Qf,Qg,reduceCtorEq, *,-hs,-hsk,-hb3,Vo];done)
 ·intro ts2 hk3
  rintro⟨g2,v1,v2,v3⟩
  simp only[go_sem,↓reduceIte,reduceIte,Qa,Qh,Qb,Qc,Qd,Qe,Qf,Qg,reduceCtorEq, *] at hk3
  (repeat' (first
 | (with_reducible first|refine callX.by (JaG _ _ _ _ _ _ _ ?_ ?_ ?_) ?_|refine callX.by JaQ ?_)
 | (with_reducible refine callX.ar ?_ ?_ (Ja7 ?_ ?_);(focus(simp only[go_sem,↓reduceIte,reduceIte,Qa,Qh,Qb,Qc,Qd,Qe,Qf,Qg,reduceCtorEq, *,-hs,-hsk,-hb3];first|done|rfl)))
 |with_reducible refine callX.by (ZW _ _ _ _) ?_
 | (with_reducible refine callX.mv ?_ ?_ ?_ (JaS ?_ ?_);(focus(simp only[go_sem,↓reduceIte,reduceIte,Qa,Qh,Qb,Qc,Qd,Qe,Qf,Qg,reduceCtorEq, *,-hs,-hsk,-hb3];first|done|rfl));(focus(simp only[go_sem,↓reduceIte,reduceIte,Qa,Qh,Qb,Qc,Qd,Qe,Qf,Qg,reduceCtorEq, *,-hs,-hsk,-hb3];first|done|rfl)))
 | (with_reducible first|assumption|(refine Qw hK _ ?_;clear hK K)|refine Qw ‹_› _ ?_|refine Qx ‹_› ?_|refine Qi fun K hK=>?_|refine Qj T fun K hK=>?_|refine Ql fun A B hA hB=>?_|refine Qm ?_|refine Qn ?_|refine Qp ?_|refine Qr ?_)
 | ((with_reducible first|apply Qy|apply Qz|apply QA)<;>intro hb<;>try simp only[nr] at hb)
 |simp only[go_sem,↓reduceIte,reduceIte,Qa,Qh,Qb,Qc,Qd,Qe,Qf,Qg,reduceCtorEq, *,-hs,-hsk,-hb3]
 |with_reducible refine fun(bn:Bool) hbn=>?_))
  refine Qs [24,25] (fun m ts'=>∃(i:Nat),∃(g:Nat),∃(ys:List Key),m=r_rules.length-i∧i≤r_rules.length∧ys.length≤1+4*i∧bs++JK r_rules=ys++JK (r_rules.drop i)∧ts'.tmp 3=.os 3 g ys.length∧ts'.gen 3=g∧ts'.obj 3=.arr 2 (Ja ys)∧ts'.tmp 26=.int .i64 i) r_rules.length ?_ ?_
  ·refine⟨0,g2,bs,rfl,Nat.zero_le _,by omega,rfl,?_⟩
   simp only[go_sem,↓reduceIte,reduceIte,Qa,Qh,Qb,Qc,Qd,Qe,Qf,Qg,reduceCtorEq, *,-hs,-hsk,-hb3]
  ·rintro m A hM ts' hk ⟨i,g,ys,hm,f1,f2,f3,s1,s2,s3,s4⟩
   simp only[go_sem,↓reduceIte,reduceIte,Qa,Qh,Qb,Qc,Qd,Qe,Qf,Qg,reduceCtorEq, *] at hk
   by_cases hlt:i<r_rules.length
   ·rw[List.drop_eq_getElem_cons hlt,Jch] at f3
    have hx4:=hb3 _ (QC hlt)
    have hxs:=hsk _ (QC hlt)
    (repeat' (first
 | (with_reducible first|refine callX.by (JaG _ _ _ _ _ _ _ ?_ ?_ ?_) ?_|refine callX.by JaQ ?_)
 | (with_reducible refine callX.ar ?_ ?_ (Ja7 ?_ ?_);(focus(simp only[go_sem,↓reduceIte,reduceIte,Qa,Qh,Qb,Qc,Qd,Qe,Qf,Qg,reduceCtorEq, *,-hs,-hsk,-hb3,-f3];first|done|rfl)))
 |with_reducible refine callX.by (ZW _ _ _ _) ?_
 | (with_reducible refine callX.mv ?_ ?_ ?_ (JaS ?_ ?_);(focus(simp only[go_sem,↓reduceIte,reduceIte,Qa,Qh,Qb,Qc,Qd,Qe,Qf,Qg,reduceCtorEq, *,-hs,-hsk,-hb3,-f3];first|done|rfl));(focus(simp only[go_sem,↓reduceIte,reduceIte,Qa,Qh,Qb,Qc,Qd,Qe,Qf,Qg,reduceCtorEq, *,-hs,-hsk,-hb3,-f3];first|done|rfl)))
 | (with_reducible first|assumption|(refine Qw hK _ ?_;clear hK K)|refine Qw ‹_› _ ?_|refine Qx ‹_› ?_|refine Qi fun K hK=>?_|refine Qj T fun K hK=>?_|refine Ql fun A B hA hB=>?_|refine Qm ?_|refine Qn ?_|refine Qp ?_|refine Qr ?_)
 | ((with_reducible first|apply Qy|apply Qz|apply QA)<;>intro hb<;>try simp only[nr] at hb)
 |simp only[go_sem,↓reduceIte,reduceIte,Qa,Qh,Qb,Qc,Qd,Qe,Qf,Qg,reduceCtorEq, *,-hs,-hsk,-hb3,-f3]
 |with_reducible refine fun(bn:Bool) hbn=>?_))
    refine Qs [24,25,26,31,32] (fun m ts'=>∃(j:Nat),∃(g':Nat),∃(zs:List Key),m=r_rules[i].split.length-j∧j≤r_rules[i].split.length∧zs.length≤1+4*i+j∧ys++VO r_rules[i].split=zs++VO (r_rules[i].split.drop j)∧ts'.tmp 3=.os 3 g' zs.length∧ts'.gen 3=g'∧ts'.obj 3=.arr 2 (Ja zs)∧ts'.tmp 33=.int .i64 j) r_rules[i].split.length ?_ ?_
    ·refine⟨0,g,ys,rfl,Nat.zero_le _,by omega,rfl,?_⟩
     simp only[go_sem,↓reduceIte,reduceIte,Qa,Qh,Qb,Qc,Qd,Qe,Qf,Qg,reduceCtorEq, *,-hs,-hsk,-hb3,-f3]
    ·revert hM f3
     intro hM0 f30
     rintro m A hM ts' hk ⟨j,g',zs,hm,f1,f2,f3,s1,s2,s3,s4⟩
     simp only[go_sem,↓reduceIte,reduceIte,Qa,Qh,Qb,Qc,Qd,Qe,Qf,Qg,reduceCtorEq, *] at hk
     by_cases hjt:j<r_rules[i].split.length
     ·rw[List.drop_eq_getElem_cons hjt,JeC] at f3
      have hr1:JT (zs.length+1) 24:=Jaa (by omega) (by decide)
      (repeat' (first
 | (with_reducible first|refine callX.by (JaG _ _ _ _ _ _ _ ?_ ?_ ?_) ?_|refine callX.by JaQ ?_)
 | (with_reducible refine callX.ar ?_ ?_ (Ja7 ?_ ?_);(focus(simp only[go_sem,↓reduceIte,reduceIte,Qa,Qh,Qb,Qc,Qd,Qe,Qf,Qg,reduceCtorEq, *,-hs,-hsk,-hb3,-f3,-f30];first|done|rfl)))
 |with_reducible refine callX.by (ZW _ _ _ _) ?_
 | (with_reducible refine callX.mv ?_ ?_ ?_ (JaS ?_ ?_);(focus(simp only[go_sem,↓reduceIte,reduceIte,Qa,Qh,Qb,Qc,Qd,Qe,Qf,Qg,reduceCtorEq, *,-hs,-hsk,-hb3,-f3,-f30];first|done|rfl));(focus(simp only[go_sem,↓reduceIte,reduceIte,Qa,Qh,Qb,Qc,Qd,Qe,Qf,Qg,reduceCtorEq, *,-hs,-hsk,-hb3,-f3,-f30];first|done|rfl)))
 | (with_reducible first|assumption|(refine Qw hK _ ?_;clear hK K)|refine Qw ‹_› _ ?_|refine Qx ‹_› ?_|refine Qi fun K hK=>?_|refine Qj T fun K hK=>?_|refine Ql fun A B hA hB=>?_|refine Qm ?_|refine Qn ?_|refine Qp ?_|refine Qr ?_)
 | ((with_reducible first|apply Qy|apply Qz|apply QA)<;>intro hb<;>try simp only[nr] at hb)
 |simp only[go_sem,↓reduceIte,reduceIte,Qa,Qh,Qb,Qc,Qd,Qe,Qf,Qg,reduceCtorEq, *,-hs,-hsk,-hb3,-f3,-f30]
 |with_reducible refine fun(bn:Bool) hbn=>?_))
      all_goals ((repeat clear hK);(repeat clear hA);(repeat clear hB))
      ·(refine hM.onE (r_rules[i].split.length-(j+1)) (Ent.ren 3 45 ?_ ?_) ?_ ?_ ?_;(focus(simp only[go_sem,↓reduceIte,reduceIte,Qa,Qh,Qb,Qc,Qd,Qe,Qf,Qg,reduceCtorEq, *,Jd hjt hxs,List.length_append,-f3,-f30,-hM0];first|done|rfl));(focus(simp only[go_sem,↓reduceIte,reduceIte,Qa,Qh,Qb,Qc,Qd,Qe,Qf,Qg,reduceCtorEq, *,Jd hjt hxs,List.length_append,-f3,-f30,-hM0];first|done|rfl));omega;(focus(simp only[go_sem,↓reduceIte,reduceIte,Qa,Qh,Qb,Qc,Qd,Qe,Qf,Qg,reduceCtorEq, *,Jd hjt hxs,List.length_append,-f3,-f30,-hM0];done));refine⟨j+1,g'+1,zs++[⟨2,r_rules[i].split[j].cluster⟩],rfl,by omega,by simp;omega,by rw[f3,if_pos hb,List.append_assoc],?_⟩;simp only[go_sem,↓reduceIte,reduceIte,Qa,Qh,Qb,Qc,Qd,Qe,Qf,Qg,reduceCtorEq, *,Jd hjt hxs,List.length_append,-f3,-f30,-hM0];done)
      ·rw[if_neg (by omega),List.nil_append] at f3
       (refine hM.on (r_rules[i].split.length-(j+1)) (by omega) (by simp only[go_sem,↓reduceIte,reduceIte,Qa,Qh,Qb,Qc,Qd,Qe,Qf,Qg,reduceCtorEq, *,Jd hjt hxs,-f3,-f30,-hM0]) ⟨j+1,g',zs,rfl,by omega,by omega,f3,?_⟩;simp only[go_sem,↓reduceIte,reduceIte,Qa,Qh,Qb,Qc,Qd,Qe,Qf,Qg,reduceCtorEq, *,Jd hjt hxs,-f3,-f30,-hM0];done)
     ·rw[List.drop_eq_nil_of_le (by omega)] at f3
      (repeat' (first
 | (with_reducible first|refine callX.by (JaG _ _ _ _ _ _ _ ?_ ?_ ?_) ?_|refine callX.by JaQ ?_)
 | (with_reducible refine callX.ar ?_ ?_ (Ja7 ?_ ?_);(focus(simp only[go_sem,↓reduceIte,reduceIte,Qa,Qh,Qb,Qc,Qd,Qe,Qf,Qg,reduceCtorEq, *,-hs,-hsk,-hb3,-f3,-f30];first|done|rfl)))
 |with_reducible refine callX.by (ZW _ _ _ _) ?_
 | (with_reducible refine callX.mv ?_ ?_ ?_ (JaS ?_ ?_);(focus(simp only[go_sem,↓reduceIte,reduceIte,Qa,Qh,Qb,Qc,Qd,Qe,Qf,Qg,reduceCtorEq, *,-hs,-hsk,-hb3,-f3,-f30];first|done|rfl));(focus(simp only[go_sem,↓reduceIte,reduceIte,Qa,Qh,Qb,Qc,Qd,Qe,Qf,Qg,reduceCtorEq, *,-hs,-hsk,-hb3,-f3,-f30];first|done|rfl)))
 | (with_reducible first|assumption|(refine Qw hK _ ?_;clear hK K)|refine Qw ‹_› _ ?_|refine Qx ‹_› ?_|refine Qi fun K hK=>?_|refine Qj T fun K hK=>?_|refine Ql fun A B hA hB=>?_|refine Qm ?_|refine Qn ?_|refine Qp ?_|refine Qr ?_)
 | ((with_reducible first|apply Qy|apply Qz|apply QA)<;>intro hb<;>try simp only[nr] at hb)
 |simp only[go_sem,↓reduceIte,reduceIte,Qa,Qh,Qb,Qc,Qd,Qe,Qf,Qg,reduceCtorEq, *,-hs,-hsk,-hb3,-f3,-f30]
 |with_reducible refine fun(bn:Bool) hbn=>?_))
      all_goals ((repeat clear hK);(repeat clear hA);(repeat clear hB))
      all_goals (clear hM;revert hM0;intro hM)
      (refine hM.on (r_rules.length-(i+1)) (by omega) (by simp only[go_sem,↓reduceIte,reduceIte,Qa,Qh,Qb,Qc,Qd,Qe,Qf,Qg,reduceCtorEq, *,Jd hlt hl,-f3,-f30,-hs,-hsk,-hb3]) ⟨i+1,g',zs,rfl,by omega,by omega,by rw[f30,←List.append_assoc,f3];simp[VO],?_⟩;simp only[go_sem,↓reduceIte,reduceIte,Qa,Qh,Qb,Qc,Qd,Qe,Qf,Qg,reduceCtorEq, *,Jd hlt hl,-f3,-f30,-hs,-hsk,-hb3];done)
   ·rw[List.drop_eq_nil_of_le (by omega)] at f3
    have e:ys=bs++JK r_rules:=by rw[f3];simp[JK]
    subst e
    clear f3
    have hk1:=Jci (bs++JK r_rules)
    have htk:(JR (bs++JK r_rules)).take (bs++JK r_rules).length=JR (bs++JK r_rules):=List.take_of_length_le (by omega)
    have htk2:(JR (bs++JK r_rules)).take (bs.length+(JK r_rules).length)=JR (bs++JK r_rules):=List.take_of_length_le (by rw[hk1,List.length_append];exact Nat.le_refl _)
    have hsm1:Jc (bs++JK r_rules).length:=by unfold Jc;omega
    have hsm2:Jc (JR (bs++JK r_rules)).length:=by rw[hk1];exact hsm1
    (repeat' (first
 | (with_reducible first|refine callX.by (JaG _ _ _ _ _ _ _ ?_ ?_ ?_) ?_|refine callX.by JaQ ?_)
 | (with_reducible refine callX.ar ?_ ?_ (Ja7 ?_ ?_);(focus(simp only[go_sem,↓reduceIte,reduceIte,Qa,Qh,Qb,Qc,Qd,Qe,Qf,Qg,reduceCtorEq, *,Nat.le_refl,-hs,-hsk,-hb3];first|done|rfl)))
 |with_reducible refine callX.by (ZW _ _ _ _) ?_
 | (with_reducible refine callX.mv ?_ ?_ ?_ (JaS ?_ ?_);(focus(simp only[go_sem,↓reduceIte,reduceIte,Qa,Qh,Qb,Qc,Qd,Qe,Qf,Qg,reduceCtorEq, *,Nat.le_refl,-hs,-hsk,-hb3];first|done|rfl));(focus(simp only[go_sem,↓reduceIte,reduceIte,Qa,Qh,Qb,Qc,Qd,Qe,Qf,Qg,reduceCtorEq, *,Nat.le_refl,-hs,-hsk,-hb3];first|done|rfl)))
 | (with_reducible first|assumption|(refine Qw hK _ ?_;clear hK K)|refine Qw ‹_› _ ?_|refine Qx ‹_› ?_|refine Qi fun K hK=>?_|refine Qj T fun K hK=>?_|refine Ql fun A B hA hB=>?_|refine Qm ?_|refine Qn ?_|refine Qp ?_|refine Qr ?_)
 | ((with_reducible first|apply Qy|apply Qz|apply QA)<;>intro hb<;>try simp only[nr] at hb)
 |simp only[go_sem,↓reduceIte,reduceIte,Qa,Qh,Qb,Qc,Qd,Qe,Qf,Qg,reduceCtorEq, *,Nat.le_refl,-hs,-hsk,-hb3]
 |with_reducible refine fun(bn:Bool) hbn=>?_))
    all_goals ((repeat clear hK);(repeat clear hA);(repeat clear hB))
    all_goals rfl
def upR:List Res→Bool
 | []=>true
 |a :: l=>match l with
  | []=>true
  |b :: _=>decide (Jv (Je a) (Je b)<0) && upR l
theorem Jpp(a b:Res)(l:List Res):upR (a :: b :: l)=(decide (Jv (Je a) (Je b)<0) && upR (b :: l)):=rfl
def awq:Res:=⟨0,[108],0,80,[97],[],[]⟩
theorem JfT:JW awq=0:=by decide
theorem Jja:Jk awq=[⟨1,[97]⟩]:=by
 unfold Jk
 rw[if_pos JfT]
 have e:Vg awq++JK awq.rules'=[⟨1,[97]⟩]:=by decide
 rw[e]
 have e2:JR [⟨1,[97]⟩]=[(⟨1,[97]⟩:Key)]:=by simp[JR]
 rw[e2];rfl
theorem JaP:CallR Tryz.prog 71 [.agg [.int .i64 0,.str [108],.int .i64 0,.int .i64 80,.str [97],.slice false [],.slice false []]] (.own 2 [.agg [.int .i64 1,.str [97]]]):=by
 have h:=JaB 0 [108] 0 80 [97] [] [] (by simp[Jc]) (by simp[Jc]) (by simp)
 have e:=Jja;unfold awq at e
 rw[e] at h;exact h
theorem JaQ:CallR Tryz.prog 116 [.agg [.int .i64 0,.str [108],.int .i64 0,.int .i64 80,.str [97],.slice false [],.slice false []]] (.val (.int .i64 0)):=by
 have h:=JaG 0 [108] 0 80 [97] [] [] (by simp[Jc]) (by simp[Jc]) (by simp)
 have e:=JfT;unfold awq at e
 rw[e] at h;exact h
theorem JfU:CallR Tryz.prog 120 [.agg [.int .i64 0,.str [108],.int .i64 0,.int .i64 80,.str [97],.slice false [],.slice false []],.agg [.int .i64 0,.str [108],.int .i64 0,.int .i64 80,.str [97],.slice false [],.slice false []]] (.val (.bool true)):=by
 have h:=JdK 0 [108] 0 80 [97] [] [] 0 [108] 0 80 [97] [] [] (by simp[Jc]) (by simp[Jc]) (by simp)
 rw[decide_eq_true rfl] at h
 exact h
theorem Jf2:∀a b:List UInt8,-1≤Lib.compareBytes a b∧Lib.compareBytes a b≤1
 | [],[]=>by simp[Lib.compareBytes]
 | [],_ :: _=>by simp[Lib.compareBytes]
 |_ :: _,[]=>by simp[Lib.compareBytes]
 |a :: x,b :: y=>by
  have:=Jf2 x y
  unfold Lib.compareBytes
  split
  ·omega
  ·split
   ·omega
   ·exact this
theorem Jfe(r:Res):JW r=0↔JH r.kind 3=true∧JL r.name=true∧Vj r=true∧Zq r=true∧Zi r=true∧Zr r=true:=by
 unfold JW
 cases JH r.kind 3<;>cases JL r.name<;>cases Vj r<;>cases Zq r<;>cases Zi r<;>cases Zr r<;>simp
theorem Jpu(n m:Int):JH n m=true↔0≤n∧n≤m:=by
 unfold JH;simp
theorem Jig{r:Res}(h:JW r=0):r.kind=0∨r.kind=1∨r.kind=2∨r.kind=3:=by
 have:=(Jpu _ _).1 ((Jfe r).1 h).1
 omega
theorem Jlf{s:List UInt8}(h:JL s=true):s≠[]:=by
 rintro rfl;revert h;decide
theorem JeD{r:Res}(h:JW r=0):r.to'≠[]↔r.kind=0∨r.kind=2:=by
 rw[Jfe] at h
 obtain⟨h1,h2,h3,h4,h5,h6⟩:=h
 simp only[Zq,Zi,Bool.and_eq_true,Bool.or_eq_true,decide_eq_true_eq] at h4 h5
 constructor
 ·intro h;rcases h4.2.1 with h'|h'
  ·exact absurd h' h
  ·exact h'
 ·intro h
  have h7:=h5.1
  have h8:(decide (r.kind=0) || decide (r.kind=2))=true:=by simpa using h
  rw[h8] at h7
  exact Jlf (by simpa using h7)
theorem Jg6:∀a b:List UInt8,ZB a b=Lib.compareBytes a b
 | [],[]=>rfl
 | [],_ :: _=>rfl
 |_ :: _,[]=>rfl
 |x :: a,y :: b=>by
  simp only[ZB,Lib.compareBytes,UInt8.lt_iff_toNat_lt,Jg6 a b]
theorem Jce(a b:Key):Ys a b=Jv a b:=by rw[Jbx,Ys,Jg6]
def Up(l:List Key):Prop:=l.Pairwise fun x y=>Jv x y<0
theorem Jix:∀ {l r:List Key},Up l→Up r→(∀x,x∈l↔x∈r)→l=r
 | [],[],_,_,_=>rfl
 | [],y :: r,_,_,h=>by have:=(h y).2 (by simp);simp at this
 |x :: l,[],_,_,h=>by have:=(h x).1 (by simp);simp at this
 |x :: l,y :: r,hl,hr,h=>by
  obtain⟨hl1,hl2⟩:=List.pairwise_cons.1 hl
  obtain⟨hr1,hr2⟩:=List.pairwise_cons.1 hr
  have hxy:x=y:=by
   rcases List.mem_cons.1 ((h x).1 (by simp)) with e|hx
   ·exact e
   ·rcases List.mem_cons.1 ((h y).2 (by simp)) with e|hy
    ·exact e.symm
    ·exact absurd (Jau _ _ _ (hl1 y hy) (hr1 x hx)) (Jcf _)
  subst hxy
  rw[Jix hl2 hr2 fun z=>?_]
  constructor
  ·intro hz
   rcases List.mem_cons.1 ((h z).1 (List.mem_cons_of_mem _ hz)) with e|hz'
   ·subst e;exact absurd (hl1 z hz) (Jcf _)
   ·exact hz'
  ·intro hz
   rcases List.mem_cons.1 ((h z).2 (List.mem_cons_of_mem _ hz)) with e|hz'
   ·subst e;exact absurd (hr1 z hz) (Jcf _)
   ·exact hz'
theorem JeW(k:Key):∀ {l:List Key},(∀x∈l,Ys x k≠0)→Vy k l true=l
 | [],_=>rfl
 |x :: r,h=>by
  rw[Vy,if_neg (h x (by simp))]
  simp only[Bool.not_true,Bool.and_false,Bool.true_or,Bool.false_eq_true,if_false,List.nil_append]
  rw[JeW k fun y hy=>h y (by simp[hy])];rfl
theorem JeH(k:Key):∀ {l:List Key},Up l→∀x,x∈Vy k l false↔x=k∨x∈l
 | [],_,x=>by simp[Vy]
 |y :: r,h,x=>by
  obtain⟨h1,h2⟩:=List.pairwise_cons.1 h
  rw[Vy,Jce]
  by_cases h0:Jv y k<0
  ·have e1:¬0≤Jv y k:=by omega
   have e2:¬Jv y k=0:=by omega
   simp only[e1,decide_false,Bool.false_and,Bool.or_false,Bool.false_eq_true,if_false,e2,List.nil_append,List.cons_append,List.mem_cons]
   rw[JeH k h2];grind
  ·have e1:0≤Jv y k:=by omega
   have hr:∀z∈r,Ys z k≠0:=fun z hz=>by
    rw[Jce]
    intro h3
    have:=ZY _ _ h3
    subst this
    have:=h1 z hz
    omega
   simp only[e1,decide_true,Bool.or_true,Bool.not_false,Bool.and_true,if_true]
   rw[JeW k hr]
   by_cases e2:Jv y k=0
   ·have:=ZY _ _ e2
    subst this
    simp[e2]
   ·simp[e2]
theorem Jiy(k:Key):∀ {l:List Key},Up l→Up (Vy k l false)
 | [],_=>by simp[Vy,Up]
 |y :: r,h=>by
  obtain⟨h1,h2⟩:=List.pairwise_cons.1 h
  have hm:=JeH k h2
  have hu:=Jiy k h2
  rw[Vy,Jce]
  by_cases h0:Jv y k<0
  ·have e1:¬0≤Jv y k:=by omega
   have e2:¬Jv y k=0:=by omega
   simp only[e1,decide_false,Bool.false_and,Bool.or_false,Bool.false_eq_true,if_false,e2,List.nil_append,List.cons_append]
   refine List.pairwise_cons.2 ⟨fun z hz=>?_,hu⟩
   rcases(hm z).1 hz with rfl|hz
   ·exact h0
   ·exact h1 z hz
  ·have e1:0≤Jv y k:=by omega
   have hr:∀z∈r,Ys z k≠0:=fun z hz=>by
    rw[Jce]
    intro h3
    have:=ZY _ _ h3
    subst this
    have:=h1 z hz
    omega
   simp only[e1,decide_true,Bool.or_true,Bool.not_false,Bool.and_true,if_true]
   rw[JeW k hr]
   by_cases e2:Jv y k=0
   ·have:=ZY _ _ e2
    subst this
    simp only[e2,if_true,List.append_nil,List.cons_append,List.nil_append]
    exact h
   ·simp only[e2,if_false,List.cons_append,List.nil_append]
    have hky:Jv k y<0:=by have:=ZX y k;omega
    refine List.pairwise_cons.2 ⟨fun z hz=>?_,h⟩
    rcases List.mem_cons.1 hz with rfl|hz
    ·exact hky
    ·exact Jau _ _ _ hky (h1 z hz)
theorem Jgu:∀(K:List Key) {ys:List Key},Up ys→Up (K.foldl YX ys)∧∀x,x∈K.foldl YX ys↔x∈ys∨x∈K
 | [],ys,h=>⟨h,by simp⟩
 |k :: K,ys,h=>by
  obtain⟨h1,h2⟩:=Jgu K (Jiy k h)
  refine⟨h1,fun x=>?_⟩
  rw[List.foldl_cons]
  have:=h2 x
  rw[show YX ys k=Vy k ys false from rfl,this,JeH k h]
  simp only[List.mem_cons];grind
def Le(l:List Key):Prop:=l.Pairwise fun x y=>¬Jv y x<0
theorem JkE(K:List Key):Le (JR K):=by
 have:=List.pairwise_mergeSort (le:=fun x y:Key=>!decide (Jv y x<0)) (fun a b c h k=>by
  simp only[Bool.not_eq_true',decide_eq_false_iff_not] at h k ⊢
  intro h3
  by_cases h4:Jv b c=0
  ·have:=ZY _ _ h4;subst this;exact h h3
  ·have:Jv b c<0:=by have:=ZX b c;omega
   exact h (Jau _ _ _ this h3)) (fun a b=>by
  simp only[Bool.or_eq_true,Bool.not_eq_true',decide_eq_false_iff_not]
  have:=ZX a b;omega) K
 unfold Le JR
 exact this.imp fun h=>by simpa using h
theorem JkF(K:List Key)(x:Key):x∈JR K↔x∈K:=by unfold JR;exact List.mem_mergeSort
theorem JgN:∀ {a:Key} {r:List Key},Le (a :: r)→Up (a :: Vp (a :: r))∧∀x,x∈a :: Vp (a :: r)↔x∈a :: r
 |a,[],_=>by simp[Vp,Up]
 |a,b :: r,h=>by
  obtain⟨h1,h2⟩:=List.pairwise_cons.1 h
  obtain⟨u,m⟩:=JgN h2
  rw[Vp]
  by_cases e:b=a
  ·subst e
   rw[if_pos rfl]
   exact⟨u,fun x=>by rw[m];simp⟩
  ·rw[if_neg e]
   refine⟨List.pairwise_cons.2 ⟨fun z hz=>?_,u⟩,fun x=>?_⟩
   ·have hab:Jv a b<0:=by
     have h3:=h1 b (by simp)
     have h4:=ZX a b
     by_cases h5:Jv a b=0
     ·exact absurd (ZY _ _ h5).symm e
     ·omega
    rcases List.mem_cons.1 hz with rfl|hz
    ·exact hab
    ·exact Jau _ _ _ hab ((List.pairwise_cons.1 u).1 z hz)
   ·rw[List.mem_cons,m,←List.mem_cons]
theorem Jkx{l:List Key}(h:Le l):Up (Yd l)∧∀x,x∈Yd l↔x∈l:=by
 unfold Yd
 cases l with
 |nil=>simp[Vp,Up]
 |cons a r=>simpa using JgN h
theorem Je1{r:Res}(h:¬JW r=0):Jk r=[]:=by unfold Jk;rw[if_neg h]
theorem Jdx{r:Res}(h:JW r=0):Up (Jk r)∧∀x,x∈Jk r↔x∈Vg r++JK r.rules':=by
 obtain⟨h1,h2⟩:=Jkx (JkE (Vg r++JK r.rules'))
 unfold Jk
 rw[if_pos h]
 exact⟨h1,fun x=>by rw[h2,JkF]⟩
theorem JkS{w:List Weight}{x:Key}:x∈VO w↔∃y∈w,0<y.w∧x=⟨2,y.cluster⟩:=by
 unfold VO
 simp only[List.mem_map,List.mem_filter,decide_eq_true_eq]
 constructor
 ·rintro⟨y,⟨h1,h2⟩,rfl⟩;exact⟨y,h1,h2,rfl⟩
 ·rintro⟨y,h1,h2,rfl⟩;exact⟨y,⟨h1,h2⟩,rfl⟩
theorem mem_keysR{l:List Rule}{x:Key}:x∈JK l↔∃z∈l,∃y∈z.split,0<y.w∧x=⟨2,y.cluster⟩:=by
 unfold JK
 simp only[List.mem_flatMap,JkS]
theorem Jfw{r:Res}(h:JW r=0):IntKind.i64.wrap (r.kind+1)=r.kind+1 :=
 IntWalk.i64_in _ (by have:=Jig h;omega)
theorem JdL{r:Res}(h:JW r=0):(r.to'≠[]→r.kind=0∨r.kind=2)∧(r.rules'≠[]→r.kind=1)∧(r.hosts≠[]→r.kind=3)∧(r.to'≠[]→JL r.to'=true) ∧
  (∀x∈r.rules',Yx x=true):=by
 have hto:=JeD h
 rw[Jfe] at h
 obtain⟨h1,h2,h3,h4,h5,h6⟩:=h
 simp only[Zq,Zi,Bool.and_eq_true,Bool.or_eq_true,decide_eq_true_eq] at h4 h5
 refine⟨hto.1,fun h=>?_,fun h=>?_,fun h=>?_,fun x hx=>?_⟩
 ·rcases h4.2.2.1 with h'|h'
  ·exact absurd (List.length_eq_zero_iff.1 h') h
  ·exact h'
 ·rcases h4.2.2.2 with h'|h'
  ·exact absurd (List.length_eq_zero_iff.1 h') h
  ·exact h'
 ·have h8:(decide (r.kind=0) || decide (r.kind=2))=true:=by simpa using hto.1 h
  have h7:=h5.1
  rw[h8] at h7
  simpa using h7
 ·have h7:=h5.2
  simp only[Bool.not_eq_true',List.any_eq_false,Bool.not_eq_true,Bool.not_eq_false'] at h7
  simpa using h7 x hx
theorem JlY{r:Res}(h:JW r=0):∀x∈Jk r,x.kind=r.kind+1∧JL x.name=true:=by
 obtain⟨h1,h2,h3,h4,h5⟩:=JdL h
 intro x hx
 rw[(Jdx h).2,List.mem_append] at hx
 rcases hx with hx|hx
 ·unfold Vg at hx
  split at hx
  ·simp at hx
  ·rename_i hne
   rw[List.mem_singleton] at hx
   subst hx
   exact⟨Jfw h,h4 hne⟩
 ·obtain⟨z,hz,y,hy,hw,rfl⟩:=mem_keysR.1 hx
  have hk:=h2 (List.ne_nil_of_mem hz)
  refine⟨by simp only;omega,?_⟩
  have hr:=h5 z hz
  simp only[Yx,Bool.and_eq_true,Bool.not_eq_true',List.any_eq_false,Bool.not_eq_true,Bool.not_eq_false'] at hr
  simpa using hr.2.2 y hy
theorem JlX{r:Res}(h:r.kind=3):Jk r=[]:=by
 by_cases hs:JW r=0
 ·obtain⟨h1,h2,h3,h4,h5⟩:=JdL hs
  apply List.eq_nil_iff_forall_not_mem.2
  intro x hx
  rw[(Jdx hs).2,List.mem_append] at hx
  rcases hx with hx|hx
  ·unfold Vg at hx
   split at hx
   ·simp at hx
   ·rename_i hne
    have:=h1 hne;omega
  ·obtain⟨z,hz,_⟩:=mem_keysR.1 hx
   have:=h2 (List.ne_nil_of_mem hz);omega
 ·exact Je1 hs
theorem JhM{r:Res}(h:JW r=0)(hk:r.kind=0∨r.kind=2):Jk r=[⟨r.kind+1,r.to'⟩]:=by
 obtain⟨h1,h2,h3,h4,h5⟩:=JdL h
 have hto:=(JeD h).2 hk
 have hr:r.rules'=[]:=Classical.byContradiction fun hn=>by have:=h2 hn;omega
 unfold Jk
 rw[if_pos h]
 have e:Vg r++JK r.rules'=[⟨r.kind+1,r.to'⟩]:=by
  rw[hr];unfold Vg;rw[if_neg hto,Jfw h];rfl
 rw[e]
 have e2:JR [⟨r.kind+1,r.to'⟩]=[(⟨r.kind+1,r.to'⟩:Key)]:=by simp[JR]
 rw[e2];rfl
theorem JbJ(r:Res):(Jk r).length≤33:=by
 by_cases hs:JW r=0
 ·obtain⟨b1,b2,b3⟩:=Jij (Jff hs)
  have hc:∀l:List Key,(Vp l).length≤l.length-1:=by
   intro l
   induction l with
   |nil=>simp[Vp]
   |cons a r ih =>
    cases r with
    |nil=>simp[Vp]
    |cons b r=>rw[Vp];split<;>simp only[List.length_cons] at ih ⊢<;>omega
  have hk:∀l:List Key,(Yd l).length≤l.length:=by
   intro l;unfold Yd;rw[List.length_append];have:=hc l
   cases l with
   |nil=>simpa using this
   |cons a r=>simp only[List.length_cons,List.take_succ_cons,List.take_zero,List.length_nil] at this ⊢;omega
  have hkR:∀l:List Rule,(∀x∈l,x.split.length≤4)→(JK l).length≤4*l.length:=by
   intro l
   induction l with
   |nil=>simp[JK]
   |cons a r ih =>
    intro h
    rw[Jch,List.length_append]
    have:=ih fun x hx=>h x (List.mem_cons_of_mem _ hx)
    have h2:=h a (by simp)
    have h3:=JkC a.split
    simp only[List.length_cons];omega
  have hb:(Vg r).length≤1:=by unfold Vg;split<;>simp
  have:=hk (JR (Vg r++JK r.rules'))
  rw[Jci,List.length_append] at this
  have:=hkR _ b3
  unfold Jk
  rw[if_pos hs]
  omega
 ·rw[Je1 hs];simp
@[go_sem] def Jd0:List (List Nat×List Nat):=[([14],[16]),([15],[16]),([16],[14,15])]
theorem Yz{n:Nat}(h:n≤65536):Jc n:=by unfold Jc;omega
def J4(l:List Res)(k:Key):List Key:=(l.filter fun r=>(Jk r).any fun x=>decide (k=x)).map Je
set_option maxHeartbeats 4000000 in
theorem Je0(xs:List Res)(k_kind:Int)(k_name:List UInt8)(hl:xs.length≤65536)(hs:∀r∈xs,Jw r):CallR Tryz.prog 19 [.slice false (Ja xs),.agg [.int .i64 k_kind,.str k_name]] (.own 2 (Ja (J4 xs (⟨k_kind,k_name⟩:Key)))):=by
 have hsl:=Yz hl
 refine CallR.go2 (T:=T) Tryz.call19 Tryz.func19 rfl Tryz.ntmps19 (congrArg Array.toList Tryz.results19) (by decide) fun ts hn h0 h1=>?_
 (repeat' (first
 | (with_reducible first|refine callX.by (JaB _ _ _ _ _ _ _ ?_ ?_ ?_) ?_|refine callX.by JaP ?_|refine callX.by (Jbn _ _ _ ?_) ?_|refine callX.by (J8 _ _ _ _ _ _ _) ?_|assumption|(refine Qw hK _ ?_;clear hK K)|refine Qw ‹_› _ ?_|refine Qx ‹_› ?_|refine Qi fun K hK=>?_|refine Qj T fun K hK=>?_|refine Qk (id:=5) T mixed Jd0 (by kernel_rfl) fun K hK=>?_|refine Ql fun A B hA hB=>?_|refine Qm ?_|refine Qn ?_|refine Qp ?_|refine Qr ?_)
 | ((with_reducible first|apply Qy|apply Qz|apply QA)<;>intro hb<;>try simp only[nr] at hb)
 |simp only[go_sem,↓reduceIte,reduceIte,Qa,Qh,Qb,Qc,Qd,Qe,Qf,Qg,reduceCtorEq, *,-hs]
 |with_reducible refine fun(bn:Bool) hbn=>?_))
 refine SpecC.virt 5 22 2 (by decide) (by simp only[go_sem,↓reduceIte,reduceIte,Qa,Qh,Qb,Qc,Qd,Qe,Qf,Qg,reduceCtorEq, *,-hs]) ?_
 refine Qs [3,8,9] (fun m ts'=>∃(i:Nat),∃(g:Nat),∃(ys:List Key),m=xs.length-i∧i≤xs.length∧ys.length≤i∧J4 xs (⟨k_kind,k_name⟩:Key)=ys++J4 (xs.drop i) (⟨k_kind,k_name⟩:Key)∧ts'.tmp 5=.os 22 g ys.length∧ts'.gen 22=g∧ts'.obj 22=.arr 2 (Ja ys)∧ts'.tmp 10=.int .i64 i) xs.length ?_ ?_
 ·refine⟨0,ts.gen 22+1,[],rfl,Nat.zero_le _,Nat.le_refl _,rfl,?_⟩
  simp only[go_sem,↓reduceIte,reduceIte,Qa,Qh,Qb,Qc,Qd,Qe,Qf,Qg,reduceCtorEq, *,-hs,Vo]
 ·rintro m A hM ts' hk ⟨i,g,ys,hm,f1,f2,f3,s1,s2,s3,s4⟩
  simp only[go_sem,↓reduceIte,reduceIte,Qa,Qh,Qb,Qc,Qd,Qe,Qf,Qg,reduceCtorEq, *] at hk
  by_cases hlt:i<xs.length
  ·rw[List.drop_eq_getElem_cons hlt] at f3
   obtain⟨_,_,hx1,hx2,hx3⟩:=hs _ (QC hlt)
   have hrl:=JbJ xs[i]
   have hrs:Jc (Jk xs[i]).length:=by unfold Jc;omega
   have hr1:JT (ys.length+1) 24:=Jaa (by omega) (by decide)
   (repeat' (first
 | (with_reducible first|refine callX.by (JaB _ _ _ _ _ _ _ ?_ ?_ ?_) ?_|refine callX.by JaP ?_|refine callX.by (Jbn _ _ _ ?_) ?_|refine callX.by (J8 _ _ _ _ _ _ _) ?_|assumption|(refine Qw hK _ ?_;clear hK K)|refine Qw ‹_› _ ?_|refine Qx ‹_› ?_|refine Qi fun K hK=>?_|refine Qj T fun K hK=>?_|refine Qk (id:=5) T mixed Jd0 (by kernel_rfl) fun K hK=>?_|refine Ql fun A B hA hB=>?_|refine Qm ?_|refine Qn ?_|refine Qp ?_|refine Qr ?_)
 | ((with_reducible first|apply Qy|apply Qz|apply QA)<;>intro hb<;>try simp only[nr] at hb)
 |simp only[go_sem,↓reduceIte,reduceIte,Qa,Qh,Qb,Qc,Qd,Qe,Qf,Qg,reduceCtorEq, *,-hs,-hx2,-f3]
 |with_reducible refine fun(bn:Bool) hbn=>?_))
   all_goals ((repeat clear hK);(repeat clear hA);(repeat clear hB))
   ·have f3':J4 xs (⟨k_kind,k_name⟩:Key)=ys++(Je xs[i] :: J4 (xs.drop (i+1)) (⟨k_kind,k_name⟩:Key)):=by
     rw[f3];unfold J4;rw[List.filter_cons,if_pos (by simpa using hb)];rfl
    (refine hM.on (xs.length-(i+1)) (by omega) (by simp only[go_sem,↓reduceIte,reduceIte,Qa,Qh,Qb,Qc,Qd,Qe,Qf,Qg,reduceCtorEq, *,Jd hlt hsl,List.length_append,Je,-hs,-hx2,-f3,-f3']) ⟨i+1,g+1,ys++[Je xs[i]],rfl,by omega,by simp;omega,by rw[f3',List.append_assoc];rfl,?_⟩;simp only[go_sem,↓reduceIte,reduceIte,Qa,Qh,Qb,Qc,Qd,Qe,Qf,Qg,reduceCtorEq, *,Jd hlt hsl,List.length_append,Je,-hs,-hx2,-f3,-f3'];done)
   ·have f3':J4 xs (⟨k_kind,k_name⟩:Key)=ys++J4 (xs.drop (i+1)) (⟨k_kind,k_name⟩:Key):=by
     rw[f3];unfold J4;rw[List.filter_cons,if_neg (fun h=>by rw[hb] at h;cases h)]
    (refine hM.on (xs.length-(i+1)) (by omega) (by simp only[go_sem,↓reduceIte,reduceIte,Qa,Qh,Qb,Qc,Qd,Qe,Qf,Qg,reduceCtorEq, *,Jd hlt hsl,-hs,-hx2,-f3,-f3']) ⟨i+1,g,ys,rfl,by omega,by omega,f3',?_⟩;simp only[go_sem,↓reduceIte,reduceIte,Qa,Qh,Qb,Qc,Qd,Qe,Qf,Qg,reduceCtorEq, *,Jd hlt hsl,-hs,-hx2,-f3,-f3'];done)
  ·rw[List.drop_eq_nil_of_le (by omega)] at f3
   have e:ys=J4 xs (⟨k_kind,k_name⟩:Key):=by rw[f3];simp[J4]
   subst e
   clear f3
   (repeat' (first
 | (with_reducible first|refine callX.by (JaB _ _ _ _ _ _ _ ?_ ?_ ?_) ?_|refine callX.by JaP ?_|refine callX.by (Jbn _ _ _ ?_) ?_|refine callX.by (J8 _ _ _ _ _ _ _) ?_|assumption|(refine Qw hK _ ?_;clear hK K)|refine Qw ‹_› _ ?_|refine Qx ‹_› ?_|refine Qi fun K hK=>?_|refine Qj T fun K hK=>?_|refine Qk (id:=5) T mixed Jd0 (by kernel_rfl) fun K hK=>?_|refine Ql fun A B hA hB=>?_|refine Qm ?_|refine Qn ?_|refine Qp ?_|refine Qr ?_)
 | ((with_reducible first|apply Qy|apply Qz|apply QA)<;>intro hb<;>try simp only[nr] at hb)
 |simp only[go_sem,↓reduceIte,reduceIte,Qa,Qh,Qb,Qc,Qd,Qe,Qf,Qg,reduceCtorEq, *,-hs]
 |with_reducible refine fun(bn:Bool) hbn=>?_))
   all_goals ((repeat clear hK);(repeat clear hA);(repeat clear hB))
theorem JmZ(l:List Res)(k:Int):(Vv l k).length≤l.length:=List.length_filter_le _ _
end Go.Proofs.YtmjkjmoeicnbnaaGreatDoor.Lg
