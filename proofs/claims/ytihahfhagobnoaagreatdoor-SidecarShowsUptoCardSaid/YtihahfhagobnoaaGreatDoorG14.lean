/- Parts of the proof, one behind the other. -/
import Derived.Test.YtihahfhagobnoaaGreatDoorG13
namespace Go.Proofs.YtihahfhagobnoaaGreatDoor.Lg
set_option maxRecDepth 100000
set_option linter.unusedVariables false
set_option linter.unusedSimpArgs false
open Go
open Nat renaming reduceEqDiff → Qa, reduceLT → Qb, reduceLeDiff → Qc, reduceAdd → Qd, reduceMul → Qe, reduceSub → Qf, reduceBEq → Qg
open String renaming reduceEq → Qh
open SpecC renaming seqW → Qi, regW → Qj, drawW → Qk, condW → Ql, block → Qm, skip → Qn, exit → Qp, ret → Qr, loopF → Qs
open NxK renaming out → Qw
open Nx renaming out → Qx
open condK renaming split → Qy
open gK renaming split_t → Qz, split_f → QA
open List renaming getElem_mem → QC
def Y5(l:List Weight):List Key:=(l.filter fun w=>decide (0<w.w)).map fun w=>⟨2,w.cluster⟩
def Vf(l:List Rule):List Key:=l.flatMap fun x=>Y5 x.split
def YJ(r:Res):List Key:=if r.to'=[] then [] else [⟨IntKind.i64.wrap (r.kind+1),r.to'⟩]
def JH(r:Res):List Key:=if Vc r=0 then VK (JK (YJ r++Vf r.rules')) else []
theorem Jin(x:Rule)(l:List Rule):Vf (x :: l)=Y5 x.split++Vf l:=rfl
theorem Jmb(w:Weight)(l:List Weight):Y5 (w :: l)=(if 0<w.w then [⟨2,w.cluster⟩] else [])++Y5 l:=by
 unfold Y5
 by_cases h:0<w.w<;>simp[h]
theorem JjQ{r:Res}(h:Vc r=0):YV r=true:=by
 unfold Vc at h
 cases hs:YV r with
 |true=>rfl
 |false =>
  rw[hs] at h
  split at h
  ·cases h
  ·split at h
   ·cases h
   ·simp at h
theorem JjY{r:Res}(h:YV r=true):r.rules'.length≤8∧r.hosts.length≤8∧∀x∈r.rules',x.split.length≤4:=by
 simp only[YV,Bool.and_eq_true,decide_eq_true_eq,List.all_eq_true] at h
 refine⟨h.2.2.1,h.2.2.2.1,fun x hx=>?_⟩
 have:=h.2.2.2.2.2 x hx
 simp only[Jbt,Bool.and_eq_true,decide_eq_true_eq] at this
 exact this.1
theorem Jmc(l:List Weight):(Y5 l).length≤l.length:=by
 unfold Y5
 rw[List.length_map]
 exact List.length_filter_le _ _
set_option maxHeartbeats 4000000 in
theorem YT(r_kind:Int)(r_name:List UInt8)(r_ver:Int)(r_port:Int)(r_to:List UInt8)(r_rules:List Rule)(r_hosts:List Int)(hl:Jc r_rules.length)(hh:Jc r_hosts.length)(hs:∀x∈r_rules,Yw x):CallR Tryz.prog 65 [.agg [.int .i64 r_kind,.str r_name,.int .i64 r_ver,.int .i64 r_port,.str r_to,.slice false (Ja r_rules),.slice false (Ja r_hosts)]] (.own 2 (Ja (JH (⟨r_kind,r_name,r_ver,r_port,r_to,r_rules,r_hosts⟩:Res)))):=by
 by_cases hsn:Vc (⟨r_kind,r_name,r_ver,r_port,r_to,r_rules,r_hosts⟩:Res)=0
 rotate_left
 ·have hr:JH (⟨r_kind,r_name,r_ver,r_port,r_to,r_rules,r_hosts⟩:Res)=[]:=if_neg hsn
  rw[hr]
  refine CallR.go1 (T:=T) Tryz.call65 Tryz.func65 rfl Tryz.ntmps65 (congrArg Array.toList Tryz.results65) (by decide) fun ts hn h0=>?_
  (repeat' (first
 | (with_reducible first|refine callX.by (Vx _ _ _ _ _ _ _ ?_ ?_ ?_) ?_|refine callX.by VH ?_)
 | (with_reducible refine callX.ar ?_ ?_ (Yv ?_ ?_);(focus(simp only[go_sem,↓reduceIte,reduceIte,Qa,Qh,Qb,Qc,Qd,Qe,Qf,Qg,reduceCtorEq, *,-hs];first|done|rfl)))
 |with_reducible refine callX.by (Vb _ _ _ _) ?_
 | (with_reducible refine callX.mv ?_ ?_ ?_ (Yi ?_ ?_);(focus(simp only[go_sem,↓reduceIte,reduceIte,Qa,Qh,Qb,Qc,Qd,Qe,Qf,Qg,reduceCtorEq, *,-hs];first|done|rfl));(focus(simp only[go_sem,↓reduceIte,reduceIte,Qa,Qh,Qb,Qc,Qd,Qe,Qf,Qg,reduceCtorEq, *,-hs];first|done|rfl)))
 | (with_reducible first|assumption|(refine Qw hK _ ?_;clear hK K)|refine Qw ‹_› _ ?_|refine Qx ‹_› ?_|refine Qi fun K hK=>?_|refine Qj T fun K hK=>?_|refine Ql fun A B hA hB=>?_|refine Qm ?_|refine Qn ?_|refine Qp ?_|refine Qr ?_)
 | ((with_reducible first|apply Qy|apply Qz|apply QA)<;>intro hb<;>try simp only[nr] at hb)
 |simp only[go_sem,↓reduceIte,reduceIte,Qa,Qh,Qb,Qc,Qd,Qe,Qf,Qg,reduceCtorEq, *,-hs]
 |with_reducible refine fun(bn:Bool) hbn=>?_))
  all_goals rfl
 obtain⟨hb1,hb2,hb3⟩:=JjY (JjQ hsn)
 simp only at hb1 hb2 hb3
 have hr:JH (⟨r_kind,r_name,r_ver,r_port,r_to,r_rules,r_hosts⟩:Res)=VK (JK (YJ (⟨r_kind,r_name,r_ver,r_port,r_to,r_rules,r_hosts⟩:Res)++Vf r_rules)):=if_pos hsn
 rw[hr]
 obtain⟨bs,hbs⟩:∃bs,YJ (⟨r_kind,r_name,r_ver,r_port,r_to,r_rules,r_hosts⟩:Res)=bs:=⟨_,rfl⟩
 rw[hbs]
 have hbl:bs.length≤1:=by
  rw[←hbs];unfold YJ;split<;>simp
 clear hr
 have hr0:Vl 1 24:=Jbk (by decide) (by decide)
 have hsk:∀x∈r_rules,Jc x.split.length:=fun x hx=>(hs x hx).2.2.1
 refine CallR.go1 (T:=T) Tryz.call65 Tryz.func65 rfl Tryz.ntmps65 (congrArg Array.toList Tryz.results65) (by decide) fun ts hn h0=>?_
 (repeat' (first
 | (with_reducible first|refine SpecC.cutAtS 6 [1] (fun ts'=>∃(g:Nat),ts'.tmp 3=.os 3 g bs.length∧ts'.gen 3=g∧ts'.obj 3=.arr 2 (Ja bs)) ?_ ?_|refine callX.by (Vx _ _ _ _ _ _ _ ?_ ?_ ?_) ?_|refine callX.by VH ?_)
 | (with_reducible refine callX.ar ?_ ?_ (Yv ?_ ?_);(focus(simp only[go_sem,↓reduceIte,reduceIte,Qa,Qh,Qb,Qc,Qd,Qe,Qf,Qg,reduceCtorEq, *,-hs,-hsk,-hb3];first|done|rfl)))
 |with_reducible refine callX.by (Vb _ _ _ _) ?_
 | (with_reducible refine callX.mv ?_ ?_ ?_ (Yi ?_ ?_);(focus(simp only[go_sem,↓reduceIte,reduceIte,Qa,Qh,Qb,Qc,Qd,Qe,Qf,Qg,reduceCtorEq, *,-hs,-hsk,-hb3];first|done|rfl));(focus(simp only[go_sem,↓reduceIte,reduceIte,Qa,Qh,Qb,Qc,Qd,Qe,Qf,Qg,reduceCtorEq, *,-hs,-hsk,-hb3];first|done|rfl)))
 | (with_reducible first|assumption|(refine Qw hK _ ?_;clear hK K)|refine Qw ‹_› _ ?_|refine Qx ‹_› ?_|refine Qi fun K hK=>?_|refine Qj T fun K hK=>?_|refine Ql fun A B hA hB=>?_|refine Qm ?_|refine Qn ?_|refine Qp ?_|refine Qr ?_)
 | ((with_reducible first|apply Qy|apply Qz|apply QA)<;>intro hb<;>try simp only[nr] at hb)
 |simp only[go_sem,↓reduceIte,reduceIte,Qa,Qh,Qb,Qc,Qd,Qe,Qf,Qg,reduceCtorEq, *,-hs,-hsk,-hb3]
 |with_reducible refine fun(bn:Bool) hbn=>?_))
 ·have e:bs=[⟨IntKind.i64.wrap (r_kind+1),r_to⟩]:=by rw[←hbs];unfold YJ;rw[if_neg (of_decide_eq_false hb)]
  subst e
  have ea:Ja [(⟨IntKind.i64.wrap (r_kind+1),r_to⟩:Key)]=[AV.agg [AV.int IntKind.i64 (IntKind.i64.wrap (r_kind+1)),AV.str r_to]]:=rfl
  (repeat clear hK);(repeat clear hA);(repeat clear hB)
  (refine⟨_,(Ent.ren 3 22 (by simp only[go_sem,↓reduceIte,reduceIte,Qa,Qh,Qb,Qc,Qd,Qe,Qf,Qg,reduceCtorEq, *,-hs,-hsk,-hb3];done) (by simp only[go_sem,↓reduceIte,reduceIte,Qa,Qh,Qb,Qc,Qd,Qe,Qf,Qg,reduceCtorEq, *,-hs,-hsk,-hb3];done)),by simp only[go_sem,↓reduceIte,reduceIte,Qa,Qh,Qb,Qc,Qd,Qe,Qf,Qg,reduceCtorEq, *,-hs,-hsk,-hb3];done,⟨ts.gen 3+1,?_⟩⟩;simp only[go_sem,↓reduceIte,reduceIte,Qa,Qh,Qb,Qc,Qd,Qe,Qf,Qg,reduceCtorEq, *,-hs,-hsk,-hb3];done)
 ·have e:bs=[]:=by rw[←hbs];unfold YJ;rw[if_pos (of_decide_eq_true hb)]
  subst e
  (repeat clear hK);(repeat clear hA);(repeat clear hB)
  (refine⟨_,(Ent.virt 3 2 (by simp only[go_sem,↓reduceIte,reduceIte,Qa,Qh,Qb,Qc,Qd,Qe,Qf,Qg,reduceCtorEq, *,-hs,-hsk,-hb3,Yh];done) (by decide)),by simp only[go_sem,↓reduceIte,reduceIte,Qa,Qh,Qb,Qc,Qd,Qe,Qf,Qg,reduceCtorEq, *,-hs,-hsk,-hb3,Yh];done,⟨ts.gen 3+1,?_⟩⟩;simp only[go_sem,↓reduceIte,reduceIte,Qa,Qh,Qb,Qc,Qd,Qe,Qf,Qg,reduceCtorEq, *,-hs,-hsk,-hb3,Yh];done)
 ·intro ts2 hk3
  rintro⟨g2,v1,v2,v3⟩
  simp only[go_sem,↓reduceIte,reduceIte,Qa,Qh,Qb,Qc,Qd,Qe,Qf,Qg,reduceCtorEq, *] at hk3
  (repeat' (first
 | (with_reducible first|refine callX.by (Vx _ _ _ _ _ _ _ ?_ ?_ ?_) ?_|refine callX.by VH ?_)
 | (with_reducible refine callX.ar ?_ ?_ (Yv ?_ ?_);(focus(simp only[go_sem,↓reduceIte,reduceIte,Qa,Qh,Qb,Qc,Qd,Qe,Qf,Qg,reduceCtorEq, *,-hs,-hsk,-hb3];first|done|rfl)))
 |with_reducible refine callX.by (Vb _ _ _ _) ?_
 | (with_reducible refine callX.mv ?_ ?_ ?_ (Yi ?_ ?_);(focus(simp only[go_sem,↓reduceIte,reduceIte,Qa,Qh,Qb,Qc,Qd,Qe,Qf,Qg,reduceCtorEq, *,-hs,-hsk,-hb3];first|done|rfl));(focus(simp only[go_sem,↓reduceIte,reduceIte,Qa,Qh,Qb,Qc,Qd,Qe,Qf,Qg,reduceCtorEq, *,-hs,-hsk,-hb3];first|done|rfl)))
 | (with_reducible first|assumption|(refine Qw hK _ ?_;clear hK K)|refine Qw ‹_› _ ?_|refine Qx ‹_› ?_|refine Qi fun K hK=>?_|refine Qj T fun K hK=>?_|refine Ql fun A B hA hB=>?_|refine Qm ?_|refine Qn ?_|refine Qp ?_|refine Qr ?_)
 | ((with_reducible first|apply Qy|apply Qz|apply QA)<;>intro hb<;>try simp only[nr] at hb)
 |simp only[go_sem,↓reduceIte,reduceIte,Qa,Qh,Qb,Qc,Qd,Qe,Qf,Qg,reduceCtorEq, *,-hs,-hsk,-hb3]
 |with_reducible refine fun(bn:Bool) hbn=>?_))
  refine Qs [24,25] (fun m ts'=>∃(i:Nat),∃(g:Nat),∃(ys:List Key),m=r_rules.length-i∧i≤r_rules.length∧ys.length≤1+4*i∧bs++Vf r_rules=ys++Vf (r_rules.drop i)∧ts'.tmp 3=.os 3 g ys.length∧ts'.gen 3=g∧ts'.obj 3=.arr 2 (Ja ys)∧ts'.tmp 26=.int .i64 i) r_rules.length ?_ ?_
  ·refine⟨0,g2,bs,rfl,Nat.zero_le _,by omega,rfl,?_⟩
   simp only[go_sem,↓reduceIte,reduceIte,Qa,Qh,Qb,Qc,Qd,Qe,Qf,Qg,reduceCtorEq, *,-hs,-hsk,-hb3]
  ·rintro m A hM ts' hk ⟨i,g,ys,hm,f1,f2,f3,s1,s2,s3,s4⟩
   simp only[go_sem,↓reduceIte,reduceIte,Qa,Qh,Qb,Qc,Qd,Qe,Qf,Qg,reduceCtorEq, *] at hk
   by_cases hlt:i<r_rules.length
   ·rw[List.drop_eq_getElem_cons hlt,Jin] at f3
    have hx4:=hb3 _ (QC hlt)
    have hxs:=hsk _ (QC hlt)
    (repeat' (first
 | (with_reducible first|refine callX.by (Vx _ _ _ _ _ _ _ ?_ ?_ ?_) ?_|refine callX.by VH ?_)
 | (with_reducible refine callX.ar ?_ ?_ (Yv ?_ ?_);(focus(simp only[go_sem,↓reduceIte,reduceIte,Qa,Qh,Qb,Qc,Qd,Qe,Qf,Qg,reduceCtorEq, *,-hs,-hsk,-hb3,-f3];first|done|rfl)))
 |with_reducible refine callX.by (Vb _ _ _ _) ?_
 | (with_reducible refine callX.mv ?_ ?_ ?_ (Yi ?_ ?_);(focus(simp only[go_sem,↓reduceIte,reduceIte,Qa,Qh,Qb,Qc,Qd,Qe,Qf,Qg,reduceCtorEq, *,-hs,-hsk,-hb3,-f3];first|done|rfl));(focus(simp only[go_sem,↓reduceIte,reduceIte,Qa,Qh,Qb,Qc,Qd,Qe,Qf,Qg,reduceCtorEq, *,-hs,-hsk,-hb3,-f3];first|done|rfl)))
 | (with_reducible first|assumption|(refine Qw hK _ ?_;clear hK K)|refine Qw ‹_› _ ?_|refine Qx ‹_› ?_|refine Qi fun K hK=>?_|refine Qj T fun K hK=>?_|refine Ql fun A B hA hB=>?_|refine Qm ?_|refine Qn ?_|refine Qp ?_|refine Qr ?_)
 | ((with_reducible first|apply Qy|apply Qz|apply QA)<;>intro hb<;>try simp only[nr] at hb)
 |simp only[go_sem,↓reduceIte,reduceIte,Qa,Qh,Qb,Qc,Qd,Qe,Qf,Qg,reduceCtorEq, *,-hs,-hsk,-hb3,-f3]
 |with_reducible refine fun(bn:Bool) hbn=>?_))
    refine Qs [24,25,26,31,32] (fun m ts'=>∃(j:Nat),∃(g':Nat),∃(zs:List Key),m=r_rules[i].split.length-j∧j≤r_rules[i].split.length∧zs.length≤1+4*i+j∧ys++Y5 r_rules[i].split=zs++Y5 (r_rules[i].split.drop j)∧ts'.tmp 3=.os 3 g' zs.length∧ts'.gen 3=g'∧ts'.obj 3=.arr 2 (Ja zs)∧ts'.tmp 33=.int .i64 j) r_rules[i].split.length ?_ ?_
    ·refine⟨0,g,ys,rfl,Nat.zero_le _,by omega,rfl,?_⟩
     simp only[go_sem,↓reduceIte,reduceIte,Qa,Qh,Qb,Qc,Qd,Qe,Qf,Qg,reduceCtorEq, *,-hs,-hsk,-hb3,-f3]
    ·revert hM f3
     intro hM0 f30
     rintro m A hM ts' hk ⟨j,g',zs,hm,f1,f2,f3,s1,s2,s3,s4⟩
     simp only[go_sem,↓reduceIte,reduceIte,Qa,Qh,Qb,Qc,Qd,Qe,Qf,Qg,reduceCtorEq, *] at hk
     by_cases hjt:j<r_rules[i].split.length
     ·rw[List.drop_eq_getElem_cons hjt,Jmb] at f3
      have hr1:Vl (zs.length+1) 24:=Jbk (by omega) (by decide)
      (repeat' (first
 | (with_reducible first|refine callX.by (Vx _ _ _ _ _ _ _ ?_ ?_ ?_) ?_|refine callX.by VH ?_)
 | (with_reducible refine callX.ar ?_ ?_ (Yv ?_ ?_);(focus(simp only[go_sem,↓reduceIte,reduceIte,Qa,Qh,Qb,Qc,Qd,Qe,Qf,Qg,reduceCtorEq, *,-hs,-hsk,-hb3,-f3,-f30];first|done|rfl)))
 |with_reducible refine callX.by (Vb _ _ _ _) ?_
 | (with_reducible refine callX.mv ?_ ?_ ?_ (Yi ?_ ?_);(focus(simp only[go_sem,↓reduceIte,reduceIte,Qa,Qh,Qb,Qc,Qd,Qe,Qf,Qg,reduceCtorEq, *,-hs,-hsk,-hb3,-f3,-f30];first|done|rfl));(focus(simp only[go_sem,↓reduceIte,reduceIte,Qa,Qh,Qb,Qc,Qd,Qe,Qf,Qg,reduceCtorEq, *,-hs,-hsk,-hb3,-f3,-f30];first|done|rfl)))
 | (with_reducible first|assumption|(refine Qw hK _ ?_;clear hK K)|refine Qw ‹_› _ ?_|refine Qx ‹_› ?_|refine Qi fun K hK=>?_|refine Qj T fun K hK=>?_|refine Ql fun A B hA hB=>?_|refine Qm ?_|refine Qn ?_|refine Qp ?_|refine Qr ?_)
 | ((with_reducible first|apply Qy|apply Qz|apply QA)<;>intro hb<;>try simp only[nr] at hb)
 |simp only[go_sem,↓reduceIte,reduceIte,Qa,Qh,Qb,Qc,Qd,Qe,Qf,Qg,reduceCtorEq, *,-hs,-hsk,-hb3,-f3,-f30]
 |with_reducible refine fun(bn:Bool) hbn=>?_))
      all_goals ((repeat clear hK);(repeat clear hA);(repeat clear hB))
      ·(refine hM.onE (r_rules[i].split.length-(j+1)) (Ent.ren 3 45 ?_ ?_) ?_ ?_ ?_;(focus(simp only[go_sem,↓reduceIte,reduceIte,Qa,Qh,Qb,Qc,Qd,Qe,Qf,Qg,reduceCtorEq, *,Jf hjt hxs,List.length_append,-f3,-f30,-hM0];first|done|rfl));(focus(simp only[go_sem,↓reduceIte,reduceIte,Qa,Qh,Qb,Qc,Qd,Qe,Qf,Qg,reduceCtorEq, *,Jf hjt hxs,List.length_append,-f3,-f30,-hM0];first|done|rfl));omega;(focus(simp only[go_sem,↓reduceIte,reduceIte,Qa,Qh,Qb,Qc,Qd,Qe,Qf,Qg,reduceCtorEq, *,Jf hjt hxs,List.length_append,-f3,-f30,-hM0];done));refine⟨j+1,g'+1,zs++[⟨2,r_rules[i].split[j].cluster⟩],rfl,by omega,by simp;omega,by rw[f3,if_pos hb,List.append_assoc],?_⟩;simp only[go_sem,↓reduceIte,reduceIte,Qa,Qh,Qb,Qc,Qd,Qe,Qf,Qg,reduceCtorEq, *,Jf hjt hxs,List.length_append,-f3,-f30,-hM0];done)
      ·rw[if_neg (by omega),List.nil_append] at f3
       (refine hM.on (r_rules[i].split.length-(j+1)) (by omega) (by simp only[go_sem,↓reduceIte,reduceIte,Qa,Qh,Qb,Qc,Qd,Qe,Qf,Qg,reduceCtorEq, *,Jf hjt hxs,-f3,-f30,-hM0]) ⟨j+1,g',zs,rfl,by omega,by omega,f3,?_⟩;simp only[go_sem,↓reduceIte,reduceIte,Qa,Qh,Qb,Qc,Qd,Qe,Qf,Qg,reduceCtorEq, *,Jf hjt hxs,-f3,-f30,-hM0];done)
     ·rw[List.drop_eq_nil_of_le (by omega)] at f3
      (repeat' (first
 | (with_reducible first|refine callX.by (Vx _ _ _ _ _ _ _ ?_ ?_ ?_) ?_|refine callX.by VH ?_)
 | (with_reducible refine callX.ar ?_ ?_ (Yv ?_ ?_);(focus(simp only[go_sem,↓reduceIte,reduceIte,Qa,Qh,Qb,Qc,Qd,Qe,Qf,Qg,reduceCtorEq, *,-hs,-hsk,-hb3,-f3,-f30];first|done|rfl)))
 |with_reducible refine callX.by (Vb _ _ _ _) ?_
 | (with_reducible refine callX.mv ?_ ?_ ?_ (Yi ?_ ?_);(focus(simp only[go_sem,↓reduceIte,reduceIte,Qa,Qh,Qb,Qc,Qd,Qe,Qf,Qg,reduceCtorEq, *,-hs,-hsk,-hb3,-f3,-f30];first|done|rfl));(focus(simp only[go_sem,↓reduceIte,reduceIte,Qa,Qh,Qb,Qc,Qd,Qe,Qf,Qg,reduceCtorEq, *,-hs,-hsk,-hb3,-f3,-f30];first|done|rfl)))
 | (with_reducible first|assumption|(refine Qw hK _ ?_;clear hK K)|refine Qw ‹_› _ ?_|refine Qx ‹_› ?_|refine Qi fun K hK=>?_|refine Qj T fun K hK=>?_|refine Ql fun A B hA hB=>?_|refine Qm ?_|refine Qn ?_|refine Qp ?_|refine Qr ?_)
 | ((with_reducible first|apply Qy|apply Qz|apply QA)<;>intro hb<;>try simp only[nr] at hb)
 |simp only[go_sem,↓reduceIte,reduceIte,Qa,Qh,Qb,Qc,Qd,Qe,Qf,Qg,reduceCtorEq, *,-hs,-hsk,-hb3,-f3,-f30]
 |with_reducible refine fun(bn:Bool) hbn=>?_))
      all_goals ((repeat clear hK);(repeat clear hA);(repeat clear hB))
      all_goals (clear hM;revert hM0;intro hM)
      (refine hM.on (r_rules.length-(i+1)) (by omega) (by simp only[go_sem,↓reduceIte,reduceIte,Qa,Qh,Qb,Qc,Qd,Qe,Qf,Qg,reduceCtorEq, *,Jf hlt hl,-f3,-f30,-hs,-hsk,-hb3]) ⟨i+1,g',zs,rfl,by omega,by omega,by rw[f30,←List.append_assoc,f3];simp[Y5],?_⟩;simp only[go_sem,↓reduceIte,reduceIte,Qa,Qh,Qb,Qc,Qd,Qe,Qf,Qg,reduceCtorEq, *,Jf hlt hl,-f3,-f30,-hs,-hsk,-hb3];done)
   ·rw[List.drop_eq_nil_of_le (by omega)] at f3
    have e:ys=bs++Vf r_rules:=by rw[f3];simp[Vf]
    subst e
    clear f3
    have hk1:=Jad (bs++Vf r_rules)
    have htk:(JK (bs++Vf r_rules)).take (bs++Vf r_rules).length=JK (bs++Vf r_rules):=List.take_of_length_le (by omega)
    have htk2:(JK (bs++Vf r_rules)).take (bs.length+(Vf r_rules).length)=JK (bs++Vf r_rules):=List.take_of_length_le (by rw[hk1,List.length_append];exact Nat.le_refl _)
    have hsm1:Jc (bs++Vf r_rules).length:=by unfold Jc;omega
    have hsm2:Jc (JK (bs++Vf r_rules)).length:=by rw[hk1];exact hsm1
    (repeat' (first
 | (with_reducible first|refine callX.by (Vx _ _ _ _ _ _ _ ?_ ?_ ?_) ?_|refine callX.by VH ?_)
 | (with_reducible refine callX.ar ?_ ?_ (Yv ?_ ?_);(focus(simp only[go_sem,↓reduceIte,reduceIte,Qa,Qh,Qb,Qc,Qd,Qe,Qf,Qg,reduceCtorEq, *,Nat.le_refl,-hs,-hsk,-hb3];first|done|rfl)))
 |with_reducible refine callX.by (Vb _ _ _ _) ?_
 | (with_reducible refine callX.mv ?_ ?_ ?_ (Yi ?_ ?_);(focus(simp only[go_sem,↓reduceIte,reduceIte,Qa,Qh,Qb,Qc,Qd,Qe,Qf,Qg,reduceCtorEq, *,Nat.le_refl,-hs,-hsk,-hb3];first|done|rfl));(focus(simp only[go_sem,↓reduceIte,reduceIte,Qa,Qh,Qb,Qc,Qd,Qe,Qf,Qg,reduceCtorEq, *,Nat.le_refl,-hs,-hsk,-hb3];first|done|rfl)))
 | (with_reducible first|assumption|(refine Qw hK _ ?_;clear hK K)|refine Qw ‹_› _ ?_|refine Qx ‹_› ?_|refine Qi fun K hK=>?_|refine Qj T fun K hK=>?_|refine Ql fun A B hA hB=>?_|refine Qm ?_|refine Qn ?_|refine Qp ?_|refine Qr ?_)
 | ((with_reducible first|apply Qy|apply Qz|apply QA)<;>intro hb<;>try simp only[nr] at hb)
 |simp only[go_sem,↓reduceIte,reduceIte,Qa,Qh,Qb,Qc,Qd,Qe,Qf,Qg,reduceCtorEq, *,Nat.le_refl,-hs,-hsk,-hb3]
 |with_reducible refine fun(bn:Bool) hbn=>?_))
    all_goals ((repeat clear hK);(repeat clear hA);(repeat clear hB))
    all_goals rfl
@[go_sem] def Z2:List (List Nat×List Nat):=[([30],[33,34,35,36,37,38,39,40,41,42,43,44,45,46]),([31],[]),([32],[]),([33],[30,34,35,38,39,40,41,42,43,44,45,46]),([34],[30,33,37,38,39,40,41,42,43,44,45,46]),([35],[30,33,38,39,40,41,42,43,44,45,46]),([36],[30,39,40,41,42,43,44,45,46]),([37],[30,34,39,40,41,42,45,46]),([38],[30,33,34,35,39,40,41,42,46]),([39],[30,33,34,35,36,37,38,40,43,44,45,46]),([40],[30,33,34,35,36,37,38,39,43,44,45,46]),([41],[30,33,34,35,36,37,38,44,45,46]),([42],[30,33,34,35,36,37,38,45,46]),([43],[30,33,34,35,36,39,40,46]),([44],[30,33,34,35,36,39,40,41]),([45],[30,33,34,35,36,37,39,40,41,42]),([46],[30,33,34,35,36,37,38,39,40,41,42,43])]
def Yy:List Res→Int
 | []=>0
 |r :: l=>if Vc r=0 then Yy l else Vc r
def Za:List Res→Bool
 | []=>true
 |a :: l=>match l with
  | []=>true
  |b :: _=>decide (JO (Jg a) (Jg b)<0) && Za l
def Jag:List Res→List (Int×Bool)→Bool
 | [],_=>true
 |r :: l,M=>if(JB M r.port).getD false then false else Jag l (JV M r.port true)
def JN(l:List Res):Int:=if 64<l.length then 3 else if Yy l≠0 then Yy l else if Za l=false then 2 else if Jag (V0 l 0) []=false then 13 else 0
theorem Jj9(a b:Res)(l:List Res):Za (a :: b :: l)=(decide (JO (Jg a) (Jg b)<0) && Za (b :: l)):=rfl
set_option maxHeartbeats 4000000 in
theorem JaS(xs:List Res)(hl:Jc xs.length)(hs:∀r∈xs,Ju r):CallR Tryz.prog 62 [.slice false (Ja xs)] (.val (.int .i64 (JN xs))):=by
 by_cases h64:64<xs.length
 ·have e:JN xs=3:=by simp[JN,h64]
  rw[e]
  refine CallR.go1 (T:=T) Tryz.call62 Tryz.func62 rfl Tryz.ntmps62 (congrArg Array.toList Tryz.results62) (by decide) fun ts hn h0=>?_
  (repeat' (first
 | (with_reducible first|refine callX.by (Vx _ _ _ _ _ _ _ ?_ ?_ ?_) ?_|refine callX.by VH ?_|refine callX.by (J6 _ _ _ _ _ _ _) ?_|refine callX.by (Vb _ _ _ _) ?_|refine callX.by (Jao _ _ ?_) ?_|assumption|(refine Qw hK _ ?_;clear hK K)|refine Qw ‹_› _ ?_|refine Qx ‹_› ?_|refine Qi fun K hK=>?_|refine Qj T fun K hK=>?_|refine Qk (id:=13) T mixed Z2 (by kernel_rfl) fun K hK=>?_|refine Ql fun A B hA hB=>?_|refine Qm ?_|refine Qn ?_|refine Qp ?_|refine Qr ?_)
 | ((with_reducible first|apply Qy|apply Qz|apply QA)<;>intro hb<;>try simp only[nr] at hb)
 |simp only[go_sem,↓reduceIte,reduceIte,Qa,Qh,Qb,Qc,Qd,Qe,Qf,Qg,reduceCtorEq, *,-hs,-e]
 |with_reducible refine fun(bn:Bool) hbn=>?_))
 have hl64:xs.length≤64:=by omega
 refine CallR.go1 (T:=T) Tryz.call62 Tryz.func62 rfl Tryz.ntmps62 (congrArg Array.toList Tryz.results62) (by decide) fun ts hn h0=>?_
 (repeat' (first
 | (with_reducible first|refine callX.by (Vx _ _ _ _ _ _ _ ?_ ?_ ?_) ?_|refine callX.by VH ?_|refine callX.by (J6 _ _ _ _ _ _ _) ?_|refine callX.by (Vb _ _ _ _) ?_|refine callX.by (Jao _ _ ?_) ?_|assumption|(refine Qw hK _ ?_;clear hK K)|refine Qw ‹_› _ ?_|refine Qx ‹_› ?_|refine Qi fun K hK=>?_|refine Qj T fun K hK=>?_|refine Qk (id:=13) T mixed Z2 (by kernel_rfl) fun K hK=>?_|refine Ql fun A B hA hB=>?_|refine Qm ?_|refine Qn ?_|refine Qp ?_|refine Qr ?_)
 | ((with_reducible first|apply Qy|apply Qz|apply QA)<;>intro hb<;>try simp only[nr] at hb)
 |simp only[go_sem,↓reduceIte,reduceIte,Qa,Qh,Qb,Qc,Qd,Qe,Qf,Qg,reduceCtorEq, *,-hs]
 |with_reducible refine fun(bn:Bool) hbn=>?_))
 refine Qs [0,13,14] (fun m ts'=>∃(i:Nat),m=xs.length-i∧i≤xs.length∧Yy xs=Yy (xs.drop i)∧ts'.tmp 15=.int .i64 i) xs.length ?_ ?_
 ·refine⟨0,?_⟩
  simp only[go_sem,↓reduceIte,reduceIte,Qa,Qh,Qb,Qc,Qd,Qe,Qf,Qg,reduceCtorEq, *,-hs]
 ·rintro m A hM ts' hk ⟨i,hm,f1,f2,s1⟩
  simp only[go_sem,↓reduceIte,reduceIte,Qa,Qh,Qb,Qc,Qd,Qe,Qf,Qg,reduceCtorEq, *] at hk
  by_cases hlt:i<xs.length
  ·rw[List.drop_eq_getElem_cons hlt,Yy] at f2
   obtain⟨_,_,hsl,hsr,hsh⟩:=hs _ (QC hlt)
   (repeat' (first
 | (with_reducible first|refine callX.by (Vx _ _ _ _ _ _ _ ?_ ?_ ?_) ?_|refine callX.by VH ?_|refine callX.by (J6 _ _ _ _ _ _ _) ?_|refine callX.by (Vb _ _ _ _) ?_|refine callX.by (Jao _ _ ?_) ?_|assumption|(refine Qw hK _ ?_;clear hK K)|refine Qw ‹_› _ ?_|refine Qx ‹_› ?_|refine Qi fun K hK=>?_|refine Qj T fun K hK=>?_|refine Qk (id:=13) T mixed Z2 (by kernel_rfl) fun K hK=>?_|refine Ql fun A B hA hB=>?_|refine Qm ?_|refine Qn ?_|refine Qp ?_|refine Qr ?_)
 | ((with_reducible first|apply Qy|apply Qz|apply QA)<;>intro hb<;>try simp only[nr] at hb)
 |simp only[go_sem,↓reduceIte,reduceIte,Qa,Qh,Qb,Qc,Qd,Qe,Qf,Qg,reduceCtorEq, *,-hs,-hsr,-f2]
 |with_reducible refine fun(bn:Bool) hbn=>?_))
   all_goals ((repeat clear hK);(repeat clear hA);(repeat clear hB))
   ·rw[if_neg (by simpa using hb)] at f2
    have hb':¬Vc xs[i]=0:=by simpa using hb
    simp[JN,h64,f2,hb']
   ·rw[if_pos (by simpa using hb)] at f2
    (refine hM.on (xs.length-(i+1)) (by omega) (by simp only[go_sem,↓reduceIte,reduceIte,Qa,Qh,Qb,Qc,Qd,Qe,Qf,Qg,reduceCtorEq, *,Jf hlt hl,-hs,-hsr,-f2]) ⟨i+1,rfl,by omega,f2,?_⟩;simp only[go_sem,↓reduceIte,reduceIte,Qa,Qh,Qb,Qc,Qd,Qe,Qf,Qg,reduceCtorEq, *,Jf hlt hl,-hs,-hsr,-f2];done)
  ·rw[List.drop_eq_nil_of_le (by omega),Yy] at f2
   have e1:JN xs=if Za xs=false then 2 else if Jag (V0 xs 0) []=false then 13 else 0:=by simp[JN,h64,f2]
   clear f2
   have h00:¬(0:Int)<0:=by decide
   (repeat' (first
 | (with_reducible first|refine callX.by (Vx _ _ _ _ _ _ _ ?_ ?_ ?_) ?_|refine callX.by VH ?_|refine callX.by (J6 _ _ _ _ _ _ _) ?_|refine callX.by (Vb _ _ _ _) ?_|refine callX.by (Jao _ _ ?_) ?_|assumption|(refine Qw hK _ ?_;clear hK K)|refine Qw ‹_› _ ?_|refine Qx ‹_› ?_|refine Qi fun K hK=>?_|refine Qj T fun K hK=>?_|refine Qk (id:=13) T mixed Z2 (by kernel_rfl) fun K hK=>?_|refine Ql fun A B hA hB=>?_|refine Qm ?_|refine Qn ?_|refine Qp ?_|refine Qr ?_)
 | ((with_reducible first|apply Qy|apply Qz|apply QA)<;>intro hb<;>try simp only[nr] at hb)
 |simp only[go_sem,↓reduceIte,reduceIte,Qa,Qh,Qb,Qc,Qd,Qe,Qf,Qg,reduceCtorEq, *,-hs,-e1]
 |with_reducible refine fun(bn:Bool) hbn=>?_))
   refine Qs [0,26] (fun m ts'=>∃(k:Nat),m=xs.length-k∧k≤xs.length∧Za xs=Za (xs.drop (k-1))∧ts'.tmp 27=.int .i64 k) xs.length ?_ ?_
   ·refine⟨0,?_⟩
    simp only[go_sem,↓reduceIte,reduceIte,Qa,Qh,Qb,Qc,Qd,Qe,Qf,Qg,reduceCtorEq, *,-hs,-e1]
   ·clear hM
    rintro m A hM ts' hk ⟨k,hm,f1,f2,s1⟩
    simp only[go_sem,↓reduceIte,reduceIte,Qa,Qh,Qb,Qc,Qd,Qe,Qf,Qg,reduceCtorEq, *] at hk
    by_cases hkt:k<xs.length
    ·by_cases hk0:k=0
     ·subst hk0
      have hkt':(0:Int)<(xs.length:Int):=by omega
      have w01:IntKind.i64.wrap (0+1)=((1:Nat):Int):=by decide
      (repeat' (first
 | (with_reducible first|refine callX.by (Vx _ _ _ _ _ _ _ ?_ ?_ ?_) ?_|refine callX.by VH ?_|refine callX.by (J6 _ _ _ _ _ _ _) ?_|refine callX.by (Vb _ _ _ _) ?_|refine callX.by (Jao _ _ ?_) ?_|assumption|(refine Qw hK _ ?_;clear hK K)|refine Qw ‹_› _ ?_|refine Qx ‹_› ?_|refine Qi fun K hK=>?_|refine Qj T fun K hK=>?_|refine Qk (id:=13) T mixed Z2 (by kernel_rfl) fun K hK=>?_|refine Ql fun A B hA hB=>?_|refine Qm ?_|refine Qn ?_|refine Qp ?_|refine Qr ?_)
 | ((with_reducible first|apply Qy|apply Qz|apply QA)<;>intro hb<;>try simp only[nr] at hb)
 |simp only[go_sem,↓reduceIte,reduceIte,Qa,Qh,Qb,Qc,Qd,Qe,Qf,Qg,reduceCtorEq, *,-hs,-e1,-f2]
 |with_reducible refine fun(bn:Bool) hbn=>?_))
      all_goals ((repeat clear hK);(repeat clear hA);(repeat clear hB))
      (refine hM.on (xs.length-1) (by omega) (by simp only[go_sem,↓reduceIte,reduceIte,Qa,Qh,Qb,Qc,Qd,Qe,Qf,Qg,reduceCtorEq, *,w01,-hs,-e1,-f2]) ⟨1,rfl,by omega,f2,?_⟩;simp only[go_sem,↓reduceIte,reduceIte,Qa,Qh,Qb,Qc,Qd,Qe,Qf,Qg,reduceCtorEq, *,w01,-hs,-e1,-f2];done)
     ·have hk1:k-1<xs.length:=by omega
      have hk2:(0:Int)<(k:Int):=by omega
      have hk3:IntKind.i64.wrap ((k:Int)-1)=((k-1:Nat):Int):=by
       rw[show(k:Int)-1=((k-1:Nat):Int) by omega];exact IntWalk.i64_in _ (by unfold Jc at hl;omega)
      rw[List.drop_eq_getElem_cons hk1,show k-1+1=k by omega,List.drop_eq_getElem_cons hkt,Jj9] at f2
      (repeat' (first
 | (with_reducible first|refine callX.by (Vx _ _ _ _ _ _ _ ?_ ?_ ?_) ?_|refine callX.by VH ?_|refine callX.by (J6 _ _ _ _ _ _ _) ?_|refine callX.by (Vb _ _ _ _) ?_|refine callX.by (Jao _ _ ?_) ?_|assumption|(refine Qw hK _ ?_;clear hK K)|refine Qw ‹_› _ ?_|refine Qx ‹_› ?_|refine Qi fun K hK=>?_|refine Qj T fun K hK=>?_|refine Qk (id:=13) T mixed Z2 (by kernel_rfl) fun K hK=>?_|refine Ql fun A B hA hB=>?_|refine Qm ?_|refine Qn ?_|refine Qp ?_|refine Qr ?_)
 | ((with_reducible first|apply Qy|apply Qz|apply QA)<;>intro hb<;>try simp only[nr] at hb)
 |simp only[go_sem,↓reduceIte,reduceIte,Qa,Qh,Qb,Qc,Qd,Qe,Qf,Qg,reduceCtorEq, *,-hs,-e1,-f2]
 |with_reducible refine fun(bn:Bool) hbn=>?_))
      all_goals ((repeat clear hK);(repeat clear hA);(repeat clear hB))
      ·have hb':¬JO (Jg xs[k-1]) (Jg xs[k])<0:=by simp only[Jg];omega
       rw[e1,f2]
       simp[hb']
      ·have hb':JO (Jg xs[k-1]) (Jg xs[k])<0:=by simp only[Jg];omega
       rw[decide_eq_true hb',Bool.true_and,←List.drop_eq_getElem_cons hkt] at f2
       (refine hM.on (xs.length-(k+1)) (by omega) (by simp only[go_sem,↓reduceIte,reduceIte,Qa,Qh,Qb,Qc,Qd,Qe,Qf,Qg,reduceCtorEq, *,Jf hkt hl,-hs,-e1,-f2]) ⟨k+1,rfl,by omega,f2,?_⟩;simp only[go_sem,↓reduceIte,reduceIte,Qa,Qh,Qb,Qc,Qd,Qe,Qf,Qg,reduceCtorEq, *,Jf hkt hl,-hs,-e1,-f2];done)
    ·have hup:Za xs=true:=by
      rw[f2]
      by_cases h0:xs.length=0
      ·rw[List.length_eq_zero_iff.1 h0];simp[Za]
      ·rw[List.drop_eq_getElem_cons (show k-1<xs.length by omega),List.drop_eq_nil_of_le (by omega)]
       rfl
     rw[hup,if_neg (by simp)] at e1
     clear f2 hup
     have hyl:(V0 xs 0).length≤64:=Nat.le_trans (List.length_filter_le _ _) hl64
     have hys:Jc (V0 xs 0).length:=by unfold Jc;omega
     (repeat' (first
 | (with_reducible first|refine callX.by (Vx _ _ _ _ _ _ _ ?_ ?_ ?_) ?_|refine callX.by VH ?_|refine callX.by (J6 _ _ _ _ _ _ _) ?_|refine callX.by (Vb _ _ _ _) ?_|refine callX.by (Jao _ _ ?_) ?_|assumption|(refine Qw hK _ ?_;clear hK K)|refine Qw ‹_› _ ?_|refine Qx ‹_› ?_|refine Qi fun K hK=>?_|refine Qj T fun K hK=>?_|refine Qk (id:=13) T mixed Z2 (by kernel_rfl) fun K hK=>?_|refine Ql fun A B hA hB=>?_|refine Qm ?_|refine Qn ?_|refine Qp ?_|refine Qr ?_)
 | ((with_reducible first|apply Qy|apply Qz|apply QA)<;>intro hb<;>try simp only[nr] at hb)
 |simp only[go_sem,↓reduceIte,reduceIte,Qa,Qh,Qb,Qc,Qd,Qe,Qf,Qg,reduceCtorEq, *,-hs,-e1]
 |with_reducible refine fun(bn:Bool) hbn=>?_))
     refine Qs [50,51] (fun m ts'=>∃(j:Nat),∃(M:List (Int×Bool)),∃(g:Nat),m=(V0 xs 0).length-j∧j≤(V0 xs 0).length∧Jag (V0 xs 0) []=Jag ((V0 xs 0).drop j) M∧ts'.tmp 7=.mref 48 g∧ts'.gen 48=g∧ts'.obj 48=.mp (Js M) (Jy M)∧ts'.tmp 52=.int .i64 j) (V0 xs 0).length ?_ ?_
     ·refine⟨0,[],ts'.gen 48+1,rfl,Nat.zero_le _,rfl,?_⟩
      simp only[go_sem,↓reduceIte,reduceIte,Qa,Qh,Qb,Qc,Qd,Qe,Qf,Qg,reduceCtorEq, *,-hs,-e1]
     ·clear hM
      rintro m A hM ts' hk ⟨j,M,g,hm,f1,f2,s1,s2,s3,s4⟩
      simp only[go_sem,↓reduceIte,reduceIte,Qa,Qh,Qb,Qc,Qd,Qe,Qf,Qg,reduceCtorEq, *] at hk
      by_cases hjt:j<(V0 xs 0).length
      ·rw[List.drop_eq_getElem_cons hjt,Jag] at f2
       (repeat' (first
 | (with_reducible first|refine callX.by (Vx _ _ _ _ _ _ _ ?_ ?_ ?_) ?_|refine callX.by VH ?_|refine callX.by (J6 _ _ _ _ _ _ _) ?_|refine callX.by (Vb _ _ _ _) ?_|refine callX.by (Jao _ _ ?_) ?_|assumption|(refine Qw hK _ ?_;clear hK K)|refine Qw ‹_› _ ?_|refine Qx ‹_› ?_|refine Qi fun K hK=>?_|refine Qj T fun K hK=>?_|refine Qk (id:=13) T mixed Z2 (by kernel_rfl) fun K hK=>?_|refine Ql fun A B hA hB=>?_|refine Qm ?_|refine Qn ?_|refine Qp ?_|refine Qr ?_)
 | ((with_reducible first|apply Qy|apply Qz|apply QA)<;>intro hb<;>try simp only[nr] at hb)
 |simp only[go_sem,↓reduceIte,reduceIte,Qa,Qh,Qb,Qc,Qd,Qe,Qf,Qg,reduceCtorEq, *,-hs,-e1,-f2]
 |with_reducible refine fun(bn:Bool) hbn=>?_))
       all_goals ((repeat clear hK);(repeat clear hA);(repeat clear hB))
       ·rw[if_pos (by simpa using hb)] at f2
        rw[e1,f2];rfl
       ·rw[if_neg (by simpa using hb)] at f2
        (refine hM.on ((V0 xs 0).length-(j+1)) (by omega) (by simp only[go_sem,↓reduceIte,reduceIte,Qa,Qh,Qb,Qc,Qd,Qe,Qf,Qg,reduceCtorEq, *,Jf hjt hys,-hs,-e1,-f2]) ⟨j+1,JV M (V0 xs 0)[j].port true,g,rfl,by omega,f2,?_⟩;simp only[go_sem,↓reduceIte,reduceIte,Qa,Qh,Qb,Qc,Qd,Qe,Qf,Qg,reduceCtorEq, *,Jf hjt hys,-hs,-e1,-f2];done)
      ·rw[List.drop_eq_nil_of_le (by omega),Jag] at f2
       have e2:JN xs=0:=by rw[e1,f2];rfl
       (repeat' (first
 | (with_reducible first|refine callX.by (Vx _ _ _ _ _ _ _ ?_ ?_ ?_) ?_|refine callX.by VH ?_|refine callX.by (J6 _ _ _ _ _ _ _) ?_|refine callX.by (Vb _ _ _ _) ?_|refine callX.by (Jao _ _ ?_) ?_|assumption|(refine Qw hK _ ?_;clear hK K)|refine Qw ‹_› _ ?_|refine Qx ‹_› ?_|refine Qi fun K hK=>?_|refine Qj T fun K hK=>?_|refine Qk (id:=13) T mixed Z2 (by kernel_rfl) fun K hK=>?_|refine Ql fun A B hA hB=>?_|refine Qm ?_|refine Qn ?_|refine Qp ?_|refine Qr ?_)
 | ((with_reducible first|apply Qy|apply Qz|apply QA)<;>intro hb<;>try simp only[nr] at hb)
 |simp only[go_sem,↓reduceIte,reduceIte,Qa,Qh,Qb,Qc,Qd,Qe,Qf,Qg,reduceCtorEq, *,-hs,-e1,-f2]
 |with_reducible refine fun(bn:Bool) hbn=>?_))
def awq:Res:=⟨0,[108],0,80,[97],[],[]⟩
theorem JgZ:Vc awq=0:=by decide
theorem JkP:JH awq=[⟨1,[97]⟩]:=by
 unfold JH
 rw[if_pos JgZ]
 have e:YJ awq++Vf awq.rules'=[⟨1,[97]⟩]:=by decide
 rw[e]
 have e2:JK [⟨1,[97]⟩]=[(⟨1,[97]⟩:Key)]:=by simp[JK]
 rw[e2];rfl
theorem Y1:CallR Tryz.prog 65 [.agg [.int .i64 0,.str [108],.int .i64 0,.int .i64 80,.str [97],.slice false [],.slice false []]] (.own 2 [.agg [.int .i64 1,.str [97]]]):=by
 have h:=YT 0 [108] 0 80 [97] [] [] (by simp[Jc]) (by simp[Jc]) (by simp)
 have e:=JkP;unfold awq at e
 rw[e] at h;exact h
theorem VH:CallR Tryz.prog 93 [.agg [.int .i64 0,.str [108],.int .i64 0,.int .i64 80,.str [97],.slice false [],.slice false []]] (.val (.int .i64 0)):=by
 have h:=Vx 0 [108] 0 80 [97] [] [] (by simp[Jc]) (by simp[Jc]) (by simp)
 have e:=JgZ;unfold awq at e
 rw[e] at h;exact h
theorem Jg0:CallR Tryz.prog 50 [.agg [.int .i64 0,.str [108],.int .i64 0,.int .i64 80,.str [97],.slice false [],.slice false []],.agg [.int .i64 0,.str [108],.int .i64 0,.int .i64 80,.str [97],.slice false [],.slice false []]] (.val (.bool true)):=by
 have h:=Jdf 0 [108] 0 80 [97] [] [] 0 [108] 0 80 [97] [] [] (by simp[Jc]) (by simp[Jc]) (by simp)
 rw[decide_eq_true rfl] at h
 exact h
theorem JjM(r:Res):Vc r=0↔YY r.kind 3=true∧VN r.name=true∧YV r=true∧Jbr r=true∧Jbb r=true∧Jbs r=true:=by
 unfold Vc
 cases YY r.kind 3<;>cases VN r.name<;>cases YV r<;>cases Jbr r<;>cases Jbb r<;>cases Jbs r<;>simp
theorem JmM{s:List UInt8}(h:VN s=true):s≠[]:=by
 rintro rfl;revert h;decide
theorem Jmd{r:Res}(h:Vc r=0):r.to'≠[]↔r.kind=0∨r.kind=2:=by
 rw[JjM] at h
 obtain⟨h1,h2,h3,h4,h5,h6⟩:=h
 simp only[Jbr,Jbb,Bool.and_eq_true,Bool.or_eq_true,decide_eq_true_eq] at h4 h5
 constructor
 ·intro h;rcases h4.2.1 with h'|h'
  ·exact absurd h' h
  ·exact h'
 ·intro h
  have h7:=h5.1
  have h8:(decide (r.kind=0) || decide (r.kind=2))=true:=by simpa using h
  rw[h8] at h7
  exact JmM (by simpa using h7)
theorem Ji1{next:Int}(hn:next≤2147483647):∀(l:List Snap) (a:Int),0≤a→a≤next→JaF next l a=ZT next l a
 | [],_,_,_=>rfl
 |s :: r,a,h0,h1=>by
  have hw:IntKind.i64.wrap (a+1)=a+1:=IntWalk.i64_in _ (by omega)
  rw[JaF,ZT,hw]
  by_cases h2:a+1≤s.id∧s.id≤next
  ·rw[Ji1 hn r s.id (by omega) h2.2]
   congr 1
   rw[Bool.eq_iff_iff]
   by_cases hr:r=[]
   ·simp only[Zb,hr,if_true,ne_eq,not_true,decide_false,Bool.and_false,Bool.or_false,Bool.and_eq_true,Bool.not_eq_true',Bool.or_eq_false_iff,decide_eq_true_eq,decide_eq_false_iff_not]
    omega
   ·simp only[Zb,hr,if_false,ne_eq,not_false_eq_true,decide_true,Bool.and_true,Bool.and_eq_true,Bool.not_eq_true',Bool.or_eq_false_iff,decide_eq_true_eq,decide_eq_false_iff_not]
    omega
  ·have e1:Zb s.id (a+1) next=false:=by
    simp only[Zb,Bool.and_eq_false_iff,decide_eq_false_iff_not];omega
   have e2:(decide (s.id≤a) || decide (next<s.id))=true:=by
    simp only[Bool.or_eq_true,decide_eq_true_eq];omega
   rw[e1,e2];simp
theorem Ji2(p:Pins):ZP p=Jcj p:=by
 unfold ZP Jcj
 by_cases h:0≤p.next'∧p.next'≤2147483647
 ·rw[Ji1 h.2 _ 0 (by omega) h.1]
  generalize ZT p.next' p.snaps 0=b
  rw[Bool.eq_iff_iff]
  simp only[Zb,Bool.and_eq_true,Bool.not_eq_true',Bool.or_eq_false_iff,decide_eq_true_eq,decide_eq_false_iff_not]
  constructor
  ·rintro⟨h1,_,h2⟩;exact⟨⟨⟨by omega,by omega⟩,by omega⟩,h1⟩
  ·rintro⟨⟨⟨_,_⟩,h2⟩,h1⟩;exact⟨h1,h,by omega⟩
 ·have e1:Zb p.next' 0 2147483647=false:=by
   simp only[Zb,Bool.and_eq_false_iff,decide_eq_false_iff_not];omega
  have e2:(decide (p.next' < 0) || decide (2147483647<p.next'))=true:=by
   simp only[Bool.or_eq_true,decide_eq_true_eq];omega
  rw[e1,e2];simp
theorem Jeo(p:Pins):Jr p=VO p:=by unfold Jr VO;rw[Ji2]
theorem Jjj{next:Int}:∀ {l:List Snap} {a:Int},ZT next l a=true→l.Pairwise (fun x y=>x.id<y.id)∧∀x∈l,a<x.id∧x.id≤next∧0≤x.pins∧x.pins≤10000
 | [],_,_=>⟨.nil,by simp⟩
 |s :: r,a,h=>by
  rw[ZT] at h
  simp only[Bool.and_eq_true,Bool.not_eq_true',Bool.or_eq_false_iff,decide_eq_false_iff_not] at h
  obtain⟨⟨⟨⟨⟨h1,h2⟩,h3⟩,h4⟩,_⟩,h5⟩:=h
  obtain⟨h6,h7⟩:=Jjj h5
  refine⟨.cons (fun x hx=>(h7 x hx).1) h6,fun x hx=>?_⟩
  rcases List.mem_cons.1 hx with rfl|hx
  ·omega
  ·have:=h7 x hx;omega
theorem Ji7{xs:List Snap}{id:Int}:∀ {n:Nat},n≤xs.length→Vw xs id n=-1→∀k,(h:k<xs.length)→k<n→xs[k].id≠id
 |0,_,_,k,_,hk=>by omega
 |n+1,hn,h,k,hkl,hk=>by
  rw[Vw] at h
  split at h
  ·omega
  ·rename_i hne
   by_cases e:k=n
   ·subst e
    have:xs.getD k default=xs[k]:=by simp[hkl]
    rwa [this] at hne
   ·exact Ji7 (by omega) h k hkl (by omega)
theorem Ji8{xs:List Snap}{id:Int}:∀ {n:Nat},n≤xs.length→Vw xs id n≠-1→∃k,∃h:k<xs.length,Vw xs id n=k∧xs[k].id=id
 |0,_,h=>by simp[Vw] at h
 |n+1,hn,h=>by
  rw[Vw] at h ⊢
  by_cases e:(xs.getD n default).id=id
  ·rw[if_pos e]
   have hlt:n<xs.length:=by omega
   have e2:xs.getD n default=xs[n]:=by simp[hlt]
   exact⟨n,hlt,rfl,by rwa [e2] at e⟩
  ·rw[if_neg e] at h ⊢
   exact Ji8 (by omega) h
theorem JrY{xs:List Snap}(hu:xs.Pairwise (fun x y=>x.id<y.id)){i j:Nat}(hi:i<xs.length)(hj:j<xs.length)(h:xs[i].id=xs[j].id):i=j:=by
 rw[List.pairwise_iff_getElem] at hu
 rcases Nat.lt_trichotomy i j with h1|h1|h1
 ·have:=hu i j hi hj h1;omega
 ·exact h1
 ·have:=hu j i hj hi h1;omega
theorem JhL{xs:List Snap}(hu:xs.Pairwise (fun x y=>x.id<y.id)){k:Nat}(hk:k<xs.length):xs.find? (fun x=>decide (x.id=xs[k].id))=some xs[k]:=by
 cases hf:xs.find? (fun x=>decide (x.id=xs[k].id)) with
 |none =>
  have:=List.find?_eq_none.1 hf xs[k] (QC hk)
  simp at this
 |some y =>
  have h1:=List.find?_some hf
  have h2:=List.mem_of_find?_eq_some hf
  obtain⟨j,hj,rfl⟩:=List.getElem_of_mem h2
  have:j=k:=JrY hu hj hk (by simpa using h1)
  subst this;rfl
theorem JnG(p:Pins):(VO p).snaps.Pairwise (fun x y=>x.id<y.id):=by
 unfold VO
 split
 ·rename_i h
  unfold Jcj at h
  simp only[Bool.and_eq_true] at h
  exact(Jjj h.2).1
 ·exact .nil
theorem Jm2(p:Pins)(id:Int):JaG p id=Jez p id:=by
 unfold JaG Jez
 rw[Jeo]
 simp only
 have hu:=JnG p
 generalize (VO p).snaps=xs at *
 by_cases h:Vw xs id xs.length=-1
 ·have hn:=Ji7 (Nat.le_refl _) h
  rw[h,if_pos (by omega)]
  have:xs.find? (fun x=>decide (x.id=id))=none:=by
   rw[List.find?_eq_none]
   intro x hx
   obtain⟨j,hj,rfl⟩:=List.getElem_of_mem hx
   simpa using hn j hj hj
  rw[this]
 ·obtain⟨k,hk,e,rfl⟩:=Ji8 (Nat.le_refl _) h
  rw[e,if_neg (by omega),JhL hu hk]
  simp[hk]
theorem Jji{next:Int}:∀(l:List Snap) (a:Int),ZT next l a=true↔l.Pairwise (fun x y=>x.id<y.id)∧(∀x∈l,a<x.id∧x.id≤next∧0≤x.pins∧x.pins≤10000)∧∀x∈l.dropLast,0<x.pins
 | [],a=>by simp[ZT]
 |s :: r,a=>by
  rw[ZT,Bool.and_eq_true,Jji r s.id,List.pairwise_cons]
  cases r with
  |nil=>simp;omega
  |cons y r =>
   simp only[List.dropLast_cons_cons]
   grind
structure OkP(p:Pins):Prop where
 lo:0≤p.next'
 hi:p.next'≤2147483647
 len:p.snaps.length≤1000
 up:p.snaps.Pairwise (fun x y=>x.id<y.id)
 mem:∀x∈p.snaps,0<x.id∧x.id≤p.next'∧0≤x.pins∧x.pins≤10000
 pos:∀x∈p.snaps.dropLast,0<x.pins
theorem Jf5(p:Pins):Jcj p=true↔OkP p:=by
 unfold Jcj
 rw[Bool.and_eq_true,Jji]
 simp only[Bool.not_eq_true',Bool.or_eq_false_iff,decide_eq_false_iff_not]
 constructor
 ·rintro⟨⟨⟨h1,h2⟩,h3⟩,h4,h5,h6⟩
  exact⟨by omega,by omega,by omega,h4,h5,h6⟩
 ·rintro⟨h1,h2,h3,h4,h5,h6⟩
  exact⟨⟨⟨by omega,by omega⟩,by omega⟩,h4,h5,h6⟩
theorem Ji3(p:Pins):ZP p=true↔OkP p:=by rw[Ji2,Jf5]
theorem JiI:OkP ⟨0,[]⟩:=⟨by simp,by simp,by simp,.nil,by simp,by simp⟩
theorem JfS(p:Pins):OkP (VO p):=by
 unfold VO
 split
 ·exact(Jf5 p).1 ‹_›
 ·exact JiI
theorem Jjy{p:Pins}(h:OkP p):VO p=p:=by unfold VO;rw[if_pos ((Jf5 p).2 h)]
theorem Jcg{p:Pins}(h:OkP p):Jr p=p:=by rw[Jeo,Jjy h]
theorem Jm9(p:Pins)(l:List Res):Vh p l=JeC p l:=by
 have h:=JfS p
 unfold Vh JeC
 rw[Jeo]
 have e:(VO p).snaps.filter (fun x=>!decide (x.pins=0))=(VO p).snaps.filter (fun x=>decide (0<x.pins)):=by
  apply List.filter_congr
  intro x hx
  have:=h.mem x hx
  rw[Bool.eq_iff_iff]
  simp only[Bool.not_eq_true',decide_eq_false_iff_not,decide_eq_true_eq]
  omega
 simp only[e]
theorem JjS{α:Type}(l:List α)(i:Nat)(x:α)(h:i<l.length):l.set i x=l.take i++[x]++l.drop (i+1):=by
 rw[List.set_eq_take_append_cons_drop,if_pos h];simp
theorem Jm7(p:Pins):VC p=JeB p:=by
 unfold VC JeB
 rw[Jeo]
 cases hg:(VO p).snaps.getLast? with
 |none=>simp[hg]
 |some s =>
  have hne:0<(VO p).snaps.length:=by
   cases h0:(VO p).snaps with
   |nil=>rw[h0] at hg;simp at hg
   |cons=>simp
  simp only[hg]
  split
  ·rfl
  ·rw[Jbo,JjS _ _ _ (by omega),if_pos (.inr (by omega))]
def Up(l:List Key):Prop:=l.Pairwise fun x y=>JO x y<0
def Le(l:List Key):Prop:=l.Pairwise fun x y=>¬JO y x<0
theorem JfE(K:List Key):Le (JK K):=by
 have:=List.pairwise_mergeSort (le:=fun x y:Key=>!decide (JO y x<0)) (fun a b c h k=>by
  simp only[Bool.not_eq_true',decide_eq_false_iff_not] at h k ⊢
  intro h3
  by_cases h4:JO b c=0
  ·have:=Jd5 _ _ h4;subst this;exact h h3
  ·have:JO b c<0:=by have:=JbX b c;omega
   exact h (JcQ _ _ _ this h3)) (fun a b=>by
  simp only[Bool.or_eq_true,Bool.not_eq_true',decide_eq_false_iff_not]
  have:=JbX a b;omega) K
 unfold Le JK
 exact this.imp fun h=>by simpa using h
theorem JfF(K:List Key)(x:Key):x∈JK K↔x∈K:=by unfold JK;exact List.mem_mergeSort
theorem Jij:∀ {a:Key} {r:List Key},Le (a :: r)→Up (a :: Ve (a :: r))∧∀x,x∈a :: Ve (a :: r)↔x∈a :: r
 |a,[],_=>by simp[Ve,Up]
 |a,b :: r,h=>by
  obtain⟨h1,h2⟩:=List.pairwise_cons.1 h
  obtain⟨u,m⟩:=Jij h2
  rw[Ve]
  by_cases e:b=a
  ·subst e
   rw[if_pos rfl]
   exact⟨u,fun x=>by rw[m];simp⟩
  ·rw[if_neg e]
   refine⟨List.pairwise_cons.2 ⟨fun z hz=>?_,u⟩,fun x=>?_⟩
   ·have hab:JO a b<0:=by
     have h3:=h1 b (by simp)
     have h4:=JbX a b
     by_cases h5:JO a b=0
     ·exact absurd (Jd5 _ _ h5).symm e
     ·omega
    rcases List.mem_cons.1 hz with rfl|hz
    ·exact hab
    ·exact JcQ _ _ _ hab ((List.pairwise_cons.1 u).1 z hz)
   ·rw[List.mem_cons,m,←List.mem_cons]
theorem JfC{l:List Key}(h:Le l):Up (VK l)∧∀x,x∈VK l↔x∈l:=by
 unfold VK
 cases l with
 |nil=>simp[Ve,Up]
 |cons a r=>simpa using Jij h
theorem Jm4(p:Pins):Up (Vk p)∧∀x,x∈Vk p↔x∈J2 (Jr p).snaps:=by
 obtain⟨h1,h2⟩:=JfC (JfE (J2 (Jr p).snaps))
 exact⟨h1,fun x=>by rw[Vk,h2,JfF]⟩
theorem Jjo{r:Res}(h:¬Vc r=0):JH r=[]:=by unfold JH;rw[if_neg h]
theorem Jnv{r:Res}(h:Vc r=0):Up (JH r)∧∀x,x∈JH r↔x∈YJ r++Vf r.rules':=by
 obtain⟨h1,h2⟩:=JfC (JfE (YJ r++Vf r.rules'))
 unfold JH
 rw[if_pos h]
 exact⟨h1,fun x=>by rw[h2,JfF]⟩
theorem Jml{w:List Weight}{x:Key}:x∈Y5 w↔∃y∈w,0<y.w∧x=⟨2,y.cluster⟩:=by
 unfold Y5
 simp only[List.mem_map,List.mem_filter,decide_eq_true_eq]
 constructor
 ·rintro⟨y,⟨h1,h2⟩,rfl⟩;exact⟨y,h1,h2,rfl⟩
 ·rintro⟨y,h1,h2,rfl⟩;exact⟨y,⟨h1,h2⟩,rfl⟩
theorem mem_keysR{l:List Rule}{x:Key}:x∈Vf l↔∃z∈l,∃y∈z.split,0<y.w∧x=⟨2,y.cluster⟩:=by
 unfold Vf
 simp only[List.mem_flatMap,Jml]
theorem JnZ{r:Res}(h:Vc r=0):(r.to'≠[]→r.kind=0∨r.kind=2)∧(r.rules'≠[]→r.kind=1)∧(r.hosts≠[]→r.kind=3)∧(r.to'≠[]→VN r.to'=true) ∧
  (∀x∈r.rules',Jcn x=true):=by
 have hto:=Jmd h
 rw[JjM] at h
 obtain⟨h1,h2,h3,h4,h5,h6⟩:=h
 simp only[Jbr,Jbb,Bool.and_eq_true,Bool.or_eq_true,decide_eq_true_eq] at h4 h5
 refine⟨hto.1,fun h=>?_,fun h=>?_,fun h=>?_,fun x hx=>?_⟩
 ·rcases h4.2.2.1 with h'|h'
  ·exact absurd (List.length_eq_zero_iff.1 h') h
  ·exact h'
 ·rcases h4.2.2.2 with h'|h'
  ·exact absurd (List.length_eq_zero_iff.1 h') h
  ·exact h'
 ·have h8:(decide (r.kind=0) || decide (r.kind=2))=true:=by simpa using hto.1 h
  have h7:=h5.1
  rw[h8] at h7
  simpa using h7
 ·have h7:=h5.2
  simp only[Bool.not_eq_true',List.any_eq_false,Bool.not_eq_true,Bool.not_eq_false'] at h7
  simpa using h7 x hx
theorem Jnu{r:Res}(h:r.kind=3):JH r=[]:=by
 by_cases hs:Vc r=0
 ·obtain⟨h1,h2,h3,h4,h5⟩:=JnZ hs
  apply List.eq_nil_iff_forall_not_mem.2
  intro x hx
  rw[(Jnv hs).2,List.mem_append] at hx
  rcases hx with hx|hx
  ·unfold YJ at hx
   split at hx
   ·simp at hx
   ·rename_i hne
    have:=h1 hne;omega
  ·obtain⟨z,hz,_⟩:=mem_keysR.1 hx
   have:=h2 (List.ne_nil_of_mem hz);omega
 ·exact Jjo hs
theorem Jeu(r:Res):(JH r).length≤33:=by
 by_cases hs:Vc r=0
 ·obtain⟨b1,b2,b3⟩:=JjY (JjQ hs)
  have hc:∀l:List Key,(Ve l).length≤l.length-1:=by
   intro l
   induction l with
   |nil=>simp[Ve]
   |cons a r ih =>
    cases r with
    |nil=>simp[Ve]
    |cons b r=>rw[Ve];split<;>simp only[List.length_cons] at ih ⊢<;>omega
  have hk:∀l:List Key,(VK l).length≤l.length:=by
   intro l;unfold VK;rw[List.length_append];have:=hc l
   cases l with
   |nil=>simpa using this
   |cons a r=>simp only[List.length_cons,List.take_succ_cons,List.take_zero,List.length_nil] at this ⊢;omega
  have hkR:∀l:List Rule,(∀x∈l,x.split.length≤4)→(Vf l).length≤4*l.length:=by
   intro l
   induction l with
   |nil=>simp[Vf]
   |cons a r ih =>
    intro h
    rw[Jin,List.length_append]
    have:=ih fun x hx=>h x (List.mem_cons_of_mem _ hx)
    have h2:=h a (by simp)
    have h3:=Jmc a.split
    simp only[List.length_cons];omega
  have hb:(YJ r).length≤1:=by unfold YJ;split<;>simp
  have:=hk (JK (YJ r++Vf r.rules'))
  rw[Jad,List.length_append] at this
  have:=hkR _ b3
  unfold JH
  rw[if_pos hs]
  omega
 ·rw[Jjo hs];simp
end Go.Proofs.YtihahfhagobnoaaGreatDoor.Lg
