/- Parts of the proof, one behind the other. -/
import Derived.Test.YtihahfhagobnoaaGreatDoorG13
namespace Go.Proofs.YtihahfhagobnoaaGreatDoor.Lg
set_option maxRecDepth 100000
set_option linter.unusedVariables false
set_option linter.unusedSimpArgs false
open Go
open Nat renaming reduceEqDiff → Qa, reduceLT → Qb, reduceLeDiff → Qc, reduceAdd → Qd, reduceMul → Qe, reduceSub → Qf, reduceBEq → Qg
open String renaming reduceEq → Qh
open SpecC renaming seqW → Qi, regW → Qj, drawW → Qk, condW → Ql, block → Qm, skip → Qn, exit → Qp, ret → Qr, loopF → Qs
open NxK renaming out → Qw
open Nx renaming out → Qx
open condK renaming split → Qy
open gK renaming split_t → Qz, split_f → QA
open List renaming getElem_mem → QC
def YX(l:List Weight):List Key:=(l.filter fun w=>decide (0<w.w)).map fun w=>⟨2,w.cluster⟩
def Vc(l:List Rule):List Key:=l.flatMap fun x=>YX x.split
def YG(r:Res):List Key:=if r.to'=[] then [] else [⟨IntKind.i64.wrap (r.kind+1),r.to'⟩]
def JH(r:Res):List Key:=if Vi r=0 then VY (JJ (YG r++Vc r.rules')) else []
theorem Jh2(x:Rule)(l:List Rule):Vc (x :: l)=YX x.split++Vc l:=rfl
theorem JlZ(w:Weight)(l:List Weight):YX (w :: l)=(if 0<w.w then [⟨2,w.cluster⟩] else [])++YX l:=by
 unfold YX
 by_cases h:0<w.w<;>simp[h]
theorem Jju{r:Res}(h:Vi r=0):YM r=true:=by
 unfold Vi at h
 cases hs:YM r with
 |true=>rfl
 |false =>
  rw[hs] at h
  split at h
  ·cases h
  ·split at h
   ·cases h
   ·simp at h
theorem JjE{r:Res}(h:YM r=true):r.rules'.length≤8∧r.hosts.length≤8∧∀x∈r.rules',x.split.length≤4:=by
 simp only[YM,Bool.and_eq_true,decide_eq_true_eq,List.all_eq_true] at h
 refine⟨h.2.2.1,h.2.2.2.1,fun x hx=>?_⟩
 have:=h.2.2.2.2.2 x hx
 simp only[Ja5,Bool.and_eq_true,decide_eq_true_eq] at this
 exact this.1
theorem Jl0(l:List Weight):(YX l).length≤l.length:=by
 unfold YX
 rw[List.length_map]
 exact List.length_filter_le _ _
set_option maxHeartbeats 4000000 in
theorem Jan(r_kind:Int)(r_name:List UInt8)(r_ver:Int)(r_port:Int)(r_to:List UInt8)(r_rules:List Rule)(r_hosts:List Int)(hl:Jc r_rules.length)(hh:Jc r_hosts.length)(hs:∀x∈r_rules,Yp x):CallR Tryz.prog 65 [.agg [.int .i64 r_kind,.str r_name,.int .i64 r_ver,.int .i64 r_port,.str r_to,.slice false (Ja r_rules),.slice false (Ja r_hosts)]] (.own 2 (Ja (JH (⟨r_kind,r_name,r_ver,r_port,r_to,r_rules,r_hosts⟩:Res)))):=by
 by_cases hsn:Vi (⟨r_kind,r_name,r_ver,r_port,r_to,r_rules,r_hosts⟩:Res)=0
 rotate_left
 ·have hr:JH (⟨r_kind,r_name,r_ver,r_port,r_to,r_rules,r_hosts⟩:Res)=[]:=if_neg hsn
  rw[hr]
  refine CallR.go1 (T:=T) Tryz.call65 Tryz.func65 rfl Tryz.ntmps65 (congrArg Array.toList Tryz.results65) (by decide) fun ts hn h0=>?_
  (repeat' (first
 | (with_reducible first|refine callX.by (Vu _ _ _ _ _ _ _ ?_ ?_ ?_) ?_|refine callX.by VB ?_)
 | (with_reducible refine callX.ar ?_ ?_ (ZK ?_ ?_);(focus(simp only[go_sem,↓reduceIte,reduceIte,Qa,Qh,Qb,Qc,Qd,Qe,Qf,Qg,reduceCtorEq, *,-hs];first|done|rfl)))
 |with_reducible refine callX.by (Vt _ _ _ _) ?_
 | (with_reducible refine callX.mv ?_ ?_ ?_ (Zv ?_ ?_);(focus(simp only[go_sem,↓reduceIte,reduceIte,Qa,Qh,Qb,Qc,Qd,Qe,Qf,Qg,reduceCtorEq, *,-hs];first|done|rfl));(focus(simp only[go_sem,↓reduceIte,reduceIte,Qa,Qh,Qb,Qc,Qd,Qe,Qf,Qg,reduceCtorEq, *,-hs];first|done|rfl)))
 | (with_reducible first|assumption|(refine Qw hK _ ?_;clear hK K)|refine Qw ‹_› _ ?_|refine Qx ‹_› ?_|refine Qi fun K hK=>?_|refine Qj T fun K hK=>?_|refine Ql fun A B hA hB=>?_|refine Qm ?_|refine Qn ?_|refine Qp ?_|refine Qr ?_)
 | ((with_reducible first|apply Qy|apply Qz|apply QA)<;>intro hb<;>try simp only[nr] at hb)
 |simp only[go_sem,↓reduceIte,reduceIte,Qa,Qh,Qb,Qc,Qd,Qe,Qf,Qg,reduceCtorEq, *,-hs]
 |with_reducible refine fun(bn:Bool) hbn=>?_))
  all_goals rfl
 obtain⟨hb1,hb2,hb3⟩:=JjE (Jju hsn)
 simp only at hb1 hb2 hb3
 have hr:JH (⟨r_kind,r_name,r_ver,r_port,r_to,r_rules,r_hosts⟩:Res)=VY (JJ (YG (⟨r_kind,r_name,r_ver,r_port,r_to,r_rules,r_hosts⟩:Res)++Vc r_rules)):=if_pos hsn
 rw[hr]
 obtain⟨bs,hbs⟩:∃bs,YG (⟨r_kind,r_name,r_ver,r_port,r_to,r_rules,r_hosts⟩:Res)=bs:=⟨_,rfl⟩
 rw[hbs]
 have hbl:bs.length≤1:=by
  rw[←hbs];unfold YG;split<;>simp
 clear hr
 have hr0:Vn 1 24:=Jao (by decide) (by decide)
 have hsk:∀x∈r_rules,Jc x.split.length:=fun x hx=>(hs x hx).2.2.1
 refine CallR.go1 (T:=T) Tryz.call65 Tryz.func65 rfl Tryz.ntmps65 (congrArg Array.toList Tryz.results65) (by decide) fun ts hn h0=>?_
 (repeat' (first
 | (with_reducible first|refine SpecC.cutAtS 6 [1] (fun ts'=>∃(g:Nat),ts'.tmp 3=.os 3 g bs.length∧ts'.gen 3=g∧ts'.obj 3=.arr 2 (Ja bs)) ?_ ?_|refine callX.by (Vu _ _ _ _ _ _ _ ?_ ?_ ?_) ?_|refine callX.by VB ?_)
 | (with_reducible refine callX.ar ?_ ?_ (ZK ?_ ?_);(focus(simp only[go_sem,↓reduceIte,reduceIte,Qa,Qh,Qb,Qc,Qd,Qe,Qf,Qg,reduceCtorEq, *,-hs,-hsk,-hb3];first|done|rfl)))
 |with_reducible refine callX.by (Vt _ _ _ _) ?_
 | (with_reducible refine callX.mv ?_ ?_ ?_ (Zv ?_ ?_);(focus(simp only[go_sem,↓reduceIte,reduceIte,Qa,Qh,Qb,Qc,Qd,Qe,Qf,Qg,reduceCtorEq, *,-hs,-hsk,-hb3];first|done|rfl));(focus(simp only[go_sem,↓reduceIte,reduceIte,Qa,Qh,Qb,Qc,Qd,Qe,Qf,Qg,reduceCtorEq, *,-hs,-hsk,-hb3];first|done|rfl)))
 | (with_reducible first|assumption|(refine Qw hK _ ?_;clear hK K)|refine Qw ‹_› _ ?_|refine Qx ‹_› ?_|refine Qi fun K hK=>?_|refine Qj T fun K hK=>?_|refine Ql fun A B hA hB=>?_|refine Qm ?_|refine Qn ?_|refine Qp ?_|refine Qr ?_)
 | ((with_reducible first|apply Qy|apply Qz|apply QA)<;>intro hb<;>try simp only[nr] at hb)
 |simp only[go_sem,↓reduceIte,reduceIte,Qa,Qh,Qb,Qc,Qd,Qe,Qf,Qg,reduceCtorEq, *,-hs,-hsk,-hb3]
 |with_reducible refine fun(bn:Bool) hbn=>?_))
 ·have e:bs=[⟨IntKind.i64.wrap (r_kind+1),r_to⟩]:=by rw[←hbs];unfold YG;rw[if_neg (of_decide_eq_false hb)]
  subst e
  have ea:Ja [(⟨IntKind.i64.wrap (r_kind+1),r_to⟩:Key)]=[AV.agg [AV.int IntKind.i64 (IntKind.i64.wrap (r_kind+1)),AV.str r_to]]:=rfl
  (repeat clear hK);(repeat clear hA);(repeat clear hB)
  (refine⟨_,(Ent.ren 3 22 (by simp only[go_sem,↓reduceIte,reduceIte,Qa,Qh,Qb,Qc,Qd,Qe,Qf,Qg,reduceCtorEq, *,-hs,-hsk,-hb3];done) (by simp only[go_sem,↓reduceIte,reduceIte,Qa,Qh,Qb,Qc,Qd,Qe,Qf,Qg,reduceCtorEq, *,-hs,-hsk,-hb3];done)),by simp only[go_sem,↓reduceIte,reduceIte,Qa,Qh,Qb,Qc,Qd,Qe,Qf,Qg,reduceCtorEq, *,-hs,-hsk,-hb3];done,⟨ts.gen 3+1,?_⟩⟩;simp only[go_sem,↓reduceIte,reduceIte,Qa,Qh,Qb,Qc,Qd,Qe,Qf,Qg,reduceCtorEq, *,-hs,-hsk,-hb3];done)
 ·have e:bs=[]:=by rw[←hbs];unfold YG;rw[if_pos (of_decide_eq_true hb)]
  subst e
  (repeat clear hK);(repeat clear hA);(repeat clear hB)
  (refine⟨_,(Ent.virt 3 2 (by simp only[go_sem,↓reduceIte,reduceIte,Qa,Qh,Qb,Qc,Qd,Qe,Qf,Qg,reduceCtorEq, *,-hs,-hsk,-hb3,YF];done) (by decide)),by simp only[go_sem,↓reduceIte,reduceIte,Qa,Qh,Qb,Qc,Qd,Qe,Qf,Qg,reduceCtorEq, *,-hs,-hsk,-hb3,YF];done,⟨ts.gen 3+1,?_⟩⟩;simp only[go_sem,↓reduceIte,reduceIte,Qa,Qh,Qb,Qc,Qd,Qe,Qf,Qg,reduceCtorEq, *,-hs,-hsk,-hb3,YF];done)
 ·intro ts2 hk3
  rintro⟨g2,v1,v2,v3⟩
  simp only[go_sem,↓reduceIte,reduceIte,Qa,Qh,Qb,Qc,Qd,Qe,Qf,Qg,reduceCtorEq, *] at hk3
  (repeat' (first
 | (with_reducible first|refine callX.by (Vu _ _ _ _ _ _ _ ?_ ?_ ?_) ?_|refine callX.by VB ?_)
 | (with_reducible refine callX.ar ?_ ?_ (ZK ?_ ?_);(focus(simp only[go_sem,↓reduceIte,reduceIte,Qa,Qh,Qb,Qc,Qd,Qe,Qf,Qg,reduceCtorEq, *,-hs,-hsk,-hb3];first|done|rfl)))
 |with_reducible refine callX.by (Vt _ _ _ _) ?_
 | (with_reducible refine callX.mv ?_ ?_ ?_ (Zv ?_ ?_);(focus(simp only[go_sem,↓reduceIte,reduceIte,Qa,Qh,Qb,Qc,Qd,Qe,Qf,Qg,reduceCtorEq, *,-hs,-hsk,-hb3];first|done|rfl));(focus(simp only[go_sem,↓reduceIte,reduceIte,Qa,Qh,Qb,Qc,Qd,Qe,Qf,Qg,reduceCtorEq, *,-hs,-hsk,-hb3];first|done|rfl)))
 | (with_reducible first|assumption|(refine Qw hK _ ?_;clear hK K)|refine Qw ‹_› _ ?_|refine Qx ‹_› ?_|refine Qi fun K hK=>?_|refine Qj T fun K hK=>?_|refine Ql fun A B hA hB=>?_|refine Qm ?_|refine Qn ?_|refine Qp ?_|refine Qr ?_)
 | ((with_reducible first|apply Qy|apply Qz|apply QA)<;>intro hb<;>try simp only[nr] at hb)
 |simp only[go_sem,↓reduceIte,reduceIte,Qa,Qh,Qb,Qc,Qd,Qe,Qf,Qg,reduceCtorEq, *,-hs,-hsk,-hb3]
 |with_reducible refine fun(bn:Bool) hbn=>?_))
  refine Qs [24,25] (fun m ts'=>∃(i:Nat),∃(g:Nat),∃(ys:List Key),m=r_rules.length-i∧i≤r_rules.length∧ys.length≤1+4*i∧bs++Vc r_rules=ys++Vc (r_rules.drop i)∧ts'.tmp 3=.os 3 g ys.length∧ts'.gen 3=g∧ts'.obj 3=.arr 2 (Ja ys)∧ts'.tmp 26=.int .i64 i) r_rules.length ?_ ?_
  ·refine⟨0,g2,bs,rfl,Nat.zero_le _,by omega,rfl,?_⟩
   simp only[go_sem,↓reduceIte,reduceIte,Qa,Qh,Qb,Qc,Qd,Qe,Qf,Qg,reduceCtorEq, *,-hs,-hsk,-hb3]
  ·rintro m A hM ts' hk ⟨i,g,ys,hm,f1,f2,f3,s1,s2,s3,s4⟩
   simp only[go_sem,↓reduceIte,reduceIte,Qa,Qh,Qb,Qc,Qd,Qe,Qf,Qg,reduceCtorEq, *] at hk
   by_cases hlt:i<r_rules.length
   ·rw[List.drop_eq_getElem_cons hlt,Jh2] at f3
    have hx4:=hb3 _ (QC hlt)
    have hxs:=hsk _ (QC hlt)
    (repeat' (first
 | (with_reducible first|refine callX.by (Vu _ _ _ _ _ _ _ ?_ ?_ ?_) ?_|refine callX.by VB ?_)
 | (with_reducible refine callX.ar ?_ ?_ (ZK ?_ ?_);(focus(simp only[go_sem,↓reduceIte,reduceIte,Qa,Qh,Qb,Qc,Qd,Qe,Qf,Qg,reduceCtorEq, *,-hs,-hsk,-hb3,-f3];first|done|rfl)))
 |with_reducible refine callX.by (Vt _ _ _ _) ?_
 | (with_reducible refine callX.mv ?_ ?_ ?_ (Zv ?_ ?_);(focus(simp only[go_sem,↓reduceIte,reduceIte,Qa,Qh,Qb,Qc,Qd,Qe,Qf,Qg,reduceCtorEq, *,-hs,-hsk,-hb3,-f3];first|done|rfl));(focus(simp only[go_sem,↓reduceIte,reduceIte,Qa,Qh,Qb,Qc,Qd,Qe,Qf,Qg,reduceCtorEq, *,-hs,-hsk,-hb3,-f3];first|done|rfl)))
 | (with_reducible first|assumption|(refine Qw hK _ ?_;clear hK K)|refine Qw ‹_› _ ?_|refine Qx ‹_› ?_|refine Qi fun K hK=>?_|refine Qj T fun K hK=>?_|refine Ql fun A B hA hB=>?_|refine Qm ?_|refine Qn ?_|refine Qp ?_|refine Qr ?_)
 | ((with_reducible first|apply Qy|apply Qz|apply QA)<;>intro hb<;>try simp only[nr] at hb)
 |simp only[go_sem,↓reduceIte,reduceIte,Qa,Qh,Qb,Qc,Qd,Qe,Qf,Qg,reduceCtorEq, *,-hs,-hsk,-hb3,-f3]
 |with_reducible refine fun(bn:Bool) hbn=>?_))
    refine Qs [24,25,26,31,32] (fun m ts'=>∃(j:Nat),∃(g':Nat),∃(zs:List Key),m=r_rules[i].split.length-j∧j≤r_rules[i].split.length∧zs.length≤1+4*i+j∧ys++YX r_rules[i].split=zs++YX (r_rules[i].split.drop j)∧ts'.tmp 3=.os 3 g' zs.length∧ts'.gen 3=g'∧ts'.obj 3=.arr 2 (Ja zs)∧ts'.tmp 33=.int .i64 j) r_rules[i].split.length ?_ ?_
    ·refine⟨0,g,ys,rfl,Nat.zero_le _,by omega,rfl,?_⟩
     simp only[go_sem,↓reduceIte,reduceIte,Qa,Qh,Qb,Qc,Qd,Qe,Qf,Qg,reduceCtorEq, *,-hs,-hsk,-hb3,-f3]
    ·revert hM f3
     intro hM0 f30
     rintro m A hM ts' hk ⟨j,g',zs,hm,f1,f2,f3,s1,s2,s3,s4⟩
     simp only[go_sem,↓reduceIte,reduceIte,Qa,Qh,Qb,Qc,Qd,Qe,Qf,Qg,reduceCtorEq, *] at hk
     by_cases hjt:j<r_rules[i].split.length
     ·rw[List.drop_eq_getElem_cons hjt,JlZ] at f3
      have hr1:Vn (zs.length+1) 24:=Jao (by omega) (by decide)
      (repeat' (first
 | (with_reducible first|refine callX.by (Vu _ _ _ _ _ _ _ ?_ ?_ ?_) ?_|refine callX.by VB ?_)
 | (with_reducible refine callX.ar ?_ ?_ (ZK ?_ ?_);(focus(simp only[go_sem,↓reduceIte,reduceIte,Qa,Qh,Qb,Qc,Qd,Qe,Qf,Qg,reduceCtorEq, *,-hs,-hsk,-hb3,-f3,-f30];first|done|rfl)))
 |with_reducible refine callX.by (Vt _ _ _ _) ?_
 | (with_reducible refine callX.mv ?_ ?_ ?_ (Zv ?_ ?_);(focus(simp only[go_sem,↓reduceIte,reduceIte,Qa,Qh,Qb,Qc,Qd,Qe,Qf,Qg,reduceCtorEq, *,-hs,-hsk,-hb3,-f3,-f30];first|done|rfl));(focus(simp only[go_sem,↓reduceIte,reduceIte,Qa,Qh,Qb,Qc,Qd,Qe,Qf,Qg,reduceCtorEq, *,-hs,-hsk,-hb3,-f3,-f30];first|done|rfl)))
 | (with_reducible first|assumption|(refine Qw hK _ ?_;clear hK K)|refine Qw ‹_› _ ?_|refine Qx ‹_› ?_|refine Qi fun K hK=>?_|refine Qj T fun K hK=>?_|refine Ql fun A B hA hB=>?_|refine Qm ?_|refine Qn ?_|refine Qp ?_|refine Qr ?_)
 | ((with_reducible first|apply Qy|apply Qz|apply QA)<;>intro hb<;>try simp only[nr] at hb)
 |simp only[go_sem,↓reduceIte,reduceIte,Qa,Qh,Qb,Qc,Qd,Qe,Qf,Qg,reduceCtorEq, *,-hs,-hsk,-hb3,-f3,-f30]
 |with_reducible refine fun(bn:Bool) hbn=>?_))
      all_goals ((repeat clear hK);(repeat clear hA);(repeat clear hB))
      ·(refine hM.onE (r_rules[i].split.length-(j+1)) (Ent.ren 3 45 ?_ ?_) ?_ ?_ ?_;(focus(simp only[go_sem,↓reduceIte,reduceIte,Qa,Qh,Qb,Qc,Qd,Qe,Qf,Qg,reduceCtorEq, *,Jf hjt hxs,List.length_append,-f3,-f30,-hM0];first|done|rfl));(focus(simp only[go_sem,↓reduceIte,reduceIte,Qa,Qh,Qb,Qc,Qd,Qe,Qf,Qg,reduceCtorEq, *,Jf hjt hxs,List.length_append,-f3,-f30,-hM0];first|done|rfl));omega;(focus(simp only[go_sem,↓reduceIte,reduceIte,Qa,Qh,Qb,Qc,Qd,Qe,Qf,Qg,reduceCtorEq, *,Jf hjt hxs,List.length_append,-f3,-f30,-hM0];done));refine⟨j+1,g'+1,zs++[⟨2,r_rules[i].split[j].cluster⟩],rfl,by omega,by simp;omega,by rw[f3,if_pos hb,List.append_assoc],?_⟩;simp only[go_sem,↓reduceIte,reduceIte,Qa,Qh,Qb,Qc,Qd,Qe,Qf,Qg,reduceCtorEq, *,Jf hjt hxs,List.length_append,-f3,-f30,-hM0];done)
      ·rw[if_neg (by omega),List.nil_append] at f3
       (refine hM.on (r_rules[i].split.length-(j+1)) (by omega) (by simp only[go_sem,↓reduceIte,reduceIte,Qa,Qh,Qb,Qc,Qd,Qe,Qf,Qg,reduceCtorEq, *,Jf hjt hxs,-f3,-f30,-hM0]) ⟨j+1,g',zs,rfl,by omega,by omega,f3,?_⟩;simp only[go_sem,↓reduceIte,reduceIte,Qa,Qh,Qb,Qc,Qd,Qe,Qf,Qg,reduceCtorEq, *,Jf hjt hxs,-f3,-f30,-hM0];done)
     ·rw[List.drop_eq_nil_of_le (by omega)] at f3
      (repeat' (first
 | (with_reducible first|refine callX.by (Vu _ _ _ _ _ _ _ ?_ ?_ ?_) ?_|refine callX.by VB ?_)
 | (with_reducible refine callX.ar ?_ ?_ (ZK ?_ ?_);(focus(simp only[go_sem,↓reduceIte,reduceIte,Qa,Qh,Qb,Qc,Qd,Qe,Qf,Qg,reduceCtorEq, *,-hs,-hsk,-hb3,-f3,-f30];first|done|rfl)))
 |with_reducible refine callX.by (Vt _ _ _ _) ?_
 | (with_reducible refine callX.mv ?_ ?_ ?_ (Zv ?_ ?_);(focus(simp only[go_sem,↓reduceIte,reduceIte,Qa,Qh,Qb,Qc,Qd,Qe,Qf,Qg,reduceCtorEq, *,-hs,-hsk,-hb3,-f3,-f30];first|done|rfl));(focus(simp only[go_sem,↓reduceIte,reduceIte,Qa,Qh,Qb,Qc,Qd,Qe,Qf,Qg,reduceCtorEq, *,-hs,-hsk,-hb3,-f3,-f30];first|done|rfl)))
 | (with_reducible first|assumption|(refine Qw hK _ ?_;clear hK K)|refine Qw ‹_› _ ?_|refine Qx ‹_› ?_|refine Qi fun K hK=>?_|refine Qj T fun K hK=>?_|refine Ql fun A B hA hB=>?_|refine Qm ?_|refine Qn ?_|refine Qp ?_|refine Qr ?_)
 | ((with_reducible first|apply Qy|apply Qz|apply QA)<;>intro hb<;>try simp only[nr] at hb)
 |simp only[go_sem,↓reduceIte,reduceIte,Qa,Qh,Qb,Qc,Qd,Qe,Qf,Qg,reduceCtorEq, *,-hs,-hsk,-hb3,-f3,-f30]
 |with_reducible refine fun(bn:Bool) hbn=>?_))
      all_goals ((repeat clear hK);(repeat clear hA);(repeat clear hB))
      all_goals (clear hM;revert hM0;intro hM)
      (refine hM.on (r_rules.length-(i+1)) (by omega) (by simp only[go_sem,↓reduceIte,reduceIte,Qa,Qh,Qb,Qc,Qd,Qe,Qf,Qg,reduceCtorEq, *,Jf hlt hl,-f3,-f30,-hs,-hsk,-hb3]) ⟨i+1,g',zs,rfl,by omega,by omega,by rw[f30,←List.append_assoc,f3];simp[YX],?_⟩;simp only[go_sem,↓reduceIte,reduceIte,Qa,Qh,Qb,Qc,Qd,Qe,Qf,Qg,reduceCtorEq, *,Jf hlt hl,-f3,-f30,-hs,-hsk,-hb3];done)
   ·rw[List.drop_eq_nil_of_le (by omega)] at f3
    have e:ys=bs++Vc r_rules:=by rw[f3];simp[Vc]
    subst e
    clear f3
    have hk1:=Jaf (bs++Vc r_rules)
    have htk:(JJ (bs++Vc r_rules)).take (bs++Vc r_rules).length=JJ (bs++Vc r_rules):=List.take_of_length_le (by omega)
    have htk2:(JJ (bs++Vc r_rules)).take (bs.length+(Vc r_rules).length)=JJ (bs++Vc r_rules):=List.take_of_length_le (by rw[hk1,List.length_append];exact Nat.le_refl _)
    have hsm1:Jc (bs++Vc r_rules).length:=by unfold Jc;omega
    have hsm2:Jc (JJ (bs++Vc r_rules)).length:=by rw[hk1];exact hsm1
    (repeat' (first
 | (with_reducible first|refine callX.by (Vu _ _ _ _ _ _ _ ?_ ?_ ?_) ?_|refine callX.by VB ?_)
 | (with_reducible refine callX.ar ?_ ?_ (ZK ?_ ?_);(focus(simp only[go_sem,↓reduceIte,reduceIte,Qa,Qh,Qb,Qc,Qd,Qe,Qf,Qg,reduceCtorEq, *,Nat.le_refl,-hs,-hsk,-hb3];first|done|rfl)))
 |with_reducible refine callX.by (Vt _ _ _ _) ?_
 | (with_reducible refine callX.mv ?_ ?_ ?_ (Zv ?_ ?_);(focus(simp only[go_sem,↓reduceIte,reduceIte,Qa,Qh,Qb,Qc,Qd,Qe,Qf,Qg,reduceCtorEq, *,Nat.le_refl,-hs,-hsk,-hb3];first|done|rfl));(focus(simp only[go_sem,↓reduceIte,reduceIte,Qa,Qh,Qb,Qc,Qd,Qe,Qf,Qg,reduceCtorEq, *,Nat.le_refl,-hs,-hsk,-hb3];first|done|rfl)))
 | (with_reducible first|assumption|(refine Qw hK _ ?_;clear hK K)|refine Qw ‹_› _ ?_|refine Qx ‹_› ?_|refine Qi fun K hK=>?_|refine Qj T fun K hK=>?_|refine Ql fun A B hA hB=>?_|refine Qm ?_|refine Qn ?_|refine Qp ?_|refine Qr ?_)
 | ((with_reducible first|apply Qy|apply Qz|apply QA)<;>intro hb<;>try simp only[nr] at hb)
 |simp only[go_sem,↓reduceIte,reduceIte,Qa,Qh,Qb,Qc,Qd,Qe,Qf,Qg,reduceCtorEq, *,Nat.le_refl,-hs,-hsk,-hb3]
 |with_reducible refine fun(bn:Bool) hbn=>?_))
    all_goals ((repeat clear hK);(repeat clear hA);(repeat clear hB))
    all_goals rfl
@[go_sem] def ZO:List (List Nat×List Nat):=[([30],[33,34,35,36,37,38,39,40,41,42,43,44,45,46]),([31],[]),([32],[]),([33],[30,34,35,38,39,40,41,42,43,44,45,46]),([34],[30,33,37,38,39,40,41,42,43,44,45,46]),([35],[30,33,38,39,40,41,42,43,44,45,46]),([36],[30,39,40,41,42,43,44,45,46]),([37],[30,34,39,40,41,42,45,46]),([38],[30,33,34,35,39,40,41,42,46]),([39],[30,33,34,35,36,37,38,40,43,44,45,46]),([40],[30,33,34,35,36,37,38,39,43,44,45,46]),([41],[30,33,34,35,36,37,38,44,45,46]),([42],[30,33,34,35,36,37,38,45,46]),([43],[30,33,34,35,36,39,40,46]),([44],[30,33,34,35,36,39,40,41]),([45],[30,33,34,35,36,37,39,40,41,42]),([46],[30,33,34,35,36,37,38,39,40,41,42,43])]
def YT:List Res→Int
 | []=>0
 |r :: l=>if Vi r=0 then YT l else Vi r
def Y1:List Res→Bool
 | []=>true
 |a :: l=>match l with
  | []=>true
  |b :: _=>decide (JI (Jj a) (Jj b)<0) && Y1 l
def JaX:List Res→List (Int×Bool)→Bool
 | [],_=>true
 |r :: l,M=>if(JB M r.port).getD false then false else JaX l (JS M r.port true)
def J2(l:List Res):Int:=if 64<l.length then 3 else if YT l≠0 then YT l else if Y1 l=false then 2 else if JaX (YN l 0) []=false then 13 else 0
theorem JjS(a b:Res)(l:List Res):Y1 (a :: b :: l)=(decide (JI (Jj a) (Jj b)<0) && Y1 (b :: l)):=rfl
set_option maxHeartbeats 4000000 in
theorem Jb6(xs:List Res)(hl:Jc xs.length)(hs:∀r∈xs,Jv r):CallR Tryz.prog 62 [.slice false (Ja xs)] (.val (.int .i64 (J2 xs))):=by
 by_cases h64:64<xs.length
 ·have e:J2 xs=3:=by simp[J2,h64]
  rw[e]
  refine CallR.go1 (T:=T) Tryz.call62 Tryz.func62 rfl Tryz.ntmps62 (congrArg Array.toList Tryz.results62) (by decide) fun ts hn h0=>?_
  (repeat' (first
 | (with_reducible first|refine callX.by (Vu _ _ _ _ _ _ _ ?_ ?_ ?_) ?_|refine callX.by VB ?_|refine callX.by (J0 _ _ _ _ _ _ _) ?_|refine callX.by (Vt _ _ _ _) ?_|refine callX.by (Z1 _ _ ?_) ?_|assumption|(refine Qw hK _ ?_;clear hK K)|refine Qw ‹_› _ ?_|refine Qx ‹_› ?_|refine Qi fun K hK=>?_|refine Qj T fun K hK=>?_|refine Qk (id:=13) T mixed ZO (by kernel_rfl) fun K hK=>?_|refine Ql fun A B hA hB=>?_|refine Qm ?_|refine Qn ?_|refine Qp ?_|refine Qr ?_)
 | ((with_reducible first|apply Qy|apply Qz|apply QA)<;>intro hb<;>try simp only[nr] at hb)
 |simp only[go_sem,↓reduceIte,reduceIte,Qa,Qh,Qb,Qc,Qd,Qe,Qf,Qg,reduceCtorEq, *,-hs,-e]
 |with_reducible refine fun(bn:Bool) hbn=>?_))
 have hl64:xs.length≤64:=by omega
 refine CallR.go1 (T:=T) Tryz.call62 Tryz.func62 rfl Tryz.ntmps62 (congrArg Array.toList Tryz.results62) (by decide) fun ts hn h0=>?_
 (repeat' (first
 | (with_reducible first|refine callX.by (Vu _ _ _ _ _ _ _ ?_ ?_ ?_) ?_|refine callX.by VB ?_|refine callX.by (J0 _ _ _ _ _ _ _) ?_|refine callX.by (Vt _ _ _ _) ?_|refine callX.by (Z1 _ _ ?_) ?_|assumption|(refine Qw hK _ ?_;clear hK K)|refine Qw ‹_› _ ?_|refine Qx ‹_› ?_|refine Qi fun K hK=>?_|refine Qj T fun K hK=>?_|refine Qk (id:=13) T mixed ZO (by kernel_rfl) fun K hK=>?_|refine Ql fun A B hA hB=>?_|refine Qm ?_|refine Qn ?_|refine Qp ?_|refine Qr ?_)
 | ((with_reducible first|apply Qy|apply Qz|apply QA)<;>intro hb<;>try simp only[nr] at hb)
 |simp only[go_sem,↓reduceIte,reduceIte,Qa,Qh,Qb,Qc,Qd,Qe,Qf,Qg,reduceCtorEq, *,-hs]
 |with_reducible refine fun(bn:Bool) hbn=>?_))
 refine Qs [0,13,14] (fun m ts'=>∃(i:Nat),m=xs.length-i∧i≤xs.length∧YT xs=YT (xs.drop i)∧ts'.tmp 15=.int .i64 i) xs.length ?_ ?_
 ·refine⟨0,?_⟩
  simp only[go_sem,↓reduceIte,reduceIte,Qa,Qh,Qb,Qc,Qd,Qe,Qf,Qg,reduceCtorEq, *,-hs]
 ·rintro m A hM ts' hk ⟨i,hm,f1,f2,s1⟩
  simp only[go_sem,↓reduceIte,reduceIte,Qa,Qh,Qb,Qc,Qd,Qe,Qf,Qg,reduceCtorEq, *] at hk
  by_cases hlt:i<xs.length
  ·rw[List.drop_eq_getElem_cons hlt,YT] at f2
   obtain⟨_,_,hsl,hsr,hsh⟩:=hs _ (QC hlt)
   (repeat' (first
 | (with_reducible first|refine callX.by (Vu _ _ _ _ _ _ _ ?_ ?_ ?_) ?_|refine callX.by VB ?_|refine callX.by (J0 _ _ _ _ _ _ _) ?_|refine callX.by (Vt _ _ _ _) ?_|refine callX.by (Z1 _ _ ?_) ?_|assumption|(refine Qw hK _ ?_;clear hK K)|refine Qw ‹_› _ ?_|refine Qx ‹_› ?_|refine Qi fun K hK=>?_|refine Qj T fun K hK=>?_|refine Qk (id:=13) T mixed ZO (by kernel_rfl) fun K hK=>?_|refine Ql fun A B hA hB=>?_|refine Qm ?_|refine Qn ?_|refine Qp ?_|refine Qr ?_)
 | ((with_reducible first|apply Qy|apply Qz|apply QA)<;>intro hb<;>try simp only[nr] at hb)
 |simp only[go_sem,↓reduceIte,reduceIte,Qa,Qh,Qb,Qc,Qd,Qe,Qf,Qg,reduceCtorEq, *,-hs,-hsr,-f2]
 |with_reducible refine fun(bn:Bool) hbn=>?_))
   all_goals ((repeat clear hK);(repeat clear hA);(repeat clear hB))
   ·rw[if_neg (by simpa using hb)] at f2
    have hb':¬Vi xs[i]=0:=by simpa using hb
    simp[J2,h64,f2,hb']
   ·rw[if_pos (by simpa using hb)] at f2
    (refine hM.on (xs.length-(i+1)) (by omega) (by simp only[go_sem,↓reduceIte,reduceIte,Qa,Qh,Qb,Qc,Qd,Qe,Qf,Qg,reduceCtorEq, *,Jf hlt hl,-hs,-hsr,-f2]) ⟨i+1,rfl,by omega,f2,?_⟩;simp only[go_sem,↓reduceIte,reduceIte,Qa,Qh,Qb,Qc,Qd,Qe,Qf,Qg,reduceCtorEq, *,Jf hlt hl,-hs,-hsr,-f2];done)
  ·rw[List.drop_eq_nil_of_le (by omega),YT] at f2
   have e1:J2 xs=if Y1 xs=false then 2 else if JaX (YN xs 0) []=false then 13 else 0:=by simp[J2,h64,f2]
   clear f2
   have h00:¬(0:Int)<0:=by decide
   (repeat' (first
 | (with_reducible first|refine callX.by (Vu _ _ _ _ _ _ _ ?_ ?_ ?_) ?_|refine callX.by VB ?_|refine callX.by (J0 _ _ _ _ _ _ _) ?_|refine callX.by (Vt _ _ _ _) ?_|refine callX.by (Z1 _ _ ?_) ?_|assumption|(refine Qw hK _ ?_;clear hK K)|refine Qw ‹_› _ ?_|refine Qx ‹_› ?_|refine Qi fun K hK=>?_|refine Qj T fun K hK=>?_|refine Qk (id:=13) T mixed ZO (by kernel_rfl) fun K hK=>?_|refine Ql fun A B hA hB=>?_|refine Qm ?_|refine Qn ?_|refine Qp ?_|refine Qr ?_)
 | ((with_reducible first|apply Qy|apply Qz|apply QA)<;>intro hb<;>try simp only[nr] at hb)
 |simp only[go_sem,↓reduceIte,reduceIte,Qa,Qh,Qb,Qc,Qd,Qe,Qf,Qg,reduceCtorEq, *,-hs,-e1]
 |with_reducible refine fun(bn:Bool) hbn=>?_))
   refine Qs [0,26] (fun m ts'=>∃(k:Nat),m=xs.length-k∧k≤xs.length∧Y1 xs=Y1 (xs.drop (k-1))∧ts'.tmp 27=.int .i64 k) xs.length ?_ ?_
   ·refine⟨0,?_⟩
    simp only[go_sem,↓reduceIte,reduceIte,Qa,Qh,Qb,Qc,Qd,Qe,Qf,Qg,reduceCtorEq, *,-hs,-e1]
   ·clear hM
    rintro m A hM ts' hk ⟨k,hm,f1,f2,s1⟩
    simp only[go_sem,↓reduceIte,reduceIte,Qa,Qh,Qb,Qc,Qd,Qe,Qf,Qg,reduceCtorEq, *] at hk
    by_cases hkt:k<xs.length
    ·by_cases hk0:k=0
     ·subst hk0
      have hkt':(0:Int)<(xs.length:Int):=by omega
      have w01:IntKind.i64.wrap (0+1)=((1:Nat):Int):=by decide
      (repeat' (first
 | (with_reducible first|refine callX.by (Vu _ _ _ _ _ _ _ ?_ ?_ ?_) ?_|refine callX.by VB ?_|refine callX.by (J0 _ _ _ _ _ _ _) ?_|refine callX.by (Vt _ _ _ _) ?_|refine callX.by (Z1 _ _ ?_) ?_|assumption|(refine Qw hK _ ?_;clear hK K)|refine Qw ‹_› _ ?_|refine Qx ‹_› ?_|refine Qi fun K hK=>?_|refine Qj T fun K hK=>?_|refine Qk (id:=13) T mixed ZO (by kernel_rfl) fun K hK=>?_|refine Ql fun A B hA hB=>?_|refine Qm ?_|refine Qn ?_|refine Qp ?_|refine Qr ?_)
 | ((with_reducible first|apply Qy|apply Qz|apply QA)<;>intro hb<;>try simp only[nr] at hb)
 |simp only[go_sem,↓reduceIte,reduceIte,Qa,Qh,Qb,Qc,Qd,Qe,Qf,Qg,reduceCtorEq, *,-hs,-e1,-f2]
 |with_reducible refine fun(bn:Bool) hbn=>?_))
      all_goals ((repeat clear hK);(repeat clear hA);(repeat clear hB))
      (refine hM.on (xs.length-1) (by omega) (by simp only[go_sem,↓reduceIte,reduceIte,Qa,Qh,Qb,Qc,Qd,Qe,Qf,Qg,reduceCtorEq, *,w01,-hs,-e1,-f2]) ⟨1,rfl,by omega,f2,?_⟩;simp only[go_sem,↓reduceIte,reduceIte,Qa,Qh,Qb,Qc,Qd,Qe,Qf,Qg,reduceCtorEq, *,w01,-hs,-e1,-f2];done)
     ·have hk1:k-1<xs.length:=by omega
      have hk2:(0:Int)<(k:Int):=by omega
      have hk3:IntKind.i64.wrap ((k:Int)-1)=((k-1:Nat):Int):=by
       rw[show(k:Int)-1=((k-1:Nat):Int) by omega];exact IntWalk.i64_in _ (by unfold Jc at hl;omega)
      rw[List.drop_eq_getElem_cons hk1,show k-1+1=k by omega,List.drop_eq_getElem_cons hkt,JjS] at f2
      (repeat' (first
 | (with_reducible first|refine callX.by (Vu _ _ _ _ _ _ _ ?_ ?_ ?_) ?_|refine callX.by VB ?_|refine callX.by (J0 _ _ _ _ _ _ _) ?_|refine callX.by (Vt _ _ _ _) ?_|refine callX.by (Z1 _ _ ?_) ?_|assumption|(refine Qw hK _ ?_;clear hK K)|refine Qw ‹_› _ ?_|refine Qx ‹_› ?_|refine Qi fun K hK=>?_|refine Qj T fun K hK=>?_|refine Qk (id:=13) T mixed ZO (by kernel_rfl) fun K hK=>?_|refine Ql fun A B hA hB=>?_|refine Qm ?_|refine Qn ?_|refine Qp ?_|refine Qr ?_)
 | ((with_reducible first|apply Qy|apply Qz|apply QA)<;>intro hb<;>try simp only[nr] at hb)
 |simp only[go_sem,↓reduceIte,reduceIte,Qa,Qh,Qb,Qc,Qd,Qe,Qf,Qg,reduceCtorEq, *,-hs,-e1,-f2]
 |with_reducible refine fun(bn:Bool) hbn=>?_))
      all_goals ((repeat clear hK);(repeat clear hA);(repeat clear hB))
      ·have hb':¬JI (Jj xs[k-1]) (Jj xs[k])<0:=by simp only[Jj];omega
       rw[e1,f2]
       simp[hb']
      ·have hb':JI (Jj xs[k-1]) (Jj xs[k])<0:=by simp only[Jj];omega
       rw[decide_eq_true hb',Bool.true_and,←List.drop_eq_getElem_cons hkt] at f2
       (refine hM.on (xs.length-(k+1)) (by omega) (by simp only[go_sem,↓reduceIte,reduceIte,Qa,Qh,Qb,Qc,Qd,Qe,Qf,Qg,reduceCtorEq, *,Jf hkt hl,-hs,-e1,-f2]) ⟨k+1,rfl,by omega,f2,?_⟩;simp only[go_sem,↓reduceIte,reduceIte,Qa,Qh,Qb,Qc,Qd,Qe,Qf,Qg,reduceCtorEq, *,Jf hkt hl,-hs,-e1,-f2];done)
    ·have hup:Y1 xs=true:=by
      rw[f2]
      by_cases h0:xs.length=0
      ·rw[List.length_eq_zero_iff.1 h0];simp[Y1]
      ·rw[List.drop_eq_getElem_cons (show k-1<xs.length by omega),List.drop_eq_nil_of_le (by omega)]
       rfl
     rw[hup,if_neg (by simp)] at e1
     clear f2 hup
     have hyl:(YN xs 0).length≤64:=Nat.le_trans (List.length_filter_le _ _) hl64
     have hys:Jc (YN xs 0).length:=by unfold Jc;omega
     (repeat' (first
 | (with_reducible first|refine callX.by (Vu _ _ _ _ _ _ _ ?_ ?_ ?_) ?_|refine callX.by VB ?_|refine callX.by (J0 _ _ _ _ _ _ _) ?_|refine callX.by (Vt _ _ _ _) ?_|refine callX.by (Z1 _ _ ?_) ?_|assumption|(refine Qw hK _ ?_;clear hK K)|refine Qw ‹_› _ ?_|refine Qx ‹_› ?_|refine Qi fun K hK=>?_|refine Qj T fun K hK=>?_|refine Qk (id:=13) T mixed ZO (by kernel_rfl) fun K hK=>?_|refine Ql fun A B hA hB=>?_|refine Qm ?_|refine Qn ?_|refine Qp ?_|refine Qr ?_)
 | ((with_reducible first|apply Qy|apply Qz|apply QA)<;>intro hb<;>try simp only[nr] at hb)
 |simp only[go_sem,↓reduceIte,reduceIte,Qa,Qh,Qb,Qc,Qd,Qe,Qf,Qg,reduceCtorEq, *,-hs,-e1]
 |with_reducible refine fun(bn:Bool) hbn=>?_))
     refine Qs [50,51] (fun m ts'=>∃(j:Nat),∃(M:List (Int×Bool)),∃(g:Nat),m=(YN xs 0).length-j∧j≤(YN xs 0).length∧JaX (YN xs 0) []=JaX ((YN xs 0).drop j) M∧ts'.tmp 7=.mref 48 g∧ts'.gen 48=g∧ts'.obj 48=.mp (Jq M) (Jw M)∧ts'.tmp 52=.int .i64 j) (YN xs 0).length ?_ ?_
     ·refine⟨0,[],ts'.gen 48+1,rfl,Nat.zero_le _,rfl,?_⟩
      simp only[go_sem,↓reduceIte,reduceIte,Qa,Qh,Qb,Qc,Qd,Qe,Qf,Qg,reduceCtorEq, *,-hs,-e1]
     ·clear hM
      rintro m A hM ts' hk ⟨j,M,g,hm,f1,f2,s1,s2,s3,s4⟩
      simp only[go_sem,↓reduceIte,reduceIte,Qa,Qh,Qb,Qc,Qd,Qe,Qf,Qg,reduceCtorEq, *] at hk
      by_cases hjt:j<(YN xs 0).length
      ·rw[List.drop_eq_getElem_cons hjt,JaX] at f2
       (repeat' (first
 | (with_reducible first|refine callX.by (Vu _ _ _ _ _ _ _ ?_ ?_ ?_) ?_|refine callX.by VB ?_|refine callX.by (J0 _ _ _ _ _ _ _) ?_|refine callX.by (Vt _ _ _ _) ?_|refine callX.by (Z1 _ _ ?_) ?_|assumption|(refine Qw hK _ ?_;clear hK K)|refine Qw ‹_› _ ?_|refine Qx ‹_› ?_|refine Qi fun K hK=>?_|refine Qj T fun K hK=>?_|refine Qk (id:=13) T mixed ZO (by kernel_rfl) fun K hK=>?_|refine Ql fun A B hA hB=>?_|refine Qm ?_|refine Qn ?_|refine Qp ?_|refine Qr ?_)
 | ((with_reducible first|apply Qy|apply Qz|apply QA)<;>intro hb<;>try simp only[nr] at hb)
 |simp only[go_sem,↓reduceIte,reduceIte,Qa,Qh,Qb,Qc,Qd,Qe,Qf,Qg,reduceCtorEq, *,-hs,-e1,-f2]
 |with_reducible refine fun(bn:Bool) hbn=>?_))
       all_goals ((repeat clear hK);(repeat clear hA);(repeat clear hB))
       ·rw[if_pos (by simpa using hb)] at f2
        rw[e1,f2];rfl
       ·rw[if_neg (by simpa using hb)] at f2
        (refine hM.on ((YN xs 0).length-(j+1)) (by omega) (by simp only[go_sem,↓reduceIte,reduceIte,Qa,Qh,Qb,Qc,Qd,Qe,Qf,Qg,reduceCtorEq, *,Jf hjt hys,-hs,-e1,-f2]) ⟨j+1,JS M (YN xs 0)[j].port true,g,rfl,by omega,f2,?_⟩;simp only[go_sem,↓reduceIte,reduceIte,Qa,Qh,Qb,Qc,Qd,Qe,Qf,Qg,reduceCtorEq, *,Jf hjt hys,-hs,-e1,-f2];done)
      ·rw[List.drop_eq_nil_of_le (by omega),JaX] at f2
       have e2:J2 xs=0:=by rw[e1,f2];rfl
       (repeat' (first
 | (with_reducible first|refine callX.by (Vu _ _ _ _ _ _ _ ?_ ?_ ?_) ?_|refine callX.by VB ?_|refine callX.by (J0 _ _ _ _ _ _ _) ?_|refine callX.by (Vt _ _ _ _) ?_|refine callX.by (Z1 _ _ ?_) ?_|assumption|(refine Qw hK _ ?_;clear hK K)|refine Qw ‹_› _ ?_|refine Qx ‹_› ?_|refine Qi fun K hK=>?_|refine Qj T fun K hK=>?_|refine Qk (id:=13) T mixed ZO (by kernel_rfl) fun K hK=>?_|refine Ql fun A B hA hB=>?_|refine Qm ?_|refine Qn ?_|refine Qp ?_|refine Qr ?_)
 | ((with_reducible first|apply Qy|apply Qz|apply QA)<;>intro hb<;>try simp only[nr] at hb)
 |simp only[go_sem,↓reduceIte,reduceIte,Qa,Qh,Qb,Qc,Qd,Qe,Qf,Qg,reduceCtorEq, *,-hs,-e1,-f2]
 |with_reducible refine fun(bn:Bool) hbn=>?_))
def awq:Res:=⟨0,[108],0,80,[97],[],[]⟩
theorem JgD:Vi awq=0:=by decide
theorem JkB:JH awq=[⟨1,[97]⟩]:=by
 unfold JH
 rw[if_pos JgD]
 have e:YG awq++Vc awq.rules'=[⟨1,[97]⟩]:=by decide
 rw[e]
 have e2:JJ [⟨1,[97]⟩]=[(⟨1,[97]⟩:Key)]:=by simp[JJ]
 rw[e2];rfl
theorem JaC:CallR Tryz.prog 65 [.agg [.int .i64 0,.str [108],.int .i64 0,.int .i64 80,.str [97],.slice false [],.slice false []]] (.own 2 [.agg [.int .i64 1,.str [97]]]):=by
 have h:=Jan 0 [108] 0 80 [97] [] [] (by simp[Jc]) (by simp[Jc]) (by simp)
 have e:=JkB;unfold awq at e
 rw[e] at h;exact h
theorem VB:CallR Tryz.prog 93 [.agg [.int .i64 0,.str [108],.int .i64 0,.int .i64 80,.str [97],.slice false [],.slice false []]] (.val (.int .i64 0)):=by
 have h:=Vu 0 [108] 0 80 [97] [] [] (by simp[Jc]) (by simp[Jc]) (by simp)
 have e:=JgD;unfold awq at e
 rw[e] at h;exact h
theorem JgE:CallR Tryz.prog 50 [.agg [.int .i64 0,.str [108],.int .i64 0,.int .i64 80,.str [97],.slice false [],.slice false []],.agg [.int .i64 0,.str [108],.int .i64 0,.int .i64 80,.str [97],.slice false [],.slice false []]] (.val (.bool true)):=by
 have h:=JcX 0 [108] 0 80 [97] [] [] 0 [108] 0 80 [97] [] [] (by simp[Jc]) (by simp[Jc]) (by simp)
 rw[decide_eq_true rfl] at h
 exact h
theorem Jjq(r:Res):Vi r=0↔YP r.kind 3=true∧VG r.name=true∧YM r=true∧Ja3 r=true∧JaP r=true∧Ja4 r=true:=by
 unfold Vi
 cases YP r.kind 3<;>cases VG r.name<;>cases YM r<;>cases Ja3 r<;>cases JaP r<;>cases Ja4 r<;>simp
theorem JmA{s:List UInt8}(h:VG s=true):s≠[]:=by
 rintro rfl;revert h;decide
theorem Jl1{r:Res}(h:Vi r=0):r.to'≠[]↔r.kind=0∨r.kind=2:=by
 rw[Jjq] at h
 obtain⟨h1,h2,h3,h4,h5,h6⟩:=h
 simp only[Ja3,JaP,Bool.and_eq_true,Bool.or_eq_true,decide_eq_true_eq] at h4 h5
 constructor
 ·intro h;rcases h4.2.1 with h'|h'
  ·exact absurd h' h
  ·exact h'
 ·intro h
  have h7:=h5.1
  have h8:(decide (r.kind=0) || decide (r.kind=2))=true:=by simpa using h
  rw[h8] at h7
  exact JmA (by simpa using h7)
theorem JiH{next:Int}(hn:next≤2147483647):∀(l:List Snap) (a:Int),0≤a→a≤next→Jai next l a=Jak next l a
 | [],_,_,_=>rfl
 |s :: r,a,h0,h1=>by
  have hw:IntKind.i64.wrap (a+1)=a+1:=IntWalk.i64_in _ (by omega)
  rw[Jai,Jak,hw]
  by_cases h2:a+1≤s.id∧s.id≤next
  ·rw[JiH hn r s.id (by omega) h2.2]
   congr 1
   rw[Bool.eq_iff_iff]
   by_cases hr:r=[]
   ·simp only[Y2,hr,if_true,ne_eq,not_true,decide_false,Bool.and_false,Bool.or_false,Bool.and_eq_true,Bool.not_eq_true',Bool.or_eq_false_iff,decide_eq_true_eq,decide_eq_false_iff_not]
    omega
   ·simp only[Y2,hr,if_false,ne_eq,not_false_eq_true,decide_true,Bool.and_true,Bool.and_eq_true,Bool.not_eq_true',Bool.or_eq_false_iff,decide_eq_true_eq,decide_eq_false_iff_not]
    omega
  ·have e1:Y2 s.id (a+1) next=false:=by
    simp only[Y2,Bool.and_eq_false_iff,decide_eq_false_iff_not];omega
   have e2:(decide (s.id≤a) || decide (next<s.id))=true:=by
    simp only[Bool.or_eq_true,decide_eq_true_eq];omega
   rw[e1,e2];simp
theorem JiI(p:Pins):ZD p=JcQ p:=by
 unfold ZD JcQ
 by_cases h:0≤p.next'∧p.next'≤2147483647
 ·rw[JiH h.2 _ 0 (by omega) h.1]
  generalize Jak p.next' p.snaps 0=b
  rw[Bool.eq_iff_iff]
  simp only[Y2,Bool.and_eq_true,Bool.not_eq_true',Bool.or_eq_false_iff,decide_eq_true_eq,decide_eq_false_iff_not]
  constructor
  ·rintro⟨h1,_,h2⟩;exact⟨⟨⟨by omega,by omega⟩,by omega⟩,h1⟩
  ·rintro⟨⟨⟨_,_⟩,h2⟩,h1⟩;exact⟨h1,h,by omega⟩
 ·have e1:Y2 p.next' 0 2147483647=false:=by
   simp only[Y2,Bool.and_eq_false_iff,decide_eq_false_iff_not];omega
  have e2:(decide (p.next' < 0) || decide (2147483647<p.next'))=true:=by
   simp only[Bool.or_eq_true,decide_eq_true_eq];omega
  rw[e1,e2];simp
theorem JiP(p:Pins):Jy p=ZI p:=by unfold Jy ZI;rw[JiI]
theorem JiV{next:Int}:∀(l:List Snap) (a:Int),Jak next l a=true↔l.Pairwise (fun x y=>x.id<y.id)∧(∀x∈l,a<x.id∧x.id≤next∧0≤x.pins∧x.pins≤10000)∧∀x∈l.dropLast,0<x.pins
 | [],a=>by simp[Jak]
 |s :: r,a=>by
  rw[Jak,Bool.and_eq_true,JiV r s.id,List.pairwise_cons]
  cases r with
  |nil=>simp;omega
  |cons y r =>
   simp only[List.dropLast_cons_cons]
   grind
structure OkP(p:Pins):Prop where
 lo:0≤p.next'
 hi:p.next'≤2147483647
 len:p.snaps.length≤1000
 up:p.snaps.Pairwise (fun x y=>x.id<y.id)
 mem:∀x∈p.snaps,0<x.id∧x.id≤p.next'∧0≤x.pins∧x.pins≤10000
 pos:∀x∈p.snaps.dropLast,0<x.pins
theorem JfB(p:Pins):JcQ p=true↔OkP p:=by
 unfold JcQ
 rw[Bool.and_eq_true,JiV]
 simp only[Bool.not_eq_true',Bool.or_eq_false_iff,decide_eq_false_iff_not]
 constructor
 ·rintro⟨⟨⟨h1,h2⟩,h3⟩,h4,h5,h6⟩
  exact⟨by omega,by omega,by omega,h4,h5,h6⟩
 ·rintro⟨h1,h2,h3,h4,h5,h6⟩
  exact⟨⟨⟨by omega,by omega⟩,by omega⟩,h4,h5,h6⟩
theorem JmL(p:Pins):ZD p=true↔OkP p:=by rw[JiI,JfB]
theorem JmB:OkP ⟨0,[]⟩:=⟨by simp,by simp,by simp,.nil,by simp,by simp⟩
theorem Jio(p:Pins):OkP (ZI p):=by
 unfold ZI
 split
 ·exact(JfB p).1 ‹_›
 ·exact JmB
theorem Jnt{p:Pins}(h:OkP p):ZI p=p:=by unfold ZI;rw[if_pos ((JfB p).2 h)]
theorem JmT{p:Pins}(h:OkP p):Jy p=p:=by rw[JiP,Jnt h]
theorem JmR(p:Pins)(l:List Res):Vp p l=Jel p l:=by
 have h:=Jio p
 unfold Vp Jel
 rw[JiP]
 have e:(ZI p).snaps.filter (fun x=>!decide (x.pins=0))=(ZI p).snaps.filter (fun x=>decide (0<x.pins)):=by
  apply List.filter_congr
  intro x hx
  have:=h.mem x hx
  rw[Bool.eq_iff_iff]
  simp only[Bool.not_eq_true',decide_eq_false_iff_not,decide_eq_true_eq]
  omega
 simp only[e]
def Up(l:List Key):Prop:=l.Pairwise fun x y=>JI x y<0
def Le(l:List Key):Prop:=l.Pairwise fun x y=>¬JI y x<0
theorem Jh3(K:List Key):Le (JJ K):=by
 have:=List.pairwise_mergeSort (le:=fun x y:Key=>!decide (JI y x<0)) (fun a b c h k=>by
  simp only[Bool.not_eq_true',decide_eq_false_iff_not] at h k ⊢
  intro h3
  by_cases h4:JI b c=0
  ·have:=JdU _ _ h4;subst this;exact h h3
  ·have:JI b c<0:=by have:=Jbz b c;omega
   exact h (Jcu _ _ _ this h3)) (fun a b=>by
  simp only[Bool.or_eq_true,Bool.not_eq_true',decide_eq_false_iff_not]
  have:=Jbz a b;omega) K
 unfold Le JJ
 exact this.imp fun h=>by simpa using h
theorem Jh4(K:List Key)(x:Key):x∈JJ K↔x∈K:=by unfold JJ;exact List.mem_mergeSort
theorem JhX:∀ {a:Key} {r:List Key},Le (a :: r)→Up (a :: Vb (a :: r))∧∀x,x∈a :: Vb (a :: r)↔x∈a :: r
 |a,[],_=>by simp[Vb,Up]
 |a,b :: r,h=>by
  obtain⟨h1,h2⟩:=List.pairwise_cons.1 h
  obtain⟨u,m⟩:=JhX h2
  rw[Vb]
  by_cases e:b=a
  ·subst e
   rw[if_pos rfl]
   exact⟨u,fun x=>by rw[m];simp⟩
  ·rw[if_neg e]
   refine⟨List.pairwise_cons.2 ⟨fun z hz=>?_,u⟩,fun x=>?_⟩
   ·have hab:JI a b<0:=by
     have h3:=h1 b (by simp)
     have h4:=Jbz a b
     by_cases h5:JI a b=0
     ·exact absurd (JdU _ _ h5).symm e
     ·omega
    rcases List.mem_cons.1 hz with rfl|hz
    ·exact hab
    ·exact Jcu _ _ _ hab ((List.pairwise_cons.1 u).1 z hz)
   ·rw[List.mem_cons,m,←List.mem_cons]
theorem JhZ{l:List Key}(h:Le l):Up (VY l)∧∀x,x∈VY l↔x∈l:=by
 unfold VY
 cases l with
 |nil=>simp[Vb,Up]
 |cons a r=>simpa using JhX h
theorem JmO(p:Pins):Up (J6 p)∧∀x,x∈J6 p↔x∈Va (Jy p).snaps:=by
 obtain⟨h1,h2⟩:=JhZ (Jh3 (Va (Jy p).snaps))
 exact⟨h1,fun x=>by rw[J6,h2,Jh4]⟩
theorem JiZ{r:Res}(h:¬Vi r=0):JH r=[]:=by unfold JH;rw[if_neg h]
theorem Jni{r:Res}(h:Vi r=0):Up (JH r)∧∀x,x∈JH r↔x∈YG r++Vc r.rules':=by
 obtain⟨h1,h2⟩:=JhZ (Jh3 (YG r++Vc r.rules'))
 unfold JH
 rw[if_pos h]
 exact⟨h1,fun x=>by rw[h2,Jh4]⟩
theorem Jl9{w:List Weight}{x:Key}:x∈YX w↔∃y∈w,0<y.w∧x=⟨2,y.cluster⟩:=by
 unfold YX
 simp only[List.mem_map,List.mem_filter,decide_eq_true_eq]
 constructor
 ·rintro⟨y,⟨h1,h2⟩,rfl⟩;exact⟨y,h1,h2,rfl⟩
 ·rintro⟨y,h1,h2,rfl⟩;exact⟨y,⟨h1,h2⟩,rfl⟩
theorem mem_keysR{l:List Rule}{x:Key}:x∈Vc l↔∃z∈l,∃y∈z.split,0<y.w∧x=⟨2,y.cluster⟩:=by
 unfold Vc
 simp only[List.mem_flatMap,Jl9]
theorem JnJ{r:Res}(h:Vi r=0):(r.to'≠[]→r.kind=0∨r.kind=2)∧(r.rules'≠[]→r.kind=1)∧(r.hosts≠[]→r.kind=3)∧(r.to'≠[]→VG r.to'=true) ∧
  (∀x∈r.rules',JbV x=true):=by
 have hto:=Jl1 h
 rw[Jjq] at h
 obtain⟨h1,h2,h3,h4,h5,h6⟩:=h
 simp only[Ja3,JaP,Bool.and_eq_true,Bool.or_eq_true,decide_eq_true_eq] at h4 h5
 refine⟨hto.1,fun h=>?_,fun h=>?_,fun h=>?_,fun x hx=>?_⟩
 ·rcases h4.2.2.1 with h'|h'
  ·exact absurd (List.length_eq_zero_iff.1 h') h
  ·exact h'
 ·rcases h4.2.2.2 with h'|h'
  ·exact absurd (List.length_eq_zero_iff.1 h') h
  ·exact h'
 ·have h8:(decide (r.kind=0) || decide (r.kind=2))=true:=by simpa using hto.1 h
  have h7:=h5.1
  rw[h8] at h7
  simpa using h7
 ·have h7:=h5.2
  simp only[Bool.not_eq_true',List.any_eq_false,Bool.not_eq_true,Bool.not_eq_false'] at h7
  simpa using h7 x hx
theorem Jnh{r:Res}(h:r.kind=3):JH r=[]:=by
 by_cases hs:Vi r=0
 ·obtain⟨h1,h2,h3,h4,h5⟩:=JnJ hs
  apply List.eq_nil_iff_forall_not_mem.2
  intro x hx
  rw[(Jni hs).2,List.mem_append] at hx
  rcases hx with hx|hx
  ·unfold YG at hx
   split at hx
   ·simp at hx
   ·rename_i hne
    have:=h1 hne;omega
  ·obtain⟨z,hz,_⟩:=mem_keysR.1 hx
   have:=h2 (List.ne_nil_of_mem hz);omega
 ·exact JiZ hs
theorem JfI(r:Res):(JH r).length≤33:=by
 by_cases hs:Vi r=0
 ·obtain⟨b1,b2,b3⟩:=JjE (Jju hs)
  have hc:∀l:List Key,(Vb l).length≤l.length-1:=by
   intro l
   induction l with
   |nil=>simp[Vb]
   |cons a r ih =>
    cases r with
    |nil=>simp[Vb]
    |cons b r=>rw[Vb];split<;>simp only[List.length_cons] at ih ⊢<;>omega
  have hk:∀l:List Key,(VY l).length≤l.length:=by
   intro l;unfold VY;rw[List.length_append];have:=hc l
   cases l with
   |nil=>simpa using this
   |cons a r=>simp only[List.length_cons,List.take_succ_cons,List.take_zero,List.length_nil] at this ⊢;omega
  have hkR:∀l:List Rule,(∀x∈l,x.split.length≤4)→(Vc l).length≤4*l.length:=by
   intro l
   induction l with
   |nil=>simp[Vc]
   |cons a r ih =>
    intro h
    rw[Jh2,List.length_append]
    have:=ih fun x hx=>h x (List.mem_cons_of_mem _ hx)
    have h2:=h a (by simp)
    have h3:=Jl0 a.split
    simp only[List.length_cons];omega
  have hb:(YG r).length≤1:=by unfold YG;split<;>simp
  have:=hk (JJ (YG r++Vc r.rules'))
  rw[Jaf,List.length_append] at this
  have:=hkR _ b3
  unfold JH
  rw[if_pos hs]
  omega
 ·rw[JiZ hs];simp
theorem Ja6{n:Nat}(h:n≤65536):Jc n:=by unfold Jc;omega
end Go.Proofs.YtihahfhagobnoaaGreatDoor.Lg
