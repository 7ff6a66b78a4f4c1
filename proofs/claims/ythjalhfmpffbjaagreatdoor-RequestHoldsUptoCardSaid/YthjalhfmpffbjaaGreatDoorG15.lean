/- Parts of the proof, one behind the other. -/
import Derived.Test.YthjalhfmpffbjaaGreatDoorG14
set_option linter.unusedVariables false
set_option linter.unusedSimpArgs false
set_option maxRecDepth 100000
set_option maxHeartbeats 64000000
namespace Go.Proofs.YthjalhfmpffbjaaGreatDoor.Lg
open Go
open Tryz
open Nat renaming reduceEqDiff → Qa, reduceLT → Qb, reduceLeDiff → Qc, reduceAdd → Qd, reduceMul → Qe, reduceSub → Qf, reduceBEq → Qg
open String renaming reduceEq → Qh
open SpecC renaming seqW → Qi, regW → Qj, drawW → Qk, condW → Ql, block → Qm, skip → Qn, exit → Qp, ret → Qr, loopF → Qs
open NxK renaming out → Qw
open Nx renaming out → Qx
open condK renaming split → Qy
open gK renaming split_t → Qz, split_f → QA
open List renaming getElem_mem → QC
def ZI(l:List Weight):List Key:=(l.filter fun w=>decide (0<w.w)).map fun w=>⟨2,w.cluster⟩
def Vw(l:List Rule):List Key:=l.flatMap fun x=>ZI x.split
def ZE(r:Res):List Key:=if r.to'=[] then [] else [⟨IntKind.i64.wrap (r.kind+1),r.to'⟩]
def JP(r:Res):List Key:=if V1 r=0 then V8 (JM (ZE r++Vw r.rules')) else []
theorem JiR(x:Rule)(l:List Rule):Vw (x :: l)=ZI x.split++Vw l:=rfl
theorem JoD(w:Weight)(l:List Weight):ZI (w :: l)=(if 0<w.w then [⟨2,w.cluster⟩] else [])++ZI l:=by
 unfold ZI
 by_cases h:0<w.w<;>simp[h]
theorem Jkc{r:Res}(h:V1 r=0):Zz r=true:=by
 unfold V1 at h
 cases hs:Zz r with
 |true=>rfl
 |false =>
  rw[hs] at h
  split at h
  ·cases h
  ·split at h
   ·cases h
   ·simp at h
theorem Jkm{r:Res}(h:Zz r=true):r.rules'.length≤8∧r.hosts.length≤8∧∀x∈r.rules',x.split.length≤4:=by
 simp only[Zz,Bool.and_eq_true,decide_eq_true_eq,List.all_eq_true] at h
 refine⟨h.2.2.1,h.2.2.2.1,fun x hx=>?_⟩
 have:=h.2.2.2.2.2 x hx
 simp only[JbB,Bool.and_eq_true,decide_eq_true_eq] at this
 exact this.1
theorem JoE(l:List Weight):(ZI l).length≤l.length:=by
 unfold ZI
 rw[List.length_map]
 exact List.length_filter_le _ _
theorem JaN(Ln:Int)(Lp:List UInt8)(Lx Lq:Int)(LA:List UInt8)(r_rules:List Rule)(r_hosts:List Int)(hl:Jc r_rules.length)(hh:Jc r_hosts.length)(hs:∀x∈r_rules,VR x):CallR prog 179 [.agg [.int .i64 Ln,.str Lp,.int .i64 Lx,.int .i64 Lq,.str LA,.slice false (Ja r_rules),.slice false (Ja r_hosts)]] (.own 2 (Ja (JP (⟨Ln,Lp,Lx,Lq,LA,r_rules,r_hosts⟩:Res)))):=by
 by_cases hsn:V1 (⟨Ln,Lp,Lx,Lq,LA,r_rules,r_hosts⟩:Res)=0
 rotate_left
 ·have hr:JP (⟨Ln,Lp,Lx,Lq,LA,r_rules,r_hosts⟩:Res)=[]:=if_neg hsn
  rw[hr]
  refine Jl call179 func179 rfl ntmps179 results179 fun ts hn h0=>?_
  (repeat' (first
 | (with_reducible first|refine callX.by (Vz _ _ _ _ _ _ _ ?_ ?_ ?_) ?_|refine callX.by VI ?_)
 | (with_reducible refine callX.ar ?_ ?_ (ZS ?_ ?_);(focus(simp only[go_sem,↓reduceIte,Qa,Qh,Qb,Qc,Qd,Qe,Qf,Qg,reduceCtorEq, *,-hs];first|done|rfl)))
 |with_reducible refine callX.by (Vv _ _ _ _) ?_
 | (with_reducible refine callX.mv ?_ ?_ ?_ (ZF ?_ ?_);(focus(simp only[go_sem,↓reduceIte,Qa,Qh,Qb,Qc,Qd,Qe,Qf,Qg,reduceCtorEq, *,-hs];first|done|rfl));(focus(simp only[go_sem,↓reduceIte,Qa,Qh,Qb,Qc,Qd,Qe,Qf,Qg,reduceCtorEq, *,-hs];first|done|rfl)))
 | (with_reducible first|assumption|(refine Qw hK _ ?_;clear hK K)|refine Qw ‹_› _ ?_|refine Qx ‹_› ?_|refine Qi fun K hK=>?_|refine Qj T fun K hK=>?_|refine Ql fun A B hA hB=>?_|refine Qm ?_|refine Qn ?_|refine Qp ?_|refine Qr ?_)
 |(with_reducible first|apply Qy|apply Qz|apply QA)<;>intro hb<;>try simp only[nr] at hb
 |simp only[go_sem,↓reduceIte,Qa,Qh,Qb,Qc,Qd,Qe,Qf,Qg,reduceCtorEq, *,-hs]
 |intro(bn:Bool) hbn))
  all_goals rfl
 obtain⟨hb1,hb2,hb3⟩:=Jkm (Jkc hsn)
 simp only at hb1 hb2 hb3
 have hr:JP (⟨Ln,Lp,Lx,Lq,LA,r_rules,r_hosts⟩:Res)=V8 (JM (ZE (⟨Ln,Lp,Lx,Lq,LA,r_rules,r_hosts⟩:Res)++Vw r_rules)):=if_pos hsn
 rw[hr]
 obtain⟨bs,hbs⟩:∃bs,ZE (⟨Ln,Lp,Lx,Lq,LA,r_rules,r_hosts⟩:Res)=bs:=⟨_,rfl⟩
 rw[hbs]
 have hbl:bs.length≤1:=by
  rw[←hbs];unfold ZE;split<;>simp
 clear hr
 have hr0:Vt 1 24:=Jbw (by decide) (by decide)
 have hsk:∀x∈r_rules,Jc x.split.length:=fun x hx=>(hs x hx).2.2.1
 refine Jl call179 func179 rfl ntmps179 results179 fun ts hn h0=>?_
 (repeat' (first
 | (with_reducible first|refine SpecC.cutAtS 6 [1] (fun ts'=>∃(g:Nat),ts'.tmp 3=.os 3 g bs.length∧ts'.gen 3=g∧ts'.obj 3=.arr 2 (Ja bs)) ?_ ?_|refine callX.by (Vz _ _ _ _ _ _ _ ?_ ?_ ?_) ?_|refine callX.by VI ?_)
 | (with_reducible refine callX.ar ?_ ?_ (ZS ?_ ?_);(focus(simp only[go_sem,↓reduceIte,Qa,Qh,Qb,Qc,Qd,Qe,Qf,Qg,reduceCtorEq, *,-hs,-hsk,-hb3];first|done|rfl)))
 |with_reducible refine callX.by (Vv _ _ _ _) ?_
 | (with_reducible refine callX.mv ?_ ?_ ?_ (ZF ?_ ?_);(focus(simp only[go_sem,↓reduceIte,Qa,Qh,Qb,Qc,Qd,Qe,Qf,Qg,reduceCtorEq, *,-hs,-hsk,-hb3];first|done|rfl));(focus(simp only[go_sem,↓reduceIte,Qa,Qh,Qb,Qc,Qd,Qe,Qf,Qg,reduceCtorEq, *,-hs,-hsk,-hb3];first|done|rfl)))
 | (with_reducible first|assumption|(refine Qw hK _ ?_;clear hK K)|refine Qw ‹_› _ ?_|refine Qx ‹_› ?_|refine Qi fun K hK=>?_|refine Qj T fun K hK=>?_|refine Ql fun A B hA hB=>?_|refine Qm ?_|refine Qn ?_|refine Qp ?_|refine Qr ?_)
 |(with_reducible first|apply Qy|apply Qz|apply QA)<;>intro hb<;>try simp only[nr] at hb
 |simp only[go_sem,↓reduceIte,Qa,Qh,Qb,Qc,Qd,Qe,Qf,Qg,reduceCtorEq, *,-hs,-hsk,-hb3]
 |intro(bn:Bool) hbn))
 ·have e:bs=[⟨IntKind.i64.wrap (Ln+1),LA⟩]:=by rw[←hbs];unfold ZE;rw[if_neg (of_decide_eq_false hb)]
  subst e
  have ea:Ja [(⟨IntKind.i64.wrap (Ln+1),LA⟩:Key)]=[AV.agg [AV.int IntKind.i64 (IntKind.i64.wrap (Ln+1)),AV.str LA]]:=rfl
  (repeat clear hK);(repeat clear hA);(repeat clear hB)
  (refine⟨_,(Ent.ren 3 22 (by simp only[go_sem,↓reduceIte,Qa,Qh,Qb,Qc,Qd,Qe,Qf,Qg,reduceCtorEq, *,-hs,-hsk,-hb3];done) (by simp only[go_sem,↓reduceIte,Qa,Qh,Qb,Qc,Qd,Qe,Qf,Qg,reduceCtorEq, *,-hs,-hsk,-hb3];done)),by simp only[go_sem,↓reduceIte,Qa,Qh,Qb,Qc,Qd,Qe,Qf,Qg,reduceCtorEq, *,-hs,-hsk,-hb3];done,⟨ts.gen 3+1,?_⟩⟩;simp only[go_sem,↓reduceIte,Qa,Qh,Qb,Qc,Qd,Qe,Qf,Qg,reduceCtorEq, *,-hs,-hsk,-hb3];done)
 ·have e:bs=[]:=by rw[←hbs];unfold ZE;rw[if_pos (of_decide_eq_true hb)]
  subst e
  (repeat clear hK);(repeat clear hA);(repeat clear hB)
  (refine⟨_,(Ent.virt 3 2 (by simp only[go_sem,↓reduceIte,Qa,Qh,Qb,Qc,Qd,Qe,Qf,Qg,reduceCtorEq, *,-hs,-hsk,-hb3,Vp];done) (by decide)),by simp only[go_sem,↓reduceIte,Qa,Qh,Qb,Qc,Qd,Qe,Qf,Qg,reduceCtorEq, *,-hs,-hsk,-hb3,Vp];done,⟨ts.gen 3+1,?_⟩⟩;simp only[go_sem,↓reduceIte,Qa,Qh,Qb,Qc,Qd,Qe,Qf,Qg,reduceCtorEq, *,-hs,-hsk,-hb3,Vp];done)
 ·intro ts2 hk3
  rintro⟨g2,v1,v2,v3⟩
  simp only[go_sem,↓reduceIte,Qa,Qh,Qb,Qc,Qd,Qe,Qf,Qg,reduceCtorEq, *] at hk3
  (repeat' (first
 | (with_reducible first|refine callX.by (Vz _ _ _ _ _ _ _ ?_ ?_ ?_) ?_|refine callX.by VI ?_)
 | (with_reducible refine callX.ar ?_ ?_ (ZS ?_ ?_);(focus(simp only[go_sem,↓reduceIte,Qa,Qh,Qb,Qc,Qd,Qe,Qf,Qg,reduceCtorEq, *,-hs,-hsk,-hb3];first|done|rfl)))
 |with_reducible refine callX.by (Vv _ _ _ _) ?_
 | (with_reducible refine callX.mv ?_ ?_ ?_ (ZF ?_ ?_);(focus(simp only[go_sem,↓reduceIte,Qa,Qh,Qb,Qc,Qd,Qe,Qf,Qg,reduceCtorEq, *,-hs,-hsk,-hb3];first|done|rfl));(focus(simp only[go_sem,↓reduceIte,Qa,Qh,Qb,Qc,Qd,Qe,Qf,Qg,reduceCtorEq, *,-hs,-hsk,-hb3];first|done|rfl)))
 | (with_reducible first|assumption|(refine Qw hK _ ?_;clear hK K)|refine Qw ‹_› _ ?_|refine Qx ‹_› ?_|refine Qi fun K hK=>?_|refine Qj T fun K hK=>?_|refine Ql fun A B hA hB=>?_|refine Qm ?_|refine Qn ?_|refine Qp ?_|refine Qr ?_)
 |(with_reducible first|apply Qy|apply Qz|apply QA)<;>intro hb<;>try simp only[nr] at hb
 |simp only[go_sem,↓reduceIte,Qa,Qh,Qb,Qc,Qd,Qe,Qf,Qg,reduceCtorEq, *,-hs,-hsk,-hb3]
 |intro(bn:Bool) hbn))
  refine Qs [24,25] (fun m ts'=>∃(i:Nat),∃(g:Nat),∃(ys:List Key),m=r_rules.length-i∧i≤r_rules.length∧ys.length≤1+4*i∧bs++Vw r_rules=ys++Vw (r_rules.drop i)∧ts'.tmp 3=.os 3 g ys.length∧ts'.gen 3=g∧ts'.obj 3=.arr 2 (Ja ys)∧ts'.tmp 26=.int .i64 i) r_rules.length ?_ ?_
  ·refine⟨0,g2,bs,rfl,Nat.zero_le _,by omega,rfl,?_⟩
   simp only[go_sem,↓reduceIte,Qa,Qh,Qb,Qc,Qd,Qe,Qf,Qg,reduceCtorEq, *,-hs,-hsk,-hb3]
  ·rintro m A hM ts' hk ⟨i,g,ys,hm,f1,f2,f3,s1,s2,s3,s4⟩
   simp only[go_sem,↓reduceIte,Qa,Qh,Qb,Qc,Qd,Qe,Qf,Qg,reduceCtorEq, *] at hk
   by_cases hlt:i<r_rules.length
   ·rw[List.drop_eq_getElem_cons hlt,JiR] at f3
    have hx4:=hb3 _ (QC hlt)
    have hxs:=hsk _ (QC hlt)
    (repeat' (first
 | (with_reducible first|refine callX.by (Vz _ _ _ _ _ _ _ ?_ ?_ ?_) ?_|refine callX.by VI ?_)
 | (with_reducible refine callX.ar ?_ ?_ (ZS ?_ ?_);(focus(simp only[go_sem,↓reduceIte,Qa,Qh,Qb,Qc,Qd,Qe,Qf,Qg,reduceCtorEq, *,-hs,-hsk,-hb3,-f3];first|done|rfl)))
 |with_reducible refine callX.by (Vv _ _ _ _) ?_
 | (with_reducible refine callX.mv ?_ ?_ ?_ (ZF ?_ ?_);(focus(simp only[go_sem,↓reduceIte,Qa,Qh,Qb,Qc,Qd,Qe,Qf,Qg,reduceCtorEq, *,-hs,-hsk,-hb3,-f3];first|done|rfl));(focus(simp only[go_sem,↓reduceIte,Qa,Qh,Qb,Qc,Qd,Qe,Qf,Qg,reduceCtorEq, *,-hs,-hsk,-hb3,-f3];first|done|rfl)))
 | (with_reducible first|assumption|(refine Qw hK _ ?_;clear hK K)|refine Qw ‹_› _ ?_|refine Qx ‹_› ?_|refine Qi fun K hK=>?_|refine Qj T fun K hK=>?_|refine Ql fun A B hA hB=>?_|refine Qm ?_|refine Qn ?_|refine Qp ?_|refine Qr ?_)
 |(with_reducible first|apply Qy|apply Qz|apply QA)<;>intro hb<;>try simp only[nr] at hb
 |simp only[go_sem,↓reduceIte,Qa,Qh,Qb,Qc,Qd,Qe,Qf,Qg,reduceCtorEq, *,-hs,-hsk,-hb3,-f3]
 |intro(bn:Bool) hbn))
    refine Qs [24,25,26,31,32] (fun m ts'=>∃(j:Nat),∃(g':Nat),∃(zs:List Key),m=r_rules[i].split.length-j∧j≤r_rules[i].split.length∧zs.length≤1+4*i+j∧ys++ZI r_rules[i].split=zs++ZI (r_rules[i].split.drop j)∧ts'.tmp 3=.os 3 g' zs.length∧ts'.gen 3=g'∧ts'.obj 3=.arr 2 (Ja zs)∧ts'.tmp 33=.int .i64 j) r_rules[i].split.length ?_ ?_
    ·refine⟨0,g,ys,rfl,Nat.zero_le _,by omega,rfl,?_⟩
     simp only[go_sem,↓reduceIte,Qa,Qh,Qb,Qc,Qd,Qe,Qf,Qg,reduceCtorEq, *,-hs,-hsk,-hb3,-f3]
    ·revert hM f3
     intro hM0 f30
     rintro m A hM ts' hk ⟨j,g',zs,hm,f1,f2,f3,s1,s2,s3,s4⟩
     simp only[go_sem,↓reduceIte,Qa,Qh,Qb,Qc,Qd,Qe,Qf,Qg,reduceCtorEq, *] at hk
     by_cases hjt:j<r_rules[i].split.length
     ·rw[List.drop_eq_getElem_cons hjt,JoD] at f3
      have hr1:Vt (zs.length+1) 24:=Jbw (by omega) (by decide)
      (repeat' (first
 | (with_reducible first|refine callX.by (Vz _ _ _ _ _ _ _ ?_ ?_ ?_) ?_|refine callX.by VI ?_)
 | (with_reducible refine callX.ar ?_ ?_ (ZS ?_ ?_);(focus(simp only[go_sem,↓reduceIte,Qa,Qh,Qb,Qc,Qd,Qe,Qf,Qg,reduceCtorEq, *,-hs,-hsk,-hb3,-f3,-f30];first|done|rfl)))
 |with_reducible refine callX.by (Vv _ _ _ _) ?_
 | (with_reducible refine callX.mv ?_ ?_ ?_ (ZF ?_ ?_);(focus(simp only[go_sem,↓reduceIte,Qa,Qh,Qb,Qc,Qd,Qe,Qf,Qg,reduceCtorEq, *,-hs,-hsk,-hb3,-f3,-f30];first|done|rfl));(focus(simp only[go_sem,↓reduceIte,Qa,Qh,Qb,Qc,Qd,Qe,Qf,Qg,reduceCtorEq, *,-hs,-hsk,-hb3,-f3,-f30];first|done|rfl)))
 | (with_reducible first|assumption|(refine Qw hK _ ?_;clear hK K)|refine Qw ‹_› _ ?_|refine Qx ‹_› ?_|refine Qi fun K hK=>?_|refine Qj T fun K hK=>?_|refine Ql fun A B hA hB=>?_|refine Qm ?_|refine Qn ?_|refine Qp ?_|refine Qr ?_)
 |(with_reducible first|apply Qy|apply Qz|apply QA)<;>intro hb<;>try simp only[nr] at hb
 |simp only[go_sem,↓reduceIte,Qa,Qh,Qb,Qc,Qd,Qe,Qf,Qg,reduceCtorEq, *,-hs,-hsk,-hb3,-f3,-f30]
 |intro(bn:Bool) hbn))
      all_goals ((repeat clear hK);(repeat clear hA);(repeat clear hB))
      ·(refine hM.onE (r_rules[i].split.length-(j+1)) (Ent.ren 3 45 ?_ ?_) ?_ ?_ ?_;(focus(simp only[go_sem,↓reduceIte,Qa,Qh,Qb,Qc,Qd,Qe,Qf,Qg,reduceCtorEq, *,Jg hjt hxs,List.length_append,-f3,-f30,-hM0];first|done|rfl));(focus(simp only[go_sem,↓reduceIte,Qa,Qh,Qb,Qc,Qd,Qe,Qf,Qg,reduceCtorEq, *,Jg hjt hxs,List.length_append,-f3,-f30,-hM0];first|done|rfl));omega;(focus(simp only[go_sem,↓reduceIte,Qa,Qh,Qb,Qc,Qd,Qe,Qf,Qg,reduceCtorEq, *,Jg hjt hxs,List.length_append,-f3,-f30,-hM0];done));refine⟨j+1,g'+1,zs++[⟨2,r_rules[i].split[j].cluster⟩],rfl,by omega,by simp;omega,by rw[f3,if_pos hb,List.append_assoc],?_⟩;simp only[go_sem,↓reduceIte,Qa,Qh,Qb,Qc,Qd,Qe,Qf,Qg,reduceCtorEq, *,Jg hjt hxs,List.length_append,-f3,-f30,-hM0];done)
      ·rw[if_neg (by omega),List.nil_append] at f3
       (refine hM.on (r_rules[i].split.length-(j+1)) (by omega) (by simp only[go_sem,↓reduceIte,Qa,Qh,Qb,Qc,Qd,Qe,Qf,Qg,reduceCtorEq, *,Jg hjt hxs,-f3,-f30,-hM0]) ⟨j+1,g',zs,rfl,by omega,by omega,f3,?_⟩;simp only[go_sem,↓reduceIte,Qa,Qh,Qb,Qc,Qd,Qe,Qf,Qg,reduceCtorEq, *,Jg hjt hxs,-f3,-f30,-hM0];done)
     ·rw[List.drop_eq_nil_of_le (by omega)] at f3
      (repeat' (first
 | (with_reducible first|refine callX.by (Vz _ _ _ _ _ _ _ ?_ ?_ ?_) ?_|refine callX.by VI ?_)
 | (with_reducible refine callX.ar ?_ ?_ (ZS ?_ ?_);(focus(simp only[go_sem,↓reduceIte,Qa,Qh,Qb,Qc,Qd,Qe,Qf,Qg,reduceCtorEq, *,-hs,-hsk,-hb3,-f3,-f30];first|done|rfl)))
 |with_reducible refine callX.by (Vv _ _ _ _) ?_
 | (with_reducible refine callX.mv ?_ ?_ ?_ (ZF ?_ ?_);(focus(simp only[go_sem,↓reduceIte,Qa,Qh,Qb,Qc,Qd,Qe,Qf,Qg,reduceCtorEq, *,-hs,-hsk,-hb3,-f3,-f30];first|done|rfl));(focus(simp only[go_sem,↓reduceIte,Qa,Qh,Qb,Qc,Qd,Qe,Qf,Qg,reduceCtorEq, *,-hs,-hsk,-hb3,-f3,-f30];first|done|rfl)))
 | (with_reducible first|assumption|(refine Qw hK _ ?_;clear hK K)|refine Qw ‹_› _ ?_|refine Qx ‹_› ?_|refine Qi fun K hK=>?_|refine Qj T fun K hK=>?_|refine Ql fun A B hA hB=>?_|refine Qm ?_|refine Qn ?_|refine Qp ?_|refine Qr ?_)
 |(with_reducible first|apply Qy|apply Qz|apply QA)<;>intro hb<;>try simp only[nr] at hb
 |simp only[go_sem,↓reduceIte,Qa,Qh,Qb,Qc,Qd,Qe,Qf,Qg,reduceCtorEq, *,-hs,-hsk,-hb3,-f3,-f30]
 |intro(bn:Bool) hbn))
      all_goals ((repeat clear hK);(repeat clear hA);(repeat clear hB))
      all_goals (clear hM;revert hM0;intro hM)
      (refine hM.on (r_rules.length-(i+1)) (by omega) (by simp only[go_sem,↓reduceIte,Qa,Qh,Qb,Qc,Qd,Qe,Qf,Qg,reduceCtorEq, *,Jg hlt hl,-f3,-f30,-hs,-hsk,-hb3]) ⟨i+1,g',zs,rfl,by omega,by omega,by rw[f30,←List.append_assoc,f3];simp[ZI],?_⟩;simp only[go_sem,↓reduceIte,Qa,Qh,Qb,Qc,Qd,Qe,Qf,Qg,reduceCtorEq, *,Jg hlt hl,-f3,-f30,-hs,-hsk,-hb3];done)
   ·rw[List.drop_eq_nil_of_le (by omega)] at f3
    have e:ys=bs++Vw r_rules:=by rw[f3];simp[Vw]
    subst e
    clear f3
    have hk1:=JaB (bs++Vw r_rules)
    have htk:(JM (bs++Vw r_rules)).take (bs++Vw r_rules).length=JM (bs++Vw r_rules):=List.take_of_length_le (by omega)
    have htk2:(JM (bs++Vw r_rules)).take (bs.length+(Vw r_rules).length)=JM (bs++Vw r_rules):=List.take_of_length_le (by rw[hk1,List.length_append];exact Nat.le_refl _)
    have hsm1:Jc (bs++Vw r_rules).length:=by unfold Jc;omega
    have hsm2:Jc (JM (bs++Vw r_rules)).length:=by rw[hk1];exact hsm1
    (repeat' (first
 | (with_reducible first|refine callX.by (Vz _ _ _ _ _ _ _ ?_ ?_ ?_) ?_|refine callX.by VI ?_)
 | (with_reducible refine callX.ar ?_ ?_ (ZS ?_ ?_);(focus(simp only[go_sem,↓reduceIte,Qa,Qh,Qb,Qc,Qd,Qe,Qf,Qg,reduceCtorEq, *,Nat.le_refl,-hs,-hsk,-hb3];first|done|rfl)))
 |with_reducible refine callX.by (Vv _ _ _ _) ?_
 | (with_reducible refine callX.mv ?_ ?_ ?_ (ZF ?_ ?_);(focus(simp only[go_sem,↓reduceIte,Qa,Qh,Qb,Qc,Qd,Qe,Qf,Qg,reduceCtorEq, *,Nat.le_refl,-hs,-hsk,-hb3];first|done|rfl));(focus(simp only[go_sem,↓reduceIte,Qa,Qh,Qb,Qc,Qd,Qe,Qf,Qg,reduceCtorEq, *,Nat.le_refl,-hs,-hsk,-hb3];first|done|rfl)))
 | (with_reducible first|assumption|(refine Qw hK _ ?_;clear hK K)|refine Qw ‹_› _ ?_|refine Qx ‹_› ?_|refine Qi fun K hK=>?_|refine Qj T fun K hK=>?_|refine Ql fun A B hA hB=>?_|refine Qm ?_|refine Qn ?_|refine Qp ?_|refine Qr ?_)
 |(with_reducible first|apply Qy|apply Qz|apply QA)<;>intro hb<;>try simp only[nr] at hb
 |simp only[go_sem,↓reduceIte,Qa,Qh,Qb,Qc,Qd,Qe,Qf,Qg,reduceCtorEq, *,Nat.le_refl,-hs,-hsk,-hb3]
 |intro(bn:Bool) hbn))
    all_goals ((repeat clear hK);(repeat clear hA);(repeat clear hB))
    all_goals rfl
@[go_sem] def ZZ:List (List Nat×List Nat):=[([30],[33,34,35,36,37,38,39,40,41,42,43,44,45,46]),([31],[]),([32],[]),([33],[30,34,35,38,39,40,41,42,43,44,45,46]),([34],[30,33,37,38,39,40,41,42,43,44,45,46]),([35],[30,33,38,39,40,41,42,43,44,45,46]),([36],[30,39,40,41,42,43,44,45,46]),([37],[30,34,39,40,41,42,45,46]),([38],[30,33,34,35,39,40,41,42,46]),([39],[30,33,34,35,36,37,38,40,43,44,45,46]),([40],[30,33,34,35,36,37,38,39,43,44,45,46]),([41],[30,33,34,35,36,37,38,44,45,46]),([42],[30,33,34,35,36,37,38,45,46]),([43],[30,33,34,35,36,39,40,46]),([44],[30,33,34,35,36,39,40,41]),([45],[30,33,34,35,36,37,39,40,41,42]),([46],[30,33,34,35,36,37,38,39,40,41,42,43])]
def Y4:List Res→Int
 | []=>0
 |r :: l=>if V1 r=0 then Y4 l else V1 r
def Ze:List Res→Bool
 | []=>true
 |a :: l=>match l with
  | []=>true
  |b :: _=>decide (JL (Jo a) (Jo b)<0) && Ze l
def Jbq:List Res→List (Int×Bool)→Bool
 | [],_=>true
 |r :: l,M=>if(JE M r.port).getD false then false else Jbq l (JT M r.port true)
def Vb(l:List Res):Int:=if 64<l.length then 3 else if Y4 l≠0 then Y4 l else if Ze l=false then 2 else if Jbq (YY l 0) []=false then 13 else 0
theorem Jmq(a b:Res)(l:List Res):Ze (a :: b :: l)=(decide (JL (Jo a) (Jo b)<0) && Ze (b :: l)):=rfl
theorem Jcz(xs:List Res)(hl:Jc xs.length)(hs:∀r∈xs,Jy r):CallR prog 141 [.slice false (Ja xs)] (.val (.int .i64 (Vb xs))):=by
 by_cases h64:64<xs.length
 ·have e:Vb xs=3:=by simp[Vb,h64]
  rw[e]
  refine Jl call141 func141 rfl ntmps141 results141 fun ts hn h0=>?_
  (repeat' (first
 | (with_reducible first|refine callX.by (Vz _ _ _ _ _ _ _ ?_ ?_ ?_) ?_|refine callX.by VI ?_|refine callX.by (Vf _ _ _ _ _ _ _) ?_|refine callX.by (Vv _ _ _ _) ?_|refine callX.by (Jai _ _ ?_) ?_|assumption|(refine Qw hK _ ?_;clear hK K)|refine Qw ‹_› _ ?_|refine Qx ‹_› ?_|refine Qi fun K hK=>?_|refine Qj T fun K hK=>?_|refine Qk (id:=13) T mixed ZZ (by kernel_rfl) fun K hK=>?_|refine Ql fun A B hA hB=>?_|refine Qm ?_|refine Qn ?_|refine Qp ?_|refine Qr ?_)
 |(with_reducible first|apply Qy|apply Qz|apply QA)<;>intro hb<;>try simp only[nr] at hb
 |simp only[go_sem,↓reduceIte,Qa,Qh,Qb,Qc,Qd,Qe,Qf,Qg,reduceCtorEq, *,-hs,-e]
 |intro(bn:Bool) hbn))
 have hl64:xs.length≤64:=by omega
 refine Jl call141 func141 rfl ntmps141 results141 fun ts hn h0=>?_
 (repeat' (first
 | (with_reducible first|refine callX.by (Vz _ _ _ _ _ _ _ ?_ ?_ ?_) ?_|refine callX.by VI ?_|refine callX.by (Vf _ _ _ _ _ _ _) ?_|refine callX.by (Vv _ _ _ _) ?_|refine callX.by (Jai _ _ ?_) ?_|assumption|(refine Qw hK _ ?_;clear hK K)|refine Qw ‹_› _ ?_|refine Qx ‹_› ?_|refine Qi fun K hK=>?_|refine Qj T fun K hK=>?_|refine Qk (id:=13) T mixed ZZ (by kernel_rfl) fun K hK=>?_|refine Ql fun A B hA hB=>?_|refine Qm ?_|refine Qn ?_|refine Qp ?_|refine Qr ?_)
 |(with_reducible first|apply Qy|apply Qz|apply QA)<;>intro hb<;>try simp only[nr] at hb
 |simp only[go_sem,↓reduceIte,Qa,Qh,Qb,Qc,Qd,Qe,Qf,Qg,reduceCtorEq, *,-hs]
 |intro(bn:Bool) hbn))
 refine Qs [0,13,14] (fun m ts'=>∃(i:Nat),m=xs.length-i∧i≤xs.length∧Y4 xs=Y4 (xs.drop i)∧ts'.tmp 15=.int .i64 i) xs.length ?_ ?_
 ·refine⟨0,?_⟩
  simp only[go_sem,↓reduceIte,Qa,Qh,Qb,Qc,Qd,Qe,Qf,Qg,reduceCtorEq, *,-hs]
 ·rintro m A hM ts' hk ⟨i,hm,f1,f2,s1⟩
  simp only[go_sem,↓reduceIte,Qa,Qh,Qb,Qc,Qd,Qe,Qf,Qg,reduceCtorEq, *] at hk
  by_cases hlt:i<xs.length
  ·rw[List.drop_eq_getElem_cons hlt,Y4] at f2
   obtain⟨_,_,hsl,hsr,hsh⟩:=hs _ (QC hlt)
   (repeat' (first
 | (with_reducible first|refine callX.by (Vz _ _ _ _ _ _ _ ?_ ?_ ?_) ?_|refine callX.by VI ?_|refine callX.by (Vf _ _ _ _ _ _ _) ?_|refine callX.by (Vv _ _ _ _) ?_|refine callX.by (Jai _ _ ?_) ?_|assumption|(refine Qw hK _ ?_;clear hK K)|refine Qw ‹_› _ ?_|refine Qx ‹_› ?_|refine Qi fun K hK=>?_|refine Qj T fun K hK=>?_|refine Qk (id:=13) T mixed ZZ (by kernel_rfl) fun K hK=>?_|refine Ql fun A B hA hB=>?_|refine Qm ?_|refine Qn ?_|refine Qp ?_|refine Qr ?_)
 |(with_reducible first|apply Qy|apply Qz|apply QA)<;>intro hb<;>try simp only[nr] at hb
 |simp only[go_sem,↓reduceIte,Qa,Qh,Qb,Qc,Qd,Qe,Qf,Qg,reduceCtorEq, *,-hs,-hsr,-f2]
 |intro(bn:Bool) hbn))
   all_goals ((repeat clear hK);(repeat clear hA);(repeat clear hB))
   ·rw[if_neg (by simpa using hb)] at f2
    have hb':¬V1 xs[i]=0:=by simpa using hb
    simp[Vb,h64,f2,hb']
   ·rw[if_pos (by simpa using hb)] at f2
    (refine hM.on (xs.length-(i+1)) (by omega) (by simp only[go_sem,↓reduceIte,Qa,Qh,Qb,Qc,Qd,Qe,Qf,Qg,reduceCtorEq, *,Jg hlt hl,-hs,-hsr,-f2]) ⟨i+1,rfl,by omega,f2,?_⟩;simp only[go_sem,↓reduceIte,Qa,Qh,Qb,Qc,Qd,Qe,Qf,Qg,reduceCtorEq, *,Jg hlt hl,-hs,-hsr,-f2];done)
  ·rw[List.drop_eq_nil_of_le (by omega),Y4] at f2
   have e1:Vb xs=if Ze xs=false then 2 else if Jbq (YY xs 0) []=false then 13 else 0:=by simp[Vb,h64,f2]
   clear f2
   have h00:¬(0:Int)<0:=by decide
   (repeat' (first
 | (with_reducible first|refine callX.by (Vz _ _ _ _ _ _ _ ?_ ?_ ?_) ?_|refine callX.by VI ?_|refine callX.by (Vf _ _ _ _ _ _ _) ?_|refine callX.by (Vv _ _ _ _) ?_|refine callX.by (Jai _ _ ?_) ?_|assumption|(refine Qw hK _ ?_;clear hK K)|refine Qw ‹_› _ ?_|refine Qx ‹_› ?_|refine Qi fun K hK=>?_|refine Qj T fun K hK=>?_|refine Qk (id:=13) T mixed ZZ (by kernel_rfl) fun K hK=>?_|refine Ql fun A B hA hB=>?_|refine Qm ?_|refine Qn ?_|refine Qp ?_|refine Qr ?_)
 |(with_reducible first|apply Qy|apply Qz|apply QA)<;>intro hb<;>try simp only[nr] at hb
 |simp only[go_sem,↓reduceIte,Qa,Qh,Qb,Qc,Qd,Qe,Qf,Qg,reduceCtorEq, *,-hs,-e1]
 |intro(bn:Bool) hbn))
   refine Qs [0,26] (fun m ts'=>∃(k:Nat),m=xs.length-k∧k≤xs.length∧Ze xs=Ze (xs.drop (k-1))∧ts'.tmp 27=.int .i64 k) xs.length ?_ ?_
   ·refine⟨0,?_⟩
    simp only[go_sem,↓reduceIte,Qa,Qh,Qb,Qc,Qd,Qe,Qf,Qg,reduceCtorEq, *,-hs,-e1]
   ·clear hM
    rintro m A hM ts' hk ⟨k,hm,f1,f2,s1⟩
    simp only[go_sem,↓reduceIte,Qa,Qh,Qb,Qc,Qd,Qe,Qf,Qg,reduceCtorEq, *] at hk
    by_cases hkt:k<xs.length
    ·by_cases hk0:k=0
     ·subst hk0
      have hkt':(0:Int)<(xs.length:Int):=by omega
      have w01:IntKind.i64.wrap (0+1)=((1:Nat):Int):=by decide
      (repeat' (first
 | (with_reducible first|refine callX.by (Vz _ _ _ _ _ _ _ ?_ ?_ ?_) ?_|refine callX.by VI ?_|refine callX.by (Vf _ _ _ _ _ _ _) ?_|refine callX.by (Vv _ _ _ _) ?_|refine callX.by (Jai _ _ ?_) ?_|assumption|(refine Qw hK _ ?_;clear hK K)|refine Qw ‹_› _ ?_|refine Qx ‹_› ?_|refine Qi fun K hK=>?_|refine Qj T fun K hK=>?_|refine Qk (id:=13) T mixed ZZ (by kernel_rfl) fun K hK=>?_|refine Ql fun A B hA hB=>?_|refine Qm ?_|refine Qn ?_|refine Qp ?_|refine Qr ?_)
 |(with_reducible first|apply Qy|apply Qz|apply QA)<;>intro hb<;>try simp only[nr] at hb
 |simp only[go_sem,↓reduceIte,Qa,Qh,Qb,Qc,Qd,Qe,Qf,Qg,reduceCtorEq, *,-hs,-e1,-f2]
 |intro(bn:Bool) hbn))
      all_goals ((repeat clear hK);(repeat clear hA);(repeat clear hB))
      (refine hM.on (xs.length-1) (by omega) (by simp only[go_sem,↓reduceIte,Qa,Qh,Qb,Qc,Qd,Qe,Qf,Qg,reduceCtorEq, *,w01,-hs,-e1,-f2]) ⟨1,rfl,by omega,f2,?_⟩;simp only[go_sem,↓reduceIte,Qa,Qh,Qb,Qc,Qd,Qe,Qf,Qg,reduceCtorEq, *,w01,-hs,-e1,-f2];done)
     ·have hk1:k-1<xs.length:=by omega
      have hk2:(0:Int)<(k:Int):=by omega
      have hk3:IntKind.i64.wrap ((k:Int)-1)=((k-1:Nat):Int):=by
       rw[show(k:Int)-1=((k-1:Nat):Int) by omega];exact IntWalk.i64_in _ (by unfold Jc at hl;omega)
      rw[List.drop_eq_getElem_cons hk1,show k-1+1=k by omega,List.drop_eq_getElem_cons hkt,Jmq] at f2
      (repeat' (first
 | (with_reducible first|refine callX.by (Vz _ _ _ _ _ _ _ ?_ ?_ ?_) ?_|refine callX.by VI ?_|refine callX.by (Vf _ _ _ _ _ _ _) ?_|refine callX.by (Vv _ _ _ _) ?_|refine callX.by (Jai _ _ ?_) ?_|assumption|(refine Qw hK _ ?_;clear hK K)|refine Qw ‹_› _ ?_|refine Qx ‹_› ?_|refine Qi fun K hK=>?_|refine Qj T fun K hK=>?_|refine Qk (id:=13) T mixed ZZ (by kernel_rfl) fun K hK=>?_|refine Ql fun A B hA hB=>?_|refine Qm ?_|refine Qn ?_|refine Qp ?_|refine Qr ?_)
 |(with_reducible first|apply Qy|apply Qz|apply QA)<;>intro hb<;>try simp only[nr] at hb
 |simp only[go_sem,↓reduceIte,Qa,Qh,Qb,Qc,Qd,Qe,Qf,Qg,reduceCtorEq, *,-hs,-e1,-f2]
 |intro(bn:Bool) hbn))
      all_goals ((repeat clear hK);(repeat clear hA);(repeat clear hB))
      ·have hb':¬JL (Jo xs[k-1]) (Jo xs[k])<0:=by simp only[Jo];omega
       rw[e1,f2]
       simp[hb']
      ·have hb':JL (Jo xs[k-1]) (Jo xs[k])<0:=by simp only[Jo];omega
       rw[decide_eq_true hb',Bool.true_and,←List.drop_eq_getElem_cons hkt] at f2
       (refine hM.on (xs.length-(k+1)) (by omega) (by simp only[go_sem,↓reduceIte,Qa,Qh,Qb,Qc,Qd,Qe,Qf,Qg,reduceCtorEq, *,Jg hkt hl,-hs,-e1,-f2]) ⟨k+1,rfl,by omega,f2,?_⟩;simp only[go_sem,↓reduceIte,Qa,Qh,Qb,Qc,Qd,Qe,Qf,Qg,reduceCtorEq, *,Jg hkt hl,-hs,-e1,-f2];done)
    ·have hup:Ze xs=true:=by
      rw[f2]
      by_cases h0:xs.length=0
      ·rw[List.length_eq_zero_iff.1 h0];simp[Ze]
      ·rw[List.drop_eq_getElem_cons (show k-1<xs.length by omega),List.drop_eq_nil_of_le (by omega)]
       rfl
     rw[hup,if_neg (by simp)] at e1
     clear f2 hup
     have hyl:(YY xs 0).length≤64:=Nat.le_trans (List.length_filter_le _ _) hl64
     have hys:Jc (YY xs 0).length:=by unfold Jc;omega
     (repeat' (first
 | (with_reducible first|refine callX.by (Vz _ _ _ _ _ _ _ ?_ ?_ ?_) ?_|refine callX.by VI ?_|refine callX.by (Vf _ _ _ _ _ _ _) ?_|refine callX.by (Vv _ _ _ _) ?_|refine callX.by (Jai _ _ ?_) ?_|assumption|(refine Qw hK _ ?_;clear hK K)|refine Qw ‹_› _ ?_|refine Qx ‹_› ?_|refine Qi fun K hK=>?_|refine Qj T fun K hK=>?_|refine Qk (id:=13) T mixed ZZ (by kernel_rfl) fun K hK=>?_|refine Ql fun A B hA hB=>?_|refine Qm ?_|refine Qn ?_|refine Qp ?_|refine Qr ?_)
 |(with_reducible first|apply Qy|apply Qz|apply QA)<;>intro hb<;>try simp only[nr] at hb
 |simp only[go_sem,↓reduceIte,Qa,Qh,Qb,Qc,Qd,Qe,Qf,Qg,reduceCtorEq, *,-hs,-e1]
 |intro(bn:Bool) hbn))
     refine Qs [50,51] (fun m ts'=>∃(j:Nat),∃(M:List (Int×Bool)),∃(g:Nat),m=(YY xs 0).length-j∧j≤(YY xs 0).length∧Jbq (YY xs 0) []=Jbq ((YY xs 0).drop j) M∧ts'.tmp 7=.mref 48 g∧ts'.gen 48=g∧ts'.obj 48=.mp (Ju M) (JA M)∧ts'.tmp 52=.int .i64 j) (YY xs 0).length ?_ ?_
     ·refine⟨0,[],ts'.gen 48+1,rfl,Nat.zero_le _,rfl,?_⟩
      simp only[go_sem,↓reduceIte,Qa,Qh,Qb,Qc,Qd,Qe,Qf,Qg,reduceCtorEq, *,-hs,-e1]
     ·clear hM
      rintro m A hM ts' hk ⟨j,M,g,hm,f1,f2,s1,s2,s3,s4⟩
      simp only[go_sem,↓reduceIte,Qa,Qh,Qb,Qc,Qd,Qe,Qf,Qg,reduceCtorEq, *] at hk
      by_cases hjt:j<(YY xs 0).length
      ·rw[List.drop_eq_getElem_cons hjt,Jbq] at f2
       (repeat' (first
 | (with_reducible first|refine callX.by (Vz _ _ _ _ _ _ _ ?_ ?_ ?_) ?_|refine callX.by VI ?_|refine callX.by (Vf _ _ _ _ _ _ _) ?_|refine callX.by (Vv _ _ _ _) ?_|refine callX.by (Jai _ _ ?_) ?_|assumption|(refine Qw hK _ ?_;clear hK K)|refine Qw ‹_› _ ?_|refine Qx ‹_› ?_|refine Qi fun K hK=>?_|refine Qj T fun K hK=>?_|refine Qk (id:=13) T mixed ZZ (by kernel_rfl) fun K hK=>?_|refine Ql fun A B hA hB=>?_|refine Qm ?_|refine Qn ?_|refine Qp ?_|refine Qr ?_)
 |(with_reducible first|apply Qy|apply Qz|apply QA)<;>intro hb<;>try simp only[nr] at hb
 |simp only[go_sem,↓reduceIte,Qa,Qh,Qb,Qc,Qd,Qe,Qf,Qg,reduceCtorEq, *,-hs,-e1,-f2]
 |intro(bn:Bool) hbn))
       all_goals ((repeat clear hK);(repeat clear hA);(repeat clear hB))
       ·rw[if_pos (by simpa using hb)] at f2
        rw[e1,f2];rfl
       ·rw[if_neg (by simpa using hb)] at f2
        (refine hM.on ((YY xs 0).length-(j+1)) (by omega) (by simp only[go_sem,↓reduceIte,Qa,Qh,Qb,Qc,Qd,Qe,Qf,Qg,reduceCtorEq, *,Jg hjt hys,-hs,-e1,-f2]) ⟨j+1,JT M (YY xs 0)[j].port true,g,rfl,by omega,f2,?_⟩;simp only[go_sem,↓reduceIte,Qa,Qh,Qb,Qc,Qd,Qe,Qf,Qg,reduceCtorEq, *,Jg hjt hys,-hs,-e1,-f2];done)
      ·rw[List.drop_eq_nil_of_le (by omega),Jbq] at f2
       have e2:Vb xs=0:=by rw[e1,f2];rfl
       (repeat' (first
 | (with_reducible first|refine callX.by (Vz _ _ _ _ _ _ _ ?_ ?_ ?_) ?_|refine callX.by VI ?_|refine callX.by (Vf _ _ _ _ _ _ _) ?_|refine callX.by (Vv _ _ _ _) ?_|refine callX.by (Jai _ _ ?_) ?_|assumption|(refine Qw hK _ ?_;clear hK K)|refine Qw ‹_› _ ?_|refine Qx ‹_› ?_|refine Qi fun K hK=>?_|refine Qj T fun K hK=>?_|refine Qk (id:=13) T mixed ZZ (by kernel_rfl) fun K hK=>?_|refine Ql fun A B hA hB=>?_|refine Qm ?_|refine Qn ?_|refine Qp ?_|refine Qr ?_)
 |(with_reducible first|apply Qy|apply Qz|apply QA)<;>intro hb<;>try simp only[nr] at hb
 |simp only[go_sem,↓reduceIte,Qa,Qh,Qb,Qc,Qd,Qe,Qf,Qg,reduceCtorEq, *,-hs,-e1,-f2]
 |intro(bn:Bool) hbn))
def awq:Res:=⟨0,[108],0,80,[97],[],[]⟩
theorem Jht:V1 awq=0:=by decide
theorem Jm4:JP awq=[⟨1,[97]⟩]:=by
 unfold JP
 rw[if_pos Jht]
 have e:ZE awq++Vw awq.rules'=[⟨1,[97]⟩]:=by decide
 rw[e]
 have e2:JM [⟨1,[97]⟩]=[(⟨1,[97]⟩:Key)]:=by simp[JM]
 rw[e2];rfl
theorem JaZ:CallR prog 179 [.agg [.int .i64 0,.str [108],.int .i64 0,.int .i64 80,.str [97],.slice false [],.slice false []]] (.own 2 [.agg [.int .i64 1,.str [97]]]):=by
 have h:=JaN 0 [108] 0 80 [97] [] [] (by simp[Jc]) (by simp[Jc]) (by simp)
 have e:=Jm4;unfold awq at e
 rw[e] at h;exact h
theorem VI:CallR prog 157 [.agg [.int .i64 0,.str [108],.int .i64 0,.int .i64 80,.str [97],.slice false [],.slice false []]] (.val (.int .i64 0)):=by
 have h:=Vz 0 [108] 0 80 [97] [] [] (by simp[Jc]) (by simp[Jc]) (by simp)
 have e:=Jht;unfold awq at e
 rw[e] at h;exact h
theorem Jjs{next:Int}(hn:next≤2147483647):∀(l:List Snap) (a:Int),0≤a→a≤next→JaH next l a=ZQ next l a
 | [],_,_,_=>rfl
 |s :: r,a,h0,h1=>by
  have hw:IntKind.i64.wrap (a+1)=a+1:=IntWalk.i64_in _ (by omega)
  rw[JaH,ZQ,hw]
  by_cases h2:a+1≤s.id∧s.id≤next
  ·rw[Jjs hn r s.id (by omega) h2.2]
   congr 1
   rw[Bool.eq_iff_iff]
   by_cases hr:r=[]
   ·simp only[Zf,hr,if_true,ne_eq,not_true,decide_false,Bool.and_false,Bool.or_false,Bool.and_eq_true,Bool.not_eq_true',Bool.or_eq_false_iff,decide_eq_true_eq,decide_eq_false_iff_not]
    omega
   ·simp only[Zf,hr,if_false,ne_eq,not_false_eq_true,decide_true,Bool.and_true,Bool.and_eq_true,Bool.not_eq_true',Bool.or_eq_false_iff,decide_eq_true_eq,decide_eq_false_iff_not]
    omega
  ·have e1:Zf s.id (a+1) next=false:=by
    simp only[Zf,Bool.and_eq_false_iff,decide_eq_false_iff_not];omega
   have e2:(decide (s.id≤a) || decide (next<s.id))=true:=by
    simp only[Bool.or_eq_true,decide_eq_true_eq];omega
   rw[e1,e2];simp
theorem Jjt(p:Pins):ZL p=Jcq p:=by
 unfold ZL Jcq
 by_cases h:0≤p.next'∧p.next'≤2147483647
 ·rw[Jjs h.2 _ 0 (by omega) h.1]
  generalize ZQ p.next' p.snaps 0=b
  rw[Bool.eq_iff_iff]
  simp only[Zf,Bool.and_eq_true,Bool.not_eq_true',Bool.or_eq_false_iff,decide_eq_true_eq,decide_eq_false_iff_not]
  constructor
  ·rintro⟨h1,_,h2⟩;exact⟨⟨⟨by omega,by omega⟩,by omega⟩,h1⟩
  ·rintro⟨⟨⟨_,_⟩,h2⟩,h1⟩;exact⟨h1,h,by omega⟩
 ·have e1:Zf p.next' 0 2147483647=false:=by
   simp only[Zf,Bool.and_eq_false_iff,decide_eq_false_iff_not];omega
  have e2:(decide (p.next' < 0) || decide (2147483647<p.next'))=true:=by
   simp only[Bool.or_eq_true,decide_eq_true_eq];omega
  rw[e1,e2];simp
theorem Jdf(p:Pins):Jq p=Va p:=by unfold Jq Va;rw[Jjt]
theorem JjG{next:Int}:∀ {l:List Snap} {a:Int},ZQ next l a=true→l.Pairwise (fun x y=>x.id<y.id)∧∀x∈l,a<x.id∧x.id≤next∧0≤x.pins∧x.pins≤10000
 | [],_,_=>⟨.nil,by simp⟩
 |s :: r,a,h=>by
  rw[ZQ] at h
  simp only[Bool.and_eq_true,Bool.not_eq_true',Bool.or_eq_false_iff,decide_eq_false_iff_not] at h
  obtain⟨⟨⟨⟨⟨h1,h2⟩,h3⟩,h4⟩,_⟩,h5⟩:=h
  obtain⟨h6,h7⟩:=JjG h5
  refine⟨.cons (fun x hx=>(h7 x hx).1) h6,fun x hx=>?_⟩
  rcases List.mem_cons.1 hx with rfl|hx
  ·omega
  ·have:=h7 x hx;omega
theorem Jgn{xs:List Snap}{id:Int}:∀ {n:Nat},n≤xs.length→J5 xs id n=-1→∀k,(h:k<xs.length)→k<n→xs[k].id≠id
 |0,_,_,k,_,hk=>by omega
 |n+1,hn,h,k,hkl,hk=>by
  rw[J5] at h
  split at h
  ·omega
  ·rename_i hne
   by_cases e:k=n
   ·subst e
    have:xs.getD k default=xs[k]:=by simp[hkl]
    rwa [this] at hne
   ·exact Jgn (by omega) h k hkl (by omega)
theorem Jgo{xs:List Snap}{id:Int}:∀ {n:Nat},n≤xs.length→J5 xs id n≠-1→∃k,∃h:k<xs.length,J5 xs id n=k∧xs[k].id=id
 |0,_,h=>by simp[J5] at h
 |n+1,hn,h=>by
  rw[J5] at h ⊢
  by_cases e:(xs.getD n default).id=id
  ·rw[if_pos e]
   have hlt:n<xs.length:=by omega
   have e2:xs.getD n default=xs[n]:=by simp[hlt]
   exact⟨n,hlt,rfl,by rwa [e2] at e⟩
  ·rw[if_neg e] at h ⊢
   exact Jgo (by omega) h
theorem JdB{xs:List Snap}(hu:xs.Pairwise (fun x y=>x.id<y.id)){i j:Nat}(hi:i<xs.length)(hj:j<xs.length)(h:xs[i].id=xs[j].id):i=j:=by
 rw[List.pairwise_iff_getElem] at hu
 rcases Nat.lt_trichotomy i j with h1|h1|h1
 ·have:=hu i j hi hj h1;omega
 ·exact h1
 ·have:=hu j i hj hi h1;omega
theorem Jif{xs:List Snap}(hu:xs.Pairwise (fun x y=>x.id<y.id)){k:Nat}(hk:k<xs.length):xs.find? (fun x=>decide (x.id=xs[k].id))=some xs[k]:=by
 cases hf:xs.find? (fun x=>decide (x.id=xs[k].id)) with
 |none =>
  have:=List.find?_eq_none.1 hf xs[k] (QC hk)
  simp at this
 |some y =>
  have h1:=List.find?_some hf
  have h2:=List.mem_of_find?_eq_some hf
  obtain⟨j,hj,rfl⟩:=List.getElem_of_mem h2
  have:j=k:=JdB hu hj hk (by simpa using h1)
  subst this;rfl
theorem JjX(p:Pins):(Va p).snaps.Pairwise (fun x y=>x.id<y.id):=by
 unfold Va
 split
 ·rename_i h
  unfold Jcq at h
  simp only[Bool.and_eq_true] at h
  exact(JjG h.2).1
 ·exact .nil
theorem Jdd(p:Pins)(id:Int):VO p id=Jae p id:=by
 unfold VO Jae
 rw[Jdf]
 simp only
 have hu:=JjX p
 generalize (Va p).snaps=xs at *
 by_cases h:J5 xs id xs.length=-1
 ·have hn:=Jgn (Nat.le_refl _) h
  rw[h,if_pos (by omega)]
  have:xs.find? (fun x=>decide (x.id=id))=none:=by
   rw[List.find?_eq_none]
   intro x hx
   obtain⟨j,hj,rfl⟩:=List.getElem_of_mem hx
   simpa using hn j hj hj
  rw[this]
 ·obtain⟨k,hk,e,rfl⟩:=Jgo (Nat.le_refl _) h
  rw[e,if_neg (by omega),Jif hu hk]
  simp[hk]
theorem JjF{next:Int}:∀(l:List Snap) (a:Int),ZQ next l a=true↔l.Pairwise (fun x y=>x.id<y.id)∧(∀x∈l,a<x.id∧x.id≤next∧0≤x.pins∧x.pins≤10000)∧∀x∈l.dropLast,0<x.pins
 | [],a=>by simp[ZQ]
 |s :: r,a=>by
  rw[ZQ,Bool.and_eq_true,JjF r s.id,List.pairwise_cons]
  cases r with
  |nil=>simp;omega
  |cons y r =>
   simp only[List.dropLast_cons_cons]
   grind
structure OkP(p:Pins):Prop where
 lo:0≤p.next'
 hi:p.next'≤2147483647
 len:p.snaps.length≤1000
 up:p.snaps.Pairwise (fun x y=>x.id<y.id)
 mem:∀x∈p.snaps,0<x.id∧x.id≤p.next'∧0≤x.pins∧x.pins≤10000
 pos:∀x∈p.snaps.dropLast,0<x.pins
theorem Jgq(p:Pins):Jcq p=true↔OkP p:=by
 unfold Jcq
 rw[Bool.and_eq_true,JjF]
 simp only[Bool.not_eq_true',Bool.or_eq_false_iff,decide_eq_false_iff_not]
 constructor
 ·rintro⟨⟨⟨h1,h2⟩,h3⟩,h4,h5,h6⟩
  exact⟨by omega,by omega,by omega,h4,h5,h6⟩
 ·rintro⟨h1,h2,h3,h4,h5,h6⟩
  exact⟨⟨⟨by omega,by omega⟩,by omega⟩,h4,h5,h6⟩
theorem Zt(p:Pins):ZL p=true↔OkP p:=by rw[Jjt,Jgq]
theorem Jph:OkP ⟨0,[]⟩:=⟨by simp,by simp,by simp,.nil,by simp,by simp⟩
theorem Jcj(p:Pins):OkP (Va p):=by
 unfold Va
 split
 ·exact(Jgq p).1 ‹_›
 ·exact Jph
theorem Jct{p:Pins}(h:OkP p):Va p=p:=by unfold Va;rw[if_pos ((Jgq p).2 h)]
theorem Y9{p:Pins}(h:OkP p):Jq p=p:=by rw[Jdf,Jct h]
theorem JpF(p:Pins)(l:List Res):Vg p l=JeQ p l:=by
 have h:=Jcj p
 unfold Vg JeQ
 rw[Jdf]
 have e:(Va p).snaps.filter (fun x=>!decide (x.pins=0))=(Va p).snaps.filter (fun x=>decide (0<x.pins)):=by
  apply List.filter_congr
  intro x hx
  have:=h.mem x hx
  rw[Bool.eq_iff_iff]
  simp only[Bool.not_eq_true',decide_eq_false_iff_not,decide_eq_true_eq]
  omega
 simp only[e]
theorem Je4{α:Type}(l:List α)(i:Nat)(x:α)(h:i<l.length):l.set i x=l.take i++[x]++l.drop (i+1):=by
 rw[List.set_eq_take_append_cons_drop,if_pos h];simp
theorem JpC(p:Pins):Vn p=JeP p:=by
 unfold Vn JeP
 rw[Jdf]
 cases hg:(Va p).snaps.getLast? with
 |none=>simp[hg]
 |some s =>
  have hne:0<(Va p).snaps.length:=by
   cases h0:(Va p).snaps with
   |nil=>rw[h0] at hg;simp at hg
   |cons=>simp
  simp only[hg]
  split
  ·rfl
  ·rw[Zx,Je4 _ _ _ (by omega),if_pos (.inr (by omega))]
theorem Jgz{q:Pins}{id:Int}:∀ {l:List Snap} {i:Nat},(∀x∈l,x.id≠id)→Jbu q id l i=(q,10)
 | [],_,_=>rfl
 |s :: r,i,h=>by
  rw[Jbu,if_neg (h s (by simp)),Jgz fun x hx=>h x (by simp[hx])]
theorem Jgy{q:Pins}{id:Int}:∀ {l:List Snap} {i k:Nat} (hk:k<l.length),l[k].id=id→(∀j,(h:j<k)→l[j].id≠id) →
  Jbu q id l i=if l[k].pins=0 then (q,15) else (Zx q (i+k) ⟨l[k].id,IntKind.i64.wrap (l[k].pins-1),l[k].l⟩,0)
 | [],_,_,hk,_,_=>by simp at hk
 |s :: r,i,0,hk,h1,_=>by
  rw[Jbu,if_pos (by simpa using h1)];simp
 |s :: r,i,k+1,hk,h1,h2=>by
  rw[Jbu,if_neg (by simpa using h2 0 (by omega)),Jgy (k:=k) (by simpa using hk) (by simpa using h1) (fun j hj=>by simpa using h2 (j+1) (by omega))]
  have:i+1+k=i+(k+1):=by omega
  rw[this];simp
theorem JeB(p:Pins)(id:Int):J6 p id=Zw p id:=by
 have hok:=Jcj p
 have hu:=JjX p
 unfold J6 Zw
 rw[Jdf]
 generalize Va p=q at *
 simp only
 by_cases h:J5 q.snaps id q.snaps.length=-1
 ·have hn:=Jgn (Nat.le_refl _) h
  rw[h,if_pos (by omega),Jgz]
  intro x hx
  obtain⟨j,hj,rfl⟩:=List.getElem_of_mem hx
  exact hn j hj hj
 ·obtain⟨k,hk,e,rfl⟩:=Jgo (Nat.le_refl _) h
  have hb:=hok.mem _ (QC hk)
  rw[e,if_neg (by omega),Jgy hk rfl (fun j hj hid=>by
   have:=JdB hu (by omega) hk hid
   omega)]
  have hgd:q.snaps.getD k default=q.snaps[k]:=by simp[hk]
  simp only[Int.toNat_natCast,hgd,Nat.zero_add]
  by_cases h0:q.snaps[k].pins=0
  ·simp[h0]
  ·have hw:IntKind.i64.wrap (q.snaps[k].pins-1)=q.snaps[k].pins-1:=IntWalk.i64_in _ (by omega)
   simp only[h0,if_false,hw]
   unfold Zx
   by_cases h1:(k:Int)≠(q.snaps.length:Int)-1∧q.snaps[k].pins-1=0
   ·rw[if_pos h1,if_neg (show ¬(0<q.snaps[k].pins-1∨k+1=q.snaps.length) by omega),Je4 _ _ _ hk]
    simp[List.take_append,List.drop_append,Nat.min_eq_left (Nat.le_of_lt hk)]
   ·rw[if_neg h1,if_pos (by show 0<q.snaps[k].pins-1∨k+1=q.snaps.length;omega),Je4 _ _ _ hk]
def Up(l:List Key):Prop:=l.Pairwise fun x y=>JL x y<0
def Le(l:List Key):Prop:=l.Pairwise fun x y=>¬JL y x<0
theorem JoF(K:List Key):Le (JM K):=by
 have:=List.pairwise_mergeSort (le:=fun x y:Key=>!decide (JL y x<0)) (fun a b c h k=>by
  simp only[Bool.not_eq_true',decide_eq_false_iff_not] at h k ⊢
  intro h3
  by_cases h4:JL b c=0
  ·have:=Jeg _ _ h4;subst this;exact h h3
  ·have:JL b c<0:=by have:=Jb7 b c;omega
   exact h (JcV _ _ _ this h3)) (fun a b=>by
  simp only[Bool.or_eq_true,Bool.not_eq_true',decide_eq_false_iff_not]
  have:=Jb7 a b;omega) K
 unfold Le JM
 exact this.imp fun h=>by simpa using h
theorem JoG(K:List Key)(x:Key):x∈JM K↔x∈K:=by unfold JM;exact List.mem_mergeSort
theorem JiN:∀ {a:Key} {r:List Key},Le (a :: r)→Up (a :: Vd (a :: r))∧∀x,x∈a :: Vd (a :: r)↔x∈a :: r
 |a,[],_=>by simp[Vd,Up]
 |a,b :: r,h=>by
  obtain⟨h1,h2⟩:=List.pairwise_cons.1 h
  obtain⟨u,m⟩:=JiN h2
  rw[Vd]
  by_cases e:b=a
  ·subst e
   rw[if_pos rfl]
   exact⟨u,fun x=>by rw[m];simp⟩
  ·rw[if_neg e]
   refine⟨List.pairwise_cons.2 ⟨fun z hz=>?_,u⟩,fun x=>?_⟩
   ·have hab:JL a b<0:=by
     have h3:=h1 b (by simp)
     have h4:=Jb7 a b
     by_cases h5:JL a b=0
     ·exact absurd (Jeg _ _ h5).symm e
     ·omega
    rcases List.mem_cons.1 hz with rfl|hz
    ·exact hab
    ·exact JcV _ _ _ hab ((List.pairwise_cons.1 u).1 z hz)
   ·rw[List.mem_cons,m,←List.mem_cons]
theorem Joz{l:List Key}(h:Le l):Up (V8 l)∧∀x,x∈V8 l↔x∈l:=by
 unfold V8
 cases l with
 |nil=>simp[Vd,Up]
 |cons a r=>simpa using JiN h
theorem Jew(p:Pins):Up (JV p)∧∀x,x∈JV p↔x∈JZ (Jq p).snaps:=by
 obtain⟨h1,h2⟩:=Joz (JoF (JZ (Jq p).snaps))
 exact⟨h1,fun x=>by rw[JV,h2,JoG]⟩
theorem Jp4{r:Res}(h:¬V1 r=0):JP r=[]:=by unfold JP;rw[if_neg h]
theorem Jgx(r:Res):(JP r).length≤33:=by
 by_cases hs:V1 r=0
 ·obtain⟨b1,b2,b3⟩:=Jkm (Jkc hs)
  have hc:∀l:List Key,(Vd l).length≤l.length-1:=by
   intro l
   induction l with
   |nil=>simp[Vd]
   |cons a r ih =>
    cases r with
    |nil=>simp[Vd]
    |cons b r=>rw[Vd];split<;>simp only[List.length_cons] at ih ⊢<;>omega
  have hk:∀l:List Key,(V8 l).length≤l.length:=by
   intro l;unfold V8;rw[List.length_append];have:=hc l
   cases l with
   |nil=>simpa using this
   |cons a r=>simp only[List.length_cons,List.take_succ_cons,List.take_zero,List.length_nil] at this ⊢;omega
  have hkR:∀l:List Rule,(∀x∈l,x.split.length≤4)→(Vw l).length≤4*l.length:=by
   intro l
   induction l with
   |nil=>simp[Vw]
   |cons a r ih =>
    intro h
    rw[JiR,List.length_append]
    have:=ih fun x hx=>h x (List.mem_cons_of_mem _ hx)
    have h2:=h a (by simp)
    have h3:=JoE a.split
    simp only[List.length_cons];omega
  have hb:(ZE r).length≤1:=by unfold ZE;split<;>simp
  have:=hk (JM (ZE r++Vw r.rules'))
  rw[JaB,List.length_append] at this
  have:=hkR _ b3
  unfold JP
  rw[if_pos hs]
  omega
 ·rw[Jp4 hs];simp
theorem JbC{n:Nat}(h:n≤65536):Jc n:=by unfold Jc;omega
end Go.Proofs.YthjalhfmpffbjaaGreatDoor.Lg
