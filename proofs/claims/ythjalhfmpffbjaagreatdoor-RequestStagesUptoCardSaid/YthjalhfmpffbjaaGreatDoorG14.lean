/- Parts of the proof, one behind the other. -/
import Derived.Test.YthjalhfmpffbjaaGreatDoorG13
namespace Go.Proofs.YthjalhfmpffbjaaGreatDoor.Lg
set_option maxRecDepth 100000
set_option linter.unusedVariables false
set_option linter.unusedSimpArgs false
open Go
open Nat renaming reduceEqDiff → Qa, reduceLT → Qb, reduceLeDiff → Qc, reduceAdd → Qd, reduceMul → Qe, reduceSub → Qf, reduceBEq → Qg
open String renaming reduceEq → Qh
open SpecC renaming seqW → Qi, regW → Qj, drawW → Qk, condW → Ql, block → Qm, skip → Qn, exit → Qp, ret → Qr, loopF → Qs
open NxK renaming out → Qw
open Nx renaming out → Qx
open condK renaming split → Qy
open gK renaming split_t → Qz, split_f → QA
open List renaming getElem_mem → QC
def Zk(l:List Weight):List Key:=(l.filter fun w=>decide (0<w.w)).map fun w=>⟨2,w.cluster⟩
def Vl(l:List Rule):List Key:=l.flatMap fun x=>Zk x.split
def Zd(r:Res):List Key:=if r.to'=[] then [] else [⟨IntKind.i64.wrap (r.kind+1),r.to'⟩]
def JK(r:Res):List Key:=if Yb r=0 then VQ (JH (Zd r++Vl r.rules')) else []
theorem JhC(x:Rule)(l:List Rule):Vl (x :: l)=Zk x.split++Vl l:=rfl
theorem JlA(w:Weight)(l:List Weight):Zk (w :: l)=(if 0<w.w then [⟨2,w.cluster⟩] else [])++Zk l:=by
 unfold Zk
 by_cases h:0<w.w<;>simp[h]
theorem JiP{r:Res}(h:Yb r=0):Y5 r=true:=by
 unfold Yb at h
 cases hs:Y5 r with
 |true=>rfl
 |false =>
  rw[hs] at h
  split at h
  ·cases h
  ·split at h
   ·cases h
   ·simp at h
theorem JiX{r:Res}(h:Y5 r=true):r.rules'.length≤8∧r.hosts.length≤8∧∀x∈r.rules',x.split.length≤4:=by
 simp only[Y5,Bool.and_eq_true,decide_eq_true_eq,List.all_eq_true] at h
 refine⟨h.2.2.1,h.2.2.2.1,fun x hx=>?_⟩
 have:=h.2.2.2.2.2 x hx
 simp only[JaZ,Bool.and_eq_true,decide_eq_true_eq] at this
 exact this.1
theorem JlB(l:List Weight):(Zk l).length≤l.length:=by
 unfold Zk
 rw[List.length_map]
 exact List.length_filter_le _ _
set_option maxHeartbeats 4000000 in
theorem Jan(r_kind:Int)(r_name:List UInt8)(r_ver:Int)(r_port:Int)(r_to:List UInt8)(r_rules:List Rule)(r_hosts:List Int)(hl:Jc r_rules.length)(hh:Jc r_hosts.length)(hs:∀x∈r_rules,VC x):CallR Tryz.prog 179 [.agg [.int .i64 r_kind,.str r_name,.int .i64 r_ver,.int .i64 r_port,.str r_to,.slice false (Ja r_rules),.slice false (Ja r_hosts)]] (.own 2 (Ja (JK (⟨r_kind,r_name,r_ver,r_port,r_to,r_rules,r_hosts⟩:Res)))):=by
 by_cases hsn:Yb (⟨r_kind,r_name,r_ver,r_port,r_to,r_rules,r_hosts⟩:Res)=0
 rotate_left
 ·have hr:JK (⟨r_kind,r_name,r_ver,r_port,r_to,r_rules,r_hosts⟩:Res)=[]:=if_neg hsn
  rw[hr]
  refine CallR.go1 (T:=T) Tryz.call179 Tryz.func179 rfl Tryz.ntmps179 (congrArg Array.toList Tryz.results179) (by decide) fun ts hn h0=>?_
  (repeat' (first
 | (with_reducible first|refine callX.by (Vn _ _ _ _ _ _ _ ?_ ?_ ?_) ?_|refine callX.by Vv ?_)
 | (with_reducible refine callX.ar ?_ ?_ (Zs ?_ ?_);(focus(simp only[go_sem,↓reduceIte,reduceIte,Qa,Qh,Qb,Qc,Qd,Qe,Qf,Qg,reduceCtorEq, *,-hs];first|done|rfl)))
 |with_reducible refine callX.by (Vq _ _ _ _) ?_
 | (with_reducible refine callX.mv ?_ ?_ ?_ (Ze ?_ ?_);(focus(simp only[go_sem,↓reduceIte,reduceIte,Qa,Qh,Qb,Qc,Qd,Qe,Qf,Qg,reduceCtorEq, *,-hs];first|done|rfl));(focus(simp only[go_sem,↓reduceIte,reduceIte,Qa,Qh,Qb,Qc,Qd,Qe,Qf,Qg,reduceCtorEq, *,-hs];first|done|rfl)))
 | (with_reducible first|assumption|(refine Qw hK _ ?_;clear hK K)|refine Qw ‹_› _ ?_|refine Qx ‹_› ?_|refine Qi fun K hK=>?_|refine Qj T fun K hK=>?_|refine Ql fun A B hA hB=>?_|refine Qm ?_|refine Qn ?_|refine Qp ?_|refine Qr ?_)
 | ((with_reducible first|apply Qy|apply Qz|apply QA)<;>intro hb<;>try simp only[nr] at hb)
 |simp only[go_sem,↓reduceIte,reduceIte,Qa,Qh,Qb,Qc,Qd,Qe,Qf,Qg,reduceCtorEq, *,-hs]
 |with_reducible refine fun(bn:Bool) hbn=>?_))
  all_goals rfl
 obtain⟨hb1,hb2,hb3⟩:=JiX (JiP hsn)
 simp only at hb1 hb2 hb3
 have hr:JK (⟨r_kind,r_name,r_ver,r_port,r_to,r_rules,r_hosts⟩:Res)=VQ (JH (Zd (⟨r_kind,r_name,r_ver,r_port,r_to,r_rules,r_hosts⟩:Res)++Vl r_rules)):=if_pos hsn
 rw[hr]
 obtain⟨bs,hbs⟩:∃bs,Zd (⟨r_kind,r_name,r_ver,r_port,r_to,r_rules,r_hosts⟩:Res)=bs:=⟨_,rfl⟩
 rw[hbs]
 have hbl:bs.length≤1:=by
  rw[←hbs];unfold Zd;split<;>simp
 clear hr
 have hr0:V0 1 24:=JaV (by decide) (by decide)
 have hsk:∀x∈r_rules,Jc x.split.length:=fun x hx=>(hs x hx).2.2.1
 refine CallR.go1 (T:=T) Tryz.call179 Tryz.func179 rfl Tryz.ntmps179 (congrArg Array.toList Tryz.results179) (by decide) fun ts hn h0=>?_
 (repeat' (first
 | (with_reducible first|refine SpecC.cutAtS 6 [1] (fun ts'=>∃(g:Nat),ts'.tmp 3=.os 3 g bs.length∧ts'.gen 3=g∧ts'.obj 3=.arr 2 (Ja bs)) ?_ ?_|refine callX.by (Vn _ _ _ _ _ _ _ ?_ ?_ ?_) ?_|refine callX.by Vv ?_)
 | (with_reducible refine callX.ar ?_ ?_ (Zs ?_ ?_);(focus(simp only[go_sem,↓reduceIte,reduceIte,Qa,Qh,Qb,Qc,Qd,Qe,Qf,Qg,reduceCtorEq, *,-hs,-hsk,-hb3];first|done|rfl)))
 |with_reducible refine callX.by (Vq _ _ _ _) ?_
 | (with_reducible refine callX.mv ?_ ?_ ?_ (Ze ?_ ?_);(focus(simp only[go_sem,↓reduceIte,reduceIte,Qa,Qh,Qb,Qc,Qd,Qe,Qf,Qg,reduceCtorEq, *,-hs,-hsk,-hb3];first|done|rfl));(focus(simp only[go_sem,↓reduceIte,reduceIte,Qa,Qh,Qb,Qc,Qd,Qe,Qf,Qg,reduceCtorEq, *,-hs,-hsk,-hb3];first|done|rfl)))
 | (with_reducible first|assumption|(refine Qw hK _ ?_;clear hK K)|refine Qw ‹_› _ ?_|refine Qx ‹_› ?_|refine Qi fun K hK=>?_|refine Qj T fun K hK=>?_|refine Ql fun A B hA hB=>?_|refine Qm ?_|refine Qn ?_|refine Qp ?_|refine Qr ?_)
 | ((with_reducible first|apply Qy|apply Qz|apply QA)<;>intro hb<;>try simp only[nr] at hb)
 |simp only[go_sem,↓reduceIte,reduceIte,Qa,Qh,Qb,Qc,Qd,Qe,Qf,Qg,reduceCtorEq, *,-hs,-hsk,-hb3]
 |with_reducible refine fun(bn:Bool) hbn=>?_))
 ·have e:bs=[⟨IntKind.i64.wrap (r_kind+1),r_to⟩]:=by rw[←hbs];unfold Zd;rw[if_neg (of_decide_eq_false hb)]
  subst e
  have ea:Ja [(⟨IntKind.i64.wrap (r_kind+1),r_to⟩:Key)]=[AV.agg [AV.int IntKind.i64 (IntKind.i64.wrap (r_kind+1)),AV.str r_to]]:=rfl
  (repeat clear hK);(repeat clear hA);(repeat clear hB)
  (refine⟨_,(Ent.ren 3 22 (by simp only[go_sem,↓reduceIte,reduceIte,Qa,Qh,Qb,Qc,Qd,Qe,Qf,Qg,reduceCtorEq, *,-hs,-hsk,-hb3];done) (by simp only[go_sem,↓reduceIte,reduceIte,Qa,Qh,Qb,Qc,Qd,Qe,Qf,Qg,reduceCtorEq, *,-hs,-hsk,-hb3];done)),by simp only[go_sem,↓reduceIte,reduceIte,Qa,Qh,Qb,Qc,Qd,Qe,Qf,Qg,reduceCtorEq, *,-hs,-hsk,-hb3];done,⟨ts.gen 3+1,?_⟩⟩;simp only[go_sem,↓reduceIte,reduceIte,Qa,Qh,Qb,Qc,Qd,Qe,Qf,Qg,reduceCtorEq, *,-hs,-hsk,-hb3];done)
 ·have e:bs=[]:=by rw[←hbs];unfold Zd;rw[if_pos (of_decide_eq_true hb)]
  subst e
  (repeat clear hK);(repeat clear hA);(repeat clear hB)
  (refine⟨_,(Ent.virt 3 2 (by simp only[go_sem,↓reduceIte,reduceIte,Qa,Qh,Qb,Qc,Qd,Qe,Qf,Qg,reduceCtorEq, *,-hs,-hsk,-hb3,Vc];done) (by decide)),by simp only[go_sem,↓reduceIte,reduceIte,Qa,Qh,Qb,Qc,Qd,Qe,Qf,Qg,reduceCtorEq, *,-hs,-hsk,-hb3,Vc];done,⟨ts.gen 3+1,?_⟩⟩;simp only[go_sem,↓reduceIte,reduceIte,Qa,Qh,Qb,Qc,Qd,Qe,Qf,Qg,reduceCtorEq, *,-hs,-hsk,-hb3,Vc];done)
 ·intro ts2 hk3
  rintro⟨g2,v1,v2,v3⟩
  simp only[go_sem,↓reduceIte,reduceIte,Qa,Qh,Qb,Qc,Qd,Qe,Qf,Qg,reduceCtorEq, *] at hk3
  (repeat' (first
 | (with_reducible first|refine callX.by (Vn _ _ _ _ _ _ _ ?_ ?_ ?_) ?_|refine callX.by Vv ?_)
 | (with_reducible refine callX.ar ?_ ?_ (Zs ?_ ?_);(focus(simp only[go_sem,↓reduceIte,reduceIte,Qa,Qh,Qb,Qc,Qd,Qe,Qf,Qg,reduceCtorEq, *,-hs,-hsk,-hb3];first|done|rfl)))
 |with_reducible refine callX.by (Vq _ _ _ _) ?_
 | (with_reducible refine callX.mv ?_ ?_ ?_ (Ze ?_ ?_);(focus(simp only[go_sem,↓reduceIte,reduceIte,Qa,Qh,Qb,Qc,Qd,Qe,Qf,Qg,reduceCtorEq, *,-hs,-hsk,-hb3];first|done|rfl));(focus(simp only[go_sem,↓reduceIte,reduceIte,Qa,Qh,Qb,Qc,Qd,Qe,Qf,Qg,reduceCtorEq, *,-hs,-hsk,-hb3];first|done|rfl)))
 | (with_reducible first|assumption|(refine Qw hK _ ?_;clear hK K)|refine Qw ‹_› _ ?_|refine Qx ‹_› ?_|refine Qi fun K hK=>?_|refine Qj T fun K hK=>?_|refine Ql fun A B hA hB=>?_|refine Qm ?_|refine Qn ?_|refine Qp ?_|refine Qr ?_)
 | ((with_reducible first|apply Qy|apply Qz|apply QA)<;>intro hb<;>try simp only[nr] at hb)
 |simp only[go_sem,↓reduceIte,reduceIte,Qa,Qh,Qb,Qc,Qd,Qe,Qf,Qg,reduceCtorEq, *,-hs,-hsk,-hb3]
 |with_reducible refine fun(bn:Bool) hbn=>?_))
  refine Qs [24,25] (fun m ts'=>∃(i:Nat),∃(g:Nat),∃(ys:List Key),m=r_rules.length-i∧i≤r_rules.length∧ys.length≤1+4*i∧bs++Vl r_rules=ys++Vl (r_rules.drop i)∧ts'.tmp 3=.os 3 g ys.length∧ts'.gen 3=g∧ts'.obj 3=.arr 2 (Ja ys)∧ts'.tmp 26=.int .i64 i) r_rules.length ?_ ?_
  ·refine⟨0,g2,bs,rfl,Nat.zero_le _,by omega,rfl,?_⟩
   simp only[go_sem,↓reduceIte,reduceIte,Qa,Qh,Qb,Qc,Qd,Qe,Qf,Qg,reduceCtorEq, *,-hs,-hsk,-hb3]
  ·rintro m A hM ts' hk ⟨i,g,ys,hm,f1,f2,f3,s1,s2,s3,s4⟩
   simp only[go_sem,↓reduceIte,reduceIte,Qa,Qh,Qb,Qc,Qd,Qe,Qf,Qg,reduceCtorEq, *] at hk
   by_cases hlt:i<r_rules.length
   ·rw[List.drop_eq_getElem_cons hlt,JhC] at f3
    have hx4:=hb3 _ (QC hlt)
    have hxs:=hsk _ (QC hlt)
    (repeat' (first
 | (with_reducible first|refine callX.by (Vn _ _ _ _ _ _ _ ?_ ?_ ?_) ?_|refine callX.by Vv ?_)
 | (with_reducible refine callX.ar ?_ ?_ (Zs ?_ ?_);(focus(simp only[go_sem,↓reduceIte,reduceIte,Qa,Qh,Qb,Qc,Qd,Qe,Qf,Qg,reduceCtorEq, *,-hs,-hsk,-hb3,-f3];first|done|rfl)))
 |with_reducible refine callX.by (Vq _ _ _ _) ?_
 | (with_reducible refine callX.mv ?_ ?_ ?_ (Ze ?_ ?_);(focus(simp only[go_sem,↓reduceIte,reduceIte,Qa,Qh,Qb,Qc,Qd,Qe,Qf,Qg,reduceCtorEq, *,-hs,-hsk,-hb3,-f3];first|done|rfl));(focus(simp only[go_sem,↓reduceIte,reduceIte,Qa,Qh,Qb,Qc,Qd,Qe,Qf,Qg,reduceCtorEq, *,-hs,-hsk,-hb3,-f3];first|done|rfl)))
 | (with_reducible first|assumption|(refine Qw hK _ ?_;clear hK K)|refine Qw ‹_› _ ?_|refine Qx ‹_› ?_|refine Qi fun K hK=>?_|refine Qj T fun K hK=>?_|refine Ql fun A B hA hB=>?_|refine Qm ?_|refine Qn ?_|refine Qp ?_|refine Qr ?_)
 | ((with_reducible first|apply Qy|apply Qz|apply QA)<;>intro hb<;>try simp only[nr] at hb)
 |simp only[go_sem,↓reduceIte,reduceIte,Qa,Qh,Qb,Qc,Qd,Qe,Qf,Qg,reduceCtorEq, *,-hs,-hsk,-hb3,-f3]
 |with_reducible refine fun(bn:Bool) hbn=>?_))
    refine Qs [24,25,26,31,32] (fun m ts'=>∃(j:Nat),∃(g':Nat),∃(zs:List Key),m=r_rules[i].split.length-j∧j≤r_rules[i].split.length∧zs.length≤1+4*i+j∧ys++Zk r_rules[i].split=zs++Zk (r_rules[i].split.drop j)∧ts'.tmp 3=.os 3 g' zs.length∧ts'.gen 3=g'∧ts'.obj 3=.arr 2 (Ja zs)∧ts'.tmp 33=.int .i64 j) r_rules[i].split.length ?_ ?_
    ·refine⟨0,g,ys,rfl,Nat.zero_le _,by omega,rfl,?_⟩
     simp only[go_sem,↓reduceIte,reduceIte,Qa,Qh,Qb,Qc,Qd,Qe,Qf,Qg,reduceCtorEq, *,-hs,-hsk,-hb3,-f3]
    ·revert hM f3
     intro hM0 f30
     rintro m A hM ts' hk ⟨j,g',zs,hm,f1,f2,f3,s1,s2,s3,s4⟩
     simp only[go_sem,↓reduceIte,reduceIte,Qa,Qh,Qb,Qc,Qd,Qe,Qf,Qg,reduceCtorEq, *] at hk
     by_cases hjt:j<r_rules[i].split.length
     ·rw[List.drop_eq_getElem_cons hjt,JlA] at f3
      have hr1:V0 (zs.length+1) 24:=JaV (by omega) (by decide)
      (repeat' (first
 | (with_reducible first|refine callX.by (Vn _ _ _ _ _ _ _ ?_ ?_ ?_) ?_|refine callX.by Vv ?_)
 | (with_reducible refine callX.ar ?_ ?_ (Zs ?_ ?_);(focus(simp only[go_sem,↓reduceIte,reduceIte,Qa,Qh,Qb,Qc,Qd,Qe,Qf,Qg,reduceCtorEq, *,-hs,-hsk,-hb3,-f3,-f30];first|done|rfl)))
 |with_reducible refine callX.by (Vq _ _ _ _) ?_
 | (with_reducible refine callX.mv ?_ ?_ ?_ (Ze ?_ ?_);(focus(simp only[go_sem,↓reduceIte,reduceIte,Qa,Qh,Qb,Qc,Qd,Qe,Qf,Qg,reduceCtorEq, *,-hs,-hsk,-hb3,-f3,-f30];first|done|rfl));(focus(simp only[go_sem,↓reduceIte,reduceIte,Qa,Qh,Qb,Qc,Qd,Qe,Qf,Qg,reduceCtorEq, *,-hs,-hsk,-hb3,-f3,-f30];first|done|rfl)))
 | (with_reducible first|assumption|(refine Qw hK _ ?_;clear hK K)|refine Qw ‹_› _ ?_|refine Qx ‹_› ?_|refine Qi fun K hK=>?_|refine Qj T fun K hK=>?_|refine Ql fun A B hA hB=>?_|refine Qm ?_|refine Qn ?_|refine Qp ?_|refine Qr ?_)
 | ((with_reducible first|apply Qy|apply Qz|apply QA)<;>intro hb<;>try simp only[nr] at hb)
 |simp only[go_sem,↓reduceIte,reduceIte,Qa,Qh,Qb,Qc,Qd,Qe,Qf,Qg,reduceCtorEq, *,-hs,-hsk,-hb3,-f3,-f30]
 |with_reducible refine fun(bn:Bool) hbn=>?_))
      all_goals ((repeat clear hK);(repeat clear hA);(repeat clear hB))
      ·(refine hM.onE (r_rules[i].split.length-(j+1)) (Ent.ren 3 45 ?_ ?_) ?_ ?_ ?_;(focus(simp only[go_sem,↓reduceIte,reduceIte,Qa,Qh,Qb,Qc,Qd,Qe,Qf,Qg,reduceCtorEq, *,Ji hjt hxs,List.length_append,-f3,-f30,-hM0];first|done|rfl));(focus(simp only[go_sem,↓reduceIte,reduceIte,Qa,Qh,Qb,Qc,Qd,Qe,Qf,Qg,reduceCtorEq, *,Ji hjt hxs,List.length_append,-f3,-f30,-hM0];first|done|rfl));omega;(focus(simp only[go_sem,↓reduceIte,reduceIte,Qa,Qh,Qb,Qc,Qd,Qe,Qf,Qg,reduceCtorEq, *,Ji hjt hxs,List.length_append,-f3,-f30,-hM0];done));refine⟨j+1,g'+1,zs++[⟨2,r_rules[i].split[j].cluster⟩],rfl,by omega,by simp;omega,by rw[f3,if_pos hb,List.append_assoc],?_⟩;simp only[go_sem,↓reduceIte,reduceIte,Qa,Qh,Qb,Qc,Qd,Qe,Qf,Qg,reduceCtorEq, *,Ji hjt hxs,List.length_append,-f3,-f30,-hM0];done)
      ·rw[if_neg (by omega),List.nil_append] at f3
       (refine hM.on (r_rules[i].split.length-(j+1)) (by omega) (by simp only[go_sem,↓reduceIte,reduceIte,Qa,Qh,Qb,Qc,Qd,Qe,Qf,Qg,reduceCtorEq, *,Ji hjt hxs,-f3,-f30,-hM0]) ⟨j+1,g',zs,rfl,by omega,by omega,f3,?_⟩;simp only[go_sem,↓reduceIte,reduceIte,Qa,Qh,Qb,Qc,Qd,Qe,Qf,Qg,reduceCtorEq, *,Ji hjt hxs,-f3,-f30,-hM0];done)
     ·rw[List.drop_eq_nil_of_le (by omega)] at f3
      (repeat' (first
 | (with_reducible first|refine callX.by (Vn _ _ _ _ _ _ _ ?_ ?_ ?_) ?_|refine callX.by Vv ?_)
 | (with_reducible refine callX.ar ?_ ?_ (Zs ?_ ?_);(focus(simp only[go_sem,↓reduceIte,reduceIte,Qa,Qh,Qb,Qc,Qd,Qe,Qf,Qg,reduceCtorEq, *,-hs,-hsk,-hb3,-f3,-f30];first|done|rfl)))
 |with_reducible refine callX.by (Vq _ _ _ _) ?_
 | (with_reducible refine callX.mv ?_ ?_ ?_ (Ze ?_ ?_);(focus(simp only[go_sem,↓reduceIte,reduceIte,Qa,Qh,Qb,Qc,Qd,Qe,Qf,Qg,reduceCtorEq, *,-hs,-hsk,-hb3,-f3,-f30];first|done|rfl));(focus(simp only[go_sem,↓reduceIte,reduceIte,Qa,Qh,Qb,Qc,Qd,Qe,Qf,Qg,reduceCtorEq, *,-hs,-hsk,-hb3,-f3,-f30];first|done|rfl)))
 | (with_reducible first|assumption|(refine Qw hK _ ?_;clear hK K)|refine Qw ‹_› _ ?_|refine Qx ‹_› ?_|refine Qi fun K hK=>?_|refine Qj T fun K hK=>?_|refine Ql fun A B hA hB=>?_|refine Qm ?_|refine Qn ?_|refine Qp ?_|refine Qr ?_)
 | ((with_reducible first|apply Qy|apply Qz|apply QA)<;>intro hb<;>try simp only[nr] at hb)
 |simp only[go_sem,↓reduceIte,reduceIte,Qa,Qh,Qb,Qc,Qd,Qe,Qf,Qg,reduceCtorEq, *,-hs,-hsk,-hb3,-f3,-f30]
 |with_reducible refine fun(bn:Bool) hbn=>?_))
      all_goals ((repeat clear hK);(repeat clear hA);(repeat clear hB))
      all_goals (clear hM;revert hM0;intro hM)
      (refine hM.on (r_rules.length-(i+1)) (by omega) (by simp only[go_sem,↓reduceIte,reduceIte,Qa,Qh,Qb,Qc,Qd,Qe,Qf,Qg,reduceCtorEq, *,Ji hlt hl,-f3,-f30,-hs,-hsk,-hb3]) ⟨i+1,g',zs,rfl,by omega,by omega,by rw[f30,←List.append_assoc,f3];simp[Zk],?_⟩;simp only[go_sem,↓reduceIte,reduceIte,Qa,Qh,Qb,Qc,Qd,Qe,Qf,Qg,reduceCtorEq, *,Ji hlt hl,-f3,-f30,-hs,-hsk,-hb3];done)
   ·rw[List.drop_eq_nil_of_le (by omega)] at f3
    have e:ys=bs++Vl r_rules:=by rw[f3];simp[Vl]
    subst e
    clear f3
    have hk1:=Jaa (bs++Vl r_rules)
    have htk:(JH (bs++Vl r_rules)).take (bs++Vl r_rules).length=JH (bs++Vl r_rules):=List.take_of_length_le (by omega)
    have htk2:(JH (bs++Vl r_rules)).take (bs.length+(Vl r_rules).length)=JH (bs++Vl r_rules):=List.take_of_length_le (by rw[hk1,List.length_append];exact Nat.le_refl _)
    have hsm1:Jc (bs++Vl r_rules).length:=by unfold Jc;omega
    have hsm2:Jc (JH (bs++Vl r_rules)).length:=by rw[hk1];exact hsm1
    (repeat' (first
 | (with_reducible first|refine callX.by (Vn _ _ _ _ _ _ _ ?_ ?_ ?_) ?_|refine callX.by Vv ?_)
 | (with_reducible refine callX.ar ?_ ?_ (Zs ?_ ?_);(focus(simp only[go_sem,↓reduceIte,reduceIte,Qa,Qh,Qb,Qc,Qd,Qe,Qf,Qg,reduceCtorEq, *,Nat.le_refl,-hs,-hsk,-hb3];first|done|rfl)))
 |with_reducible refine callX.by (Vq _ _ _ _) ?_
 | (with_reducible refine callX.mv ?_ ?_ ?_ (Ze ?_ ?_);(focus(simp only[go_sem,↓reduceIte,reduceIte,Qa,Qh,Qb,Qc,Qd,Qe,Qf,Qg,reduceCtorEq, *,Nat.le_refl,-hs,-hsk,-hb3];first|done|rfl));(focus(simp only[go_sem,↓reduceIte,reduceIte,Qa,Qh,Qb,Qc,Qd,Qe,Qf,Qg,reduceCtorEq, *,Nat.le_refl,-hs,-hsk,-hb3];first|done|rfl)))
 | (with_reducible first|assumption|(refine Qw hK _ ?_;clear hK K)|refine Qw ‹_› _ ?_|refine Qx ‹_› ?_|refine Qi fun K hK=>?_|refine Qj T fun K hK=>?_|refine Ql fun A B hA hB=>?_|refine Qm ?_|refine Qn ?_|refine Qp ?_|refine Qr ?_)
 | ((with_reducible first|apply Qy|apply Qz|apply QA)<;>intro hb<;>try simp only[nr] at hb)
 |simp only[go_sem,↓reduceIte,reduceIte,Qa,Qh,Qb,Qc,Qd,Qe,Qf,Qg,reduceCtorEq, *,Nat.le_refl,-hs,-hsk,-hb3]
 |with_reducible refine fun(bn:Bool) hbn=>?_))
    all_goals ((repeat clear hK);(repeat clear hA);(repeat clear hB))
    all_goals rfl
@[go_sem] def Zx:List (List Nat×List Nat):=[([30],[33,34,35,36,37,38,39,40,41,42,43,44,45,46]),([31],[]),([32],[]),([33],[30,34,35,38,39,40,41,42,43,44,45,46]),([34],[30,33,37,38,39,40,41,42,43,44,45,46]),([35],[30,33,38,39,40,41,42,43,44,45,46]),([36],[30,39,40,41,42,43,44,45,46]),([37],[30,34,39,40,41,42,45,46]),([38],[30,33,34,35,39,40,41,42,46]),([39],[30,33,34,35,36,37,38,40,43,44,45,46]),([40],[30,33,34,35,36,37,38,39,43,44,45,46]),([41],[30,33,34,35,36,37,38,44,45,46]),([42],[30,33,34,35,36,37,38,45,46]),([43],[30,33,34,35,36,39,40,46]),([44],[30,33,34,35,36,39,40,41]),([45],[30,33,34,35,36,37,39,40,41,42]),([46],[30,33,34,35,36,37,38,39,40,41,42,43])]
def ZE:List Res→Int
 | []=>0
 |r :: l=>if Yb r=0 then ZE l else Yb r
def YM:List Res→Bool
 | []=>true
 |a :: l=>match l with
  | []=>true
  |b :: _=>decide (JR (Jp a) (Jp b)<0) && YM l
def JaS:List Res→List (Int×Bool)→Bool
 | [],_=>true
 |r :: l,M=>if(JB M r.port).getD false then false else JaS l (JO M r.port true)
def Vb(l:List Res):Int:=if 64<l.length then 3 else if ZE l≠0 then ZE l else if YM l=false then 2 else if JaS (Yz l 0) []=false then 13 else 0
theorem Jje(a b:Res)(l:List Res):YM (a :: b :: l)=(decide (JR (Jp a) (Jp b)<0) && YM (b :: l)):=rfl
set_option maxHeartbeats 4000000 in
theorem JbV(xs:List Res)(hl:Jc xs.length)(hs:∀r∈xs,JD r):CallR Tryz.prog 141 [.slice false (Ja xs)] (.val (.int .i64 (Vb xs))):=by
 by_cases h64:64<xs.length
 ·have e:Vb xs=3:=by simp[Vb,h64]
  rw[e]
  refine CallR.go1 (T:=T) Tryz.call141 Tryz.func141 rfl Tryz.ntmps141 (congrArg Array.toList Tryz.results141) (by decide) fun ts hn h0=>?_
  (repeat' (first
 | (with_reducible first|refine callX.by (Vn _ _ _ _ _ _ _ ?_ ?_ ?_) ?_|refine callX.by Vv ?_|refine callX.by (Va _ _ _ _ _ _ _) ?_|refine callX.by (Vq _ _ _ _) ?_|refine callX.by (ZT _ _ ?_) ?_|assumption|(refine Qw hK _ ?_;clear hK K)|refine Qw ‹_› _ ?_|refine Qx ‹_› ?_|refine Qi fun K hK=>?_|refine Qj T fun K hK=>?_|refine Qk (id:=13) T mixed Zx (by kernel_rfl) fun K hK=>?_|refine Ql fun A B hA hB=>?_|refine Qm ?_|refine Qn ?_|refine Qp ?_|refine Qr ?_)
 | ((with_reducible first|apply Qy|apply Qz|apply QA)<;>intro hb<;>try simp only[nr] at hb)
 |simp only[go_sem,↓reduceIte,reduceIte,Qa,Qh,Qb,Qc,Qd,Qe,Qf,Qg,reduceCtorEq, *,-hs,-e]
 |with_reducible refine fun(bn:Bool) hbn=>?_))
 have hl64:xs.length≤64:=by omega
 refine CallR.go1 (T:=T) Tryz.call141 Tryz.func141 rfl Tryz.ntmps141 (congrArg Array.toList Tryz.results141) (by decide) fun ts hn h0=>?_
 (repeat' (first
 | (with_reducible first|refine callX.by (Vn _ _ _ _ _ _ _ ?_ ?_ ?_) ?_|refine callX.by Vv ?_|refine callX.by (Va _ _ _ _ _ _ _) ?_|refine callX.by (Vq _ _ _ _) ?_|refine callX.by (ZT _ _ ?_) ?_|assumption|(refine Qw hK _ ?_;clear hK K)|refine Qw ‹_› _ ?_|refine Qx ‹_› ?_|refine Qi fun K hK=>?_|refine Qj T fun K hK=>?_|refine Qk (id:=13) T mixed Zx (by kernel_rfl) fun K hK=>?_|refine Ql fun A B hA hB=>?_|refine Qm ?_|refine Qn ?_|refine Qp ?_|refine Qr ?_)
 | ((with_reducible first|apply Qy|apply Qz|apply QA)<;>intro hb<;>try simp only[nr] at hb)
 |simp only[go_sem,↓reduceIte,reduceIte,Qa,Qh,Qb,Qc,Qd,Qe,Qf,Qg,reduceCtorEq, *,-hs]
 |with_reducible refine fun(bn:Bool) hbn=>?_))
 refine Qs [0,13,14] (fun m ts'=>∃(i:Nat),m=xs.length-i∧i≤xs.length∧ZE xs=ZE (xs.drop i)∧ts'.tmp 15=.int .i64 i) xs.length ?_ ?_
 ·refine⟨0,?_⟩
  simp only[go_sem,↓reduceIte,reduceIte,Qa,Qh,Qb,Qc,Qd,Qe,Qf,Qg,reduceCtorEq, *,-hs]
 ·rintro m A hM ts' hk ⟨i,hm,f1,f2,s1⟩
  simp only[go_sem,↓reduceIte,reduceIte,Qa,Qh,Qb,Qc,Qd,Qe,Qf,Qg,reduceCtorEq, *] at hk
  by_cases hlt:i<xs.length
  ·rw[List.drop_eq_getElem_cons hlt,ZE] at f2
   obtain⟨_,_,hsl,hsr,hsh⟩:=hs _ (QC hlt)
   (repeat' (first
 | (with_reducible first|refine callX.by (Vn _ _ _ _ _ _ _ ?_ ?_ ?_) ?_|refine callX.by Vv ?_|refine callX.by (Va _ _ _ _ _ _ _) ?_|refine callX.by (Vq _ _ _ _) ?_|refine callX.by (ZT _ _ ?_) ?_|assumption|(refine Qw hK _ ?_;clear hK K)|refine Qw ‹_› _ ?_|refine Qx ‹_› ?_|refine Qi fun K hK=>?_|refine Qj T fun K hK=>?_|refine Qk (id:=13) T mixed Zx (by kernel_rfl) fun K hK=>?_|refine Ql fun A B hA hB=>?_|refine Qm ?_|refine Qn ?_|refine Qp ?_|refine Qr ?_)
 | ((with_reducible first|apply Qy|apply Qz|apply QA)<;>intro hb<;>try simp only[nr] at hb)
 |simp only[go_sem,↓reduceIte,reduceIte,Qa,Qh,Qb,Qc,Qd,Qe,Qf,Qg,reduceCtorEq, *,-hs,-hsr,-f2]
 |with_reducible refine fun(bn:Bool) hbn=>?_))
   all_goals ((repeat clear hK);(repeat clear hA);(repeat clear hB))
   ·rw[if_neg (by simpa using hb)] at f2
    have hb':¬Yb xs[i]=0:=by simpa using hb
    simp[Vb,h64,f2,hb']
   ·rw[if_pos (by simpa using hb)] at f2
    (refine hM.on (xs.length-(i+1)) (by omega) (by simp only[go_sem,↓reduceIte,reduceIte,Qa,Qh,Qb,Qc,Qd,Qe,Qf,Qg,reduceCtorEq, *,Ji hlt hl,-hs,-hsr,-f2]) ⟨i+1,rfl,by omega,f2,?_⟩;simp only[go_sem,↓reduceIte,reduceIte,Qa,Qh,Qb,Qc,Qd,Qe,Qf,Qg,reduceCtorEq, *,Ji hlt hl,-hs,-hsr,-f2];done)
  ·rw[List.drop_eq_nil_of_le (by omega),ZE] at f2
   have e1:Vb xs=if YM xs=false then 2 else if JaS (Yz xs 0) []=false then 13 else 0:=by simp[Vb,h64,f2]
   clear f2
   have h00:¬(0:Int)<0:=by decide
   (repeat' (first
 | (with_reducible first|refine callX.by (Vn _ _ _ _ _ _ _ ?_ ?_ ?_) ?_|refine callX.by Vv ?_|refine callX.by (Va _ _ _ _ _ _ _) ?_|refine callX.by (Vq _ _ _ _) ?_|refine callX.by (ZT _ _ ?_) ?_|assumption|(refine Qw hK _ ?_;clear hK K)|refine Qw ‹_› _ ?_|refine Qx ‹_› ?_|refine Qi fun K hK=>?_|refine Qj T fun K hK=>?_|refine Qk (id:=13) T mixed Zx (by kernel_rfl) fun K hK=>?_|refine Ql fun A B hA hB=>?_|refine Qm ?_|refine Qn ?_|refine Qp ?_|refine Qr ?_)
 | ((with_reducible first|apply Qy|apply Qz|apply QA)<;>intro hb<;>try simp only[nr] at hb)
 |simp only[go_sem,↓reduceIte,reduceIte,Qa,Qh,Qb,Qc,Qd,Qe,Qf,Qg,reduceCtorEq, *,-hs,-e1]
 |with_reducible refine fun(bn:Bool) hbn=>?_))
   refine Qs [0,26] (fun m ts'=>∃(k:Nat),m=xs.length-k∧k≤xs.length∧YM xs=YM (xs.drop (k-1))∧ts'.tmp 27=.int .i64 k) xs.length ?_ ?_
   ·refine⟨0,?_⟩
    simp only[go_sem,↓reduceIte,reduceIte,Qa,Qh,Qb,Qc,Qd,Qe,Qf,Qg,reduceCtorEq, *,-hs,-e1]
   ·clear hM
    rintro m A hM ts' hk ⟨k,hm,f1,f2,s1⟩
    simp only[go_sem,↓reduceIte,reduceIte,Qa,Qh,Qb,Qc,Qd,Qe,Qf,Qg,reduceCtorEq, *] at hk
    by_cases hkt:k<xs.length
    ·by_cases hk0:k=0
     ·subst hk0
      have hkt':(0:Int)<(xs.length:Int):=by omega
      have w01:IntKind.i64.wrap (0+1)=((1:Nat):Int):=by decide
      (repeat' (first
 | (with_reducible first|refine callX.by (Vn _ _ _ _ _ _ _ ?_ ?_ ?_) ?_|refine callX.by Vv ?_|refine callX.by (Va _ _ _ _ _ _ _) ?_|refine callX.by (Vq _ _ _ _) ?_|refine callX.by (ZT _ _ ?_) ?_|assumption|(refine Qw hK _ ?_;clear hK K)|refine Qw ‹_› _ ?_|refine Qx ‹_› ?_|refine Qi fun K hK=>?_|refine Qj T fun K hK=>?_|refine Qk (id:=13) T mixed Zx (by kernel_rfl) fun K hK=>?_|refine Ql fun A B hA hB=>?_|refine Qm ?_|refine Qn ?_|refine Qp ?_|refine Qr ?_)
 | ((with_reducible first|apply Qy|apply Qz|apply QA)<;>intro hb<;>try simp only[nr] at hb)
 |simp only[go_sem,↓reduceIte,reduceIte,Qa,Qh,Qb,Qc,Qd,Qe,Qf,Qg,reduceCtorEq, *,-hs,-e1,-f2]
 |with_reducible refine fun(bn:Bool) hbn=>?_))
      all_goals ((repeat clear hK);(repeat clear hA);(repeat clear hB))
      (refine hM.on (xs.length-1) (by omega) (by simp only[go_sem,↓reduceIte,reduceIte,Qa,Qh,Qb,Qc,Qd,Qe,Qf,Qg,reduceCtorEq, *,w01,-hs,-e1,-f2]) ⟨1,rfl,by omega,f2,?_⟩;simp only[go_sem,↓reduceIte,reduceIte,Qa,Qh,Qb,Qc,Qd,Qe,Qf,Qg,reduceCtorEq, *,w01,-hs,-e1,-f2];done)
     ·have hk1:k-1<xs.length:=by omega
      have hk2:(0:Int)<(k:Int):=by omega
      have hk3:IntKind.i64.wrap ((k:Int)-1)=((k-1:Nat):Int):=by
       rw[show(k:Int)-1=((k-1:Nat):Int) by omega];exact IntWalk.i64_in _ (by unfold Jc at hl;omega)
      rw[List.drop_eq_getElem_cons hk1,show k-1+1=k by omega,List.drop_eq_getElem_cons hkt,Jje] at f2
      (repeat' (first
 | (with_reducible first|refine callX.by (Vn _ _ _ _ _ _ _ ?_ ?_ ?_) ?_|refine callX.by Vv ?_|refine callX.by (Va _ _ _ _ _ _ _) ?_|refine callX.by (Vq _ _ _ _) ?_|refine callX.by (ZT _ _ ?_) ?_|assumption|(refine Qw hK _ ?_;clear hK K)|refine Qw ‹_› _ ?_|refine Qx ‹_› ?_|refine Qi fun K hK=>?_|refine Qj T fun K hK=>?_|refine Qk (id:=13) T mixed Zx (by kernel_rfl) fun K hK=>?_|refine Ql fun A B hA hB=>?_|refine Qm ?_|refine Qn ?_|refine Qp ?_|refine Qr ?_)
 | ((with_reducible first|apply Qy|apply Qz|apply QA)<;>intro hb<;>try simp only[nr] at hb)
 |simp only[go_sem,↓reduceIte,reduceIte,Qa,Qh,Qb,Qc,Qd,Qe,Qf,Qg,reduceCtorEq, *,-hs,-e1,-f2]
 |with_reducible refine fun(bn:Bool) hbn=>?_))
      all_goals ((repeat clear hK);(repeat clear hA);(repeat clear hB))
      ·have hb':¬JR (Jp xs[k-1]) (Jp xs[k])<0:=by simp only[Jp];omega
       rw[e1,f2]
       simp[hb']
      ·have hb':JR (Jp xs[k-1]) (Jp xs[k])<0:=by simp only[Jp];omega
       rw[decide_eq_true hb',Bool.true_and,←List.drop_eq_getElem_cons hkt] at f2
       (refine hM.on (xs.length-(k+1)) (by omega) (by simp only[go_sem,↓reduceIte,reduceIte,Qa,Qh,Qb,Qc,Qd,Qe,Qf,Qg,reduceCtorEq, *,Ji hkt hl,-hs,-e1,-f2]) ⟨k+1,rfl,by omega,f2,?_⟩;simp only[go_sem,↓reduceIte,reduceIte,Qa,Qh,Qb,Qc,Qd,Qe,Qf,Qg,reduceCtorEq, *,Ji hkt hl,-hs,-e1,-f2];done)
    ·have hup:YM xs=true:=by
      rw[f2]
      by_cases h0:xs.length=0
      ·rw[List.length_eq_zero_iff.1 h0];simp[YM]
      ·rw[List.drop_eq_getElem_cons (show k-1<xs.length by omega),List.drop_eq_nil_of_le (by omega)]
       rfl
     rw[hup,if_neg (by simp)] at e1
     clear f2 hup
     have hyl:(Yz xs 0).length≤64:=Nat.le_trans (List.length_filter_le _ _) hl64
     have hys:Jc (Yz xs 0).length:=by unfold Jc;omega
     (repeat' (first
 | (with_reducible first|refine callX.by (Vn _ _ _ _ _ _ _ ?_ ?_ ?_) ?_|refine callX.by Vv ?_|refine callX.by (Va _ _ _ _ _ _ _) ?_|refine callX.by (Vq _ _ _ _) ?_|refine callX.by (ZT _ _ ?_) ?_|assumption|(refine Qw hK _ ?_;clear hK K)|refine Qw ‹_› _ ?_|refine Qx ‹_› ?_|refine Qi fun K hK=>?_|refine Qj T fun K hK=>?_|refine Qk (id:=13) T mixed Zx (by kernel_rfl) fun K hK=>?_|refine Ql fun A B hA hB=>?_|refine Qm ?_|refine Qn ?_|refine Qp ?_|refine Qr ?_)
 | ((with_reducible first|apply Qy|apply Qz|apply QA)<;>intro hb<;>try simp only[nr] at hb)
 |simp only[go_sem,↓reduceIte,reduceIte,Qa,Qh,Qb,Qc,Qd,Qe,Qf,Qg,reduceCtorEq, *,-hs,-e1]
 |with_reducible refine fun(bn:Bool) hbn=>?_))
     refine Qs [50,51] (fun m ts'=>∃(j:Nat),∃(M:List (Int×Bool)),∃(g:Nat),m=(Yz xs 0).length-j∧j≤(Yz xs 0).length∧JaS (Yz xs 0) []=JaS ((Yz xs 0).drop j) M∧ts'.tmp 7=.mref 48 g∧ts'.gen 48=g∧ts'.obj 48=.mp (Ju M) (Jz M)∧ts'.tmp 52=.int .i64 j) (Yz xs 0).length ?_ ?_
     ·refine⟨0,[],ts'.gen 48+1,rfl,Nat.zero_le _,rfl,?_⟩
      simp only[go_sem,↓reduceIte,reduceIte,Qa,Qh,Qb,Qc,Qd,Qe,Qf,Qg,reduceCtorEq, *,-hs,-e1]
     ·clear hM
      rintro m A hM ts' hk ⟨j,M,g,hm,f1,f2,s1,s2,s3,s4⟩
      simp only[go_sem,↓reduceIte,reduceIte,Qa,Qh,Qb,Qc,Qd,Qe,Qf,Qg,reduceCtorEq, *] at hk
      by_cases hjt:j<(Yz xs 0).length
      ·rw[List.drop_eq_getElem_cons hjt,JaS] at f2
       (repeat' (first
 | (with_reducible first|refine callX.by (Vn _ _ _ _ _ _ _ ?_ ?_ ?_) ?_|refine callX.by Vv ?_|refine callX.by (Va _ _ _ _ _ _ _) ?_|refine callX.by (Vq _ _ _ _) ?_|refine callX.by (ZT _ _ ?_) ?_|assumption|(refine Qw hK _ ?_;clear hK K)|refine Qw ‹_› _ ?_|refine Qx ‹_› ?_|refine Qi fun K hK=>?_|refine Qj T fun K hK=>?_|refine Qk (id:=13) T mixed Zx (by kernel_rfl) fun K hK=>?_|refine Ql fun A B hA hB=>?_|refine Qm ?_|refine Qn ?_|refine Qp ?_|refine Qr ?_)
 | ((with_reducible first|apply Qy|apply Qz|apply QA)<;>intro hb<;>try simp only[nr] at hb)
 |simp only[go_sem,↓reduceIte,reduceIte,Qa,Qh,Qb,Qc,Qd,Qe,Qf,Qg,reduceCtorEq, *,-hs,-e1,-f2]
 |with_reducible refine fun(bn:Bool) hbn=>?_))
       all_goals ((repeat clear hK);(repeat clear hA);(repeat clear hB))
       ·rw[if_pos (by simpa using hb)] at f2
        rw[e1,f2];rfl
       ·rw[if_neg (by simpa using hb)] at f2
        (refine hM.on ((Yz xs 0).length-(j+1)) (by omega) (by simp only[go_sem,↓reduceIte,reduceIte,Qa,Qh,Qb,Qc,Qd,Qe,Qf,Qg,reduceCtorEq, *,Ji hjt hys,-hs,-e1,-f2]) ⟨j+1,JO M (Yz xs 0)[j].port true,g,rfl,by omega,f2,?_⟩;simp only[go_sem,↓reduceIte,reduceIte,Qa,Qh,Qb,Qc,Qd,Qe,Qf,Qg,reduceCtorEq, *,Ji hjt hys,-hs,-e1,-f2];done)
      ·rw[List.drop_eq_nil_of_le (by omega),JaS] at f2
       have e2:Vb xs=0:=by rw[e1,f2];rfl
       (repeat' (first
 | (with_reducible first|refine callX.by (Vn _ _ _ _ _ _ _ ?_ ?_ ?_) ?_|refine callX.by Vv ?_|refine callX.by (Va _ _ _ _ _ _ _) ?_|refine callX.by (Vq _ _ _ _) ?_|refine callX.by (ZT _ _ ?_) ?_|assumption|(refine Qw hK _ ?_;clear hK K)|refine Qw ‹_› _ ?_|refine Qx ‹_› ?_|refine Qi fun K hK=>?_|refine Qj T fun K hK=>?_|refine Qk (id:=13) T mixed Zx (by kernel_rfl) fun K hK=>?_|refine Ql fun A B hA hB=>?_|refine Qm ?_|refine Qn ?_|refine Qp ?_|refine Qr ?_)
 | ((with_reducible first|apply Qy|apply Qz|apply QA)<;>intro hb<;>try simp only[nr] at hb)
 |simp only[go_sem,↓reduceIte,reduceIte,Qa,Qh,Qb,Qc,Qd,Qe,Qf,Qg,reduceCtorEq, *,-hs,-e1,-f2]
 |with_reducible refine fun(bn:Bool) hbn=>?_))
def awq:Res:=⟨0,[108],0,80,[97],[],[]⟩
theorem Jgn:Yb awq=0:=by decide
theorem JjT:JK awq=[⟨1,[97]⟩]:=by
 unfold JK
 rw[if_pos Jgn]
 have e:Zd awq++Vl awq.rules'=[⟨1,[97]⟩]:=by decide
 rw[e]
 have e2:JH [⟨1,[97]⟩]=[(⟨1,[97]⟩:Key)]:=by simp[JH]
 rw[e2];rfl
theorem Jay:CallR Tryz.prog 179 [.agg [.int .i64 0,.str [108],.int .i64 0,.int .i64 80,.str [97],.slice false [],.slice false []]] (.own 2 [.agg [.int .i64 1,.str [97]]]):=by
 have h:=Jan 0 [108] 0 80 [97] [] [] (by simp[Jc]) (by simp[Jc]) (by simp)
 have e:=JjT;unfold awq at e
 rw[e] at h;exact h
theorem Vv:CallR Tryz.prog 157 [.agg [.int .i64 0,.str [108],.int .i64 0,.int .i64 80,.str [97],.slice false [],.slice false []]] (.val (.int .i64 0)):=by
 have h:=Vn 0 [108] 0 80 [97] [] [] (by simp[Jc]) (by simp[Jc]) (by simp)
 have e:=Jgn;unfold awq at e
 rw[e] at h;exact h
theorem JjU:CallR Tryz.prog 107 [.agg [.int .i64 0,.str [108],.int .i64 0,.int .i64 80,.str [97],.slice false [],.slice false []],.agg [.int .i64 0,.str [108],.int .i64 0,.int .i64 80,.str [97],.slice false [],.slice false []]] (.val (.bool true)):=by
 have h:=Jed 0 [108] 0 80 [97] [] [] 0 [108] 0 80 [97] [] [] (by simp[Jc]) (by simp[Jc]) (by simp)
 rw[decide_eq_true rfl] at h
 exact h
theorem Jh9{next:Int}(hn:next≤2147483647):∀(l:List Snap) (a:Int),0≤a→a≤next→Jag next l a=JaT next l a
 | [],_,_,_=>rfl
 |s :: r,a,h0,h1=>by
  have hw:IntKind.i64.wrap (a+1)=a+1:=IntWalk.i64_in _ (by omega)
  rw[Jag,JaT,hw]
  by_cases h2:a+1≤s.id∧s.id≤next
  ·rw[Jh9 hn r s.id (by omega) h2.2]
   congr 1
   rw[Bool.eq_iff_iff]
   by_cases hr:r=[]
   ·simp only[YN,hr,if_true,ne_eq,not_true,decide_false,Bool.and_false,Bool.or_false,Bool.and_eq_true,Bool.not_eq_true',Bool.or_eq_false_iff,decide_eq_true_eq,decide_eq_false_iff_not]
    omega
   ·simp only[YN,hr,if_false,ne_eq,not_false_eq_true,decide_true,Bool.and_true,Bool.and_eq_true,Bool.not_eq_true',Bool.or_eq_false_iff,decide_eq_true_eq,decide_eq_false_iff_not]
    omega
  ·have e1:YN s.id (a+1) next=false:=by
    simp only[YN,Bool.and_eq_false_iff,decide_eq_false_iff_not];omega
   have e2:(decide (s.id≤a) || decide (next<s.id))=true:=by
    simp only[Bool.or_eq_true,decide_eq_true_eq];omega
   rw[e1,e2];simp
theorem Jmj(p:Pins):ZI p=JdZ p:=by
 unfold ZI JdZ
 by_cases h:0≤p.next'∧p.next'≤2147483647
 ·rw[Jh9 h.2 _ 0 (by omega) h.1]
  generalize JaT p.next' p.snaps 0=b
  rw[Bool.eq_iff_iff]
  simp only[YN,Bool.and_eq_true,Bool.not_eq_true',Bool.or_eq_false_iff,decide_eq_true_eq,decide_eq_false_iff_not]
  constructor
  ·rintro⟨h1,_,h2⟩;exact⟨⟨⟨by omega,by omega⟩,by omega⟩,h1⟩
  ·rintro⟨⟨⟨_,_⟩,h2⟩,h1⟩;exact⟨h1,h,by omega⟩
 ·have e1:YN p.next' 0 2147483647=false:=by
   simp only[YN,Bool.and_eq_false_iff,decide_eq_false_iff_not];omega
  have e2:(decide (p.next' < 0) || decide (2147483647<p.next'))=true:=by
   simp only[Bool.or_eq_true,decide_eq_true_eq];omega
  rw[e1,e2];simp
theorem Jmw(p:Pins):Jq p=Jao p:=by unfold Jq Jao;rw[Jmj]
theorem Jil{next:Int}:∀ {l:List Snap} {a:Int},JaT next l a=true→l.Pairwise (fun x y=>x.id<y.id)∧∀x∈l,a<x.id∧x.id≤next∧0≤x.pins∧x.pins≤10000
 | [],_,_=>⟨.nil,by simp⟩
 |s :: r,a,h=>by
  rw[JaT] at h
  simp only[Bool.and_eq_true,Bool.not_eq_true',Bool.or_eq_false_iff,decide_eq_false_iff_not] at h
  obtain⟨⟨⟨⟨⟨h1,h2⟩,h3⟩,h4⟩,_⟩,h5⟩:=h
  obtain⟨h6,h7⟩:=Jil h5
  refine⟨.cons (fun x hx=>(h7 x hx).1) h6,fun x hx=>?_⟩
  rcases List.mem_cons.1 hx with rfl|hx
  ·omega
  ·have:=h7 x hx;omega
theorem Jib{xs:List Snap}{id:Int}:∀ {n:Nat},n≤xs.length→J3 xs id n=-1→∀k,(h:k<xs.length)→k<n→xs[k].id≠id
 |0,_,_,k,_,hk=>by omega
 |n+1,hn,h,k,hkl,hk=>by
  rw[J3] at h
  split at h
  ·omega
  ·rename_i hne
   by_cases e:k=n
   ·subst e
    have:xs.getD k default=xs[k]:=by simp[hkl]
    rwa [this] at hne
   ·exact Jib (by omega) h k hkl (by omega)
theorem Jic{xs:List Snap}{id:Int}:∀ {n:Nat},n≤xs.length→J3 xs id n≠-1→∃k,∃h:k<xs.length,J3 xs id n=k∧xs[k].id=id
 |0,_,h=>by simp[J3] at h
 |n+1,hn,h=>by
  rw[J3] at h ⊢
  by_cases e:(xs.getD n default).id=id
  ·rw[if_pos e]
   have hlt:n<xs.length:=by omega
   have e2:xs.getD n default=xs[n]:=by simp[hlt]
   exact⟨n,hlt,rfl,by rwa [e2] at e⟩
  ·rw[if_neg e] at h ⊢
   exact Jic (by omega) h
theorem Jro{xs:List Snap}(hu:xs.Pairwise (fun x y=>x.id<y.id)){i j:Nat}(hi:i<xs.length)(hj:j<xs.length)(h:xs[i].id=xs[j].id):i=j:=by
 rw[List.pairwise_iff_getElem] at hu
 rcases Nat.lt_trichotomy i j with h1|h1|h1
 ·have:=hu i j hi hj h1;omega
 ·exact h1
 ·have:=hu j i hj hi h1;omega
theorem JkM{xs:List Snap}(hu:xs.Pairwise (fun x y=>x.id<y.id)){k:Nat}(hk:k<xs.length):xs.find? (fun x=>decide (x.id=xs[k].id))=some xs[k]:=by
 cases hf:xs.find? (fun x=>decide (x.id=xs[k].id)) with
 |none =>
  have:=List.find?_eq_none.1 hf xs[k] (QC hk)
  simp at this
 |some y =>
  have h1:=List.find?_some hf
  have h2:=List.mem_of_find?_eq_some hf
  obtain⟨j,hj,rfl⟩:=List.getElem_of_mem h2
  have:j=k:=Jro hu hj hk (by simpa using h1)
  subst this;rfl
theorem Jne(p:Pins):(Jao p).snaps.Pairwise (fun x y=>x.id<y.id):=by
 unfold Jao
 split
 ·rename_i h
  unfold JdZ at h
  simp only[Bool.and_eq_true] at h
  exact(Jil h.2).1
 ·exact .nil
theorem Jmm(p:Pins)(id:Int):J2 p id=JcG p id:=by
 unfold J2 JcG
 rw[Jmw]
 simp only
 have hu:=Jne p
 generalize (Jao p).snaps=xs at *
 by_cases h:J3 xs id xs.length=-1
 ·have hn:=Jib (Nat.le_refl _) h
  rw[h,if_pos (by omega)]
  have:xs.find? (fun x=>decide (x.id=id))=none:=by
   rw[List.find?_eq_none]
   intro x hx
   obtain⟨j,hj,rfl⟩:=List.getElem_of_mem hx
   simpa using hn j hj hj
  rw[this]
 ·obtain⟨k,hk,e,rfl⟩:=Jic (Nat.le_refl _) h
  rw[e,if_neg (by omega),JkM hu hk]
  simp[hk]
structure OkP(p:Pins):Prop where
 lo:0≤p.next'
 hi:p.next'≤2147483647
 len:p.snaps.length≤1000
 up:p.snaps.Pairwise (fun x y=>x.id<y.id)
 mem:∀x∈p.snaps,0<x.id∧x.id≤p.next'∧0≤x.pins∧x.pins≤10000
 pos:∀x∈p.snaps.dropLast,0<x.pins
def Up(l:List Key):Prop:=l.Pairwise fun x y=>JR x y<0
def Le(l:List Key):Prop:=l.Pairwise fun x y=>¬JR y x<0
theorem JlC(K:List Key):Le (JH K):=by
 have:=List.pairwise_mergeSort (le:=fun x y:Key=>!decide (JR y x<0)) (fun a b c h k=>by
  simp only[Bool.not_eq_true',decide_eq_false_iff_not] at h k ⊢
  intro h3
  by_cases h4:JR b c=0
  ·have:=JdC _ _ h4;subst this;exact h h3
  ·have:JR b c<0:=by have:=Jbr b c;omega
   exact h (Jcf _ _ _ this h3)) (fun a b=>by
  simp only[Bool.or_eq_true,Bool.not_eq_true',decide_eq_false_iff_not]
  have:=Jbr a b;omega) K
 unfold Le JH
 exact this.imp fun h=>by simpa using h
theorem JlD(K:List Key)(x:Key):x∈JH K↔x∈K:=by unfold JH;exact List.mem_mergeSort
theorem Jhy:∀ {a:Key} {r:List Key},Le (a :: r)→Up (a :: J6 (a :: r))∧∀x,x∈a :: J6 (a :: r)↔x∈a :: r
 |a,[],_=>by simp[J6,Up]
 |a,b :: r,h=>by
  obtain⟨h1,h2⟩:=List.pairwise_cons.1 h
  obtain⟨u,m⟩:=Jhy h2
  rw[J6]
  by_cases e:b=a
  ·subst e
   rw[if_pos rfl]
   exact⟨u,fun x=>by rw[m];simp⟩
  ·rw[if_neg e]
   refine⟨List.pairwise_cons.2 ⟨fun z hz=>?_,u⟩,fun x=>?_⟩
   ·have hab:JR a b<0:=by
     have h3:=h1 b (by simp)
     have h4:=Jbr a b
     by_cases h5:JR a b=0
     ·exact absurd (JdC _ _ h5).symm e
     ·omega
    rcases List.mem_cons.1 hz with rfl|hz
    ·exact hab
    ·exact Jcf _ _ _ hab ((List.pairwise_cons.1 u).1 z hz)
   ·rw[List.mem_cons,m,←List.mem_cons]
theorem Jlw{l:List Key}(h:Le l):Up (VQ l)∧∀x,x∈VQ l↔x∈l:=by
 unfold VQ
 cases l with
 |nil=>simp[J6,Up]
 |cons a r=>simpa using Jhy h
theorem Jmo(p:Pins):Up (J8 p)∧∀x,x∈J8 p↔x∈J5 (Jq p).snaps:=by
 obtain⟨h1,h2⟩:=Jlw (JlC (J5 (Jq p).snaps))
 exact⟨h1,fun x=>by rw[J8,h2,JlD]⟩
theorem JmW{r:Res}(h:¬Yb r=0):JK r=[]:=by unfold JK;rw[if_neg h]
theorem Jfy(r:Res):(JK r).length≤33:=by
 by_cases hs:Yb r=0
 ·obtain⟨b1,b2,b3⟩:=JiX (JiP hs)
  have hc:∀l:List Key,(J6 l).length≤l.length-1:=by
   intro l
   induction l with
   |nil=>simp[J6]
   |cons a r ih =>
    cases r with
    |nil=>simp[J6]
    |cons b r=>rw[J6];split<;>simp only[List.length_cons] at ih ⊢<;>omega
  have hk:∀l:List Key,(VQ l).length≤l.length:=by
   intro l;unfold VQ;rw[List.length_append];have:=hc l
   cases l with
   |nil=>simpa using this
   |cons a r=>simp only[List.length_cons,List.take_succ_cons,List.take_zero,List.length_nil] at this ⊢;omega
  have hkR:∀l:List Rule,(∀x∈l,x.split.length≤4)→(Vl l).length≤4*l.length:=by
   intro l
   induction l with
   |nil=>simp[Vl]
   |cons a r ih =>
    intro h
    rw[JhC,List.length_append]
    have:=ih fun x hx=>h x (List.mem_cons_of_mem _ hx)
    have h2:=h a (by simp)
    have h3:=JlB a.split
    simp only[List.length_cons];omega
  have hb:(Zd r).length≤1:=by unfold Zd;split<;>simp
  have:=hk (JH (Zd r++Vl r.rules'))
  rw[Jaa,List.length_append] at this
  have:=hkR _ b3
  unfold JK
  rw[if_pos hs]
  omega
 ·rw[JmW hs];simp
theorem Ja0{n:Nat}(h:n≤65536):Jc n:=by unfold Jc;omega
end Go.Proofs.YthjalhfmpffbjaaGreatDoor.Lg
