/- Parts of the proof, one behind the other. -/
import Derived.Test.YtihahfhagobnoaaGreatDoorG19
namespace Go.Proofs.YtihahfhagobnoaaGreatDoor.Lg
set_option maxRecDepth 100000
set_option linter.unusedVariables false
set_option linter.unusedSimpArgs false
open Go
open Nat renaming reduceEqDiff → Qa, reduceLT → Qb, reduceLeDiff → Qc, reduceAdd → Qd, reduceMul → Qe, reduceSub → Qf, reduceBEq → Qg
open String renaming reduceEq → Qh
open SpecC renaming seqW → Qi, regW → Qj, drawW → Qk, condW → Ql, block → Qm, skip → Qn, exit → Qp, ret → Qr, loopF → Qs
open NxK renaming out → Qw
open Nx renaming out → Qx
open condK renaming split → Qy
open gK renaming split_t → Qz, split_f → QA
open CallR renaming go1 → QD
theorem saneW_iff{w:Warm}:Vv w=true↔Vy w.c=true∧w.shown=VJ w.c∧(w.ready=true∨w.shown=[]):=by
 unfold Vv
 simp only[Bool.and_eq_true,Bool.or_eq_true,decide_eq_true_eq,and_assoc]
theorem JfW{c:Cache}(h:Vy c=true):VJ c=VI c.l:=by unfold VJ Vl;rw[if_pos h]
theorem Jc6{w:Warm}(h:Vv w=true)(adds:List Res)(gone:List Key) :
  JQ w adds gone=if(JY w.c adds gone).2=0 then (if VJ (JY w.c adds gone).1=w.shown then (⟨(JY w.c adds gone).1,w.ready,w.shown⟩,false,0) else (⟨(JY w.c adds gone).1,true,VJ (JY w.c adds gone).1⟩,true,0)) else (w,false,(JY w.c adds gone).2):=by
 have hof:Yn w=w:=by unfold Yn;rw[if_pos h]
 unfold JQ
 rw[hof]
theorem JjJ{w:Warm}(h:Vv w=true)(adds:List Res)(gone:List Key):Vv (JQ w adds gone).1=true:=by
 rw[Jc6 h]
 have hw:=saneW_iff.1 h
 split
 ·split
  ·rename_i hs
   exact saneW_iff.2 ⟨Jgw hw.1 adds gone,hs.symm,hw.2.2⟩
  ·exact saneW_iff.2 ⟨Jgw hw.1 adds gone,rfl,.inl rfl⟩
 ·exact h
theorem Joi{w:Warm}(h:Vv w=true)(adds:List Res)(gone:List Key):(JQ w adds gone).2.1=!decide (w.shown=(JQ w adds gone).1.shown):=by
 rw[Jc6 h]
 split
 ·split
  ·simp
  ·rename_i hs
   simp[Ne.symm hs]
 ·simp
theorem Jog{w:Warm}(h:Vv w=true){adds:List Res}{gone:List Key}{x:Res}(hx:x∈(JQ w adds gone).1.c.l):x∈w.c.l∨x∈adds:=by
 rw[Jc6 h] at hx
 split at hx
 ·split at hx<;>exact Jgx hx
 ·exact .inl hx
theorem Joh{w:Warm}(h:Vv w=true)(adds:List Res)(gone:List Key):(JQ w adds gone).1.ready=(w.ready || (JQ w adds gone).2.1):=by
 rw[Jc6 h]
 split
 ·split<;>simp
 ·simp
theorem Jjs{w:Warm}(h:Vv w=true):w.c.l.length≤64:=Jox (saneC_iff.1 (saneW_iff.1 h).1).2.1
theorem Jjt{w:Warm}(h:Vv w=true):w.shown=VI w.c.l:=by
 have hw:=saneW_iff.1 h
 rw[hw.2.1,JfW hw.1]
theorem JnH{w:Warm}(h:Vv w=true):w.shown.length≤64:=by
 rw[Jjt h]
 exact Nat.le_trans (JfE _) (Jjs h)
theorem JnI{w:Warm}(h:Vv w=true){x:Res}(hx:x∈w.shown):x∈w.c.l:=by
 rw[Jjt h] at hx
 exact(JiY _).subset hx
theorem Jim(n:Int):Vv ⟨⟨VL n,[]⟩,false,[]⟩=true:=by
 refine saneW_iff.2 ⟨Jik n,?_,.inr rfl⟩
 rw[JfW (Jik n)]
 show[]=VI []
 decide
def Jeq(a b:Warm):Bool:=JbW a.c b.c && decide (a.ready=b.ready) && decide (a.shown=b.shown)
theorem Jjn(a_c_cap:Int)(a_c_l:List Res)(a_ready:Bool)(a_shown:List Res)(b_c_cap:Int)(b_c_l:List Res)(b_ready:Bool)(b_shown:List Res)(hl:Jc a_c_l.length)(hs:∀r∈a_c_l,Jv r)(hl2:Jc a_shown.length)(hs2:∀r∈a_shown,Jv r):CallR Tryz.prog 47 [.agg [.int .i64 a_c_cap,.slice false (Ja a_c_l),.bool a_ready,.slice false (Ja a_shown)],.agg [.int .i64 b_c_cap,.slice false (Ja b_c_l),.bool b_ready,.slice false (Ja b_shown)]] (.val (.bool (Jeq (⟨⟨a_c_cap,a_c_l⟩,a_ready,a_shown⟩:Warm) (⟨⟨b_c_cap,b_c_l⟩,b_ready,b_shown⟩:Warm)))):=by
 have w1:=Jep a_c_cap a_c_l b_c_cap b_c_l hl hs
 have w2:=Y3 a_shown b_shown hl2 hs2
 unfold Jeq
 simp only
 generalize JbW ⟨a_c_cap,a_c_l⟩ ⟨b_c_cap,b_c_l⟩=s at *
 cases s
 ·refine CallR.go2 (T:=T) Tryz.call47 Tryz.func47 rfl Tryz.ntmps47 (congrArg Array.toList Tryz.results47) (by decide) fun ts hn h0 h1=>?_
  (repeat' (first
 | (with_reducible first|refine callX.by (w1) ?_|refine callX.by (w2) ?_|refine callX.by (Jep _ _ _ _ ?_ ?_) ?_|refine callX.by (Y3 _ _ ?_ ?_) ?_|assumption|(refine Qw hK _ ?_;clear hK K)|refine Qw ‹_› _ ?_|refine Qx ‹_› ?_|refine Qi fun K hK=>?_|refine Qj T fun K hK=>?_|refine Ql fun A B hA hB=>?_|refine Qn ?_|refine Qr ?_)
 | ((with_reducible first|apply Qy|apply Qz|apply QA)<;>intro hb<;>try simp only[nr] at hb)
 |simp only[go_sem,↓reduceIte,reduceIte,Qa,Qh,Qb,Qc,Qd,Qe,Qf,Qg,reduceCtorEq, *,-hs,-hs2,-w1,-w2]
 |with_reducible refine fun(bn:Bool) hbn=>?_))
 ·by_cases hr:a_ready=b_ready
  ·subst hr
   refine CallR.go2 (T:=T) Tryz.call47 Tryz.func47 rfl Tryz.ntmps47 (congrArg Array.toList Tryz.results47) (by decide) fun ts hn h0 h1=>?_
   (repeat' (first
 | (with_reducible first|refine callX.by (w1) ?_|refine callX.by (w2) ?_|refine callX.by (Jep _ _ _ _ ?_ ?_) ?_|refine callX.by (Y3 _ _ ?_ ?_) ?_|assumption|(refine Qw hK _ ?_;clear hK K)|refine Qw ‹_› _ ?_|refine Qx ‹_› ?_|refine Qi fun K hK=>?_|refine Qj T fun K hK=>?_|refine Ql fun A B hA hB=>?_|refine Qn ?_|refine Qr ?_)
 | ((with_reducible first|apply Qy|apply Qz|apply QA)<;>intro hb<;>try simp only[nr] at hb)
 |simp only[go_sem,↓reduceIte,reduceIte,Qa,Qh,Qb,Qc,Qd,Qe,Qf,Qg,reduceCtorEq, *,-hs,-hs2,-w1,-w2]
 |with_reducible refine fun(bn:Bool) hbn=>?_))
   all_goals simp
  ·refine CallR.go2 (T:=T) Tryz.call47 Tryz.func47 rfl Tryz.ntmps47 (congrArg Array.toList Tryz.results47) (by decide) fun ts hn h0 h1=>?_
   (repeat' (first
 | (with_reducible first|refine callX.by (w1) ?_|refine callX.by (w2) ?_|refine callX.by (Jep _ _ _ _ ?_ ?_) ?_|refine callX.by (Y3 _ _ ?_ ?_) ?_|assumption|(refine Qw hK _ ?_;clear hK K)|refine Qw ‹_› _ ?_|refine Qx ‹_› ?_|refine Qi fun K hK=>?_|refine Qj T fun K hK=>?_|refine Ql fun A B hA hB=>?_|refine Qn ?_|refine Qr ?_)
 | ((with_reducible first|apply Qy|apply Qz|apply QA)<;>intro hb<;>try simp only[nr] at hb)
 |simp only[go_sem,↓reduceIte,reduceIte,Qa,Qh,Qb,Qc,Qd,Qe,Qf,Qg,reduceCtorEq, *,-hs,-hs2,-w1,-w2]
 |with_reducible refine fun(bn:Bool) hbn=>?_))
   all_goals simp_all
theorem Jd9(next:Int)(xs:List Snap)(hl:Jc xs.length)(hs:∀x∈xs,Yq x)(ht:Jc (Va xs).length):CallR Tryz.prog 82 [.agg [.int .i64 next,.slice false (Ja xs)]] (.own 2 (Ja (J6 ⟨next,xs⟩))):=by
 have hl2:Jc (Jy ⟨next,xs⟩).snaps.length:=JfA hl
 have hs2:∀x∈(Jy ⟨next,xs⟩).snaps,Jc x.l.length:=by
  unfold Jy;split
  ·exact fun x hx=>(hs x hx).1
  ·simp
 have ht2:Jc (Va (Jy ⟨next,xs⟩).snaps).length:=by
  unfold Jy;split
  ·exact ht
  ·simp[Va,Jc]
 have ht3:Jc (JJ (Va (Jy ⟨next,xs⟩).snaps)).length:=by rw[Jaf];exact ht2
 refine QD (T:=T) Tryz.call82 Tryz.func82 rfl Tryz.ntmps82 (congrArg Array.toList Tryz.results82) (by decide) fun ts hn h0=>?_
 (repeat' (first
 | (with_reducible first|refine callX.by (JcP _ _ ?_) ?_|refine callX.by (Jf1 _ ?_) ?_)
 | (with_reducible refine callX.ar ?_ ?_ (ZK ?_ ?_);(focus(simp only[go_sem,↓reduceIte,reduceIte,Qa,Qh,Qb,Qc,Qd,Qe,Qf,Qg,reduceCtorEq, *];first|done|rfl)))
 |with_reducible refine callX.by (Vt _ _ _ _) ?_
 | (with_reducible refine callX.mv ?_ ?_ ?_ (Zv ?_ ?_);(focus(simp only[go_sem,↓reduceIte,reduceIte,Qa,Qh,Qb,Qc,Qd,Qe,Qf,Qg,reduceCtorEq, *];first|done|rfl));(focus(simp only[go_sem,↓reduceIte,reduceIte,Qa,Qh,Qb,Qc,Qd,Qe,Qf,Qg,reduceCtorEq, *];first|done|rfl)))
 | (with_reducible first|assumption|(refine Qw hK _ ?_;clear hK K)|refine Qw ‹_› _ ?_|refine Qx ‹_› ?_|refine Qi fun K hK=>?_|refine Qj T fun K hK=>?_|refine Ql fun A B hA hB=>?_|refine Qm ?_|refine Qn ?_|refine Qp ?_|refine Qr ?_)
 | ((with_reducible first|apply Qy|apply Qz|apply QA)<;>intro hb<;>try simp only[nr] at hb)
 |simp only[go_sem,↓reduceIte,reduceIte,Qa,Qh,Qb,Qc,Qd,Qe,Qf,Qg,reduceCtorEq, *]
 |with_reducible refine fun(bn:Bool) hbn=>?_))
 refine SpecC.ent (Ent.virt 3 2 (by simp only[go_sem,↓reduceIte,reduceIte,Qa,Qh,Qb,Qc,Qd,Qe,Qf,Qg,reduceCtorEq, *]) (by decide)) ?_
 refine Qs [8,9] (fun m ts'=>∃(i:Nat),∃(g:Nat),∃(ys:List Key),m=(Jy ⟨next,xs⟩).snaps.length-i∧i≤(Jy ⟨next,xs⟩).snaps.length∧Va (Jy ⟨next,xs⟩).snaps=ys++Va ((Jy ⟨next,xs⟩).snaps.drop i)∧ts'.tmp 3=.os 3 g ys.length∧ts'.gen 3=g∧ts'.obj 3=.arr 2 (Ja ys)∧ts'.tmp 10=.int .i64 i) (Jy ⟨next,xs⟩).snaps.length ?_ ?_
 ·refine⟨0,ts.gen 3+1,[],rfl,Nat.zero_le _,rfl,?_⟩
  simp only[go_sem,↓reduceIte,reduceIte,Qa,Qh,Qb,Qc,Qd,Qe,Qf,Qg,reduceCtorEq, *,YF]
 ·rintro m A hM ts' hk ⟨i,g,ys,hm,f1,f2,s1,s2,s3,s4⟩
  simp only[go_sem,↓reduceIte,reduceIte,Qa,Qh,Qb,Qc,Qd,Qe,Qf,Qg,reduceCtorEq, *] at hk
  by_cases hlt:i<(Jy ⟨next,xs⟩).snaps.length
  ·rw[List.drop_eq_getElem_cons hlt,JhH] at f2
   have hsi:=hs2 _ (List.getElem_mem hlt)
   have hlen:=congrArg List.length f2
   rw[List.length_append,List.length_append,List.length_map] at hlen
   have hr1:Vn (ys.length+(Jy ⟨next,xs⟩).snaps[i].l.length) 24:=Jao (by unfold Jc at ht2;omega) (by decide)
   have htk:((Jy ⟨next,xs⟩).snaps[i].l.map Jj).take (Jy ⟨next,xs⟩).snaps[i].l.length=(Jy ⟨next,xs⟩).snaps[i].l.map Jj:=List.take_of_length_le (by simp)
   (repeat' (first
 | (with_reducible first|refine callX.by (JcP _ _ ?_) ?_|refine callX.by (Jf1 _ ?_) ?_)
 | (with_reducible refine callX.ar ?_ ?_ (ZK ?_ ?_);(focus(simp only[go_sem,↓reduceIte,reduceIte,Qa,Qh,Qb,Qc,Qd,Qe,Qf,Qg,reduceCtorEq, *,List.length_map,-hlen,-f2];first|done|rfl)))
 |with_reducible refine callX.by (Vt _ _ _ _) ?_
 | (with_reducible refine callX.mv ?_ ?_ ?_ (Zv ?_ ?_);(focus(simp only[go_sem,↓reduceIte,reduceIte,Qa,Qh,Qb,Qc,Qd,Qe,Qf,Qg,reduceCtorEq, *,List.length_map,-hlen,-f2];first|done|rfl));(focus(simp only[go_sem,↓reduceIte,reduceIte,Qa,Qh,Qb,Qc,Qd,Qe,Qf,Qg,reduceCtorEq, *,List.length_map,-hlen,-f2];first|done|rfl)))
 | (with_reducible first|assumption|(refine Qw hK _ ?_;clear hK K)|refine Qw ‹_› _ ?_|refine Qx ‹_› ?_|refine Qi fun K hK=>?_|refine Qj T fun K hK=>?_|refine Ql fun A B hA hB=>?_|refine Qm ?_|refine Qn ?_|refine Qp ?_|refine Qr ?_)
 | ((with_reducible first|apply Qy|apply Qz|apply QA)<;>intro hb<;>try simp only[nr] at hb)
 |simp only[go_sem,↓reduceIte,reduceIte,Qa,Qh,Qb,Qc,Qd,Qe,Qf,Qg,reduceCtorEq, *,List.length_map,-hlen,-f2]
 |with_reducible refine fun(bn:Bool) hbn=>?_))
   all_goals ((repeat clear hK);(repeat clear hA);(repeat clear hB))
   (refine hM.onE ((Jy ⟨next,xs⟩).snaps.length-(i+1)) (Ent.ren 3 18 ?_ ?_) ?_ ?_ ?_;(focus(simp only[go_sem,↓reduceIte,reduceIte,Qa,Qh,Qb,Qc,Qd,Qe,Qf,Qg,reduceCtorEq, *,Jf hlt hl2,List.length_map,List.length_append,-hlen,-f2];first|done|rfl));(focus(simp only[go_sem,↓reduceIte,reduceIte,Qa,Qh,Qb,Qc,Qd,Qe,Qf,Qg,reduceCtorEq, *,Jf hlt hl2,List.length_map,List.length_append,-hlen,-f2];first|done|rfl));omega;(focus(simp only[go_sem,↓reduceIte,reduceIte,Qa,Qh,Qb,Qc,Qd,Qe,Qf,Qg,reduceCtorEq, *,Jf hlt hl2,List.length_map,List.length_append,-hlen,-f2];done));refine⟨i+1,g+1,ys++(Jy ⟨next,xs⟩).snaps[i].l.map Jj,rfl,by omega,by rw[f2,List.append_assoc],?_⟩;simp only[go_sem,↓reduceIte,reduceIte,Qa,Qh,Qb,Qc,Qd,Qe,Qf,Qg,reduceCtorEq, *,Jf hlt hl2,List.length_map,List.length_append,-hlen,-f2];done)
  ·rw[List.drop_eq_nil_of_le (by omega)] at f2
   have e:ys=Va (Jy ⟨next,xs⟩).snaps:=by rw[f2];simp[Va]
   subst e
   clear f2
   have hk1:=Jaf (Va (Jy ⟨next,xs⟩).snaps)
   have htk:(JJ (Va (Jy ⟨next,xs⟩).snaps)).take (Va (Jy ⟨next,xs⟩).snaps).length=JJ (Va (Jy ⟨next,xs⟩).snaps):=List.take_of_length_le (by omega)
   (repeat' (first
 | (with_reducible first|refine callX.by (JcP _ _ ?_) ?_|refine callX.by (Jf1 _ ?_) ?_)
 | (with_reducible refine callX.ar ?_ ?_ (ZK ?_ ?_);(focus(simp only[go_sem,↓reduceIte,reduceIte,Qa,Qh,Qb,Qc,Qd,Qe,Qf,Qg,reduceCtorEq, *,Nat.le_refl];first|done|rfl)))
 |with_reducible refine callX.by (Vt _ _ _ _) ?_
 | (with_reducible refine callX.mv ?_ ?_ ?_ (Zv ?_ ?_);(focus(simp only[go_sem,↓reduceIte,reduceIte,Qa,Qh,Qb,Qc,Qd,Qe,Qf,Qg,reduceCtorEq, *,Nat.le_refl];first|done|rfl));(focus(simp only[go_sem,↓reduceIte,reduceIte,Qa,Qh,Qb,Qc,Qd,Qe,Qf,Qg,reduceCtorEq, *,Nat.le_refl];first|done|rfl)))
 | (with_reducible first|assumption|(refine Qw hK _ ?_;clear hK K)|refine Qw ‹_› _ ?_|refine Qx ‹_› ?_|refine Qi fun K hK=>?_|refine Qj T fun K hK=>?_|refine Ql fun A B hA hB=>?_|refine Qm ?_|refine Qn ?_|refine Qp ?_|refine Qr ?_)
 | ((with_reducible first|apply Qy|apply Qz|apply QA)<;>intro hb<;>try simp only[nr] at hb)
 |simp only[go_sem,↓reduceIte,reduceIte,Qa,Qh,Qb,Qc,Qd,Qe,Qf,Qg,reduceCtorEq, *,Nat.le_refl]
 |with_reducible refine fun(bn:Bool) hbn=>?_))
   all_goals ((repeat clear hK);(repeat clear hA);(repeat clear hB))
   all_goals rfl
theorem JmN(p:Pins):(J6 p).length≤(Va (Jy p).snaps).length:=by
 unfold J6 VY
 have h1:=JhW (JJ (Va (Jy p).snaps))
 have h2:=Jaf (Va (Jy p).snaps)
 rw[List.length_append,List.length_take]
 omega
structure SzP(p:Pins):Prop where
 n:Jc p.snaps.length
 s:∀x∈p.snaps,Yq x
 t:Jc (Va p.snaps).length
theorem Jfz(p:Pins):Jy p=p∨Jy p=⟨0,[]⟩:=by
 unfold Jy;split
 ·exact .inl rfl
 ·exact .inr rfl
theorem SzP.nil:SzP ⟨0,[]⟩:=⟨by simp[Jc],by simp,by simp[Jc,Va]⟩
theorem SzP.sane{p:Pins}(h:SzP p):SzP (Jy p):=by
 rcases Jfz p with e|e<;>rw[e]
 ·exact h
 ·exact SzP.nil
theorem SzP.held{p:Pins}(h:SzP p):Jc (J6 p).length∧∀k∈J6 p,Jaz k:=by
 have h1:=h.sane
 refine⟨?_,fun k hk0=>?_⟩
 ·have:=JmN p
  have h2:=h1.t
  unfold Jc at h2 ⊢;omega
 ·have h2:=((JmO p).2 k).1 hk0
  obtain⟨x,hx,hm⟩:=List.mem_flatMap.1 h2
  obtain⟨r,hr,rfl⟩:=List.mem_map.1 hm
  exact((h1.s x hx).2 r hr).1
def JD(limit most:Int):Side:=⟨0,0,false,⟨z4,JN most⟩,z4,⟨⟨VL limit,[]⟩,false,[]⟩,⟨0,[]⟩⟩
theorem JcG(a b:Int):CallR Tryz.prog 21 [.int .i64 a,.int .i64 b] (.val (.agg [.int .i64 (JD a b).epoch,.int .i64 (JD a b).turn,.bool (JD a b).up,.int .i64 (JD a b).in'.last.a0,.int .i64 (JD a b).in'.last.a1,.int .i64 (JD a b).in'.last.a2,.int .i64 (JD a b).in'.last.a3,.int .i64 (JD a b).in'.max,.int .i64 (JD a b).errs.a0,.int .i64 (JD a b).errs.a1,.int .i64 (JD a b).errs.a2,.int .i64 (JD a b).errs.a3,.int .i64 (JD a b).w.c.cap,.slice false (Ja (JD a b).w.c.l),.bool (JD a b).w.ready,.slice false (Ja (JD a b).w.shown),.int .i64 (JD a b).p.next',.slice false (Ja (JD a b).p.snaps)])):=by
 have w1:=Jbs b
 have w2:=Jd4 a
 refine CallR.go2 (T:=T) Tryz.call21 Tryz.func21 rfl Tryz.ntmps21 (congrArg Array.toList Tryz.results21) (by decide) fun ts hn h0 h1=>?_
 (repeat' (first
 | (with_reducible first|refine callX.by (w1) ?_|refine callX.by (w2) ?_|refine callX.by (Jbs _) ?_|refine callX.by (Jd4 _) ?_|assumption|(refine Qw hK _ ?_;clear hK K)|refine Qw ‹_› _ ?_|refine Qx ‹_› ?_|refine Qi fun K hK=>?_|refine Qj T fun K hK=>?_|refine Ql fun A B hA hB=>?_|refine Qn ?_|refine Qr ?_)
 | ((with_reducible first|apply Qy|apply Qz|apply QA)<;>intro hb<;>try simp only[nr] at hb)
 |simp only[go_sem,↓reduceIte,reduceIte,Qa,Qh,Qb,Qc,Qd,Qe,Qf,Qg,reduceCtorEq, *,-w1,-w2]
 |with_reducible refine fun(bn:Bool) hbn=>?_))
 all_goals exact⟨rfl,rfl,rfl,rfl,rfl,rfl,rfl,rfl,rfl,rfl,rfl,rfl,rfl,rfl,rfl,rfl,rfl,rfl⟩
theorem Jn2(n:Int):CallR Tryz.prog 29 [.int .i64 n] (.val (.bool (Jt n 2147483647))):=by
 refine QD (T:=T) Tryz.call29 Tryz.func29 rfl Tryz.ntmps29 (congrArg Array.toList Tryz.results29) (by decide) fun ts hn h0=>?_
 (repeat' (first
 | (with_reducible first|assumption|(refine Qw hK _ ?_;clear hK K)|refine Qw ‹_› _ ?_|refine Qx ‹_› ?_|refine Qi fun K hK=>?_|refine Qj T fun K hK=>?_|refine Ql fun A B hA hB=>?_|refine Qn ?_|refine Qr ?_)
 | ((with_reducible first|apply Qy|apply Qz|apply QA)<;>intro hb<;>try simp only[nr] at hb)
 |simp only[go_sem,↓reduceIte,reduceIte,Qa,Qh,Qb,Qc,Qd,Qe,Qf,Qg,reduceCtorEq, *]
 |with_reducible refine fun(bn:Bool) hbn=>?_))
 all_goals (rw[Bool.eq_iff_iff];simp_all[Jt])
 all_goals omega
theorem JjM(n:Int):CallR Tryz.prog 31 [.int .i64 n] (.val (.bool (!Jt n 15))):=by
 refine QD (T:=T) Tryz.call31 Tryz.func31 rfl Tryz.ntmps31 (congrArg Array.toList Tryz.results31) (by decide) fun ts hn h0=>?_
 (repeat' (first
 | (with_reducible first|assumption|(refine Qw hK _ ?_;clear hK K)|refine Qw ‹_› _ ?_|refine Qx ‹_› ?_|refine Qi fun K hK=>?_|refine Qj T fun K hK=>?_|refine Ql fun A B hA hB=>?_|refine Qn ?_|refine Qr ?_)
 | ((with_reducible first|apply Qy|apply Qz|apply QA)<;>intro hb<;>try simp only[nr] at hb)
 |simp only[go_sem,↓reduceIte,reduceIte,Qa,Qh,Qb,Qc,Qd,Qe,Qf,Qg,reduceCtorEq, *]
 |with_reducible refine fun(bn:Bool) hbn=>?_))
 all_goals (rw[Bool.eq_iff_iff];simp_all[Jt])
 all_goals omega
theorem Zo(s_epoch:Int)(s_turn:Int)(s_up:Bool)(s_in_last_a0:Int)(s_in_last_a1:Int)(s_in_last_a2:Int)(s_in_last_a3:Int)(s_in_max:Int)(s_errs_a0:Int)(s_errs_a1:Int)(s_errs_a2:Int)(s_errs_a3:Int)(s_w_c_cap:Int)(s_w_c_l:List Res)(s_w_ready:Bool)(s_w_shown:List Res)(s_p_next:Int)(s_p_snaps:List Snap):CallR Tryz.prog 42 [.agg [.int .i64 s_epoch,.int .i64 s_turn,.bool s_up,.int .i64 s_in_last_a0,.int .i64 s_in_last_a1,.int .i64 s_in_last_a2,.int .i64 s_in_last_a3,.int .i64 s_in_max,.int .i64 s_errs_a0,.int .i64 s_errs_a1,.int .i64 s_errs_a2,.int .i64 s_errs_a3,.int .i64 s_w_c_cap,.slice false (Ja s_w_c_l),.bool s_w_ready,.slice false (Ja s_w_shown),.int .i64 s_p_next,.slice false (Ja s_p_snaps)]] (.val (.bool (decide (s_turn=2147483647)))):=by
 refine QD (T:=T) Tryz.call42 Tryz.func42 rfl Tryz.ntmps42 (congrArg Array.toList Tryz.results42) (by decide) fun ts hn h0=>?_
 (repeat' (first
 | (with_reducible first|assumption|(refine Qw hK _ ?_;clear hK K)|refine Qw ‹_› _ ?_|refine Qx ‹_› ?_|refine Qi fun K hK=>?_|refine Qj T fun K hK=>?_|refine Ql fun A B hA hB=>?_|refine Qn ?_|refine Qr ?_)
 | ((with_reducible first|apply Qy|apply Qz|apply QA)<;>intro hb<;>try simp only[nr] at hb)
 |simp only[go_sem,↓reduceIte,reduceIte,Qa,Qh,Qb,Qc,Qd,Qe,Qf,Qg,reduceCtorEq, *]
 |with_reducible refine fun(bn:Bool) hbn=>?_))
def Zl(p:Pins):Bool:=decide (V6 ⟨3,0,0,0,0,[],[],0,[],J6 p⟩=0)
theorem Ja0(next:Int)(xs:List Snap)(h:SzP ⟨next,xs⟩):CallR Tryz.prog 35 [.agg [.int .i64 next,.slice false (Ja xs)]] (.val (.bool (Zl ⟨next,xs⟩))):=by
 have w1:=(Jd9 next xs h.n h.s h.t).frz
 have w2:=JdH 3 0 0 0 0 [] [] 0 [] (J6 ⟨next,xs⟩) ⟨by simp[Jc],by simp,by simp[Jc],by simp,by simp[Jc],by simp,h.held⟩
 have w2:CallR Tryz.prog 81 [.agg [.int .i64 3,.int .i64 0,.int .i64 0,.int .i64 0,.int .i64 0,.slice false [],.slice false [],.int .i64 0,.slice false [],.slice false (Ja (J6 ⟨next,xs⟩))]] (.val (.int .i64 (V6 ⟨3,0,0,0,0,[],[],0,[],J6 ⟨next,xs⟩⟩))):=w2
 clear h
 refine QD (T:=T) Tryz.call35 Tryz.func35 rfl Tryz.ntmps35 (congrArg Array.toList Tryz.results35) (by decide) fun ts hn h0=>?_
 (repeat' (first
 | (with_reducible first|refine callX.by (w1) ?_|refine callX.by (w2) ?_|refine callX.by (Jd9 _ _ ?_ ?_ ?_) ?_|refine callX.by awc7 ?_|refine callX.by awc8 ?_|refine callX.by (JdH _ _ _ _ _ _ _ _ _ _ ?_) ?_|assumption|(refine Qw hK _ ?_;clear hK K)|refine Qw ‹_› _ ?_|refine Qx ‹_› ?_|refine Qi fun K hK=>?_|refine Qj T fun K hK=>?_|refine Ql fun A B hA hB=>?_|refine Qn ?_|refine Qr ?_)
 | ((with_reducible first|apply Qy|apply Qz|apply QA)<;>intro hb<;>try simp only[nr] at hb)
 |simp only[go_sem,↓reduceIte,reduceIte,Qa,Qh,Qb,Qc,Qd,Qe,Qf,Qg,reduceCtorEq, *,-w1,-w2]
 |with_reducible refine fun(bn:Bool) hbn=>?_))
 all_goals rfl
def JaB(s:Side):Bool:=decide ((Vk s.p).2.2=s.w.ready) && (!(Vk s.p).2.2 || decide ((Vk s.p).2.1=s.w.shown))
theorem JmM{p:Pins}(h:SzP p):Jc (Vk p).2.1.length∧∀r∈(Vk p).2.1,Jv r:=by
 unfold Vk
 cases e:(Jy p).snaps.getLast? with
 |none=>simp[Jc]
 |some x=>exact h.sane.s x (List.mem_of_getLast? e)
theorem Jgq(s_epoch:Int)(s_turn:Int)(s_up:Bool)(s_in_last_a0:Int)(s_in_last_a1:Int)(s_in_last_a2:Int)(s_in_last_a3:Int)(s_in_max:Int)(s_errs_a0:Int)(s_errs_a1:Int)(s_errs_a2:Int)(s_errs_a3:Int)(s_w_c_cap:Int)(s_w_c_l:List Res)(s_w_ready:Bool)(s_w_shown:List Res)(s_p_next:Int)(s_p_snaps:List Snap)(h:SzP ⟨s_p_next,s_p_snaps⟩):CallR Tryz.prog 36 [.agg [.int .i64 s_epoch,.int .i64 s_turn,.bool s_up,.int .i64 s_in_last_a0,.int .i64 s_in_last_a1,.int .i64 s_in_last_a2,.int .i64 s_in_last_a3,.int .i64 s_in_max,.int .i64 s_errs_a0,.int .i64 s_errs_a1,.int .i64 s_errs_a2,.int .i64 s_errs_a3,.int .i64 s_w_c_cap,.slice false (Ja s_w_c_l),.bool s_w_ready,.slice false (Ja s_w_shown),.int .i64 s_p_next,.slice false (Ja s_p_snaps)]] (.val (.bool (JaB (⟨s_epoch,s_turn,s_up,⟨⟨s_in_last_a0,s_in_last_a1,s_in_last_a2,s_in_last_a3⟩,s_in_max⟩,⟨s_errs_a0,s_errs_a1,s_errs_a2,s_errs_a3⟩,⟨⟨s_w_c_cap,s_w_c_l⟩,s_w_ready,s_w_shown⟩,⟨s_p_next,s_p_snaps⟩⟩:Side)))):=by
 have w1:=Jdx s_p_next s_p_snaps h.n
 obtain⟨g1,g2⟩:=JmM h
 have e:JaB (⟨s_epoch,s_turn,s_up,⟨⟨s_in_last_a0,s_in_last_a1,s_in_last_a2,s_in_last_a3⟩,s_in_max⟩,⟨s_errs_a0,s_errs_a1,s_errs_a2,s_errs_a3⟩,⟨⟨s_w_c_cap,s_w_c_l⟩,s_w_ready,s_w_shown⟩,⟨s_p_next,s_p_snaps⟩⟩:Side)=(decide ((Vk ⟨s_p_next,s_p_snaps⟩).2.2=s_w_ready) && (!(Vk ⟨s_p_next,s_p_snaps⟩).2.2 || decide ((Vk ⟨s_p_next,s_p_snaps⟩).2.1=s_w_shown))):=rfl
 rw[e]
 clear e
 generalize Vk ⟨s_p_next,s_p_snaps⟩=cu at *
 obtain⟨ci,cl,cb⟩:=cu
 simp only at w1 g1 g2 ⊢
 have w2:=ZM cl s_w_shown g1 g2
 clear g1 g2 h
 refine QD (T:=T) Tryz.call36 Tryz.func36 rfl Tryz.ntmps36 (congrArg Array.toList Tryz.results36) (by decide) fun ts hn h0=>?_
 (repeat' (first
 | (with_reducible first|refine callX.by (w1) ?_|refine callX.by (w2) ?_|refine callX.by (Jdx _ _ ?_) ?_|refine callX.by (ZM _ _ ?_ ?_) ?_|assumption|(refine Qw hK _ ?_;clear hK K)|refine Qw ‹_› _ ?_|refine Qx ‹_› ?_|refine Qi fun K hK=>?_|refine Qj T fun K hK=>?_|refine Ql fun A B hA hB=>?_|refine Qn ?_|refine Qr ?_)
 | ((with_reducible first|apply Qy|apply Qz|apply QA)<;>intro hb<;>try simp only[nr] at hb)
 |simp only[go_sem,↓reduceIte,reduceIte,Qa,Qh,Qb,Qc,Qd,Qe,Qf,Qg,reduceCtorEq, *,-w1,-w2]
 |with_reducible refine fun(bn:Bool) hbn=>?_))
 all_goals (try simp_all)
structure SzS(s:Side):Prop where
 c:s.w.c.l.length≤65536
 w:ZN s.w
 p:SzP s.p
def Zy(e:Four):Bool:=Jt e.a0 15 && Jt e.a1 15 && Jt e.a2 15 && Jt e.a3 15
theorem Jla(a b c d:Int):([a,b,c,d].any fun e=>!Jt e 15)=!Zy ⟨a,b,c,d⟩:=by
 simp[Zy,List.any_cons,Bool.and_assoc]
def J1(s:Side):Bool:=Jt s.epoch 2147483647 && Jt s.turn 2147483647 && Zy s.errs && VH s.in' && Vv s.w && ZD s.p && Zl s.p && JaB s
theorem JgX(a b c d:Int):CallR Tryz.prog 30 [.slice false [.int .i64 a,.int .i64 b,.int .i64 c,.int .i64 d],.clo (.func 31) [] []] (.val (.bool (!Zy ⟨a,b,c,d⟩))):=by
 have:=JgY 31 [] Caps.nil (fun e=>!Jt e 15) [a,b,c,d] (fun x _=>JjM x) (by simp[Jc])
 rw[Jla] at this
 exact this
set_option maxHeartbeats 4000000 in
theorem Yc(s_epoch:Int)(s_turn:Int)(s_up:Bool)(s_in_last_a0:Int)(s_in_last_a1:Int)(s_in_last_a2:Int)(s_in_last_a3:Int)(s_in_max:Int)(s_errs_a0:Int)(s_errs_a1:Int)(s_errs_a2:Int)(s_errs_a3:Int)(s_w_c_cap:Int)(s_w_c_l:List Res)(s_w_ready:Bool)(s_w_shown:List Res)(s_p_next:Int)(s_p_snaps:List Snap)(h:SzS (⟨s_epoch,s_turn,s_up,⟨⟨s_in_last_a0,s_in_last_a1,s_in_last_a2,s_in_last_a3⟩,s_in_max⟩,⟨s_errs_a0,s_errs_a1,s_errs_a2,s_errs_a3⟩,⟨⟨s_w_c_cap,s_w_c_l⟩,s_w_ready,s_w_shown⟩,⟨s_p_next,s_p_snaps⟩⟩:Side)):CallR Tryz.prog 10 [.agg [.int .i64 s_epoch,.int .i64 s_turn,.bool s_up,.int .i64 s_in_last_a0,.int .i64 s_in_last_a1,.int .i64 s_in_last_a2,.int .i64 s_in_last_a3,.int .i64 s_in_max,.int .i64 s_errs_a0,.int .i64 s_errs_a1,.int .i64 s_errs_a2,.int .i64 s_errs_a3,.int .i64 s_w_c_cap,.slice false (Ja s_w_c_l),.bool s_w_ready,.slice false (Ja s_w_shown),.int .i64 s_p_next,.slice false (Ja s_p_snaps)]] (.val (.bool (J1 (⟨s_epoch,s_turn,s_up,⟨⟨s_in_last_a0,s_in_last_a1,s_in_last_a2,s_in_last_a3⟩,s_in_max⟩,⟨s_errs_a0,s_errs_a1,s_errs_a2,s_errs_a3⟩,⟨⟨s_w_c_cap,s_w_c_l⟩,s_w_ready,s_w_shown⟩,⟨s_p_next,s_p_snaps⟩⟩:Side)))):=by
 have w1:=JgX s_errs_a0 s_errs_a1 s_errs_a2 s_errs_a3
 have w2:=JcL s_in_last_a0 s_in_last_a1 s_in_last_a2 s_in_last_a3 s_in_max
 have w3:=Jc0 s_w_c_cap s_w_c_l s_w_ready s_w_shown h.c h.w.1.2 h.w.2.1 h.w.2.2
 have w4:=Jfx s_p_next s_p_snaps h.p.n
 have w5:=Ja0 s_p_next s_p_snaps h.p
 have w6:=Jgq s_epoch s_turn s_up s_in_last_a0 s_in_last_a1 s_in_last_a2 s_in_last_a3 s_in_max s_errs_a0 s_errs_a1 s_errs_a2 s_errs_a3 s_w_c_cap s_w_c_l s_w_ready s_w_shown s_p_next s_p_snaps h.p
 clear h
 refine QD (T:=T) Tryz.call10 Tryz.func10 rfl Tryz.ntmps10 (congrArg Array.toList Tryz.results10) (by decide) fun ts hn h0=>?_
 (repeat' (first
 | (with_reducible first|refine SpecC.ent (Ent.frzBox _ 1) (Qj T (id:=1) fun K hK=>?_)|refine callX.by (w1) ?_|refine callX.by (w2) ?_|refine callX.by (w3) ?_|refine callX.by (w4) ?_|refine callX.by (w5) ?_|refine callX.by (w6) ?_|refine callX.by (Jn2 _) ?_|refine callX.by (JgY _ _ ?_ _ _ ?_ ?_) ?_|refine callX.by (JgX _ _ _ _) ?_|refine callX.by (JjM _) ?_|refine callX.by (JcL _ _ _ _ _) ?_|refine callX.by (Jc0 _ _ _ _ ?_ ?_ ?_ ?_) ?_|refine callX.by (Jfx _ _ ?_) ?_|refine callX.by (Ja0 _ _ ?_) ?_|refine callX.by (Jgq _ _ _ _ _ _ _ _ _ _ _ _ _ _ _ _ _ _ ?_) ?_|assumption|(refine Qw hK _ ?_;clear hK K)|refine Qw ‹_› _ ?_|refine Qx ‹_› ?_|refine Qi fun K hK=>?_|refine Qj T fun K hK=>?_|refine Ql fun A B hA hB=>?_|refine Qn ?_|refine Qr ?_)
 | ((with_reducible first|apply Qy|apply Qz|apply QA)<;>intro hb<;>try simp only[nr] at hb)
 |simp only[go_sem,↓reduceIte,reduceIte,Qa,Qh,Qb,Qc,Qd,Qe,Qf,Qg,reduceCtorEq, *,-w1,-w2,-w3,-w4,-w5,-w6]
 |with_reducible refine fun(bn:Bool) hbn=>?_))
 all_goals simp only[J1, *,Bool.and_true,Bool.true_and,Bool.false_and,Bool.and_false]
def JG(s:Side):Side:=if J1 s=true then s else JD s.w.c.cap s.in'.max
set_option maxHeartbeats 4000000 in
theorem YL(s_epoch:Int)(s_turn:Int)(s_up:Bool)(s_in_last_a0:Int)(s_in_last_a1:Int)(s_in_last_a2:Int)(s_in_last_a3:Int)(s_in_max:Int)(s_errs_a0:Int)(s_errs_a1:Int)(s_errs_a2:Int)(s_errs_a3:Int)(s_w_c_cap:Int)(s_w_c_l:List Res)(s_w_ready:Bool)(s_w_shown:List Res)(s_p_next:Int)(s_p_snaps:List Snap)(h:SzS (⟨s_epoch,s_turn,s_up,⟨⟨s_in_last_a0,s_in_last_a1,s_in_last_a2,s_in_last_a3⟩,s_in_max⟩,⟨s_errs_a0,s_errs_a1,s_errs_a2,s_errs_a3⟩,⟨⟨s_w_c_cap,s_w_c_l⟩,s_w_ready,s_w_shown⟩,⟨s_p_next,s_p_snaps⟩⟩:Side)):CallR Tryz.prog 39 [.agg [.int .i64 s_epoch,.int .i64 s_turn,.bool s_up,.int .i64 s_in_last_a0,.int .i64 s_in_last_a1,.int .i64 s_in_last_a2,.int .i64 s_in_last_a3,.int .i64 s_in_max,.int .i64 s_errs_a0,.int .i64 s_errs_a1,.int .i64 s_errs_a2,.int .i64 s_errs_a3,.int .i64 s_w_c_cap,.slice false (Ja s_w_c_l),.bool s_w_ready,.slice false (Ja s_w_shown),.int .i64 s_p_next,.slice false (Ja s_p_snaps)]] (.val (.agg [.int .i64 (JG (⟨s_epoch,s_turn,s_up,⟨⟨s_in_last_a0,s_in_last_a1,s_in_last_a2,s_in_last_a3⟩,s_in_max⟩,⟨s_errs_a0,s_errs_a1,s_errs_a2,s_errs_a3⟩,⟨⟨s_w_c_cap,s_w_c_l⟩,s_w_ready,s_w_shown⟩,⟨s_p_next,s_p_snaps⟩⟩:Side)).epoch,.int .i64 (JG (⟨s_epoch,s_turn,s_up,⟨⟨s_in_last_a0,s_in_last_a1,s_in_last_a2,s_in_last_a3⟩,s_in_max⟩,⟨s_errs_a0,s_errs_a1,s_errs_a2,s_errs_a3⟩,⟨⟨s_w_c_cap,s_w_c_l⟩,s_w_ready,s_w_shown⟩,⟨s_p_next,s_p_snaps⟩⟩:Side)).turn,.bool (JG (⟨s_epoch,s_turn,s_up,⟨⟨s_in_last_a0,s_in_last_a1,s_in_last_a2,s_in_last_a3⟩,s_in_max⟩,⟨s_errs_a0,s_errs_a1,s_errs_a2,s_errs_a3⟩,⟨⟨s_w_c_cap,s_w_c_l⟩,s_w_ready,s_w_shown⟩,⟨s_p_next,s_p_snaps⟩⟩:Side)).up,.int .i64 (JG (⟨s_epoch,s_turn,s_up,⟨⟨s_in_last_a0,s_in_last_a1,s_in_last_a2,s_in_last_a3⟩,s_in_max⟩,⟨s_errs_a0,s_errs_a1,s_errs_a2,s_errs_a3⟩,⟨⟨s_w_c_cap,s_w_c_l⟩,s_w_ready,s_w_shown⟩,⟨s_p_next,s_p_snaps⟩⟩:Side)).in'.last.a0,.int .i64 (JG (⟨s_epoch,s_turn,s_up,⟨⟨s_in_last_a0,s_in_last_a1,s_in_last_a2,s_in_last_a3⟩,s_in_max⟩,⟨s_errs_a0,s_errs_a1,s_errs_a2,s_errs_a3⟩,⟨⟨s_w_c_cap,s_w_c_l⟩,s_w_ready,s_w_shown⟩,⟨s_p_next,s_p_snaps⟩⟩:Side)).in'.last.a1,.int .i64 (JG (⟨s_epoch,s_turn,s_up,⟨⟨s_in_last_a0,s_in_last_a1,s_in_last_a2,s_in_last_a3⟩,s_in_max⟩,⟨s_errs_a0,s_errs_a1,s_errs_a2,s_errs_a3⟩,⟨⟨s_w_c_cap,s_w_c_l⟩,s_w_ready,s_w_shown⟩,⟨s_p_next,s_p_snaps⟩⟩:Side)).in'.last.a2,.int .i64 (JG (⟨s_epoch,s_turn,s_up,⟨⟨s_in_last_a0,s_in_last_a1,s_in_last_a2,s_in_last_a3⟩,s_in_max⟩,⟨s_errs_a0,s_errs_a1,s_errs_a2,s_errs_a3⟩,⟨⟨s_w_c_cap,s_w_c_l⟩,s_w_ready,s_w_shown⟩,⟨s_p_next,s_p_snaps⟩⟩:Side)).in'.last.a3,.int .i64 (JG (⟨s_epoch,s_turn,s_up,⟨⟨s_in_last_a0,s_in_last_a1,s_in_last_a2,s_in_last_a3⟩,s_in_max⟩,⟨s_errs_a0,s_errs_a1,s_errs_a2,s_errs_a3⟩,⟨⟨s_w_c_cap,s_w_c_l⟩,s_w_ready,s_w_shown⟩,⟨s_p_next,s_p_snaps⟩⟩:Side)).in'.max,.int .i64 (JG (⟨s_epoch,s_turn,s_up,⟨⟨s_in_last_a0,s_in_last_a1,s_in_last_a2,s_in_last_a3⟩,s_in_max⟩,⟨s_errs_a0,s_errs_a1,s_errs_a2,s_errs_a3⟩,⟨⟨s_w_c_cap,s_w_c_l⟩,s_w_ready,s_w_shown⟩,⟨s_p_next,s_p_snaps⟩⟩:Side)).errs.a0,.int .i64 (JG (⟨s_epoch,s_turn,s_up,⟨⟨s_in_last_a0,s_in_last_a1,s_in_last_a2,s_in_last_a3⟩,s_in_max⟩,⟨s_errs_a0,s_errs_a1,s_errs_a2,s_errs_a3⟩,⟨⟨s_w_c_cap,s_w_c_l⟩,s_w_ready,s_w_shown⟩,⟨s_p_next,s_p_snaps⟩⟩:Side)).errs.a1,.int .i64 (JG (⟨s_epoch,s_turn,s_up,⟨⟨s_in_last_a0,s_in_last_a1,s_in_last_a2,s_in_last_a3⟩,s_in_max⟩,⟨s_errs_a0,s_errs_a1,s_errs_a2,s_errs_a3⟩,⟨⟨s_w_c_cap,s_w_c_l⟩,s_w_ready,s_w_shown⟩,⟨s_p_next,s_p_snaps⟩⟩:Side)).errs.a2,.int .i64 (JG (⟨s_epoch,s_turn,s_up,⟨⟨s_in_last_a0,s_in_last_a1,s_in_last_a2,s_in_last_a3⟩,s_in_max⟩,⟨s_errs_a0,s_errs_a1,s_errs_a2,s_errs_a3⟩,⟨⟨s_w_c_cap,s_w_c_l⟩,s_w_ready,s_w_shown⟩,⟨s_p_next,s_p_snaps⟩⟩:Side)).errs.a3,.int .i64 (JG (⟨s_epoch,s_turn,s_up,⟨⟨s_in_last_a0,s_in_last_a1,s_in_last_a2,s_in_last_a3⟩,s_in_max⟩,⟨s_errs_a0,s_errs_a1,s_errs_a2,s_errs_a3⟩,⟨⟨s_w_c_cap,s_w_c_l⟩,s_w_ready,s_w_shown⟩,⟨s_p_next,s_p_snaps⟩⟩:Side)).w.c.cap,.slice false (Ja (JG (⟨s_epoch,s_turn,s_up,⟨⟨s_in_last_a0,s_in_last_a1,s_in_last_a2,s_in_last_a3⟩,s_in_max⟩,⟨s_errs_a0,s_errs_a1,s_errs_a2,s_errs_a3⟩,⟨⟨s_w_c_cap,s_w_c_l⟩,s_w_ready,s_w_shown⟩,⟨s_p_next,s_p_snaps⟩⟩:Side)).w.c.l),.bool (JG (⟨s_epoch,s_turn,s_up,⟨⟨s_in_last_a0,s_in_last_a1,s_in_last_a2,s_in_last_a3⟩,s_in_max⟩,⟨s_errs_a0,s_errs_a1,s_errs_a2,s_errs_a3⟩,⟨⟨s_w_c_cap,s_w_c_l⟩,s_w_ready,s_w_shown⟩,⟨s_p_next,s_p_snaps⟩⟩:Side)).w.ready,.slice false (Ja (JG (⟨s_epoch,s_turn,s_up,⟨⟨s_in_last_a0,s_in_last_a1,s_in_last_a2,s_in_last_a3⟩,s_in_max⟩,⟨s_errs_a0,s_errs_a1,s_errs_a2,s_errs_a3⟩,⟨⟨s_w_c_cap,s_w_c_l⟩,s_w_ready,s_w_shown⟩,⟨s_p_next,s_p_snaps⟩⟩:Side)).w.shown),.int .i64 (JG (⟨s_epoch,s_turn,s_up,⟨⟨s_in_last_a0,s_in_last_a1,s_in_last_a2,s_in_last_a3⟩,s_in_max⟩,⟨s_errs_a0,s_errs_a1,s_errs_a2,s_errs_a3⟩,⟨⟨s_w_c_cap,s_w_c_l⟩,s_w_ready,s_w_shown⟩,⟨s_p_next,s_p_snaps⟩⟩:Side)).p.next',.slice false (Ja (JG (⟨s_epoch,s_turn,s_up,⟨⟨s_in_last_a0,s_in_last_a1,s_in_last_a2,s_in_last_a3⟩,s_in_max⟩,⟨s_errs_a0,s_errs_a1,s_errs_a2,s_errs_a3⟩,⟨⟨s_w_c_cap,s_w_c_l⟩,s_w_ready,s_w_shown⟩,⟨s_p_next,s_p_snaps⟩⟩:Side)).p.snaps)])):=by
 have w1:=Yc s_epoch s_turn s_up s_in_last_a0 s_in_last_a1 s_in_last_a2 s_in_last_a3 s_in_max s_errs_a0 s_errs_a1 s_errs_a2 s_errs_a3 s_w_c_cap s_w_c_l s_w_ready s_w_shown s_p_next s_p_snaps h
 have w2:=JcG s_w_c_cap s_in_max
 unfold JG
 cases hb0:J1 (⟨s_epoch,s_turn,s_up,⟨⟨s_in_last_a0,s_in_last_a1,s_in_last_a2,s_in_last_a3⟩,s_in_max⟩,⟨s_errs_a0,s_errs_a1,s_errs_a2,s_errs_a3⟩,⟨⟨s_w_c_cap,s_w_c_l⟩,s_w_ready,s_w_shown⟩,⟨s_p_next,s_p_snaps⟩⟩:Side)
 ·rw[hb0] at w1
  refine QD (T:=T) Tryz.call39 Tryz.func39 rfl Tryz.ntmps39 (congrArg Array.toList Tryz.results39) (by decide) fun ts hn h0=>?_
  (repeat' (first
 | (with_reducible first|refine callX.by (w1) ?_|refine callX.by (w2) ?_|refine callX.by (Yc _ _ _ _ _ _ _ _ _ _ _ _ _ _ _ _ _ _ ?_) ?_|refine callX.by (JcG _ _) ?_|assumption|(refine Qw hK _ ?_;clear hK K)|refine Qw ‹_› _ ?_|refine Qx ‹_› ?_|refine Qi fun K hK=>?_|refine Qj T fun K hK=>?_|refine Ql fun A B hA hB=>?_|refine Qn ?_|refine Qr ?_)
 | ((with_reducible first|apply Qy|apply Qz|apply QA)<;>intro hb<;>try simp only[nr] at hb)
 |simp only[go_sem,↓reduceIte,reduceIte,Qa,Qh,Qb,Qc,Qd,Qe,Qf,Qg,reduceCtorEq, *,-w1,-w2]
 |with_reducible refine fun(bn:Bool) hbn=>?_))
  all_goals (try rfl)
 ·rw[hb0] at w1
  refine QD (T:=T) Tryz.call39 Tryz.func39 rfl Tryz.ntmps39 (congrArg Array.toList Tryz.results39) (by decide) fun ts hn h0=>?_
  (repeat' (first
 | (with_reducible first|refine callX.by (w1) ?_|refine callX.by (w2) ?_|refine callX.by (Yc _ _ _ _ _ _ _ _ _ _ _ _ _ _ _ _ _ _ ?_) ?_|refine callX.by (JcG _ _) ?_|assumption|(refine Qw hK _ ?_;clear hK K)|refine Qw ‹_› _ ?_|refine Qx ‹_› ?_|refine Qi fun K hK=>?_|refine Qj T fun K hK=>?_|refine Ql fun A B hA hB=>?_|refine Qn ?_|refine Qr ?_)
 | ((with_reducible first|apply Qy|apply Qz|apply QA)<;>intro hb<;>try simp only[nr] at hb)
 |simp only[go_sem,↓reduceIte,reduceIte,Qa,Qh,Qb,Qc,Qd,Qe,Qf,Qg,reduceCtorEq, *,-w1,-w2]
 |with_reducible refine fun(bn:Bool) hbn=>?_))
  all_goals (try rfl)
@[go_sem] def Jgj:List (List Nat×List Nat):=[([12],[13,14,15,16,17,18]),([13],[12,15,16,18]),([14],[12,15,16]),([15],[12,13,14,18]),([16],[12,13,14]),([17],[12]),([18],[12,13,15])]
theorem Jf5{n:Int}(h:0≤n∧n≤2147483647):IntKind.i64.wrap (n+1)=n+1:=IntWalk.i64_in _ (by omega)
theorem Jew(l:List Mark)(k:Int)(n:List UInt8)(v:Int):Ja l++[.agg [.int .i64 k,.str n,.int .i64 v]]=Ja (l++[⟨⟨k,n⟩,v⟩]):=by rw[J7];rfl
def JdY(l:List Res):List Mark:=l.map fun r=>⟨Jj r,r.ver⟩
theorem JdZ(xs:List Res)(hl:Jc xs.length):CallR Tryz.prog 19 [.slice false (Ja xs)] (.own 3 (Ja (JdY xs))):=by
 unfold JdY
 refine QD (T:=T) Tryz.call19 Tryz.func19 rfl Tryz.ntmps19 (congrArg Array.toList Tryz.results19) (by decide) fun ts hn h0=>?_
 (repeat' (first
 | (with_reducible first|refine callX.by (J0 _ _ _ _ _ _ _) ?_|assumption|(refine Qw hK _ ?_;clear hK K)|refine Qw ‹_› _ ?_|refine Qx ‹_› ?_|refine Qi fun K hK=>?_|refine Qj T fun K hK=>?_|refine Qk (id:=5) T mixed Jgj (by kernel_rfl) fun K hK=>?_|refine Ql fun A B hA hB=>?_|refine Qm ?_|refine Qn ?_|refine Qp ?_|refine Qr ?_)
 | ((with_reducible first|apply Qy|apply Qz|apply QA)<;>intro hb<;>try simp only[nr] at hb)
 |simp only[go_sem,↓reduceIte,reduceIte,Qa,Qh,Qb,Qc,Qd,Qe,Qf,Qg,reduceCtorEq, *]
 |with_reducible refine fun(bn:Bool) hbn=>?_))
 refine SpecC.virt 3 19 3 (by decide) (by simp only[go_sem,↓reduceIte,reduceIte,Qa,Qh,Qb,Qc,Qd,Qe,Qf,Qg,reduceCtorEq, *]) ?_
 refine Qs [6,7] (fun m ts'=>∃(i:Nat),∃(g:Nat),m=xs.length-i∧i≤xs.length∧ts'.tmp 3=.os 19 g i∧ts'.gen 19=g∧ts'.obj 19=.arr 3 (Ja ((xs.take i).map fun r=>(⟨Jj r,r.ver⟩:Mark)))∧ts'.tmp 8=.int .i64 i) xs.length ?_ ?_
 ·refine⟨0,ts.gen 19+1,?_⟩
  simp only[go_sem,↓reduceIte,reduceIte,Qa,Qh,Qb,Qc,Qd,Qe,Qf,Qg,reduceCtorEq, *,List.map_nil,YF]
 ·rintro m A hM ts' hk ⟨i,g,hm,f1,s1,s2,s3,s4⟩
  simp only[go_sem,↓reduceIte,reduceIte,Qa,Qh,Qb,Qc,Qd,Qe,Qf,Qg,reduceCtorEq, *] at hk
  have hlen:(Ja ((xs.take i).map fun r=>(⟨Jj r,r.ver⟩:Mark))).length=i:=by simp[Ja,f1]
  have hr:Vn (i+1) 32:=Jap (by unfold Jc at hl;omega) (by decide)
  have htk:(Ja ((xs.take i).map fun r=>(⟨Jj r,r.ver⟩:Mark))).take i=Ja ((xs.take i).map fun r=>(⟨Jj r,r.ver⟩:Mark)):=List.take_of_length_le (by omega)
  (repeat' (first
 | (with_reducible first|refine callX.by (J0 _ _ _ _ _ _ _) ?_|assumption|(refine Qw hK _ ?_;clear hK K)|refine Qw ‹_› _ ?_|refine Qx ‹_› ?_|refine Qi fun K hK=>?_|refine Qj T fun K hK=>?_|refine Qk (id:=5) T mixed Jgj (by kernel_rfl) fun K hK=>?_|refine Ql fun A B hA hB=>?_|refine Qm ?_|refine Qn ?_|refine Qp ?_|refine Qr ?_)
 | ((with_reducible first|apply Qy|apply Qz|apply QA)<;>intro hb<;>try simp only[nr] at hb)
 |simp only[go_sem,↓reduceIte,reduceIte,Qa,Qh,Qb,Qc,Qd,Qe,Qf,Qg,reduceCtorEq, *]
 |with_reducible refine fun(bn:Bool) hbn=>?_))
  all_goals ((repeat clear hK);(repeat clear hA);(repeat clear hB))
  ·have e:xs.take (i+1)=xs.take i++[xs[i]]:=by rw[List.take_add_one,List.getElem?_eq_getElem hb];rfl
   (refine hM.on (xs.length-(i+1)) (by omega) (by simp only[go_sem,↓reduceIte,reduceIte,Qa,Qh,Qb,Qc,Qd,Qe,Qf,Qg,reduceCtorEq, *,Jf hb hl,e,List.map_append,Jj,Jew]) ⟨i+1,ts'.gen 19+1,rfl,by omega,?_⟩;simp only[go_sem,↓reduceIte,reduceIte,Qa,Qh,Qb,Qc,Qd,Qe,Qf,Qg,reduceCtorEq, *,Jf hb hl,e,List.map_append,Jj,Jew];done)
  ·have hi2:i=xs.length:=by omega
   subst hi2
   simp[Ja]
set_option maxHeartbeats 4000000 in
theorem Jb3(s_epoch:Int)(s_turn:Int)(s_up:Bool)(s_in_last_a0:Int)(s_in_last_a1:Int)(s_in_last_a2:Int)(s_in_last_a3:Int)(s_in_max:Int)(s_errs_a0:Int)(s_errs_a1:Int)(s_errs_a2:Int)(s_errs_a3:Int)(s_w_c_cap:Int)(s_w_c_l:List Res)(s_w_ready:Bool)(s_w_shown:List Res)(s_p_next:Int)(s_p_snaps:List Snap)(f_type:Int)(f_epoch:Int)(f_kind:Int)(f_nonce:Int)(f_turn:Int)(f_adds:List Res)(f_gone:List Key)(f_err:Int)(f_have:List Mark)(f_held:List Key)(h:SzP ⟨s_p_next,s_p_snaps⟩)(ht:0≤s_turn∧s_turn≤2147483647):CallR Tryz.prog 54 [.agg [.int .i64 s_epoch,.int .i64 s_turn,.bool s_up,.int .i64 s_in_last_a0,.int .i64 s_in_last_a1,.int .i64 s_in_last_a2,.int .i64 s_in_last_a3,.int .i64 s_in_max,.int .i64 s_errs_a0,.int .i64 s_errs_a1,.int .i64 s_errs_a2,.int .i64 s_errs_a3,.int .i64 s_w_c_cap,.slice false (Ja s_w_c_l),.bool s_w_ready,.slice false (Ja s_w_shown),.int .i64 s_p_next,.slice false (Ja s_p_snaps)],.agg [.int .i64 f_type,.int .i64 f_epoch,.int .i64 f_kind,.int .i64 f_nonce,.int .i64 f_turn,.slice false (Ja f_adds),.slice false (Ja f_gone),.int .i64 f_err,.slice false (Ja f_have),.slice false (Ja f_held)]] (.val (.tup [.agg [.int .i64 s_epoch,.int .i64 (s_turn+1),.bool s_up,.int .i64 s_in_last_a0,.int .i64 s_in_last_a1,.int .i64 s_in_last_a2,.int .i64 s_in_last_a3,.int .i64 s_in_max,.int .i64 s_errs_a0,.int .i64 s_errs_a1,.int .i64 s_errs_a2,.int .i64 s_errs_a3,.int .i64 s_w_c_cap,.slice false (Ja s_w_c_l),.bool s_w_ready,.slice false (Ja s_w_shown),.int .i64 s_p_next,.slice false (Ja s_p_snaps)],.agg [.int .i64 f_type,.int .i64 f_epoch,.int .i64 f_kind,.int .i64 f_nonce,.int .i64 (s_turn+1),.slice false (Ja f_adds),.slice false (Ja f_gone),.int .i64 f_err,.slice false (Ja f_have),.slice false (Ja (J6 ⟨s_p_next,s_p_snaps⟩))]])):=by
 have w1:=(Jd9 s_p_next s_p_snaps h.n h.s h.t).frz
 have w2:=Jf5 ht
 clear h ht
 refine CallR.go2 (T:=T) Tryz.call54 Tryz.func54 rfl Tryz.ntmps54 (congrArg Array.toList Tryz.results54) (by decide) fun ts hn h0 h1=>?_
 (repeat' (first
 | (with_reducible first|refine callX.by (w1) ?_|refine callX.by (Jd9 _ _ ?_ ?_ ?_) ?_|refine callX.by awc7 ?_|refine callX.by awc8 ?_|assumption|(refine Qw hK _ ?_;clear hK K)|refine Qw ‹_› _ ?_|refine Qx ‹_› ?_|refine Qi fun K hK=>?_|refine Qj T fun K hK=>?_|refine Qk (id:=2) T mixed [([10],[12,13,14]),([11],[12,13,14]),([12],[10,11,15]),([13],[10,11,15]),([14],[10,11,15]),([15],[12,13,14])] (by kernel_rfl) fun K hK=>?_|refine Qk (id:=3) T mixed [([17],[18]),([18],[17,4]),([4],[18])] (by kernel_rfl) fun K hK=>?_|refine Ql fun A B hA hB=>?_|refine Qn ?_|refine Qr ?_)
 | ((with_reducible first|apply Qy|apply Qz|apply QA)<;>intro hb<;>try simp only[nr] at hb)
 |simp only[go_sem,↓reduceIte,reduceIte,Qa,Qh,Qb,Qc,Qd,Qe,Qf,Qg,reduceCtorEq, *,-w1]
 |with_reducible refine fun(bn:Bool) hbn=>?_))
 all_goals trace_state
set_option maxHeartbeats 4000000 in
theorem Jar(s_epoch:Int)(s_turn:Int)(s_up:Bool)(s_in_last_a0:Int)(s_in_last_a1:Int)(s_in_last_a2:Int)(s_in_last_a3:Int)(s_in_max:Int)(s_errs_a0:Int)(s_errs_a1:Int)(s_errs_a2:Int)(s_errs_a3:Int)(s_w_c_cap:Int)(s_w_c_l:List Res)(s_w_ready:Bool)(s_w_shown:List Res)(s_p_next:Int)(s_p_snaps:List Snap)(f_type:Int)(f_epoch:Int)(f_kind:Int)(f_nonce:Int)(f_turn:Int)(f_adds:List Res)(f_gone:List Key)(f_err:Int)(f_have:List Mark)(f_held:List Key)(h:SzP ⟨s_p_next,s_p_snaps⟩)(ht:0≤s_turn∧s_turn≤2147483647)(e:Int)(he:J9 ⟨s_errs_a0,s_errs_a1,s_errs_a2,s_errs_a3⟩ f_kind=e)(hk4:0≤f_kind∧f_kind<4):CallR Tryz.prog 44 [.agg [.int .i64 s_epoch,.int .i64 s_turn,.bool s_up,.int .i64 s_in_last_a0,.int .i64 s_in_last_a1,.int .i64 s_in_last_a2,.int .i64 s_in_last_a3,.int .i64 s_in_max,.int .i64 s_errs_a0,.int .i64 s_errs_a1,.int .i64 s_errs_a2,.int .i64 s_errs_a3,.int .i64 s_w_c_cap,.slice false (Ja s_w_c_l),.bool s_w_ready,.slice false (Ja s_w_shown),.int .i64 s_p_next,.slice false (Ja s_p_snaps)],.agg [.int .i64 f_type,.int .i64 f_epoch,.int .i64 f_kind,.int .i64 f_nonce,.int .i64 f_turn,.slice false (Ja f_adds),.slice false (Ja f_gone),.int .i64 f_err,.slice false (Ja f_have),.slice false (Ja f_held)]] (.val (.tup [.agg [.int .i64 s_epoch,.int .i64 (s_turn+1),.bool s_up,.int .i64 s_in_last_a0,.int .i64 s_in_last_a1,.int .i64 s_in_last_a2,.int .i64 s_in_last_a3,.int .i64 s_in_max,.int .i64 s_errs_a0,.int .i64 s_errs_a1,.int .i64 s_errs_a2,.int .i64 s_errs_a3,.int .i64 s_w_c_cap,.slice false (Ja s_w_c_l),.bool s_w_ready,.slice false (Ja s_w_shown),.int .i64 s_p_next,.slice false (Ja s_p_snaps)],.slice false [.agg [.int .i64 2,.int .i64 f_epoch,.int .i64 f_kind,.int .i64 f_nonce,.int .i64 (s_turn+1),.slice false [],.slice false [],.int .i64 e,.slice false [],.slice false (Ja (J6 ⟨s_p_next,s_p_snaps⟩))]]])):=by
 subst he
 have w1:∀e,CallR Tryz.prog 54 [.agg [.int .i64 s_epoch,.int .i64 s_turn,.bool s_up,.int .i64 s_in_last_a0,.int .i64 s_in_last_a1,.int .i64 s_in_last_a2,.int .i64 s_in_last_a3,.int .i64 s_in_max,.int .i64 s_errs_a0,.int .i64 s_errs_a1,.int .i64 s_errs_a2,.int .i64 s_errs_a3,.int .i64 s_w_c_cap,.slice false (Ja s_w_c_l),.bool s_w_ready,.slice false (Ja s_w_shown),.int .i64 s_p_next,.slice false (Ja s_p_snaps)],.agg [.int .i64 2,.int .i64 f_epoch,.int .i64 f_kind,.int .i64 f_nonce,.int .i64 0,.slice false [],.slice false [],.int .i64 e,.slice false [],.slice false []]] (.val (.tup [.agg [.int .i64 s_epoch,.int .i64 (s_turn+1),.bool s_up,.int .i64 s_in_last_a0,.int .i64 s_in_last_a1,.int .i64 s_in_last_a2,.int .i64 s_in_last_a3,.int .i64 s_in_max,.int .i64 s_errs_a0,.int .i64 s_errs_a1,.int .i64 s_errs_a2,.int .i64 s_errs_a3,.int .i64 s_w_c_cap,.slice false (Ja s_w_c_l),.bool s_w_ready,.slice false (Ja s_w_shown),.int .i64 s_p_next,.slice false (Ja s_p_snaps)],.agg [.int .i64 2,.int .i64 f_epoch,.int .i64 f_kind,.int .i64 f_nonce,.int .i64 (s_turn+1),.slice false [],.slice false [],.int .i64 e,.slice false [],.slice false (Ja (J6 ⟨s_p_next,s_p_snaps⟩))]])):=fun e=>Jb3 s_epoch s_turn s_up s_in_last_a0 s_in_last_a1 s_in_last_a2 s_in_last_a3 s_in_max s_errs_a0 s_errs_a1 s_errs_a2 s_errs_a3 s_w_c_cap s_w_c_l s_w_ready s_w_shown s_p_next s_p_snaps 2 f_epoch f_kind f_nonce 0 [] [] e [] [] h ht
 clear h ht
 rcases(show f_kind=0∨f_kind=1∨f_kind=2∨f_kind=3 by omega) with rfl|rfl|rfl|rfl
 all_goals clear hk4
 all_goals
  refine CallR.go2 (T:=T.withF [27]) Tryz.call44 Tryz.func44 rfl Tryz.ntmps44 (congrArg Array.toList Tryz.results44) (by decide) fun ts hn h0 h1=>?_
  (repeat' (first
 | (with_reducible first|refine callX.by (w1 _) ?_|refine callX.by (Jb3 _ _ _ _ _ _ _ _ _ _ _ _ _ _ _ _ _ _ _ _ _ _ _ _ _ _ _ _ ?_ ?_) ?_|assumption|(refine Qw hK _ ?_;clear hK K)|refine Qw ‹_› _ ?_|refine Qx ‹_› ?_|refine Qi fun K hK=>?_|refine Qj (T.withF [27]) fun K hK=>?_|refine Qk (id:=1) (T.withF [27]) mixed [([9],[10,11,12,13,14,15,16,17,18,19,20,21,23,24,6,7]),([10],[9,12,13,14,15,16,17,18,19,20,22,8,23,24,6,7]),([11],[9,12,13,14,15,16,17,18,19,20,8,23,24,6,7]),([12],[9,10,11,14,15,16,17,18,19,20,22,8,23,24,6,7]),([13],[9,10,11,14,15,16,17,18,19,20,8,23,24,6,7]),([14],[9,10,11,12,13,16,17,18,19,20,22,8,23,24,6,7]),([15],[9,10,11,12,13,16,17,18,19,20,8,23,24,6,7]),([16],[9,10,11,12,13,14,15,18,20,21,22,8,23,24,6,7]),([17],[9,10,11,12,13,14,15,18,21,22,8,23,24,6,7]),([18],[9,10,11,12,13,14,15,16,17,21,22,8,23,24,6,7]),([19],[9,10,11,12,13,14,15,22,8,23,24,6,7]),([20],[9,10,11,12,13,14,15,16,8,23,24,6,7]),([21],[9,16,17,18,23,24,6,7]),([22],[10,12,14,16,17,18,19,6,7]),([8],[10,11,12,13,14,15,16,17,18,19,20,6,7]),([23],[9,10,11,12,13,14,15,16,17,18,19,20,21,24,6,7]),([24],[9,10,11,12,13,14,15,16,17,18,19,20,21,23,6,7]),([6],[9,10,11,12,13,14,15,16,17,18,19,20,21,22,8,23,24,7]),([7],[9,10,11,12,13,14,15,16,17,18,19,20,21,22,8,23,24,6]),([6],[24])] (by kernel_rfl) fun K hK=>?_|refine Qk (id:=2) (T.withF [27]) mixed [([25],[26,27]),([26],[25,4]),([27],[25,4]),([4],[26,27])] (by kernel_rfl) fun K hK=>?_|refine Ql fun A B hA hB=>?_|refine Qn ?_|refine Qr ?_)
 | ((with_reducible first|apply Qy|apply Qz|apply QA)<;>intro hb<;>try simp only[nr] at hb)
 |simp only[go_sem,↓reduceIte,reduceIte,Qa,Qh,Qb,Qc,Qd,Qe,Qf,Qg,reduceCtorEq, *,-w1,Yf,Ys,Yw,YA]
 |with_reducible refine fun(bn:Bool) hbn=>?_))
 all_goals first|rfl|simp[J9]
def Yl(s:Side)(f:Frame):Int:=if s.up=false then 12 else if V6 f≠0 then V6 f else if f.epoch≠s.epoch then 11 else if f.type≠1 then 15 else 0
set_option maxHeartbeats 4000000 in
theorem JaZ(s_epoch:Int)(s_turn:Int)(s_up:Bool)(s_in_last_a0:Int)(s_in_last_a1:Int)(s_in_last_a2:Int)(s_in_last_a3:Int)(s_in_max:Int)(s_errs_a0:Int)(s_errs_a1:Int)(s_errs_a2:Int)(s_errs_a3:Int)(s_w_c_cap:Int)(s_w_c_l:List Res)(s_w_ready:Bool)(s_w_shown:List Res)(s_p_next:Int)(s_p_snaps:List Snap)(f_type:Int)(f_epoch:Int)(f_kind:Int)(f_nonce:Int)(f_turn:Int)(f_adds:List Res)(f_gone:List Key)(f_err:Int)(f_have:List Mark)(f_held:List Key)(hf:VW (⟨f_type,f_epoch,f_kind,f_nonce,f_turn,f_adds,f_gone,f_err,f_have,f_held⟩:Frame)):CallR Tryz.prog 40 [.agg [.int .i64 s_epoch,.int .i64 s_turn,.bool s_up,.int .i64 s_in_last_a0,.int .i64 s_in_last_a1,.int .i64 s_in_last_a2,.int .i64 s_in_last_a3,.int .i64 s_in_max,.int .i64 s_errs_a0,.int .i64 s_errs_a1,.int .i64 s_errs_a2,.int .i64 s_errs_a3,.int .i64 s_w_c_cap,.slice false (Ja s_w_c_l),.bool s_w_ready,.slice false (Ja s_w_shown),.int .i64 s_p_next,.slice false (Ja s_p_snaps)],.agg [.int .i64 f_type,.int .i64 f_epoch,.int .i64 f_kind,.int .i64 f_nonce,.int .i64 f_turn,.slice false (Ja f_adds),.slice false (Ja f_gone),.int .i64 f_err,.slice false (Ja f_have),.slice false (Ja f_held)]] (.val (.int .i64 (Yl (⟨s_epoch,s_turn,s_up,⟨⟨s_in_last_a0,s_in_last_a1,s_in_last_a2,s_in_last_a3⟩,s_in_max⟩,⟨s_errs_a0,s_errs_a1,s_errs_a2,s_errs_a3⟩,⟨⟨s_w_c_cap,s_w_c_l⟩,s_w_ready,s_w_shown⟩,⟨s_p_next,s_p_snaps⟩⟩:Side) (⟨f_type,f_epoch,f_kind,f_nonce,f_turn,f_adds,f_gone,f_err,f_have,f_held⟩:Frame)))):=by
 have w1:=JdH f_type f_epoch f_kind f_nonce f_turn f_adds f_gone f_err f_have f_held hf
 have e:Yl (⟨s_epoch,s_turn,s_up,⟨⟨s_in_last_a0,s_in_last_a1,s_in_last_a2,s_in_last_a3⟩,s_in_max⟩,⟨s_errs_a0,s_errs_a1,s_errs_a2,s_errs_a3⟩,⟨⟨s_w_c_cap,s_w_c_l⟩,s_w_ready,s_w_shown⟩,⟨s_p_next,s_p_snaps⟩⟩:Side) (⟨f_type,f_epoch,f_kind,f_nonce,f_turn,f_adds,f_gone,f_err,f_have,f_held⟩:Frame)=if s_up=false then 12 else if V6 (⟨f_type,f_epoch,f_kind,f_nonce,f_turn,f_adds,f_gone,f_err,f_have,f_held⟩:Frame)≠0 then V6 (⟨f_type,f_epoch,f_kind,f_nonce,f_turn,f_adds,f_gone,f_err,f_have,f_held⟩:Frame) else if f_epoch≠s_epoch then 11 else if f_type≠1 then 15 else 0:=rfl
 rw[e]
 clear hf e
 generalize V6 (⟨f_type,f_epoch,f_kind,f_nonce,f_turn,f_adds,f_gone,f_err,f_have,f_held⟩:Frame)=v at *
 cases s_up
 all_goals
  refine CallR.go2 (T:=T) Tryz.call40 Tryz.func40 rfl Tryz.ntmps40 (congrArg Array.toList Tryz.results40) (by decide) fun ts hn h0 h1=>?_
  (repeat' (first
 | (with_reducible first|refine callX.by (w1) ?_|refine callX.by (JdH _ _ _ _ _ _ _ _ _ _ ?_) ?_|assumption|(refine Qw hK _ ?_;clear hK K)|refine Qw ‹_› _ ?_|refine Qx ‹_› ?_|refine Qi fun K hK=>?_|refine Qj T fun K hK=>?_|refine Ql fun A B hA hB=>?_|refine Qm ?_|refine Qn ?_|refine Qr ?_)
 | ((with_reducible first|apply Qy|apply Qz|apply QA)<;>intro hb<;>try simp only[nr] at hb)
 |simp only[go_sem,↓reduceIte,reduceIte,Qa,Qh,Qb,Qc,Qd,Qe,Qf,Qg,reduceCtorEq, *,-w1]
 |with_reducible refine fun(bn:Bool) hbn=>?_))
 all_goals simp_all
theorem JfV{s:Side}(h:SzS s):SzS (JG s):=by
 unfold JG
 split
 ·exact h
 ·exact⟨by simp[JD],⟨⟨by simp[JD,Jc],by simp[JD]⟩,by simp[JD,Jc],by simp[JD]⟩,SzP.nil⟩
set_option maxHeartbeats 4000000 in
theorem JjA(s_epoch:Int)(s_turn:Int)(s_up:Bool)(s_in_last_a0:Int)(s_in_last_a1:Int)(s_in_last_a2:Int)(s_in_last_a3:Int)(s_in_max:Int)(s_errs_a0:Int)(s_errs_a1:Int)(s_errs_a2:Int)(s_errs_a3:Int)(s_w_c_cap:Int)(s_w_c_l:List Res)(s_w_ready:Bool)(s_w_shown:List Res)(s_p_next:Int)(s_p_snaps:List Snap)(h:SzS (⟨s_epoch,s_turn,s_up,⟨⟨s_in_last_a0,s_in_last_a1,s_in_last_a2,s_in_last_a3⟩,s_in_max⟩,⟨s_errs_a0,s_errs_a1,s_errs_a2,s_errs_a3⟩,⟨⟨s_w_c_cap,s_w_c_l⟩,s_w_ready,s_w_shown⟩,⟨s_p_next,s_p_snaps⟩⟩:Side)):CallR Tryz.prog 18 [.agg [.int .i64 s_epoch,.int .i64 s_turn,.bool s_up,.int .i64 s_in_last_a0,.int .i64 s_in_last_a1,.int .i64 s_in_last_a2,.int .i64 s_in_last_a3,.int .i64 s_in_max,.int .i64 s_errs_a0,.int .i64 s_errs_a1,.int .i64 s_errs_a2,.int .i64 s_errs_a3,.int .i64 s_w_c_cap,.slice false (Ja s_w_c_l),.bool s_w_ready,.slice false (Ja s_w_shown),.int .i64 s_p_next,.slice false (Ja s_p_snaps)]] (.val (.tup [.slice false (Ja (Vk (JG (⟨s_epoch,s_turn,s_up,⟨⟨s_in_last_a0,s_in_last_a1,s_in_last_a2,s_in_last_a3⟩,s_in_max⟩,⟨s_errs_a0,s_errs_a1,s_errs_a2,s_errs_a3⟩,⟨⟨s_w_c_cap,s_w_c_l⟩,s_w_ready,s_w_shown⟩,⟨s_p_next,s_p_snaps⟩⟩:Side)).p).2.1),.bool (Vk (JG (⟨s_epoch,s_turn,s_up,⟨⟨s_in_last_a0,s_in_last_a1,s_in_last_a2,s_in_last_a3⟩,s_in_max⟩,⟨s_errs_a0,s_errs_a1,s_errs_a2,s_errs_a3⟩,⟨⟨s_w_c_cap,s_w_c_l⟩,s_w_ready,s_w_shown⟩,⟨s_p_next,s_p_snaps⟩⟩:Side)).p).2.2])):=by
 have w1:=YL s_epoch s_turn s_up s_in_last_a0 s_in_last_a1 s_in_last_a2 s_in_last_a3 s_in_max s_errs_a0 s_errs_a1 s_errs_a2 s_errs_a3 s_w_c_cap s_w_c_l s_w_ready s_w_shown s_p_next s_p_snaps h
 have hz:=JfV h
 clear h
 generalize JG (⟨s_epoch,s_turn,s_up,⟨⟨s_in_last_a0,s_in_last_a1,s_in_last_a2,s_in_last_a3⟩,s_in_max⟩,⟨s_errs_a0,s_errs_a1,s_errs_a2,s_errs_a3⟩,⟨⟨s_w_c_cap,s_w_c_l⟩,s_w_ready,s_w_shown⟩,⟨s_p_next,s_p_snaps⟩⟩:Side)=b at *
 have w2:=Jdx b.p.next' b.p.snaps hz.p.n
 clear hz
 have e:(⟨b.p.next',b.p.snaps⟩:Pins)=b.p:=rfl
 rw[e] at w2
 clear e
 generalize Vk b.p=q at *
 refine QD (T:=T) Tryz.call18 Tryz.func18 rfl Tryz.ntmps18 (congrArg Array.toList Tryz.results18) (by decide) fun ts hn h0=>?_
 (repeat' (first
 | (with_reducible first|refine callX.by (w1) ?_|refine callX.by (w2) ?_|refine callX.by (YL _ _ _ _ _ _ _ _ _ _ _ _ _ _ _ _ _ _ ?_) ?_|refine callX.by (Jdx _ _ ?_) ?_|assumption|(refine Qw hK _ ?_;clear hK K)|refine Qw ‹_› _ ?_|refine Qx ‹_› ?_|refine Qi fun K hK=>?_|refine Qj T fun K hK=>?_|refine Ql fun A B hA hB=>?_|refine Qn ?_|refine Qr ?_)
 | ((with_reducible first|apply Qy|apply Qz|apply QA)<;>intro hb<;>try simp only[nr] at hb)
 |simp only[go_sem,↓reduceIte,reduceIte,Qa,Qh,Qb,Qc,Qd,Qe,Qf,Qg,reduceCtorEq, *,-w1,-w2]
 |with_reducible refine fun(bn:Bool) hbn=>?_))
 all_goals trace_state
end Go.Proofs.YtihahfhagobnoaaGreatDoor.Lg
