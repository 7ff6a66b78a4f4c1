/- Parts of the proof, one behind the other. -/
import Derived.Test.YtihahfhagobnoaaGreatDoorG20
namespace Go.Proofs.YtihahfhagobnoaaGreatDoor.Lg
set_option maxRecDepth 100000
set_option linter.unusedVariables false
set_option linter.unusedSimpArgs false
open Go
open Nat renaming reduceEqDiff → Qa, reduceLT → Qb, reduceLeDiff → Qc, reduceAdd → Qd, reduceMul → Qe, reduceSub → Qf, reduceBEq → Qg
open String renaming reduceEq → Qh
open SpecC renaming seqW → Qi, regW → Qj, condW → Ql, block → Qm, skip → Qn, exit → Qp, ret → Qr
open NxK renaming out → Qw
open Nx renaming out → Qx
open condK renaming split → Qy
open gK renaming split_t → Qz, split_f → QA
open CallR renaming go1 → QD
theorem saneW_iff{w:Warm}:Vp w=true↔VD w.c=true∧w.shown=VP w.c∧(w.ready=true∨w.shown=[]):=by
 unfold Vp
 simp only[Bool.and_eq_true,Bool.or_eq_true,decide_eq_true_eq,and_assoc]
theorem JeM{c:Cache}(h:VD c=true):VP c=JL c.l:=by unfold VP Vo;rw[if_pos h]
theorem Jdn{w:Warm}(h:Vp w=true)(adds:List Res)(gone:List Key) :
  JW w adds gone=if(J4 w.c adds gone).2=0 then (if VP (J4 w.c adds gone).1=w.shown then (⟨(J4 w.c adds gone).1,w.ready,w.shown⟩,false,0) else (⟨(J4 w.c adds gone).1,true,VP (J4 w.c adds gone).1⟩,true,0)) else (w,false,(J4 w.c adds gone).2):=by
 have hof:Yt w=w:=by unfold Yt;rw[if_pos h]
 unfold JW
 rw[hof]
theorem Jgt{w:Warm}(h:Vp w=true)(adds:List Res)(gone:List Key):Vp (JW w adds gone).1=true:=by
 rw[Jdn h]
 have hw:=saneW_iff.1 h
 split
 ·split
  ·rename_i hs
   exact saneW_iff.2 ⟨JgS hw.1 adds gone,hs.symm,hw.2.2⟩
  ·exact saneW_iff.2 ⟨JgS hw.1 adds gone,rfl,.inl rfl⟩
 ·exact h
theorem Jou{w:Warm}(h:Vp w=true)(adds:List Res)(gone:List Key):(JW w adds gone).2.1=!decide (w.shown=(JW w adds gone).1.shown):=by
 rw[Jdn h]
 split
 ·split
  ·simp
  ·rename_i hs
   simp[Ne.symm hs]
 ·simp
theorem Jos{w:Warm}(h:Vp w=true){adds:List Res}{gone:List Key}{x:Res}(hx:x∈(JW w adds gone).1.c.l):x∈w.c.l∨x∈adds:=by
 rw[Jdn h] at hx
 split at hx
 ·split at hx<;>exact JgT hx
 ·exact .inl hx
theorem Jot{w:Warm}(h:Vp w=true)(adds:List Res)(gone:List Key):(JW w adds gone).1.ready=(w.ready || (JW w adds gone).2.1):=by
 rw[Jdn h]
 split
 ·split<;>simp
 ·simp
theorem JnX{w:Warm}(h:Vp w=true):Ja4 w.shown=true:=by
 have hw:=saneW_iff.1 h
 have hc:=saneC_iff.1 hw.1
 rw[hw.2.1,JeM hw.1]
 exact JlL hc.2.1 hc.2.2.2
theorem JjO{w:Warm}(h:Vp w=true):w.c.l.length≤64:=JoK (saneC_iff.1 (saneW_iff.1 h).1).2.1
theorem Jgp{w:Warm}(h:Vp w=true):w.shown=JL w.c.l:=by
 have hw:=saneW_iff.1 h
 rw[hw.2.1,JeM hw.1]
theorem JjP{w:Warm}(h:Vp w=true):w.shown.length≤64:=by
 rw[Jgp h]
 exact Nat.le_trans (Jer _) (JjO h)
theorem JnY{w:Warm}(h:Vp w=true){x:Res}(hx:x∈w.shown):x∈w.c.l:=by
 rw[Jgp h] at hx
 exact(JaJ _).subset hx
theorem JiG(n:Int):Vp ⟨⟨VI n,[]⟩,false,[]⟩=true:=by
 refine saneW_iff.2 ⟨JiF n,?_,.inr rfl⟩
 rw[JeM (JiF n)]
 show[]=JL []
 decide
theorem Jek(next:Int)(xs:List Snap)(hl:Jc xs.length)(hs:∀x∈xs,Jdy x)(ht:Jc (J2 xs).length):CallR Tryz.prog 82 [.agg [.int .i64 next,.slice false (Ja xs)]] (.own 2 (Ja (Vk ⟨next,xs⟩))):=by
 have hl2:Jc (Jr ⟨next,xs⟩).snaps.length:=Jc8 hl
 have hs2:∀x∈(Jr ⟨next,xs⟩).snaps,Jc x.l.length:=by
  unfold Jr;split
  ·exact fun x hx=>(hs x hx).1
  ·simp
 have ht2:Jc (J2 (Jr ⟨next,xs⟩).snaps).length:=by
  unfold Jr;split
  ·exact ht
  ·simp[J2,Jc]
 have ht3:Jc (JK (J2 (Jr ⟨next,xs⟩).snaps)).length:=by rw[Jad];exact ht2
 refine QD (T:=T) Tryz.call82 Tryz.func82 rfl Tryz.ntmps82 (congrArg Array.toList Tryz.results82) (by decide) fun ts hn h0=>?_
 (repeat' (first
 | (with_reducible first|refine callX.by (JaI _ _ ?_) ?_|refine callX.by (JeS _ ?_) ?_)
 | (with_reducible refine callX.ar ?_ ?_ (Yv ?_ ?_);(focus(simp only[go_sem,↓reduceIte,reduceIte,Qa,Qh,Qb,Qc,Qd,Qe,Qf,Qg,reduceCtorEq, *];first|done|rfl)))
 |with_reducible refine callX.by (Vb _ _ _ _) ?_
 | (with_reducible refine callX.mv ?_ ?_ ?_ (Yi ?_ ?_);(focus(simp only[go_sem,↓reduceIte,reduceIte,Qa,Qh,Qb,Qc,Qd,Qe,Qf,Qg,reduceCtorEq, *];first|done|rfl));(focus(simp only[go_sem,↓reduceIte,reduceIte,Qa,Qh,Qb,Qc,Qd,Qe,Qf,Qg,reduceCtorEq, *];first|done|rfl)))
 | (with_reducible first|assumption|(refine Qw hK _ ?_;clear hK K)|refine Qw ‹_› _ ?_|refine Qx ‹_› ?_|refine Qi fun K hK=>?_|refine Qj T fun K hK=>?_|refine Ql fun A B hA hB=>?_|refine Qm ?_|refine Qn ?_|refine Qp ?_|refine Qr ?_)
 | ((with_reducible first|apply Qy|apply Qz|apply QA)<;>intro hb<;>try simp only[nr] at hb)
 |simp only[go_sem,↓reduceIte,reduceIte,Qa,Qh,Qb,Qc,Qd,Qe,Qf,Qg,reduceCtorEq, *]
 |with_reducible refine fun(bn:Bool) hbn=>?_))
 refine SpecC.ent (Ent.virt 3 2 (by simp only[go_sem,↓reduceIte,reduceIte,Qa,Qh,Qb,Qc,Qd,Qe,Qf,Qg,reduceCtorEq, *]) (by decide)) ?_
 refine SpecC.loopF [8,9] (fun m ts'=>∃(i:Nat),∃(g:Nat),∃(ys:List Key),m=(Jr ⟨next,xs⟩).snaps.length-i∧i≤(Jr ⟨next,xs⟩).snaps.length∧J2 (Jr ⟨next,xs⟩).snaps=ys++J2 ((Jr ⟨next,xs⟩).snaps.drop i)∧ts'.tmp 3=.os 3 g ys.length∧ts'.gen 3=g∧ts'.obj 3=.arr 2 (Ja ys)∧ts'.tmp 10=.int .i64 i) (Jr ⟨next,xs⟩).snaps.length ?_ ?_
 ·refine⟨0,ts.gen 3+1,[],rfl,Nat.zero_le _,rfl,?_⟩
  simp only[go_sem,↓reduceIte,reduceIte,Qa,Qh,Qb,Qc,Qd,Qe,Qf,Qg,reduceCtorEq, *,Yh]
 ·rintro m A hM ts' hk ⟨i,g,ys,hm,f1,f2,s1,s2,s3,s4⟩
  simp only[go_sem,↓reduceIte,reduceIte,Qa,Qh,Qb,Qc,Qd,Qe,Qf,Qg,reduceCtorEq, *] at hk
  by_cases hlt:i<(Jr ⟨next,xs⟩).snaps.length
  ·rw[List.drop_eq_getElem_cons hlt,Jh3] at f2
   have hsi:=hs2 _ (List.getElem_mem hlt)
   have hlen:=congrArg List.length f2
   rw[List.length_append,List.length_append,List.length_map] at hlen
   have hr1:Vl (ys.length+(Jr ⟨next,xs⟩).snaps[i].l.length) 24:=Jbk (by unfold Jc at ht2;omega) (by decide)
   have htk:((Jr ⟨next,xs⟩).snaps[i].l.map Jg).take (Jr ⟨next,xs⟩).snaps[i].l.length=(Jr ⟨next,xs⟩).snaps[i].l.map Jg:=List.take_of_length_le (by simp)
   (repeat' (first
 | (with_reducible first|refine callX.by (JaI _ _ ?_) ?_|refine callX.by (JeS _ ?_) ?_)
 | (with_reducible refine callX.ar ?_ ?_ (Yv ?_ ?_);(focus(simp only[go_sem,↓reduceIte,reduceIte,Qa,Qh,Qb,Qc,Qd,Qe,Qf,Qg,reduceCtorEq, *,List.length_map,-hlen,-f2];first|done|rfl)))
 |with_reducible refine callX.by (Vb _ _ _ _) ?_
 | (with_reducible refine callX.mv ?_ ?_ ?_ (Yi ?_ ?_);(focus(simp only[go_sem,↓reduceIte,reduceIte,Qa,Qh,Qb,Qc,Qd,Qe,Qf,Qg,reduceCtorEq, *,List.length_map,-hlen,-f2];first|done|rfl));(focus(simp only[go_sem,↓reduceIte,reduceIte,Qa,Qh,Qb,Qc,Qd,Qe,Qf,Qg,reduceCtorEq, *,List.length_map,-hlen,-f2];first|done|rfl)))
 | (with_reducible first|assumption|(refine Qw hK _ ?_;clear hK K)|refine Qw ‹_› _ ?_|refine Qx ‹_› ?_|refine Qi fun K hK=>?_|refine Qj T fun K hK=>?_|refine Ql fun A B hA hB=>?_|refine Qm ?_|refine Qn ?_|refine Qp ?_|refine Qr ?_)
 | ((with_reducible first|apply Qy|apply Qz|apply QA)<;>intro hb<;>try simp only[nr] at hb)
 |simp only[go_sem,↓reduceIte,reduceIte,Qa,Qh,Qb,Qc,Qd,Qe,Qf,Qg,reduceCtorEq, *,List.length_map,-hlen,-f2]
 |with_reducible refine fun(bn:Bool) hbn=>?_))
   all_goals ((repeat clear hK);(repeat clear hA);(repeat clear hB))
   (refine hM.onE ((Jr ⟨next,xs⟩).snaps.length-(i+1)) (Ent.ren 3 18 ?_ ?_) ?_ ?_ ?_;(focus(simp only[go_sem,↓reduceIte,reduceIte,Qa,Qh,Qb,Qc,Qd,Qe,Qf,Qg,reduceCtorEq, *,Jf hlt hl2,List.length_map,List.length_append,-hlen,-f2];first|done|rfl));(focus(simp only[go_sem,↓reduceIte,reduceIte,Qa,Qh,Qb,Qc,Qd,Qe,Qf,Qg,reduceCtorEq, *,Jf hlt hl2,List.length_map,List.length_append,-hlen,-f2];first|done|rfl));omega;(focus(simp only[go_sem,↓reduceIte,reduceIte,Qa,Qh,Qb,Qc,Qd,Qe,Qf,Qg,reduceCtorEq, *,Jf hlt hl2,List.length_map,List.length_append,-hlen,-f2];done));refine⟨i+1,g+1,ys++(Jr ⟨next,xs⟩).snaps[i].l.map Jg,rfl,by omega,by rw[f2,List.append_assoc],?_⟩;simp only[go_sem,↓reduceIte,reduceIte,Qa,Qh,Qb,Qc,Qd,Qe,Qf,Qg,reduceCtorEq, *,Jf hlt hl2,List.length_map,List.length_append,-hlen,-f2];done)
  ·rw[List.drop_eq_nil_of_le (by omega)] at f2
   have e:ys=J2 (Jr ⟨next,xs⟩).snaps:=by rw[f2];simp[J2]
   subst e
   clear f2
   have hk1:=Jad (J2 (Jr ⟨next,xs⟩).snaps)
   have htk:(JK (J2 (Jr ⟨next,xs⟩).snaps)).take (J2 (Jr ⟨next,xs⟩).snaps).length=JK (J2 (Jr ⟨next,xs⟩).snaps):=List.take_of_length_le (by omega)
   (repeat' (first
 | (with_reducible first|refine callX.by (JaI _ _ ?_) ?_|refine callX.by (JeS _ ?_) ?_)
 | (with_reducible refine callX.ar ?_ ?_ (Yv ?_ ?_);(focus(simp only[go_sem,↓reduceIte,reduceIte,Qa,Qh,Qb,Qc,Qd,Qe,Qf,Qg,reduceCtorEq, *,Nat.le_refl];first|done|rfl)))
 |with_reducible refine callX.by (Vb _ _ _ _) ?_
 | (with_reducible refine callX.mv ?_ ?_ ?_ (Yi ?_ ?_);(focus(simp only[go_sem,↓reduceIte,reduceIte,Qa,Qh,Qb,Qc,Qd,Qe,Qf,Qg,reduceCtorEq, *,Nat.le_refl];first|done|rfl));(focus(simp only[go_sem,↓reduceIte,reduceIte,Qa,Qh,Qb,Qc,Qd,Qe,Qf,Qg,reduceCtorEq, *,Nat.le_refl];first|done|rfl)))
 | (with_reducible first|assumption|(refine Qw hK _ ?_;clear hK K)|refine Qw ‹_› _ ?_|refine Qx ‹_› ?_|refine Qi fun K hK=>?_|refine Qj T fun K hK=>?_|refine Ql fun A B hA hB=>?_|refine Qm ?_|refine Qn ?_|refine Qp ?_|refine Qr ?_)
 | ((with_reducible first|apply Qy|apply Qz|apply QA)<;>intro hb<;>try simp only[nr] at hb)
 |simp only[go_sem,↓reduceIte,reduceIte,Qa,Qh,Qb,Qc,Qd,Qe,Qf,Qg,reduceCtorEq, *,Nat.le_refl]
 |with_reducible refine fun(bn:Bool) hbn=>?_))
   all_goals ((repeat clear hK);(repeat clear hA);(repeat clear hB))
   all_goals rfl
theorem Jm3(p:Pins):(Vk p).length≤(J2 (Jr p).snaps).length:=by
 unfold Vk VK
 have h1:=Jii (JK (J2 (Jr p).snaps))
 have h2:=Jad (J2 (Jr p).snaps)
 rw[List.length_append,List.length_take]
 omega
structure SzP(p:Pins):Prop where
 n:Jc p.snaps.length
 s:∀x∈p.snaps,Jdy x
 t:Jc (J2 p.snaps).length
theorem Jf4(p:Pins):Jr p=p∨Jr p=⟨0,[]⟩:=by
 unfold Jr;split
 ·exact .inl rfl
 ·exact .inr rfl
theorem SzP.nil:SzP ⟨0,[]⟩:=⟨by simp[Jc],by simp,by simp[Jc,J2]⟩
theorem SzP.sane{p:Pins}(h:SzP p):SzP (Jr p):=by
 rcases Jf4 p with e|e<;>rw[e]
 ·exact h
 ·exact SzP.nil
theorem SzP.held{p:Pins}(h:SzP p):Jc (Vk p).length∧∀k∈Vk p,JaV k:=by
 have h1:=h.sane
 refine⟨?_,fun k hk0=>?_⟩
 ·have:=Jm3 p
  have h2:=h1.t
  unfold Jc at h2 ⊢;omega
 ·have h2:=((Jm4 p).2 k).1 hk0
  obtain⟨x,hx,hm⟩:=List.mem_flatMap.1 h2
  obtain⟨r,hr,rfl⟩:=List.mem_map.1 hm
  exact((h1.s x hx).2 r hr).1
def Jk(limit most:Int):Side:=⟨0,0,false,⟨z4,JS most⟩,z4,⟨⟨VI limit,[]⟩,false,[]⟩,⟨0,[]⟩⟩
theorem Ya(a b:Int):CallR Tryz.prog 21 [.int .i64 a,.int .i64 b] (.val (.agg [.int .i64 (Jk a b).epoch,.int .i64 (Jk a b).turn,.bool (Jk a b).up,.int .i64 (Jk a b).in'.last.a0,.int .i64 (Jk a b).in'.last.a1,.int .i64 (Jk a b).in'.last.a2,.int .i64 (Jk a b).in'.last.a3,.int .i64 (Jk a b).in'.max,.int .i64 (Jk a b).errs.a0,.int .i64 (Jk a b).errs.a1,.int .i64 (Jk a b).errs.a2,.int .i64 (Jk a b).errs.a3,.int .i64 (Jk a b).w.c.cap,.slice false (Ja (Jk a b).w.c.l),.bool (Jk a b).w.ready,.slice false (Ja (Jk a b).w.shown),.int .i64 (Jk a b).p.next',.slice false (Ja (Jk a b).p.snaps)])):=by
 have w1:=JbP b
 have w2:=Jef a
 refine CallR.go2 (T:=T) Tryz.call21 Tryz.func21 rfl Tryz.ntmps21 (congrArg Array.toList Tryz.results21) (by decide) fun ts hn h0 h1=>?_
 (repeat' (first
 | (with_reducible first|refine callX.by (w1) ?_|refine callX.by (w2) ?_|refine callX.by (JbP _) ?_|refine callX.by (Jef _) ?_|assumption|(refine Qw hK _ ?_;clear hK K)|refine Qw ‹_› _ ?_|refine Qx ‹_› ?_|refine Qi fun K hK=>?_|refine Qj T fun K hK=>?_|refine Ql fun A B hA hB=>?_|refine Qn ?_|refine Qr ?_)
 | ((with_reducible first|apply Qy|apply Qz|apply QA)<;>intro hb<;>try simp only[nr] at hb)
 |simp only[go_sem,↓reduceIte,reduceIte,Qa,Qh,Qb,Qc,Qd,Qe,Qf,Qg,reduceCtorEq, *,-w1,-w2]
 |with_reducible refine fun(bn:Bool) hbn=>?_))
 all_goals exact⟨rfl,rfl,rfl,rfl,rfl,rfl,rfl,rfl,rfl,rfl,rfl,rfl,rfl,rfl,rfl,rfl,rfl,rfl⟩
theorem Joj(n:Int):CallR Tryz.prog 29 [.int .i64 n] (.val (.bool (Jw n 2147483647))):=by
 refine QD (T:=T) Tryz.call29 Tryz.func29 rfl Tryz.ntmps29 (congrArg Array.toList Tryz.results29) (by decide) fun ts hn h0=>?_
 (repeat' (first
 | (with_reducible first|assumption|(refine Qw hK _ ?_;clear hK K)|refine Qw ‹_› _ ?_|refine Qx ‹_› ?_|refine Qi fun K hK=>?_|refine Qj T fun K hK=>?_|refine Ql fun A B hA hB=>?_|refine Qn ?_|refine Qr ?_)
 | ((with_reducible first|apply Qy|apply Qz|apply QA)<;>intro hb<;>try simp only[nr] at hb)
 |simp only[go_sem,↓reduceIte,reduceIte,Qa,Qh,Qb,Qc,Qd,Qe,Qf,Qg,reduceCtorEq, *]
 |with_reducible refine fun(bn:Bool) hbn=>?_))
 all_goals (rw[Bool.eq_iff_iff];simp_all[Jw])
 all_goals omega
theorem Jj2(n:Int):CallR Tryz.prog 31 [.int .i64 n] (.val (.bool (!Jw n 15))):=by
 refine QD (T:=T) Tryz.call31 Tryz.func31 rfl Tryz.ntmps31 (congrArg Array.toList Tryz.results31) (by decide) fun ts hn h0=>?_
 (repeat' (first
 | (with_reducible first|assumption|(refine Qw hK _ ?_;clear hK K)|refine Qw ‹_› _ ?_|refine Qx ‹_› ?_|refine Qi fun K hK=>?_|refine Qj T fun K hK=>?_|refine Ql fun A B hA hB=>?_|refine Qn ?_|refine Qr ?_)
 | ((with_reducible first|apply Qy|apply Qz|apply QA)<;>intro hb<;>try simp only[nr] at hb)
 |simp only[go_sem,↓reduceIte,reduceIte,Qa,Qh,Qb,Qc,Qd,Qe,Qf,Qg,reduceCtorEq, *]
 |with_reducible refine fun(bn:Bool) hbn=>?_))
 all_goals (rw[Bool.eq_iff_iff];simp_all[Jw])
 all_goals omega
theorem ZD(s_epoch:Int)(s_turn:Int)(s_up:Bool)(s_in_last_a0:Int)(s_in_last_a1:Int)(s_in_last_a2:Int)(s_in_last_a3:Int)(s_in_max:Int)(s_errs_a0:Int)(s_errs_a1:Int)(s_errs_a2:Int)(s_errs_a3:Int)(s_w_c_cap:Int)(s_w_c_l:List Res)(s_w_ready:Bool)(s_w_shown:List Res)(s_p_next:Int)(s_p_snaps:List Snap):CallR Tryz.prog 42 [.agg [.int .i64 s_epoch,.int .i64 s_turn,.bool s_up,.int .i64 s_in_last_a0,.int .i64 s_in_last_a1,.int .i64 s_in_last_a2,.int .i64 s_in_last_a3,.int .i64 s_in_max,.int .i64 s_errs_a0,.int .i64 s_errs_a1,.int .i64 s_errs_a2,.int .i64 s_errs_a3,.int .i64 s_w_c_cap,.slice false (Ja s_w_c_l),.bool s_w_ready,.slice false (Ja s_w_shown),.int .i64 s_p_next,.slice false (Ja s_p_snaps)]] (.val (.bool (decide (s_turn=2147483647)))):=by
 refine QD (T:=T) Tryz.call42 Tryz.func42 rfl Tryz.ntmps42 (congrArg Array.toList Tryz.results42) (by decide) fun ts hn h0=>?_
 (repeat' (first
 | (with_reducible first|assumption|(refine Qw hK _ ?_;clear hK K)|refine Qw ‹_› _ ?_|refine Qx ‹_› ?_|refine Qi fun K hK=>?_|refine Qj T fun K hK=>?_|refine Ql fun A B hA hB=>?_|refine Qn ?_|refine Qr ?_)
 | ((with_reducible first|apply Qy|apply Qz|apply QA)<;>intro hb<;>try simp only[nr] at hb)
 |simp only[go_sem,↓reduceIte,reduceIte,Qa,Qh,Qb,Qc,Qd,Qe,Qf,Qg,reduceCtorEq, *]
 |with_reducible refine fun(bn:Bool) hbn=>?_))
def Y8(p:Pins):Bool:=decide (Yz ⟨3,0,0,0,0,[],[],0,[],Vk p⟩=0)
theorem Jbl(next:Int)(xs:List Snap)(h:SzP ⟨next,xs⟩):CallR Tryz.prog 35 [.agg [.int .i64 next,.slice false (Ja xs)]] (.val (.bool (Y8 ⟨next,xs⟩))):=by
 have w1:=(Jek next xs h.n h.s h.t).frz
 have w2:=JdV 3 0 0 0 0 [] [] 0 [] (Vk ⟨next,xs⟩) ⟨by simp[Jc],by simp,by simp[Jc],by simp,by simp[Jc],by simp,h.held⟩
 have w2:CallR Tryz.prog 81 [.agg [.int .i64 3,.int .i64 0,.int .i64 0,.int .i64 0,.int .i64 0,.slice false [],.slice false [],.int .i64 0,.slice false [],.slice false (Ja (Vk ⟨next,xs⟩))]] (.val (.int .i64 (Yz ⟨3,0,0,0,0,[],[],0,[],Vk ⟨next,xs⟩⟩))):=w2
 clear h
 refine QD (T:=T) Tryz.call35 Tryz.func35 rfl Tryz.ntmps35 (congrArg Array.toList Tryz.results35) (by decide) fun ts hn h0=>?_
 (repeat' (first
 | (with_reducible first|refine callX.by (w1) ?_|refine callX.by (w2) ?_|refine callX.by (Jek _ _ ?_ ?_ ?_) ?_|refine callX.by awc7 ?_|refine callX.by awc8 ?_|refine callX.by (JdV _ _ _ _ _ _ _ _ _ _ ?_) ?_|assumption|(refine Qw hK _ ?_;clear hK K)|refine Qw ‹_› _ ?_|refine Qx ‹_› ?_|refine Qi fun K hK=>?_|refine Qj T fun K hK=>?_|refine Ql fun A B hA hB=>?_|refine Qn ?_|refine Qr ?_)
 | ((with_reducible first|apply Qy|apply Qz|apply QA)<;>intro hb<;>try simp only[nr] at hb)
 |simp only[go_sem,↓reduceIte,reduceIte,Qa,Qh,Qb,Qc,Qd,Qe,Qf,Qg,reduceCtorEq, *,-w1,-w2]
 |with_reducible refine fun(bn:Bool) hbn=>?_))
 all_goals rfl
def Jaq(s:Side):Bool:=decide ((JY s.p).2.2=s.w.ready) && (!(JY s.p).2.2 || decide ((JY s.p).2.1=s.w.shown))
theorem Jm1{p:Pins}(h:SzP p):Jc (JY p).2.1.length∧∀r∈(JY p).2.1,Ju r:=by
 unfold JY
 cases e:(Jr p).snaps.getLast? with
 |none=>simp[Jc]
 |some x=>exact h.sane.s x (List.mem_of_getLast? e)
theorem JgL(s_epoch:Int)(s_turn:Int)(s_up:Bool)(s_in_last_a0:Int)(s_in_last_a1:Int)(s_in_last_a2:Int)(s_in_last_a3:Int)(s_in_max:Int)(s_errs_a0:Int)(s_errs_a1:Int)(s_errs_a2:Int)(s_errs_a3:Int)(s_w_c_cap:Int)(s_w_c_l:List Res)(s_w_ready:Bool)(s_w_shown:List Res)(s_p_next:Int)(s_p_snaps:List Snap)(h:SzP ⟨s_p_next,s_p_snaps⟩):CallR Tryz.prog 36 [.agg [.int .i64 s_epoch,.int .i64 s_turn,.bool s_up,.int .i64 s_in_last_a0,.int .i64 s_in_last_a1,.int .i64 s_in_last_a2,.int .i64 s_in_last_a3,.int .i64 s_in_max,.int .i64 s_errs_a0,.int .i64 s_errs_a1,.int .i64 s_errs_a2,.int .i64 s_errs_a3,.int .i64 s_w_c_cap,.slice false (Ja s_w_c_l),.bool s_w_ready,.slice false (Ja s_w_shown),.int .i64 s_p_next,.slice false (Ja s_p_snaps)]] (.val (.bool (Jaq (⟨s_epoch,s_turn,s_up,⟨⟨s_in_last_a0,s_in_last_a1,s_in_last_a2,s_in_last_a3⟩,s_in_max⟩,⟨s_errs_a0,s_errs_a1,s_errs_a2,s_errs_a3⟩,⟨⟨s_w_c_cap,s_w_c_l⟩,s_w_ready,s_w_shown⟩,⟨s_p_next,s_p_snaps⟩⟩:Side)))):=by
 have w1:=JdL s_p_next s_p_snaps h.n
 obtain⟨g1,g2⟩:=Jm1 h
 have e:Jaq (⟨s_epoch,s_turn,s_up,⟨⟨s_in_last_a0,s_in_last_a1,s_in_last_a2,s_in_last_a3⟩,s_in_max⟩,⟨s_errs_a0,s_errs_a1,s_errs_a2,s_errs_a3⟩,⟨⟨s_w_c_cap,s_w_c_l⟩,s_w_ready,s_w_shown⟩,⟨s_p_next,s_p_snaps⟩⟩:Side)=(decide ((JY ⟨s_p_next,s_p_snaps⟩).2.2=s_w_ready) && (!(JY ⟨s_p_next,s_p_snaps⟩).2.2 || decide ((JY ⟨s_p_next,s_p_snaps⟩).2.1=s_w_shown))):=rfl
 rw[e]
 clear e
 generalize JY ⟨s_p_next,s_p_snaps⟩=cu at *
 obtain⟨ci,cl,cb⟩:=cu
 simp only at w1 g1 g2 ⊢
 have w2:=Z0 cl s_w_shown g1 g2
 clear g1 g2 h
 refine QD (T:=T) Tryz.call36 Tryz.func36 rfl Tryz.ntmps36 (congrArg Array.toList Tryz.results36) (by decide) fun ts hn h0=>?_
 (repeat' (first
 | (with_reducible first|refine callX.by (w1) ?_|refine callX.by (w2) ?_|refine callX.by (JdL _ _ ?_) ?_|refine callX.by (Z0 _ _ ?_ ?_) ?_|assumption|(refine Qw hK _ ?_;clear hK K)|refine Qw ‹_› _ ?_|refine Qx ‹_› ?_|refine Qi fun K hK=>?_|refine Qj T fun K hK=>?_|refine Ql fun A B hA hB=>?_|refine Qn ?_|refine Qr ?_)
 | ((with_reducible first|apply Qy|apply Qz|apply QA)<;>intro hb<;>try simp only[nr] at hb)
 |simp only[go_sem,↓reduceIte,reduceIte,Qa,Qh,Qb,Qc,Qd,Qe,Qf,Qg,reduceCtorEq, *,-w1,-w2]
 |with_reducible refine fun(bn:Bool) hbn=>?_))
 all_goals (try simp_all)
structure SzS(s:Side):Prop where
 c:s.w.c.l.length≤65536
 w:Jkn s.w
 p:SzP s.p
def ZL(e:Four):Bool:=Jw e.a0 15 && Jw e.a1 15 && Jw e.a2 15 && Jw e.a3 15
theorem Jln(a b c d:Int):([a,b,c,d].any fun e=>!Jw e 15)=!ZL ⟨a,b,c,d⟩:=by
 simp[ZL,List.any_cons,Bool.and_assoc]
def Vi(s:Side):Bool:=Jw s.epoch 2147483647 && Jw s.turn 2147483647 && ZL s.errs && Yp s.in' && Vp s.w && ZP s.p && Y8 s.p && Jaq s
theorem Jhj(a b c d:Int):CallR Tryz.prog 30 [.slice false [.int .i64 a,.int .i64 b,.int .i64 c,.int .i64 d],.clo (.func 31) [] []] (.val (.bool (!ZL ⟨a,b,c,d⟩))):=by
 have:=Jhk 31 [] Caps.nil (fun e=>!Jw e 15) [a,b,c,d] (fun x _=>Jj2 x) (by simp[Jc])
 rw[Jln] at this
 exact this
set_option maxHeartbeats 4000000 in
theorem Yf(s_epoch:Int)(s_turn:Int)(s_up:Bool)(s_in_last_a0:Int)(s_in_last_a1:Int)(s_in_last_a2:Int)(s_in_last_a3:Int)(s_in_max:Int)(s_errs_a0:Int)(s_errs_a1:Int)(s_errs_a2:Int)(s_errs_a3:Int)(s_w_c_cap:Int)(s_w_c_l:List Res)(s_w_ready:Bool)(s_w_shown:List Res)(s_p_next:Int)(s_p_snaps:List Snap)(h:SzS (⟨s_epoch,s_turn,s_up,⟨⟨s_in_last_a0,s_in_last_a1,s_in_last_a2,s_in_last_a3⟩,s_in_max⟩,⟨s_errs_a0,s_errs_a1,s_errs_a2,s_errs_a3⟩,⟨⟨s_w_c_cap,s_w_c_l⟩,s_w_ready,s_w_shown⟩,⟨s_p_next,s_p_snaps⟩⟩:Side)):CallR Tryz.prog 10 [.agg [.int .i64 s_epoch,.int .i64 s_turn,.bool s_up,.int .i64 s_in_last_a0,.int .i64 s_in_last_a1,.int .i64 s_in_last_a2,.int .i64 s_in_last_a3,.int .i64 s_in_max,.int .i64 s_errs_a0,.int .i64 s_errs_a1,.int .i64 s_errs_a2,.int .i64 s_errs_a3,.int .i64 s_w_c_cap,.slice false (Ja s_w_c_l),.bool s_w_ready,.slice false (Ja s_w_shown),.int .i64 s_p_next,.slice false (Ja s_p_snaps)]] (.val (.bool (Vi (⟨s_epoch,s_turn,s_up,⟨⟨s_in_last_a0,s_in_last_a1,s_in_last_a2,s_in_last_a3⟩,s_in_max⟩,⟨s_errs_a0,s_errs_a1,s_errs_a2,s_errs_a3⟩,⟨⟨s_w_c_cap,s_w_c_l⟩,s_w_ready,s_w_shown⟩,⟨s_p_next,s_p_snaps⟩⟩:Side)))):=by
 have w1:=Jhj s_errs_a0 s_errs_a1 s_errs_a2 s_errs_a3
 have w2:=Jc5 s_in_last_a0 s_in_last_a1 s_in_last_a2 s_in_last_a3 s_in_max
 have w3:=Jdi s_w_c_cap s_w_c_l s_w_ready s_w_shown h.c h.w.1.2 h.w.2.1 h.w.2.2
 have w4:=Jf1 s_p_next s_p_snaps h.p.n
 have w5:=Jbl s_p_next s_p_snaps h.p
 have w6:=JgL s_epoch s_turn s_up s_in_last_a0 s_in_last_a1 s_in_last_a2 s_in_last_a3 s_in_max s_errs_a0 s_errs_a1 s_errs_a2 s_errs_a3 s_w_c_cap s_w_c_l s_w_ready s_w_shown s_p_next s_p_snaps h.p
 clear h
 refine QD (T:=T) Tryz.call10 Tryz.func10 rfl Tryz.ntmps10 (congrArg Array.toList Tryz.results10) (by decide) fun ts hn h0=>?_
 (repeat' (first
 | (with_reducible first|refine SpecC.ent (Ent.frzBox _ 1) (Qj T (id:=1) fun K hK=>?_)|refine callX.by (w1) ?_|refine callX.by (w2) ?_|refine callX.by (w3) ?_|refine callX.by (w4) ?_|refine callX.by (w5) ?_|refine callX.by (w6) ?_|refine callX.by (Joj _) ?_|refine callX.by (Jhk _ _ ?_ _ _ ?_ ?_) ?_|refine callX.by (Jhj _ _ _ _) ?_|refine callX.by (Jj2 _) ?_|refine callX.by (Jc5 _ _ _ _ _) ?_|refine callX.by (Jdi _ _ _ _ ?_ ?_ ?_ ?_) ?_|refine callX.by (Jf1 _ _ ?_) ?_|refine callX.by (Jbl _ _ ?_) ?_|refine callX.by (JgL _ _ _ _ _ _ _ _ _ _ _ _ _ _ _ _ _ _ ?_) ?_|assumption|(refine Qw hK _ ?_;clear hK K)|refine Qw ‹_› _ ?_|refine Qx ‹_› ?_|refine Qi fun K hK=>?_|refine Qj T fun K hK=>?_|refine Ql fun A B hA hB=>?_|refine Qn ?_|refine Qr ?_)
 | ((with_reducible first|apply Qy|apply Qz|apply QA)<;>intro hb<;>try simp only[nr] at hb)
 |simp only[go_sem,↓reduceIte,reduceIte,Qa,Qh,Qb,Qc,Qd,Qe,Qf,Qg,reduceCtorEq, *,-w1,-w2,-w3,-w4,-w5,-w6]
 |with_reducible refine fun(bn:Bool) hbn=>?_))
 all_goals simp only[Vi, *,Bool.and_true,Bool.true_and,Bool.false_and,Bool.and_false]
def JC(s:Side):Side:=if Vi s=true then s else Jk s.w.c.cap s.in'.max
set_option maxHeartbeats 4000000 in
theorem Ys(s_epoch:Int)(s_turn:Int)(s_up:Bool)(s_in_last_a0:Int)(s_in_last_a1:Int)(s_in_last_a2:Int)(s_in_last_a3:Int)(s_in_max:Int)(s_errs_a0:Int)(s_errs_a1:Int)(s_errs_a2:Int)(s_errs_a3:Int)(s_w_c_cap:Int)(s_w_c_l:List Res)(s_w_ready:Bool)(s_w_shown:List Res)(s_p_next:Int)(s_p_snaps:List Snap)(h:SzS (⟨s_epoch,s_turn,s_up,⟨⟨s_in_last_a0,s_in_last_a1,s_in_last_a2,s_in_last_a3⟩,s_in_max⟩,⟨s_errs_a0,s_errs_a1,s_errs_a2,s_errs_a3⟩,⟨⟨s_w_c_cap,s_w_c_l⟩,s_w_ready,s_w_shown⟩,⟨s_p_next,s_p_snaps⟩⟩:Side)):CallR Tryz.prog 39 [.agg [.int .i64 s_epoch,.int .i64 s_turn,.bool s_up,.int .i64 s_in_last_a0,.int .i64 s_in_last_a1,.int .i64 s_in_last_a2,.int .i64 s_in_last_a3,.int .i64 s_in_max,.int .i64 s_errs_a0,.int .i64 s_errs_a1,.int .i64 s_errs_a2,.int .i64 s_errs_a3,.int .i64 s_w_c_cap,.slice false (Ja s_w_c_l),.bool s_w_ready,.slice false (Ja s_w_shown),.int .i64 s_p_next,.slice false (Ja s_p_snaps)]] (.val (.agg [.int .i64 (JC (⟨s_epoch,s_turn,s_up,⟨⟨s_in_last_a0,s_in_last_a1,s_in_last_a2,s_in_last_a3⟩,s_in_max⟩,⟨s_errs_a0,s_errs_a1,s_errs_a2,s_errs_a3⟩,⟨⟨s_w_c_cap,s_w_c_l⟩,s_w_ready,s_w_shown⟩,⟨s_p_next,s_p_snaps⟩⟩:Side)).epoch,.int .i64 (JC (⟨s_epoch,s_turn,s_up,⟨⟨s_in_last_a0,s_in_last_a1,s_in_last_a2,s_in_last_a3⟩,s_in_max⟩,⟨s_errs_a0,s_errs_a1,s_errs_a2,s_errs_a3⟩,⟨⟨s_w_c_cap,s_w_c_l⟩,s_w_ready,s_w_shown⟩,⟨s_p_next,s_p_snaps⟩⟩:Side)).turn,.bool (JC (⟨s_epoch,s_turn,s_up,⟨⟨s_in_last_a0,s_in_last_a1,s_in_last_a2,s_in_last_a3⟩,s_in_max⟩,⟨s_errs_a0,s_errs_a1,s_errs_a2,s_errs_a3⟩,⟨⟨s_w_c_cap,s_w_c_l⟩,s_w_ready,s_w_shown⟩,⟨s_p_next,s_p_snaps⟩⟩:Side)).up,.int .i64 (JC (⟨s_epoch,s_turn,s_up,⟨⟨s_in_last_a0,s_in_last_a1,s_in_last_a2,s_in_last_a3⟩,s_in_max⟩,⟨s_errs_a0,s_errs_a1,s_errs_a2,s_errs_a3⟩,⟨⟨s_w_c_cap,s_w_c_l⟩,s_w_ready,s_w_shown⟩,⟨s_p_next,s_p_snaps⟩⟩:Side)).in'.last.a0,.int .i64 (JC (⟨s_epoch,s_turn,s_up,⟨⟨s_in_last_a0,s_in_last_a1,s_in_last_a2,s_in_last_a3⟩,s_in_max⟩,⟨s_errs_a0,s_errs_a1,s_errs_a2,s_errs_a3⟩,⟨⟨s_w_c_cap,s_w_c_l⟩,s_w_ready,s_w_shown⟩,⟨s_p_next,s_p_snaps⟩⟩:Side)).in'.last.a1,.int .i64 (JC (⟨s_epoch,s_turn,s_up,⟨⟨s_in_last_a0,s_in_last_a1,s_in_last_a2,s_in_last_a3⟩,s_in_max⟩,⟨s_errs_a0,s_errs_a1,s_errs_a2,s_errs_a3⟩,⟨⟨s_w_c_cap,s_w_c_l⟩,s_w_ready,s_w_shown⟩,⟨s_p_next,s_p_snaps⟩⟩:Side)).in'.last.a2,.int .i64 (JC (⟨s_epoch,s_turn,s_up,⟨⟨s_in_last_a0,s_in_last_a1,s_in_last_a2,s_in_last_a3⟩,s_in_max⟩,⟨s_errs_a0,s_errs_a1,s_errs_a2,s_errs_a3⟩,⟨⟨s_w_c_cap,s_w_c_l⟩,s_w_ready,s_w_shown⟩,⟨s_p_next,s_p_snaps⟩⟩:Side)).in'.last.a3,.int .i64 (JC (⟨s_epoch,s_turn,s_up,⟨⟨s_in_last_a0,s_in_last_a1,s_in_last_a2,s_in_last_a3⟩,s_in_max⟩,⟨s_errs_a0,s_errs_a1,s_errs_a2,s_errs_a3⟩,⟨⟨s_w_c_cap,s_w_c_l⟩,s_w_ready,s_w_shown⟩,⟨s_p_next,s_p_snaps⟩⟩:Side)).in'.max,.int .i64 (JC (⟨s_epoch,s_turn,s_up,⟨⟨s_in_last_a0,s_in_last_a1,s_in_last_a2,s_in_last_a3⟩,s_in_max⟩,⟨s_errs_a0,s_errs_a1,s_errs_a2,s_errs_a3⟩,⟨⟨s_w_c_cap,s_w_c_l⟩,s_w_ready,s_w_shown⟩,⟨s_p_next,s_p_snaps⟩⟩:Side)).errs.a0,.int .i64 (JC (⟨s_epoch,s_turn,s_up,⟨⟨s_in_last_a0,s_in_last_a1,s_in_last_a2,s_in_last_a3⟩,s_in_max⟩,⟨s_errs_a0,s_errs_a1,s_errs_a2,s_errs_a3⟩,⟨⟨s_w_c_cap,s_w_c_l⟩,s_w_ready,s_w_shown⟩,⟨s_p_next,s_p_snaps⟩⟩:Side)).errs.a1,.int .i64 (JC (⟨s_epoch,s_turn,s_up,⟨⟨s_in_last_a0,s_in_last_a1,s_in_last_a2,s_in_last_a3⟩,s_in_max⟩,⟨s_errs_a0,s_errs_a1,s_errs_a2,s_errs_a3⟩,⟨⟨s_w_c_cap,s_w_c_l⟩,s_w_ready,s_w_shown⟩,⟨s_p_next,s_p_snaps⟩⟩:Side)).errs.a2,.int .i64 (JC (⟨s_epoch,s_turn,s_up,⟨⟨s_in_last_a0,s_in_last_a1,s_in_last_a2,s_in_last_a3⟩,s_in_max⟩,⟨s_errs_a0,s_errs_a1,s_errs_a2,s_errs_a3⟩,⟨⟨s_w_c_cap,s_w_c_l⟩,s_w_ready,s_w_shown⟩,⟨s_p_next,s_p_snaps⟩⟩:Side)).errs.a3,.int .i64 (JC (⟨s_epoch,s_turn,s_up,⟨⟨s_in_last_a0,s_in_last_a1,s_in_last_a2,s_in_last_a3⟩,s_in_max⟩,⟨s_errs_a0,s_errs_a1,s_errs_a2,s_errs_a3⟩,⟨⟨s_w_c_cap,s_w_c_l⟩,s_w_ready,s_w_shown⟩,⟨s_p_next,s_p_snaps⟩⟩:Side)).w.c.cap,.slice false (Ja (JC (⟨s_epoch,s_turn,s_up,⟨⟨s_in_last_a0,s_in_last_a1,s_in_last_a2,s_in_last_a3⟩,s_in_max⟩,⟨s_errs_a0,s_errs_a1,s_errs_a2,s_errs_a3⟩,⟨⟨s_w_c_cap,s_w_c_l⟩,s_w_ready,s_w_shown⟩,⟨s_p_next,s_p_snaps⟩⟩:Side)).w.c.l),.bool (JC (⟨s_epoch,s_turn,s_up,⟨⟨s_in_last_a0,s_in_last_a1,s_in_last_a2,s_in_last_a3⟩,s_in_max⟩,⟨s_errs_a0,s_errs_a1,s_errs_a2,s_errs_a3⟩,⟨⟨s_w_c_cap,s_w_c_l⟩,s_w_ready,s_w_shown⟩,⟨s_p_next,s_p_snaps⟩⟩:Side)).w.ready,.slice false (Ja (JC (⟨s_epoch,s_turn,s_up,⟨⟨s_in_last_a0,s_in_last_a1,s_in_last_a2,s_in_last_a3⟩,s_in_max⟩,⟨s_errs_a0,s_errs_a1,s_errs_a2,s_errs_a3⟩,⟨⟨s_w_c_cap,s_w_c_l⟩,s_w_ready,s_w_shown⟩,⟨s_p_next,s_p_snaps⟩⟩:Side)).w.shown),.int .i64 (JC (⟨s_epoch,s_turn,s_up,⟨⟨s_in_last_a0,s_in_last_a1,s_in_last_a2,s_in_last_a3⟩,s_in_max⟩,⟨s_errs_a0,s_errs_a1,s_errs_a2,s_errs_a3⟩,⟨⟨s_w_c_cap,s_w_c_l⟩,s_w_ready,s_w_shown⟩,⟨s_p_next,s_p_snaps⟩⟩:Side)).p.next',.slice false (Ja (JC (⟨s_epoch,s_turn,s_up,⟨⟨s_in_last_a0,s_in_last_a1,s_in_last_a2,s_in_last_a3⟩,s_in_max⟩,⟨s_errs_a0,s_errs_a1,s_errs_a2,s_errs_a3⟩,⟨⟨s_w_c_cap,s_w_c_l⟩,s_w_ready,s_w_shown⟩,⟨s_p_next,s_p_snaps⟩⟩:Side)).p.snaps)])):=by
 have w1:=Yf s_epoch s_turn s_up s_in_last_a0 s_in_last_a1 s_in_last_a2 s_in_last_a3 s_in_max s_errs_a0 s_errs_a1 s_errs_a2 s_errs_a3 s_w_c_cap s_w_c_l s_w_ready s_w_shown s_p_next s_p_snaps h
 have w2:=Ya s_w_c_cap s_in_max
 unfold JC
 cases hb0:Vi (⟨s_epoch,s_turn,s_up,⟨⟨s_in_last_a0,s_in_last_a1,s_in_last_a2,s_in_last_a3⟩,s_in_max⟩,⟨s_errs_a0,s_errs_a1,s_errs_a2,s_errs_a3⟩,⟨⟨s_w_c_cap,s_w_c_l⟩,s_w_ready,s_w_shown⟩,⟨s_p_next,s_p_snaps⟩⟩:Side)
 ·rw[hb0] at w1
  refine QD (T:=T) Tryz.call39 Tryz.func39 rfl Tryz.ntmps39 (congrArg Array.toList Tryz.results39) (by decide) fun ts hn h0=>?_
  (repeat' (first
 | (with_reducible first|refine callX.by (w1) ?_|refine callX.by (w2) ?_|refine callX.by (Yf _ _ _ _ _ _ _ _ _ _ _ _ _ _ _ _ _ _ ?_) ?_|refine callX.by (Ya _ _) ?_|assumption|(refine Qw hK _ ?_;clear hK K)|refine Qw ‹_› _ ?_|refine Qx ‹_› ?_|refine Qi fun K hK=>?_|refine Qj T fun K hK=>?_|refine Ql fun A B hA hB=>?_|refine Qn ?_|refine Qr ?_)
 | ((with_reducible first|apply Qy|apply Qz|apply QA)<;>intro hb<;>try simp only[nr] at hb)
 |simp only[go_sem,↓reduceIte,reduceIte,Qa,Qh,Qb,Qc,Qd,Qe,Qf,Qg,reduceCtorEq, *,-w1,-w2]
 |with_reducible refine fun(bn:Bool) hbn=>?_))
  all_goals (try rfl)
 ·rw[hb0] at w1
  refine QD (T:=T) Tryz.call39 Tryz.func39 rfl Tryz.ntmps39 (congrArg Array.toList Tryz.results39) (by decide) fun ts hn h0=>?_
  (repeat' (first
 | (with_reducible first|refine callX.by (w1) ?_|refine callX.by (w2) ?_|refine callX.by (Yf _ _ _ _ _ _ _ _ _ _ _ _ _ _ _ _ _ _ ?_) ?_|refine callX.by (Ya _ _) ?_|assumption|(refine Qw hK _ ?_;clear hK K)|refine Qw ‹_› _ ?_|refine Qx ‹_› ?_|refine Qi fun K hK=>?_|refine Qj T fun K hK=>?_|refine Ql fun A B hA hB=>?_|refine Qn ?_|refine Qr ?_)
 | ((with_reducible first|apply Qy|apply Qz|apply QA)<;>intro hb<;>try simp only[nr] at hb)
 |simp only[go_sem,↓reduceIte,reduceIte,Qa,Qh,Qb,Qc,Qd,Qe,Qf,Qg,reduceCtorEq, *,-w1,-w2]
 |with_reducible refine fun(bn:Bool) hbn=>?_))
  all_goals (try rfl)
end Go.Proofs.YtihahfhagobnoaaGreatDoor.Lg
