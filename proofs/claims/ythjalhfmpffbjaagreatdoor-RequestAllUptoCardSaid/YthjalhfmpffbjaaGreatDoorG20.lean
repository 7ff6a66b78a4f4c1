/- Parts of the proof, one behind the other. -/
import Derived.Test.YthjalhfmpffbjaaGreatDoorG19
namespace Go.Proofs.YthjalhfmpffbjaaGreatDoor.Lg
set_option maxRecDepth 100000
set_option linter.unusedVariables false
set_option linter.unusedSimpArgs false
open Go
open Nat renaming reduceEqDiff → Qa, reduceLT → Qb, reduceLeDiff → Qc, reduceAdd → Qd, reduceMul → Qe, reduceSub → Qf, reduceBEq → Qg
open String renaming reduceEq → Qh
open SpecC renaming seqW → Qi, regW → Qj, drawW → Qk, condW → Ql, block → Qm, skip → Qn, exit → Qp, ret → Qr
open NxK renaming out → Qw
open Nx renaming out → Qx
open condK renaming split → Qy
open gK renaming split_t → Qz, split_f → QA
open CallR renaming go1 → QD
theorem Jj4{c:Cache}{adds:List Res}{gone:List Key}{x:Res}(h:x∈(YF c adds gone).1.l):x∈c.l∨x∈adds:=by
 unfold YF at h
 simp only at h
 split at h
 ·exact(JmO h).imp Jf7 id
 ·exact .inl (Jf7 h)
def Za(w:Warm)(adds:List Res)(gone:List Key):Warm×Bool×Int :=
 let m:=Jf6 w
 let a:=YF m.c adds gone
 if a.2=0 then (if YO a.1=m.shown then (⟨a.1,m.ready,m.shown⟩,false,0) else (⟨a.1,true,YO a.1⟩,true,0)) else (m,false,a.2)
theorem saneW_iff{w:Warm}:VY w=true↔VX w.c=true∧w.shown=YO w.c∧(w.ready=true∨w.shown=[]):=by
 unfold VY
 simp only[Bool.and_eq_true,Bool.or_eq_true,decide_eq_true_eq,and_assoc]
theorem Jjt{c:Cache}(h:VX c=true):YO c=VW c.l:=by unfold YO Yc;rw[if_pos h]
theorem JjB{w:Warm}(h:VY w=true)(adds:List Res)(gone:List Key) :
  Za w adds gone=if(YF w.c adds gone).2=0 then (if YO (YF w.c adds gone).1=w.shown then (⟨(YF w.c adds gone).1,w.ready,w.shown⟩,false,0) else (⟨(YF w.c adds gone).1,true,YO (YF w.c adds gone).1⟩,true,0)) else (w,false,(YF w.c adds gone).2):=by
 have hof:Jf6 w=w:=by unfold Jf6;rw[if_pos h]
 unfold Za
 rw[hof]
theorem Joe{w:Warm}(h:VY w=true)(adds:List Res)(gone:List Key):VY (Za w adds gone).1=true:=by
 rw[JjB h]
 have hw:=saneW_iff.1 h
 split
 ·split
  ·rename_i hs
   exact saneW_iff.2 ⟨JgI hw.1 adds gone,hs.symm,hw.2.2⟩
  ·exact saneW_iff.2 ⟨JgI hw.1 adds gone,rfl,.inl rfl⟩
 ·exact h
theorem Jof{w:Warm}(h:VY w=true){adds:List Res}{gone:List Key}{x:Res}(hx:x∈(Za w adds gone).1.c.l):x∈w.c.l∨x∈adds:=by
 rw[JjB h] at hx
 split at hx
 ·split at hx<;>exact Jj4 hx
 ·exact .inl hx
theorem Jjm{w:Warm}(h:VY w=true):w.c.l.length≤64:=Jor (saneC_iff.1 (saneW_iff.1 h).1).2.1
theorem Jjn{w:Warm}(h:VY w=true):w.shown=VW w.c.l:=by
 have hw:=saneW_iff.1 h
 rw[hw.2.1,Jjt hw.1]
theorem JnP{w:Warm}(h:VY w=true):w.shown.length≤64:=by
 rw[Jjn h]
 exact Nat.le_trans (JiT _) (Jjm h)
theorem JnQ{w:Warm}(h:VY w=true){x:Res}(hx:x∈w.shown):x∈w.c.l:=by
 rw[Jjn h] at hx
 exact(Jnj _).subset hx
theorem JmA(n:Int):VY ⟨⟨VI n,[]⟩,false,[]⟩=true:=by
 refine saneW_iff.2 ⟨Jii n,?_,.inr rfl⟩
 rw[Jjt (Jii n)]
 show[]=VW []
 decide
theorem Jag(next:Int)(xs:List Snap)(hl:Jc xs.length)(hs:∀x∈xs,Ye x)(ht:Jc (J0 xs).length):CallR Tryz.prog 80 [.agg [.int .i64 next,.slice false (Ja xs)]] (.own 2 (Ja (J3 ⟨next,xs⟩))):=by
 have hl2:Jc (Jr ⟨next,xs⟩).snaps.length:=JcI hl
 have hs2:∀x∈(Jr ⟨next,xs⟩).snaps,Jc x.l.length:=by
  unfold Jr;split
  ·exact fun x hx=>(hs x hx).1
  ·simp
 have ht2:Jc (J0 (Jr ⟨next,xs⟩).snaps).length:=by
  unfold Jr;split
  ·exact ht
  ·simp[J0,Jc]
 have ht3:Jc (JJ (J0 (Jr ⟨next,xs⟩).snaps)).length:=by rw[Jaa];exact ht2
 refine QD (T:=T) Tryz.call80 Tryz.func80 rfl Tryz.ntmps80 (congrArg Array.toList Tryz.results80) (by decide) fun ts hn h0=>?_
 (repeat' (first
 | (with_reducible first|refine callX.by (ZL _ _ ?_) ?_|refine callX.by (Jge _ ?_) ?_)
 | (with_reducible refine callX.ar ?_ ?_ (Zz ?_ ?_);(focus(simp only[go_sem,↓reduceIte,reduceIte,Qa,Qh,Qb,Qc,Qd,Qe,Qf,Qg,reduceCtorEq, *];first|done|rfl)))
 |with_reducible refine callX.by (Vu _ _ _ _) ?_
 | (with_reducible refine callX.mv ?_ ?_ ?_ (Zf ?_ ?_);(focus(simp only[go_sem,↓reduceIte,reduceIte,Qa,Qh,Qb,Qc,Qd,Qe,Qf,Qg,reduceCtorEq, *];first|done|rfl));(focus(simp only[go_sem,↓reduceIte,reduceIte,Qa,Qh,Qb,Qc,Qd,Qe,Qf,Qg,reduceCtorEq, *];first|done|rfl)))
 | (with_reducible first|assumption|(refine Qw hK _ ?_;clear hK K)|refine Qw ‹_› _ ?_|refine Qx ‹_› ?_|refine Qi fun K hK=>?_|refine Qj T fun K hK=>?_|refine Ql fun A B hA hB=>?_|refine Qm ?_|refine Qn ?_|refine Qp ?_|refine Qr ?_)
 | ((with_reducible first|apply Qy|apply Qz|apply QA)<;>intro hb<;>try simp only[nr] at hb)
 |simp only[go_sem,↓reduceIte,reduceIte,Qa,Qh,Qb,Qc,Qd,Qe,Qf,Qg,reduceCtorEq, *]
 |with_reducible refine fun(bn:Bool) hbn=>?_))
 refine SpecC.ent (Ent.virt 3 2 (by simp only[go_sem,↓reduceIte,reduceIte,Qa,Qh,Qb,Qc,Qd,Qe,Qf,Qg,reduceCtorEq, *]) (by decide)) ?_
 refine SpecC.loopF [8,9] (fun m ts'=>∃(i:Nat),∃(g:Nat),∃(ys:List Key),m=(Jr ⟨next,xs⟩).snaps.length-i∧i≤(Jr ⟨next,xs⟩).snaps.length∧J0 (Jr ⟨next,xs⟩).snaps=ys++J0 ((Jr ⟨next,xs⟩).snaps.drop i)∧ts'.tmp 3=.os 3 g ys.length∧ts'.gen 3=g∧ts'.obj 3=.arr 2 (Ja ys)∧ts'.tmp 10=.int .i64 i) (Jr ⟨next,xs⟩).snaps.length ?_ ?_
 ·refine⟨0,ts.gen 3+1,[],rfl,Nat.zero_le _,rfl,?_⟩
  simp only[go_sem,↓reduceIte,reduceIte,Qa,Qh,Qb,Qc,Qd,Qe,Qf,Qg,reduceCtorEq, *,JY]
 ·rintro m A hM ts' hk ⟨i,g,ys,hm,f1,f2,s1,s2,s3,s4⟩
  simp only[go_sem,↓reduceIte,reduceIte,Qa,Qh,Qb,Qc,Qd,Qe,Qf,Qg,reduceCtorEq, *] at hk
  by_cases hlt:i<(Jr ⟨next,xs⟩).snaps.length
  ·rw[List.drop_eq_getElem_cons hlt,JhI] at f2
   have hsi:=hs2 _ (List.getElem_mem hlt)
   have hlen:=congrArg List.length f2
   rw[List.length_append,List.length_append,List.length_map] at hlen
   have hr1:V0 (ys.length+(Jr ⟨next,xs⟩).snaps[i].l.length) 24:=JbS (by unfold Jc at ht2;omega) (by decide)
   have htk:((Jr ⟨next,xs⟩).snaps[i].l.map Jq).take (Jr ⟨next,xs⟩).snaps[i].l.length=(Jr ⟨next,xs⟩).snaps[i].l.map Jq:=List.take_of_length_le (by simp)
   (repeat' (first
 | (with_reducible first|refine callX.by (ZL _ _ ?_) ?_|refine callX.by (Jge _ ?_) ?_)
 | (with_reducible refine callX.ar ?_ ?_ (Zz ?_ ?_);(focus(simp only[go_sem,↓reduceIte,reduceIte,Qa,Qh,Qb,Qc,Qd,Qe,Qf,Qg,reduceCtorEq, *,List.length_map,-hlen,-f2];first|done|rfl)))
 |with_reducible refine callX.by (Vu _ _ _ _) ?_
 | (with_reducible refine callX.mv ?_ ?_ ?_ (Zf ?_ ?_);(focus(simp only[go_sem,↓reduceIte,reduceIte,Qa,Qh,Qb,Qc,Qd,Qe,Qf,Qg,reduceCtorEq, *,List.length_map,-hlen,-f2];first|done|rfl));(focus(simp only[go_sem,↓reduceIte,reduceIte,Qa,Qh,Qb,Qc,Qd,Qe,Qf,Qg,reduceCtorEq, *,List.length_map,-hlen,-f2];first|done|rfl)))
 | (with_reducible first|assumption|(refine Qw hK _ ?_;clear hK K)|refine Qw ‹_› _ ?_|refine Qx ‹_› ?_|refine Qi fun K hK=>?_|refine Qj T fun K hK=>?_|refine Ql fun A B hA hB=>?_|refine Qm ?_|refine Qn ?_|refine Qp ?_|refine Qr ?_)
 | ((with_reducible first|apply Qy|apply Qz|apply QA)<;>intro hb<;>try simp only[nr] at hb)
 |simp only[go_sem,↓reduceIte,reduceIte,Qa,Qh,Qb,Qc,Qd,Qe,Qf,Qg,reduceCtorEq, *,List.length_map,-hlen,-f2]
 |with_reducible refine fun(bn:Bool) hbn=>?_))
   all_goals ((repeat clear hK);(repeat clear hA);(repeat clear hB))
   (refine hM.onE ((Jr ⟨next,xs⟩).snaps.length-(i+1)) (Ent.ren 3 18 ?_ ?_) ?_ ?_ ?_;(focus(simp only[go_sem,↓reduceIte,reduceIte,Qa,Qh,Qb,Qc,Qd,Qe,Qf,Qg,reduceCtorEq, *,Jj hlt hl2,List.length_map,List.length_append,-hlen,-f2];first|done|rfl));(focus(simp only[go_sem,↓reduceIte,reduceIte,Qa,Qh,Qb,Qc,Qd,Qe,Qf,Qg,reduceCtorEq, *,Jj hlt hl2,List.length_map,List.length_append,-hlen,-f2];first|done|rfl));omega;(focus(simp only[go_sem,↓reduceIte,reduceIte,Qa,Qh,Qb,Qc,Qd,Qe,Qf,Qg,reduceCtorEq, *,Jj hlt hl2,List.length_map,List.length_append,-hlen,-f2];done));refine⟨i+1,g+1,ys++(Jr ⟨next,xs⟩).snaps[i].l.map Jq,rfl,by omega,by rw[f2,List.append_assoc],?_⟩;simp only[go_sem,↓reduceIte,reduceIte,Qa,Qh,Qb,Qc,Qd,Qe,Qf,Qg,reduceCtorEq, *,Jj hlt hl2,List.length_map,List.length_append,-hlen,-f2];done)
  ·rw[List.drop_eq_nil_of_le (by omega)] at f2
   have e:ys=J0 (Jr ⟨next,xs⟩).snaps:=by rw[f2];simp[J0]
   subst e
   clear f2
   have hk1:=Jaa (J0 (Jr ⟨next,xs⟩).snaps)
   have htk:(JJ (J0 (Jr ⟨next,xs⟩).snaps)).take (J0 (Jr ⟨next,xs⟩).snaps).length=JJ (J0 (Jr ⟨next,xs⟩).snaps):=List.take_of_length_le (by omega)
   (repeat' (first
 | (with_reducible first|refine callX.by (ZL _ _ ?_) ?_|refine callX.by (Jge _ ?_) ?_)
 | (with_reducible refine callX.ar ?_ ?_ (Zz ?_ ?_);(focus(simp only[go_sem,↓reduceIte,reduceIte,Qa,Qh,Qb,Qc,Qd,Qe,Qf,Qg,reduceCtorEq, *,Nat.le_refl];first|done|rfl)))
 |with_reducible refine callX.by (Vu _ _ _ _) ?_
 | (with_reducible refine callX.mv ?_ ?_ ?_ (Zf ?_ ?_);(focus(simp only[go_sem,↓reduceIte,reduceIte,Qa,Qh,Qb,Qc,Qd,Qe,Qf,Qg,reduceCtorEq, *,Nat.le_refl];first|done|rfl));(focus(simp only[go_sem,↓reduceIte,reduceIte,Qa,Qh,Qb,Qc,Qd,Qe,Qf,Qg,reduceCtorEq, *,Nat.le_refl];first|done|rfl)))
 | (with_reducible first|assumption|(refine Qw hK _ ?_;clear hK K)|refine Qw ‹_› _ ?_|refine Qx ‹_› ?_|refine Qi fun K hK=>?_|refine Qj T fun K hK=>?_|refine Ql fun A B hA hB=>?_|refine Qm ?_|refine Qn ?_|refine Qp ?_|refine Qr ?_)
 | ((with_reducible first|apply Qy|apply Qz|apply QA)<;>intro hb<;>try simp only[nr] at hb)
 |simp only[go_sem,↓reduceIte,reduceIte,Qa,Qh,Qb,Qc,Qd,Qe,Qf,Qg,reduceCtorEq, *,Nat.le_refl]
 |with_reducible refine fun(bn:Bool) hbn=>?_))
   all_goals ((repeat clear hK);(repeat clear hA);(repeat clear hB))
   all_goals rfl
theorem JmQ(p:Pins):(J3 p).length≤(J0 (Jr p).snaps).length:=by
 unfold J3 VT
 have h1:=Jh1 (JJ (J0 (Jr p).snaps))
 have h2:=Jaa (J0 (Jr p).snaps)
 rw[List.length_append,List.length_take]
 omega
structure SzP(p:Pins):Prop where
 n:Jc p.snaps.length
 s:∀x∈p.snaps,Ye x
 t:Jc (J0 p.snaps).length
theorem JfG(p:Pins):Jr p=p∨Jr p=⟨0,[]⟩:=by
 unfold Jr;split
 ·exact .inl rfl
 ·exact .inr rfl
theorem SzP.nil:SzP ⟨0,[]⟩:=⟨by simp[Jc],by simp,by simp[Jc,J0]⟩
theorem SzP.sane{p:Pins}(h:SzP p):SzP (Jr p):=by
 rcases JfG p with e|e<;>rw[e]
 ·exact h
 ·exact SzP.nil
theorem SzP.held{p:Pins}(h:SzP p):Jc (J3 p).length∧∀k∈J3 p,Jda k:=by
 have h1:=h.sane
 refine⟨?_,fun k hk0=>?_⟩
 ·have:=JmQ p
  have h2:=h1.t
  unfold Jc at h2 ⊢;omega
 ·have h2:=((JmR p).2 k).1 hk0
  obtain⟨x,hx,hm⟩:=List.mem_flatMap.1 h2
  obtain⟨r,hr,rfl⟩:=List.mem_map.1 hm
  exact((h1.s x hx).2 r hr).1
def Je(limit most:Int):Side:=⟨0,0,false,⟨z4,Yr most⟩,z4,⟨⟨VI limit,[]⟩,false,[]⟩,⟨0,[]⟩⟩
theorem Jfn(a b:Int):CallR Tryz.prog 30 [.int .i64 a,.int .i64 b] (.val (.agg [.int .i64 (Je a b).epoch,.int .i64 (Je a b).turn,.bool (Je a b).up,.int .i64 (Je a b).in'.last.a0,.int .i64 (Je a b).in'.last.a1,.int .i64 (Je a b).in'.last.a2,.int .i64 (Je a b).in'.last.a3,.int .i64 (Je a b).in'.max,.int .i64 (Je a b).errs.a0,.int .i64 (Je a b).errs.a1,.int .i64 (Je a b).errs.a2,.int .i64 (Je a b).errs.a3,.int .i64 (Je a b).w.c.cap,.slice false (Ja (Je a b).w.c.l),.bool (Je a b).w.ready,.slice false (Ja (Je a b).w.shown),.int .i64 (Je a b).p.next',.slice false (Ja (Je a b).p.snaps)])):=by
 have w1:=JlA b
 have w2:=Jmz a
 refine CallR.go2 (T:=T) Tryz.call30 Tryz.func30 rfl Tryz.ntmps30 (congrArg Array.toList Tryz.results30) (by decide) fun ts hn h0 h1=>?_
 (repeat' (first
 | (with_reducible first|refine callX.by (w1) ?_|refine callX.by (w2) ?_|assumption|(refine Qw hK _ ?_;clear hK K)|refine Qw ‹_› _ ?_|refine Qx ‹_› ?_|refine Qi fun K hK=>?_|refine Qj T fun K hK=>?_|refine Ql fun A B hA hB=>?_|refine Qn ?_|refine Qr ?_)
 | ((with_reducible first|apply Qy|apply Qz|apply QA)<;>intro hb<;>try simp only[nr] at hb)
 |simp only[go_sem,↓reduceIte,reduceIte,Qa,Qh,Qb,Qc,Qd,Qe,Qf,Qg,reduceCtorEq, *,-w1,-w2]
 |with_reducible refine fun(bn:Bool) hbn=>?_))
 all_goals exact⟨rfl,rfl,rfl,rfl,rfl,rfl,rfl,rfl,rfl,rfl,rfl,rfl,rfl,rfl,rfl,rfl,rfl,rfl⟩
theorem Jn8(n:Int):CallR Tryz.prog 32 [.int .i64 n] (.val (.bool (fin n 2147483647))):=by
 refine QD (T:=T) Tryz.call32 Tryz.func32 rfl Tryz.ntmps32 (congrArg Array.toList Tryz.results32) (by decide) fun ts hn h0=>?_
 (repeat' (first
 | (with_reducible first|assumption|(refine Qw hK _ ?_;clear hK K)|refine Qw ‹_› _ ?_|refine Qx ‹_› ?_|refine Qi fun K hK=>?_|refine Qj T fun K hK=>?_|refine Ql fun A B hA hB=>?_|refine Qn ?_|refine Qr ?_)
 | ((with_reducible first|apply Qy|apply Qz|apply QA)<;>intro hb<;>try simp only[nr] at hb)
 |simp only[go_sem,↓reduceIte,reduceIte,Qa,Qh,Qb,Qc,Qd,Qe,Qf,Qg,reduceCtorEq, *]
 |with_reducible refine fun(bn:Bool) hbn=>?_))
 all_goals (rw[Bool.eq_iff_iff];simp_all[fin])
 all_goals omega
theorem JjD(n:Int):CallR Tryz.prog 34 [.int .i64 n] (.val (.bool (!fin n 15))):=by
 refine QD (T:=T) Tryz.call34 Tryz.func34 rfl Tryz.ntmps34 (congrArg Array.toList Tryz.results34) (by decide) fun ts hn h0=>?_
 (repeat' (first
 | (with_reducible first|assumption|(refine Qw hK _ ?_;clear hK K)|refine Qw ‹_› _ ?_|refine Qx ‹_› ?_|refine Qi fun K hK=>?_|refine Qj T fun K hK=>?_|refine Ql fun A B hA hB=>?_|refine Qn ?_|refine Qr ?_)
 | ((with_reducible first|apply Qy|apply Qz|apply QA)<;>intro hb<;>try simp only[nr] at hb)
 |simp only[go_sem,↓reduceIte,reduceIte,Qa,Qh,Qb,Qc,Qd,Qe,Qf,Qg,reduceCtorEq, *]
 |with_reducible refine fun(bn:Bool) hbn=>?_))
 all_goals (rw[Bool.eq_iff_iff];simp_all[fin])
 all_goals omega
theorem JcU(s_epoch:Int)(s_turn:Int)(s_up:Bool)(s_in_last_a0:Int)(s_in_last_a1:Int)(s_in_last_a2:Int)(s_in_last_a3:Int)(s_in_max:Int)(s_errs_a0:Int)(s_errs_a1:Int)(s_errs_a2:Int)(s_errs_a3:Int)(s_w_c_cap:Int)(s_w_c_l:List Res)(s_w_ready:Bool)(s_w_shown:List Res)(s_p_next:Int)(s_p_snaps:List Snap):CallR Tryz.prog 66 [.agg [.int .i64 s_epoch,.int .i64 s_turn,.bool s_up,.int .i64 s_in_last_a0,.int .i64 s_in_last_a1,.int .i64 s_in_last_a2,.int .i64 s_in_last_a3,.int .i64 s_in_max,.int .i64 s_errs_a0,.int .i64 s_errs_a1,.int .i64 s_errs_a2,.int .i64 s_errs_a3,.int .i64 s_w_c_cap,.slice false (Ja s_w_c_l),.bool s_w_ready,.slice false (Ja s_w_shown),.int .i64 s_p_next,.slice false (Ja s_p_snaps)]] (.val (.bool (decide (s_turn=2147483647)))):=by
 refine QD (T:=T) Tryz.call66 Tryz.func66 rfl Tryz.ntmps66 (congrArg Array.toList Tryz.results66) (by decide) fun ts hn h0=>?_
 (repeat' (first
 | (with_reducible first|assumption|(refine Qw hK _ ?_;clear hK K)|refine Qw ‹_› _ ?_|refine Qx ‹_› ?_|refine Qi fun K hK=>?_|refine Qj T fun K hK=>?_|refine Ql fun A B hA hB=>?_|refine Qn ?_|refine Qr ?_)
 | ((with_reducible first|apply Qy|apply Qz|apply QA)<;>intro hb<;>try simp only[nr] at hb)
 |simp only[go_sem,↓reduceIte,reduceIte,Qa,Qh,Qb,Qc,Qd,Qe,Qf,Qg,reduceCtorEq, *]
 |with_reducible refine fun(bn:Bool) hbn=>?_))
def Ja1(p:Pins):Bool:=decide (Jdw ⟨3,0,0,0,0,[],[],0,[],J3 p⟩=0)
theorem Ji6(next:Int)(xs:List Snap)(h:SzP ⟨next,xs⟩):CallR Tryz.prog 38 [.agg [.int .i64 next,.slice false (Ja xs)]] (.val (.bool (Ja1 ⟨next,xs⟩))):=by
 have w1:=(Jag next xs h.n h.s h.t).frz
 have w2:=Jlz 3 0 0 0 0 [] [] 0 [] (J3 ⟨next,xs⟩) ⟨by simp[Jc],by simp,by simp[Jc],by simp,by simp[Jc],by simp,h.held⟩
 have w2:CallR Tryz.prog 79 [.agg [.int .i64 3,.int .i64 0,.int .i64 0,.int .i64 0,.int .i64 0,.slice false [],.slice false [],.int .i64 0,.slice false [],.slice false (Ja (J3 ⟨next,xs⟩))]] (.val (.int .i64 (Jdw ⟨3,0,0,0,0,[],[],0,[],J3 ⟨next,xs⟩⟩))):=w2
 clear h
 refine QD (T:=T) Tryz.call38 Tryz.func38 rfl Tryz.ntmps38 (congrArg Array.toList Tryz.results38) (by decide) fun ts hn h0=>?_
 (repeat' (first
 | (with_reducible first|refine callX.by (w1) ?_|refine callX.by (w2) ?_|assumption|(refine Qw hK _ ?_;clear hK K)|refine Qw ‹_› _ ?_|refine Qx ‹_› ?_|refine Qi fun K hK=>?_|refine Qj T fun K hK=>?_|refine Ql fun A B hA hB=>?_|refine Qn ?_|refine Qr ?_)
 | ((with_reducible first|apply Qy|apply Qz|apply QA)<;>intro hb<;>try simp only[nr] at hb)
 |simp only[go_sem,↓reduceIte,reduceIte,Qa,Qh,Qb,Qc,Qd,Qe,Qf,Qg,reduceCtorEq, *,-w1,-w2]
 |with_reducible refine fun(bn:Bool) hbn=>?_))
 all_goals rfl
def Jbh(s:Side):Bool:=decide ((JI s.p).2.2=s.w.ready) && (!(JI s.p).2.2 || decide ((JI s.p).2.1=s.w.shown))
theorem JiG{p:Pins}(h:SzP p):Jc (JI p).2.1.length∧∀r∈(JI p).2.1,JC r:=by
 unfold JI
 cases e:(Jr p).snaps.getLast? with
 |none=>simp[Jc]
 |some x=>exact h.sane.s x (List.mem_of_getLast? e)
theorem JgC(s_epoch:Int)(s_turn:Int)(s_up:Bool)(s_in_last_a0:Int)(s_in_last_a1:Int)(s_in_last_a2:Int)(s_in_last_a3:Int)(s_in_max:Int)(s_errs_a0:Int)(s_errs_a1:Int)(s_errs_a2:Int)(s_errs_a3:Int)(s_w_c_cap:Int)(s_w_c_l:List Res)(s_w_ready:Bool)(s_w_shown:List Res)(s_p_next:Int)(s_p_snaps:List Snap)(h:SzP ⟨s_p_next,s_p_snaps⟩):CallR Tryz.prog 39 [.agg [.int .i64 s_epoch,.int .i64 s_turn,.bool s_up,.int .i64 s_in_last_a0,.int .i64 s_in_last_a1,.int .i64 s_in_last_a2,.int .i64 s_in_last_a3,.int .i64 s_in_max,.int .i64 s_errs_a0,.int .i64 s_errs_a1,.int .i64 s_errs_a2,.int .i64 s_errs_a3,.int .i64 s_w_c_cap,.slice false (Ja s_w_c_l),.bool s_w_ready,.slice false (Ja s_w_shown),.int .i64 s_p_next,.slice false (Ja s_p_snaps)]] (.val (.bool (Jbh (⟨s_epoch,s_turn,s_up,⟨⟨s_in_last_a0,s_in_last_a1,s_in_last_a2,s_in_last_a3⟩,s_in_max⟩,⟨s_errs_a0,s_errs_a1,s_errs_a2,s_errs_a3⟩,⟨⟨s_w_c_cap,s_w_c_l⟩,s_w_ready,s_w_shown⟩,⟨s_p_next,s_p_snaps⟩⟩:Side)))):=by
 have w1:=Jg7 s_p_next s_p_snaps h.n
 obtain⟨g1,g2⟩:=JiG h
 have e:Jbh (⟨s_epoch,s_turn,s_up,⟨⟨s_in_last_a0,s_in_last_a1,s_in_last_a2,s_in_last_a3⟩,s_in_max⟩,⟨s_errs_a0,s_errs_a1,s_errs_a2,s_errs_a3⟩,⟨⟨s_w_c_cap,s_w_c_l⟩,s_w_ready,s_w_shown⟩,⟨s_p_next,s_p_snaps⟩⟩:Side)=(decide ((JI ⟨s_p_next,s_p_snaps⟩).2.2=s_w_ready) && (!(JI ⟨s_p_next,s_p_snaps⟩).2.2 || decide ((JI ⟨s_p_next,s_p_snaps⟩).2.1=s_w_shown))):=rfl
 rw[e]
 clear e
 generalize JI ⟨s_p_next,s_p_snaps⟩=cu at *
 obtain⟨ci,cl,cb⟩:=cu
 simp only at w1 g1 g2 ⊢
 have w2:=Jb3 cl s_w_shown g1 g2
 clear g1 g2 h
 refine QD (T:=T) Tryz.call39 Tryz.func39 rfl Tryz.ntmps39 (congrArg Array.toList Tryz.results39) (by decide) fun ts hn h0=>?_
 (repeat' (first
 | (with_reducible first|refine callX.by (w1) ?_|refine callX.by (w2) ?_|assumption|(refine Qw hK _ ?_;clear hK K)|refine Qw ‹_› _ ?_|refine Qx ‹_› ?_|refine Qi fun K hK=>?_|refine Qj T fun K hK=>?_|refine Ql fun A B hA hB=>?_|refine Qn ?_|refine Qr ?_)
 | ((with_reducible first|apply Qy|apply Qz|apply QA)<;>intro hb<;>try simp only[nr] at hb)
 |simp only[go_sem,↓reduceIte,reduceIte,Qa,Qh,Qb,Qc,Qd,Qe,Qf,Qg,reduceCtorEq, *,-w1,-w2]
 |with_reducible refine fun(bn:Bool) hbn=>?_))
 all_goals (try simp_all)
structure SzS(s:Side):Prop where
 c:s.w.c.l.length≤65536
 w:Jaw s.w
 p:SzP s.p
def Jbo(e:Four):Bool:=fin e.a0 15 && fin e.a1 15 && fin e.a2 15 && fin e.a3 15
theorem Jk6(a b c d:Int):([a,b,c,d].any fun e=>!fin e 15)=!Jbo ⟨a,b,c,d⟩:=by
 simp[Jbo,List.any_cons,Bool.and_assoc]
def VF(s:Side):Bool:=fin s.epoch 2147483647 && fin s.turn 2147483647 && Jbo s.errs && JcF s.in' && VY s.w && Zq s.p && Ja1 s.p && Jbh s
theorem Jg5(a b c d:Int):CallR Tryz.prog 33 [.slice false [.int .i64 a,.int .i64 b,.int .i64 c,.int .i64 d],.clo (.func 34) [] []] (.val (.bool (!Jbo ⟨a,b,c,d⟩))):=by
 have:=Jg6 34 [] Caps.nil (fun e=>!fin e 15) [a,b,c,d] (fun x _=>JjD x) (by simp[Jc])
 rw[Jk6] at this
 exact this
set_option maxHeartbeats 4000000 in
theorem JbU(s_epoch:Int)(s_turn:Int)(s_up:Bool)(s_in_last_a0:Int)(s_in_last_a1:Int)(s_in_last_a2:Int)(s_in_last_a3:Int)(s_in_max:Int)(s_errs_a0:Int)(s_errs_a1:Int)(s_errs_a2:Int)(s_errs_a3:Int)(s_w_c_cap:Int)(s_w_c_l:List Res)(s_w_ready:Bool)(s_w_shown:List Res)(s_p_next:Int)(s_p_snaps:List Snap)(h:SzS (⟨s_epoch,s_turn,s_up,⟨⟨s_in_last_a0,s_in_last_a1,s_in_last_a2,s_in_last_a3⟩,s_in_max⟩,⟨s_errs_a0,s_errs_a1,s_errs_a2,s_errs_a3⟩,⟨⟨s_w_c_cap,s_w_c_l⟩,s_w_ready,s_w_shown⟩,⟨s_p_next,s_p_snaps⟩⟩:Side)):CallR Tryz.prog 12 [.agg [.int .i64 s_epoch,.int .i64 s_turn,.bool s_up,.int .i64 s_in_last_a0,.int .i64 s_in_last_a1,.int .i64 s_in_last_a2,.int .i64 s_in_last_a3,.int .i64 s_in_max,.int .i64 s_errs_a0,.int .i64 s_errs_a1,.int .i64 s_errs_a2,.int .i64 s_errs_a3,.int .i64 s_w_c_cap,.slice false (Ja s_w_c_l),.bool s_w_ready,.slice false (Ja s_w_shown),.int .i64 s_p_next,.slice false (Ja s_p_snaps)]] (.val (.bool (VF (⟨s_epoch,s_turn,s_up,⟨⟨s_in_last_a0,s_in_last_a1,s_in_last_a2,s_in_last_a3⟩,s_in_max⟩,⟨s_errs_a0,s_errs_a1,s_errs_a2,s_errs_a3⟩,⟨⟨s_w_c_cap,s_w_c_l⟩,s_w_ready,s_w_shown⟩,⟨s_p_next,s_p_snaps⟩⟩:Side)))):=by
 have w1:=Jg5 s_errs_a0 s_errs_a1 s_errs_a2 s_errs_a3
 have w2:=Jik s_in_last_a0 s_in_last_a1 s_in_last_a2 s_in_last_a3 s_in_max
 have w3:=Jjl s_w_c_cap s_w_c_l s_w_ready s_w_shown h.c h.w.1.2 h.w.2.1 h.w.2.2
 have w4:=JfB s_p_next s_p_snaps h.p.n
 have w5:=Ji6 s_p_next s_p_snaps h.p
 have w6:=JgC s_epoch s_turn s_up s_in_last_a0 s_in_last_a1 s_in_last_a2 s_in_last_a3 s_in_max s_errs_a0 s_errs_a1 s_errs_a2 s_errs_a3 s_w_c_cap s_w_c_l s_w_ready s_w_shown s_p_next s_p_snaps h.p
 clear h
 refine QD (T:=T) Tryz.call12 Tryz.func12 rfl Tryz.ntmps12 (congrArg Array.toList Tryz.results12) (by decide) fun ts hn h0=>?_
 (repeat' (first
 | (with_reducible first|refine SpecC.ent (Ent.frzBox _ 1) (Qj T (id:=1) fun K hK=>?_)|refine callX.by (w1) ?_|refine callX.by (w2) ?_|refine callX.by (w3) ?_|refine callX.by (w4) ?_|refine callX.by (w5) ?_|refine callX.by (w6) ?_|refine callX.by (Jn8 _) ?_|refine callX.by (Jg6 _ _ ?_ _ _ ?_ ?_) ?_|refine callX.by (Jg5 _ _ _ _) ?_|refine callX.by (JjD _) ?_|refine callX.by (Jik _ _ _ _ _) ?_|refine callX.by (Jjl _ _ _ _ ?_ ?_ ?_ ?_) ?_|refine callX.by (JfB _ _ ?_) ?_|refine callX.by (Ji6 _ _ ?_) ?_|refine callX.by (JgC _ _ _ _ _ _ _ _ _ _ _ _ _ _ _ _ _ _ ?_) ?_|assumption|(refine Qw hK _ ?_;clear hK K)|refine Qw ‹_› _ ?_|refine Qx ‹_› ?_|refine Qi fun K hK=>?_|refine Qj T fun K hK=>?_|refine Ql fun A B hA hB=>?_|refine Qn ?_|refine Qr ?_)
 | ((with_reducible first|apply Qy|apply Qz|apply QA)<;>intro hb<;>try simp only[nr] at hb)
 |simp only[go_sem,↓reduceIte,reduceIte,Qa,Qh,Qb,Qc,Qd,Qe,Qf,Qg,reduceCtorEq, *,-w1,-w2,-w3,-w4,-w5,-w6]
 |with_reducible refine fun(bn:Bool) hbn=>?_))
 all_goals simp only[VF, *,Bool.and_true,Bool.true_and,Bool.false_and,Bool.and_false]
def Jw(s:Side):Side:=if VF s=true then s else Je s.w.c.cap s.in'.max
set_option maxHeartbeats 4000000 in
theorem Ja5(s_epoch:Int)(s_turn:Int)(s_up:Bool)(s_in_last_a0:Int)(s_in_last_a1:Int)(s_in_last_a2:Int)(s_in_last_a3:Int)(s_in_max:Int)(s_errs_a0:Int)(s_errs_a1:Int)(s_errs_a2:Int)(s_errs_a3:Int)(s_w_c_cap:Int)(s_w_c_l:List Res)(s_w_ready:Bool)(s_w_shown:List Res)(s_p_next:Int)(s_p_snaps:List Snap)(h:SzS (⟨s_epoch,s_turn,s_up,⟨⟨s_in_last_a0,s_in_last_a1,s_in_last_a2,s_in_last_a3⟩,s_in_max⟩,⟨s_errs_a0,s_errs_a1,s_errs_a2,s_errs_a3⟩,⟨⟨s_w_c_cap,s_w_c_l⟩,s_w_ready,s_w_shown⟩,⟨s_p_next,s_p_snaps⟩⟩:Side)):CallR Tryz.prog 55 [.agg [.int .i64 s_epoch,.int .i64 s_turn,.bool s_up,.int .i64 s_in_last_a0,.int .i64 s_in_last_a1,.int .i64 s_in_last_a2,.int .i64 s_in_last_a3,.int .i64 s_in_max,.int .i64 s_errs_a0,.int .i64 s_errs_a1,.int .i64 s_errs_a2,.int .i64 s_errs_a3,.int .i64 s_w_c_cap,.slice false (Ja s_w_c_l),.bool s_w_ready,.slice false (Ja s_w_shown),.int .i64 s_p_next,.slice false (Ja s_p_snaps)]] (.val (.agg [.int .i64 (Jw (⟨s_epoch,s_turn,s_up,⟨⟨s_in_last_a0,s_in_last_a1,s_in_last_a2,s_in_last_a3⟩,s_in_max⟩,⟨s_errs_a0,s_errs_a1,s_errs_a2,s_errs_a3⟩,⟨⟨s_w_c_cap,s_w_c_l⟩,s_w_ready,s_w_shown⟩,⟨s_p_next,s_p_snaps⟩⟩:Side)).epoch,.int .i64 (Jw (⟨s_epoch,s_turn,s_up,⟨⟨s_in_last_a0,s_in_last_a1,s_in_last_a2,s_in_last_a3⟩,s_in_max⟩,⟨s_errs_a0,s_errs_a1,s_errs_a2,s_errs_a3⟩,⟨⟨s_w_c_cap,s_w_c_l⟩,s_w_ready,s_w_shown⟩,⟨s_p_next,s_p_snaps⟩⟩:Side)).turn,.bool (Jw (⟨s_epoch,s_turn,s_up,⟨⟨s_in_last_a0,s_in_last_a1,s_in_last_a2,s_in_last_a3⟩,s_in_max⟩,⟨s_errs_a0,s_errs_a1,s_errs_a2,s_errs_a3⟩,⟨⟨s_w_c_cap,s_w_c_l⟩,s_w_ready,s_w_shown⟩,⟨s_p_next,s_p_snaps⟩⟩:Side)).up,.int .i64 (Jw (⟨s_epoch,s_turn,s_up,⟨⟨s_in_last_a0,s_in_last_a1,s_in_last_a2,s_in_last_a3⟩,s_in_max⟩,⟨s_errs_a0,s_errs_a1,s_errs_a2,s_errs_a3⟩,⟨⟨s_w_c_cap,s_w_c_l⟩,s_w_ready,s_w_shown⟩,⟨s_p_next,s_p_snaps⟩⟩:Side)).in'.last.a0,.int .i64 (Jw (⟨s_epoch,s_turn,s_up,⟨⟨s_in_last_a0,s_in_last_a1,s_in_last_a2,s_in_last_a3⟩,s_in_max⟩,⟨s_errs_a0,s_errs_a1,s_errs_a2,s_errs_a3⟩,⟨⟨s_w_c_cap,s_w_c_l⟩,s_w_ready,s_w_shown⟩,⟨s_p_next,s_p_snaps⟩⟩:Side)).in'.last.a1,.int .i64 (Jw (⟨s_epoch,s_turn,s_up,⟨⟨s_in_last_a0,s_in_last_a1,s_in_last_a2,s_in_last_a3⟩,s_in_max⟩,⟨s_errs_a0,s_errs_a1,s_errs_a2,s_errs_a3⟩,⟨⟨s_w_c_cap,s_w_c_l⟩,s_w_ready,s_w_shown⟩,⟨s_p_next,s_p_snaps⟩⟩:Side)).in'.last.a2,.int .i64 (Jw (⟨s_epoch,s_turn,s_up,⟨⟨s_in_last_a0,s_in_last_a1,s_in_last_a2,s_in_last_a3⟩,s_in_max⟩,⟨s_errs_a0,s_errs_a1,s_errs_a2,s_errs_a3⟩,⟨⟨s_w_c_cap,s_w_c_l⟩,s_w_ready,s_w_shown⟩,⟨s_p_next,s_p_snaps⟩⟩:Side)).in'.last.a3,.int .i64 (Jw (⟨s_epoch,s_turn,s_up,⟨⟨s_in_last_a0,s_in_last_a1,s_in_last_a2,s_in_last_a3⟩,s_in_max⟩,⟨s_errs_a0,s_errs_a1,s_errs_a2,s_errs_a3⟩,⟨⟨s_w_c_cap,s_w_c_l⟩,s_w_ready,s_w_shown⟩,⟨s_p_next,s_p_snaps⟩⟩:Side)).in'.max,.int .i64 (Jw (⟨s_epoch,s_turn,s_up,⟨⟨s_in_last_a0,s_in_last_a1,s_in_last_a2,s_in_last_a3⟩,s_in_max⟩,⟨s_errs_a0,s_errs_a1,s_errs_a2,s_errs_a3⟩,⟨⟨s_w_c_cap,s_w_c_l⟩,s_w_ready,s_w_shown⟩,⟨s_p_next,s_p_snaps⟩⟩:Side)).errs.a0,.int .i64 (Jw (⟨s_epoch,s_turn,s_up,⟨⟨s_in_last_a0,s_in_last_a1,s_in_last_a2,s_in_last_a3⟩,s_in_max⟩,⟨s_errs_a0,s_errs_a1,s_errs_a2,s_errs_a3⟩,⟨⟨s_w_c_cap,s_w_c_l⟩,s_w_ready,s_w_shown⟩,⟨s_p_next,s_p_snaps⟩⟩:Side)).errs.a1,.int .i64 (Jw (⟨s_epoch,s_turn,s_up,⟨⟨s_in_last_a0,s_in_last_a1,s_in_last_a2,s_in_last_a3⟩,s_in_max⟩,⟨s_errs_a0,s_errs_a1,s_errs_a2,s_errs_a3⟩,⟨⟨s_w_c_cap,s_w_c_l⟩,s_w_ready,s_w_shown⟩,⟨s_p_next,s_p_snaps⟩⟩:Side)).errs.a2,.int .i64 (Jw (⟨s_epoch,s_turn,s_up,⟨⟨s_in_last_a0,s_in_last_a1,s_in_last_a2,s_in_last_a3⟩,s_in_max⟩,⟨s_errs_a0,s_errs_a1,s_errs_a2,s_errs_a3⟩,⟨⟨s_w_c_cap,s_w_c_l⟩,s_w_ready,s_w_shown⟩,⟨s_p_next,s_p_snaps⟩⟩:Side)).errs.a3,.int .i64 (Jw (⟨s_epoch,s_turn,s_up,⟨⟨s_in_last_a0,s_in_last_a1,s_in_last_a2,s_in_last_a3⟩,s_in_max⟩,⟨s_errs_a0,s_errs_a1,s_errs_a2,s_errs_a3⟩,⟨⟨s_w_c_cap,s_w_c_l⟩,s_w_ready,s_w_shown⟩,⟨s_p_next,s_p_snaps⟩⟩:Side)).w.c.cap,.slice false (Ja (Jw (⟨s_epoch,s_turn,s_up,⟨⟨s_in_last_a0,s_in_last_a1,s_in_last_a2,s_in_last_a3⟩,s_in_max⟩,⟨s_errs_a0,s_errs_a1,s_errs_a2,s_errs_a3⟩,⟨⟨s_w_c_cap,s_w_c_l⟩,s_w_ready,s_w_shown⟩,⟨s_p_next,s_p_snaps⟩⟩:Side)).w.c.l),.bool (Jw (⟨s_epoch,s_turn,s_up,⟨⟨s_in_last_a0,s_in_last_a1,s_in_last_a2,s_in_last_a3⟩,s_in_max⟩,⟨s_errs_a0,s_errs_a1,s_errs_a2,s_errs_a3⟩,⟨⟨s_w_c_cap,s_w_c_l⟩,s_w_ready,s_w_shown⟩,⟨s_p_next,s_p_snaps⟩⟩:Side)).w.ready,.slice false (Ja (Jw (⟨s_epoch,s_turn,s_up,⟨⟨s_in_last_a0,s_in_last_a1,s_in_last_a2,s_in_last_a3⟩,s_in_max⟩,⟨s_errs_a0,s_errs_a1,s_errs_a2,s_errs_a3⟩,⟨⟨s_w_c_cap,s_w_c_l⟩,s_w_ready,s_w_shown⟩,⟨s_p_next,s_p_snaps⟩⟩:Side)).w.shown),.int .i64 (Jw (⟨s_epoch,s_turn,s_up,⟨⟨s_in_last_a0,s_in_last_a1,s_in_last_a2,s_in_last_a3⟩,s_in_max⟩,⟨s_errs_a0,s_errs_a1,s_errs_a2,s_errs_a3⟩,⟨⟨s_w_c_cap,s_w_c_l⟩,s_w_ready,s_w_shown⟩,⟨s_p_next,s_p_snaps⟩⟩:Side)).p.next',.slice false (Ja (Jw (⟨s_epoch,s_turn,s_up,⟨⟨s_in_last_a0,s_in_last_a1,s_in_last_a2,s_in_last_a3⟩,s_in_max⟩,⟨s_errs_a0,s_errs_a1,s_errs_a2,s_errs_a3⟩,⟨⟨s_w_c_cap,s_w_c_l⟩,s_w_ready,s_w_shown⟩,⟨s_p_next,s_p_snaps⟩⟩:Side)).p.snaps)])):=by
 have w1:=JbU s_epoch s_turn s_up s_in_last_a0 s_in_last_a1 s_in_last_a2 s_in_last_a3 s_in_max s_errs_a0 s_errs_a1 s_errs_a2 s_errs_a3 s_w_c_cap s_w_c_l s_w_ready s_w_shown s_p_next s_p_snaps h
 have w2:=Jfn s_w_c_cap s_in_max
 unfold Jw
 cases hb0:VF (⟨s_epoch,s_turn,s_up,⟨⟨s_in_last_a0,s_in_last_a1,s_in_last_a2,s_in_last_a3⟩,s_in_max⟩,⟨s_errs_a0,s_errs_a1,s_errs_a2,s_errs_a3⟩,⟨⟨s_w_c_cap,s_w_c_l⟩,s_w_ready,s_w_shown⟩,⟨s_p_next,s_p_snaps⟩⟩:Side)
 ·rw[hb0] at w1
  refine QD (T:=T) Tryz.call55 Tryz.func55 rfl Tryz.ntmps55 (congrArg Array.toList Tryz.results55) (by decide) fun ts hn h0=>?_
  (repeat' (first
 | (with_reducible first|refine callX.by (w1) ?_|refine callX.by (w2) ?_|assumption|(refine Qw hK _ ?_;clear hK K)|refine Qw ‹_› _ ?_|refine Qx ‹_› ?_|refine Qi fun K hK=>?_|refine Qj T fun K hK=>?_|refine Ql fun A B hA hB=>?_|refine Qn ?_|refine Qr ?_)
 | ((with_reducible first|apply Qy|apply Qz|apply QA)<;>intro hb<;>try simp only[nr] at hb)
 |simp only[go_sem,↓reduceIte,reduceIte,Qa,Qh,Qb,Qc,Qd,Qe,Qf,Qg,reduceCtorEq, *,-w1,-w2]
 |with_reducible refine fun(bn:Bool) hbn=>?_))
  all_goals (try rfl)
 ·rw[hb0] at w1
  refine QD (T:=T) Tryz.call55 Tryz.func55 rfl Tryz.ntmps55 (congrArg Array.toList Tryz.results55) (by decide) fun ts hn h0=>?_
  (repeat' (first
 | (with_reducible first|refine callX.by (w1) ?_|refine callX.by (w2) ?_|assumption|(refine Qw hK _ ?_;clear hK K)|refine Qw ‹_› _ ?_|refine Qx ‹_› ?_|refine Qi fun K hK=>?_|refine Qj T fun K hK=>?_|refine Ql fun A B hA hB=>?_|refine Qn ?_|refine Qr ?_)
 | ((with_reducible first|apply Qy|apply Qz|apply QA)<;>intro hb<;>try simp only[nr] at hb)
 |simp only[go_sem,↓reduceIte,reduceIte,Qa,Qh,Qb,Qc,Qd,Qe,Qf,Qg,reduceCtorEq, *,-w1,-w2]
 |with_reducible refine fun(bn:Bool) hbn=>?_))
  all_goals (try rfl)
theorem JrK{n:Int}(h:0≤n∧n≤2147483647):IntKind.i64.wrap (n+1)=n+1:=IntWalk.i64_in _ (by omega)
set_option maxHeartbeats 4000000 in
theorem Jc0(s_epoch:Int)(s_turn:Int)(s_up:Bool)(s_in_last_a0:Int)(s_in_last_a1:Int)(s_in_last_a2:Int)(s_in_last_a3:Int)(s_in_max:Int)(s_errs_a0:Int)(s_errs_a1:Int)(s_errs_a2:Int)(s_errs_a3:Int)(s_w_c_cap:Int)(s_w_c_l:List Res)(s_w_ready:Bool)(s_w_shown:List Res)(s_p_next:Int)(s_p_snaps:List Snap)(f_type:Int)(f_epoch:Int)(f_kind:Int)(f_nonce:Int)(f_turn:Int)(f_adds:List Res)(f_gone:List Key)(f_err:Int)(f_have:List Mark)(f_held:List Key)(h:SzP ⟨s_p_next,s_p_snaps⟩)(ht:0≤s_turn∧s_turn≤2147483647):CallR Tryz.prog 99 [.agg [.int .i64 s_epoch,.int .i64 s_turn,.bool s_up,.int .i64 s_in_last_a0,.int .i64 s_in_last_a1,.int .i64 s_in_last_a2,.int .i64 s_in_last_a3,.int .i64 s_in_max,.int .i64 s_errs_a0,.int .i64 s_errs_a1,.int .i64 s_errs_a2,.int .i64 s_errs_a3,.int .i64 s_w_c_cap,.slice false (Ja s_w_c_l),.bool s_w_ready,.slice false (Ja s_w_shown),.int .i64 s_p_next,.slice false (Ja s_p_snaps)],.agg [.int .i64 f_type,.int .i64 f_epoch,.int .i64 f_kind,.int .i64 f_nonce,.int .i64 f_turn,.slice false (Ja f_adds),.slice false (Ja f_gone),.int .i64 f_err,.slice false (Ja f_have),.slice false (Ja f_held)]] (.val (.tup [.agg [.int .i64 s_epoch,.int .i64 (s_turn+1),.bool s_up,.int .i64 s_in_last_a0,.int .i64 s_in_last_a1,.int .i64 s_in_last_a2,.int .i64 s_in_last_a3,.int .i64 s_in_max,.int .i64 s_errs_a0,.int .i64 s_errs_a1,.int .i64 s_errs_a2,.int .i64 s_errs_a3,.int .i64 s_w_c_cap,.slice false (Ja s_w_c_l),.bool s_w_ready,.slice false (Ja s_w_shown),.int .i64 s_p_next,.slice false (Ja s_p_snaps)],.agg [.int .i64 f_type,.int .i64 f_epoch,.int .i64 f_kind,.int .i64 f_nonce,.int .i64 (s_turn+1),.slice false (Ja f_adds),.slice false (Ja f_gone),.int .i64 f_err,.slice false (Ja f_have),.slice false (Ja (J3 ⟨s_p_next,s_p_snaps⟩))]])):=by
 have w1:=(Jag s_p_next s_p_snaps h.n h.s h.t).frz
 have w2:=JrK ht
 clear h ht
 refine CallR.go2 (T:=T) Tryz.call99 Tryz.func99 rfl Tryz.ntmps99 (congrArg Array.toList Tryz.results99) (by decide) fun ts hn h0 h1=>?_
 (repeat' (first
 | (with_reducible first|refine callX.by (w1) ?_|assumption|(refine Qw hK _ ?_;clear hK K)|refine Qw ‹_› _ ?_|refine Qx ‹_› ?_|refine Qi fun K hK=>?_|refine Qj T fun K hK=>?_|refine Qk (id:=2) T mixed [([10],[12,13,14]),([11],[12,13,14]),([12],[10,11,15]),([13],[10,11,15]),([14],[10,11,15]),([15],[12,13,14])] (by kernel_rfl) fun K hK=>?_|refine Qk (id:=3) T mixed [([17],[18]),([18],[17,4]),([4],[18])] (by kernel_rfl) fun K hK=>?_|refine Ql fun A B hA hB=>?_|refine Qn ?_|refine Qr ?_)
 | ((with_reducible first|apply Qy|apply Qz|apply QA)<;>intro hb<;>try simp only[nr] at hb)
 |simp only[go_sem,↓reduceIte,reduceIte,Qa,Qh,Qb,Qc,Qd,Qe,Qf,Qg,reduceCtorEq, *,-w1]
 |with_reducible refine fun(bn:Bool) hbn=>?_))
 all_goals trace_state
def Vf(s:Side):Side:={ Jw s with p:=(Vl (Jw s).p).1 }
theorem Jf5{s:Side}(h:SzS s):SzS (Jw s):=by
 unfold Jw
 split
 ·exact h
 ·exact⟨by simp[Je],⟨⟨by simp[Je,Jc],by simp[Je]⟩,by simp[Je,Jc],by simp[Je]⟩,SzP.nil⟩
set_option maxHeartbeats 4000000 in
theorem Jks(s_epoch:Int)(s_turn:Int)(s_up:Bool)(s_in_last_a0:Int)(s_in_last_a1:Int)(s_in_last_a2:Int)(s_in_last_a3:Int)(s_in_max:Int)(s_errs_a0:Int)(s_errs_a1:Int)(s_errs_a2:Int)(s_errs_a3:Int)(s_w_c_cap:Int)(s_w_c_l:List Res)(s_w_ready:Bool)(s_w_shown:List Res)(s_p_next:Int)(s_p_snaps:List Snap)(h:SzS (⟨s_epoch,s_turn,s_up,⟨⟨s_in_last_a0,s_in_last_a1,s_in_last_a2,s_in_last_a3⟩,s_in_max⟩,⟨s_errs_a0,s_errs_a1,s_errs_a2,s_errs_a3⟩,⟨⟨s_w_c_cap,s_w_c_l⟩,s_w_ready,s_w_shown⟩,⟨s_p_next,s_p_snaps⟩⟩:Side)):CallR Tryz.prog 81 [.agg [.int .i64 s_epoch,.int .i64 s_turn,.bool s_up,.int .i64 s_in_last_a0,.int .i64 s_in_last_a1,.int .i64 s_in_last_a2,.int .i64 s_in_last_a3,.int .i64 s_in_max,.int .i64 s_errs_a0,.int .i64 s_errs_a1,.int .i64 s_errs_a2,.int .i64 s_errs_a3,.int .i64 s_w_c_cap,.slice false (Ja s_w_c_l),.bool s_w_ready,.slice false (Ja s_w_shown),.int .i64 s_p_next,.slice false (Ja s_p_snaps)]] (.val (.tup [.agg [.int .i64 (Vf (⟨s_epoch,s_turn,s_up,⟨⟨s_in_last_a0,s_in_last_a1,s_in_last_a2,s_in_last_a3⟩,s_in_max⟩,⟨s_errs_a0,s_errs_a1,s_errs_a2,s_errs_a3⟩,⟨⟨s_w_c_cap,s_w_c_l⟩,s_w_ready,s_w_shown⟩,⟨s_p_next,s_p_snaps⟩⟩:Side)).epoch,.int .i64 (Vf (⟨s_epoch,s_turn,s_up,⟨⟨s_in_last_a0,s_in_last_a1,s_in_last_a2,s_in_last_a3⟩,s_in_max⟩,⟨s_errs_a0,s_errs_a1,s_errs_a2,s_errs_a3⟩,⟨⟨s_w_c_cap,s_w_c_l⟩,s_w_ready,s_w_shown⟩,⟨s_p_next,s_p_snaps⟩⟩:Side)).turn,.bool (Vf (⟨s_epoch,s_turn,s_up,⟨⟨s_in_last_a0,s_in_last_a1,s_in_last_a2,s_in_last_a3⟩,s_in_max⟩,⟨s_errs_a0,s_errs_a1,s_errs_a2,s_errs_a3⟩,⟨⟨s_w_c_cap,s_w_c_l⟩,s_w_ready,s_w_shown⟩,⟨s_p_next,s_p_snaps⟩⟩:Side)).up,.int .i64 (Vf (⟨s_epoch,s_turn,s_up,⟨⟨s_in_last_a0,s_in_last_a1,s_in_last_a2,s_in_last_a3⟩,s_in_max⟩,⟨s_errs_a0,s_errs_a1,s_errs_a2,s_errs_a3⟩,⟨⟨s_w_c_cap,s_w_c_l⟩,s_w_ready,s_w_shown⟩,⟨s_p_next,s_p_snaps⟩⟩:Side)).in'.last.a0,.int .i64 (Vf (⟨s_epoch,s_turn,s_up,⟨⟨s_in_last_a0,s_in_last_a1,s_in_last_a2,s_in_last_a3⟩,s_in_max⟩,⟨s_errs_a0,s_errs_a1,s_errs_a2,s_errs_a3⟩,⟨⟨s_w_c_cap,s_w_c_l⟩,s_w_ready,s_w_shown⟩,⟨s_p_next,s_p_snaps⟩⟩:Side)).in'.last.a1,.int .i64 (Vf (⟨s_epoch,s_turn,s_up,⟨⟨s_in_last_a0,s_in_last_a1,s_in_last_a2,s_in_last_a3⟩,s_in_max⟩,⟨s_errs_a0,s_errs_a1,s_errs_a2,s_errs_a3⟩,⟨⟨s_w_c_cap,s_w_c_l⟩,s_w_ready,s_w_shown⟩,⟨s_p_next,s_p_snaps⟩⟩:Side)).in'.last.a2,.int .i64 (Vf (⟨s_epoch,s_turn,s_up,⟨⟨s_in_last_a0,s_in_last_a1,s_in_last_a2,s_in_last_a3⟩,s_in_max⟩,⟨s_errs_a0,s_errs_a1,s_errs_a2,s_errs_a3⟩,⟨⟨s_w_c_cap,s_w_c_l⟩,s_w_ready,s_w_shown⟩,⟨s_p_next,s_p_snaps⟩⟩:Side)).in'.last.a3,.int .i64 (Vf (⟨s_epoch,s_turn,s_up,⟨⟨s_in_last_a0,s_in_last_a1,s_in_last_a2,s_in_last_a3⟩,s_in_max⟩,⟨s_errs_a0,s_errs_a1,s_errs_a2,s_errs_a3⟩,⟨⟨s_w_c_cap,s_w_c_l⟩,s_w_ready,s_w_shown⟩,⟨s_p_next,s_p_snaps⟩⟩:Side)).in'.max,.int .i64 (Vf (⟨s_epoch,s_turn,s_up,⟨⟨s_in_last_a0,s_in_last_a1,s_in_last_a2,s_in_last_a3⟩,s_in_max⟩,⟨s_errs_a0,s_errs_a1,s_errs_a2,s_errs_a3⟩,⟨⟨s_w_c_cap,s_w_c_l⟩,s_w_ready,s_w_shown⟩,⟨s_p_next,s_p_snaps⟩⟩:Side)).errs.a0,.int .i64 (Vf (⟨s_epoch,s_turn,s_up,⟨⟨s_in_last_a0,s_in_last_a1,s_in_last_a2,s_in_last_a3⟩,s_in_max⟩,⟨s_errs_a0,s_errs_a1,s_errs_a2,s_errs_a3⟩,⟨⟨s_w_c_cap,s_w_c_l⟩,s_w_ready,s_w_shown⟩,⟨s_p_next,s_p_snaps⟩⟩:Side)).errs.a1,.int .i64 (Vf (⟨s_epoch,s_turn,s_up,⟨⟨s_in_last_a0,s_in_last_a1,s_in_last_a2,s_in_last_a3⟩,s_in_max⟩,⟨s_errs_a0,s_errs_a1,s_errs_a2,s_errs_a3⟩,⟨⟨s_w_c_cap,s_w_c_l⟩,s_w_ready,s_w_shown⟩,⟨s_p_next,s_p_snaps⟩⟩:Side)).errs.a2,.int .i64 (Vf (⟨s_epoch,s_turn,s_up,⟨⟨s_in_last_a0,s_in_last_a1,s_in_last_a2,s_in_last_a3⟩,s_in_max⟩,⟨s_errs_a0,s_errs_a1,s_errs_a2,s_errs_a3⟩,⟨⟨s_w_c_cap,s_w_c_l⟩,s_w_ready,s_w_shown⟩,⟨s_p_next,s_p_snaps⟩⟩:Side)).errs.a3,.int .i64 (Vf (⟨s_epoch,s_turn,s_up,⟨⟨s_in_last_a0,s_in_last_a1,s_in_last_a2,s_in_last_a3⟩,s_in_max⟩,⟨s_errs_a0,s_errs_a1,s_errs_a2,s_errs_a3⟩,⟨⟨s_w_c_cap,s_w_c_l⟩,s_w_ready,s_w_shown⟩,⟨s_p_next,s_p_snaps⟩⟩:Side)).w.c.cap,.slice false (Ja (Vf (⟨s_epoch,s_turn,s_up,⟨⟨s_in_last_a0,s_in_last_a1,s_in_last_a2,s_in_last_a3⟩,s_in_max⟩,⟨s_errs_a0,s_errs_a1,s_errs_a2,s_errs_a3⟩,⟨⟨s_w_c_cap,s_w_c_l⟩,s_w_ready,s_w_shown⟩,⟨s_p_next,s_p_snaps⟩⟩:Side)).w.c.l),.bool (Vf (⟨s_epoch,s_turn,s_up,⟨⟨s_in_last_a0,s_in_last_a1,s_in_last_a2,s_in_last_a3⟩,s_in_max⟩,⟨s_errs_a0,s_errs_a1,s_errs_a2,s_errs_a3⟩,⟨⟨s_w_c_cap,s_w_c_l⟩,s_w_ready,s_w_shown⟩,⟨s_p_next,s_p_snaps⟩⟩:Side)).w.ready,.slice false (Ja (Vf (⟨s_epoch,s_turn,s_up,⟨⟨s_in_last_a0,s_in_last_a1,s_in_last_a2,s_in_last_a3⟩,s_in_max⟩,⟨s_errs_a0,s_errs_a1,s_errs_a2,s_errs_a3⟩,⟨⟨s_w_c_cap,s_w_c_l⟩,s_w_ready,s_w_shown⟩,⟨s_p_next,s_p_snaps⟩⟩:Side)).w.shown),.int .i64 (Vf (⟨s_epoch,s_turn,s_up,⟨⟨s_in_last_a0,s_in_last_a1,s_in_last_a2,s_in_last_a3⟩,s_in_max⟩,⟨s_errs_a0,s_errs_a1,s_errs_a2,s_errs_a3⟩,⟨⟨s_w_c_cap,s_w_c_l⟩,s_w_ready,s_w_shown⟩,⟨s_p_next,s_p_snaps⟩⟩:Side)).p.next',.slice false (Ja (Vf (⟨s_epoch,s_turn,s_up,⟨⟨s_in_last_a0,s_in_last_a1,s_in_last_a2,s_in_last_a3⟩,s_in_max⟩,⟨s_errs_a0,s_errs_a1,s_errs_a2,s_errs_a3⟩,⟨⟨s_w_c_cap,s_w_c_l⟩,s_w_ready,s_w_shown⟩,⟨s_p_next,s_p_snaps⟩⟩:Side)).p.snaps)],.int .i64 (Vl (Jw (⟨s_epoch,s_turn,s_up,⟨⟨s_in_last_a0,s_in_last_a1,s_in_last_a2,s_in_last_a3⟩,s_in_max⟩,⟨s_errs_a0,s_errs_a1,s_errs_a2,s_errs_a3⟩,⟨⟨s_w_c_cap,s_w_c_l⟩,s_w_ready,s_w_shown⟩,⟨s_p_next,s_p_snaps⟩⟩:Side)).p).2.1,.int .i64 (Vl (Jw (⟨s_epoch,s_turn,s_up,⟨⟨s_in_last_a0,s_in_last_a1,s_in_last_a2,s_in_last_a3⟩,s_in_max⟩,⟨s_errs_a0,s_errs_a1,s_errs_a2,s_errs_a3⟩,⟨⟨s_w_c_cap,s_w_c_l⟩,s_w_ready,s_w_shown⟩,⟨s_p_next,s_p_snaps⟩⟩:Side)).p).2.2])):=by
 have w1:=Ja5 s_epoch s_turn s_up s_in_last_a0 s_in_last_a1 s_in_last_a2 s_in_last_a3 s_in_max s_errs_a0 s_errs_a1 s_errs_a2 s_errs_a3 s_w_c_cap s_w_c_l s_w_ready s_w_shown s_p_next s_p_snaps h
 have hz:=Jf5 h
 unfold Vf
 clear h
 generalize Jw (⟨s_epoch,s_turn,s_up,⟨⟨s_in_last_a0,s_in_last_a1,s_in_last_a2,s_in_last_a3⟩,s_in_max⟩,⟨s_errs_a0,s_errs_a1,s_errs_a2,s_errs_a3⟩,⟨⟨s_w_c_cap,s_w_c_l⟩,s_w_ready,s_w_shown⟩,⟨s_p_next,s_p_snaps⟩⟩:Side)=b at *
 have w2:=JmW b.p.next' b.p.snaps hz.p.n
 clear hz
 have e:(⟨b.p.next',b.p.snaps⟩:Pins)=b.p:=rfl
 rw[e] at w2
 clear e
 generalize Vl b.p=q at *
 refine QD (T:=T) Tryz.call81 Tryz.func81 rfl Tryz.ntmps81 (congrArg Array.toList Tryz.results81) (by decide) fun ts hn h0=>?_
 (repeat' (first
 | (with_reducible first|refine callX.by (w1) ?_|refine callX.by (w2) ?_|assumption|(refine Qw hK _ ?_;clear hK K)|refine Qw ‹_› _ ?_|refine Qx ‹_› ?_|refine Qi fun K hK=>?_|refine Qj T fun K hK=>?_|refine Ql fun A B hA hB=>?_|refine Qn ?_|refine Qr ?_)
 | ((with_reducible first|apply Qy|apply Qz|apply QA)<;>intro hb<;>try simp only[nr] at hb)
 |simp only[go_sem,↓reduceIte,reduceIte,Qa,Qh,Qb,Qc,Qd,Qe,Qf,Qg,reduceCtorEq, *,-w1,-w2]
 |with_reducible refine fun(bn:Bool) hbn=>?_))
 all_goals trace_state
set_option maxHeartbeats 4000000 in
theorem Jf9(s_epoch:Int)(s_turn:Int)(s_up:Bool)(s_in_last_a0:Int)(s_in_last_a1:Int)(s_in_last_a2:Int)(s_in_last_a3:Int)(s_in_max:Int)(s_errs_a0:Int)(s_errs_a1:Int)(s_errs_a2:Int)(s_errs_a3:Int)(s_w_c_cap:Int)(s_w_c_l:List Res)(s_w_ready:Bool)(s_w_shown:List Res)(s_p_next:Int)(s_p_snaps:List Snap)(h:SzS (⟨s_epoch,s_turn,s_up,⟨⟨s_in_last_a0,s_in_last_a1,s_in_last_a2,s_in_last_a3⟩,s_in_max⟩,⟨s_errs_a0,s_errs_a1,s_errs_a2,s_errs_a3⟩,⟨⟨s_w_c_cap,s_w_c_l⟩,s_w_ready,s_w_shown⟩,⟨s_p_next,s_p_snaps⟩⟩:Side)):CallR Tryz.prog 21 [.agg [.int .i64 s_epoch,.int .i64 s_turn,.bool s_up,.int .i64 s_in_last_a0,.int .i64 s_in_last_a1,.int .i64 s_in_last_a2,.int .i64 s_in_last_a3,.int .i64 s_in_max,.int .i64 s_errs_a0,.int .i64 s_errs_a1,.int .i64 s_errs_a2,.int .i64 s_errs_a3,.int .i64 s_w_c_cap,.slice false (Ja s_w_c_l),.bool s_w_ready,.slice false (Ja s_w_shown),.int .i64 s_p_next,.slice false (Ja s_p_snaps)]] (.val (.tup [.slice false (Ja (JI (Jw (⟨s_epoch,s_turn,s_up,⟨⟨s_in_last_a0,s_in_last_a1,s_in_last_a2,s_in_last_a3⟩,s_in_max⟩,⟨s_errs_a0,s_errs_a1,s_errs_a2,s_errs_a3⟩,⟨⟨s_w_c_cap,s_w_c_l⟩,s_w_ready,s_w_shown⟩,⟨s_p_next,s_p_snaps⟩⟩:Side)).p).2.1),.bool (JI (Jw (⟨s_epoch,s_turn,s_up,⟨⟨s_in_last_a0,s_in_last_a1,s_in_last_a2,s_in_last_a3⟩,s_in_max⟩,⟨s_errs_a0,s_errs_a1,s_errs_a2,s_errs_a3⟩,⟨⟨s_w_c_cap,s_w_c_l⟩,s_w_ready,s_w_shown⟩,⟨s_p_next,s_p_snaps⟩⟩:Side)).p).2.2])):=by
 have w1:=Ja5 s_epoch s_turn s_up s_in_last_a0 s_in_last_a1 s_in_last_a2 s_in_last_a3 s_in_max s_errs_a0 s_errs_a1 s_errs_a2 s_errs_a3 s_w_c_cap s_w_c_l s_w_ready s_w_shown s_p_next s_p_snaps h
 have hz:=Jf5 h
 clear h
 generalize Jw (⟨s_epoch,s_turn,s_up,⟨⟨s_in_last_a0,s_in_last_a1,s_in_last_a2,s_in_last_a3⟩,s_in_max⟩,⟨s_errs_a0,s_errs_a1,s_errs_a2,s_errs_a3⟩,⟨⟨s_w_c_cap,s_w_c_l⟩,s_w_ready,s_w_shown⟩,⟨s_p_next,s_p_snaps⟩⟩:Side)=b at *
 have w2:=Jg7 b.p.next' b.p.snaps hz.p.n
 clear hz
 have e:(⟨b.p.next',b.p.snaps⟩:Pins)=b.p:=rfl
 rw[e] at w2
 clear e
 generalize JI b.p=q at *
 refine QD (T:=T) Tryz.call21 Tryz.func21 rfl Tryz.ntmps21 (congrArg Array.toList Tryz.results21) (by decide) fun ts hn h0=>?_
 (repeat' (first
 | (with_reducible first|refine callX.by (w1) ?_|refine callX.by (w2) ?_|assumption|(refine Qw hK _ ?_;clear hK K)|refine Qw ‹_› _ ?_|refine Qx ‹_› ?_|refine Qi fun K hK=>?_|refine Qj T fun K hK=>?_|refine Ql fun A B hA hB=>?_|refine Qn ?_|refine Qr ?_)
 | ((with_reducible first|apply Qy|apply Qz|apply QA)<;>intro hb<;>try simp only[nr] at hb)
 |simp only[go_sem,↓reduceIte,reduceIte,Qa,Qh,Qb,Qc,Qd,Qe,Qf,Qg,reduceCtorEq, *,-w1,-w2]
 |with_reducible refine fun(bn:Bool) hbn=>?_))
 all_goals trace_state
end Go.Proofs.YthjalhfmpffbjaaGreatDoor.Lg
