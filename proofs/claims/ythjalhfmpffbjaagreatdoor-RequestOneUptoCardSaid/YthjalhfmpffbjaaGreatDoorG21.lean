/- Parts of the proof, one behind the other. -/
import Derived.Test.YthjalhfmpffbjaaGreatDoorG20
namespace Go.Proofs.YthjalhfmpffbjaaGreatDoor.Lg
set_option maxRecDepth 100000
set_option maxHeartbeats 64000000
set_option linter.unusedVariables false
set_option linter.unusedSimpArgs false
open Go
open Nat renaming reduceEqDiff → Qa, reduceLT → Qb, reduceLeDiff → Qc, reduceAdd → Qd, reduceMul → Qe, reduceSub → Qf, reduceBEq → Qg
open String renaming reduceEq → Qh
open SpecC renaming seqW → Qi, regW → Qj, drawW → Qk, condW → Ql, block → Qm, skip → Qn, exit → Qp, ret → Qr
open NxK renaming out → Qw
open Nx renaming out → Qx
open condK renaming split → Qy
open gK renaming split_t → Qz, split_f → QA
theorem JaH(next:Int)(xs:List Snap)(hl:Jc xs.length)(hs:∀x∈xs,Yt x)(ht:Jc (JZ xs).length):CallR Tryz.prog 80 [.agg [.int .i64 next,.slice false (Ja xs)]] (.own 2 (Ja (JW ⟨next,xs⟩))):=by
 have hl2:Jc (Jq ⟨next,xs⟩).snaps.length:=Jcr hl
 have hs2:∀x∈(Jq ⟨next,xs⟩).snaps,Jc x.l.length:=by
  unfold Jq;split
  ·exact fun x hx=>(hs x hx).1
  ·simp
 have ht2:Jc (JZ (Jq ⟨next,xs⟩).snaps).length:=by
  unfold Jq;split
  ·exact ht
  ·simp[JZ,Jc]
 have ht3:Jc (JK (JZ (Jq ⟨next,xs⟩).snaps)).length:=by rw[JaB];exact ht2
 refine Jl Tryz.call80 Tryz.func80 rfl Tryz.ntmps80 Tryz.results80 fun ts hn h0=>?_
 (repeat' (first
 | (with_reducible first|refine callX.by (ZT _ _ ?_) ?_|refine callX.by (JgO _ ?_) ?_)
 | (with_reducible refine callX.ar ?_ ?_ (ZX ?_ ?_);(focus(simp only[go_sem,↓reduceIte,Qa,Qh,Qb,Qc,Qd,Qe,Qf,Qg,reduceCtorEq, *];first|done|rfl)))
 |with_reducible refine callX.by (Vw _ _ _ _) ?_
 | (with_reducible refine callX.mv ?_ ?_ ?_ (ZH ?_ ?_);(focus(simp only[go_sem,↓reduceIte,Qa,Qh,Qb,Qc,Qd,Qe,Qf,Qg,reduceCtorEq, *];first|done|rfl));(focus(simp only[go_sem,↓reduceIte,Qa,Qh,Qb,Qc,Qd,Qe,Qf,Qg,reduceCtorEq, *];first|done|rfl)))
 | (with_reducible first|assumption|(refine Qw hK _ ?_;clear hK K)|refine Qw ‹_› _ ?_|refine Qx ‹_› ?_|refine Qi fun K hK=>?_|refine Qj T fun K hK=>?_|refine Ql fun A B hA hB=>?_|refine Qm ?_|refine Qn ?_|refine Qp ?_|refine Qr ?_)
 |(with_reducible first|apply Qy|apply Qz|apply QA)<;>intro hb<;>try simp only[nr] at hb
 |simp only[go_sem,↓reduceIte,Qa,Qh,Qb,Qc,Qd,Qe,Qf,Qg,reduceCtorEq, *]
 |intro(bn:Bool) hbn))
 refine SpecC.ent (Ent.virt 3 2 (by simp only[go_sem,↓reduceIte,Qa,Qh,Qb,Qc,Qd,Qe,Qf,Qg,reduceCtorEq, *]) (by decide)) ?_
 refine SpecC.loopF [8,9] (fun m ts'=>∃(i:Nat),∃(g:Nat),∃(ys:List Key),m=(Jq ⟨next,xs⟩).snaps.length-i∧i≤(Jq ⟨next,xs⟩).snaps.length∧JZ (Jq ⟨next,xs⟩).snaps=ys++JZ ((Jq ⟨next,xs⟩).snaps.drop i)∧ts'.tmp 3=.os 3 g ys.length∧ts'.gen 3=g∧ts'.obj 3=.arr 2 (Ja ys)∧ts'.tmp 10=.int .i64 i) (Jq ⟨next,xs⟩).snaps.length ?_ ?_
 ·refine⟨0,ts.gen 3+1,[],rfl,Nat.zero_le _,rfl,?_⟩
  simp only[go_sem,↓reduceIte,Qa,Qh,Qb,Qc,Qd,Qe,Qf,Qg,reduceCtorEq, *,J8]
 ·rintro m A hM ts' hk ⟨i,g,ys,hm,f1,f2,s1,s2,s3,s4⟩
  simp only[go_sem,↓reduceIte,Qa,Qh,Qb,Qc,Qd,Qe,Qf,Qg,reduceCtorEq, *] at hk
  by_cases hlt:i<(Jq ⟨next,xs⟩).snaps.length
  ·rw[List.drop_eq_getElem_cons hlt,Jiq] at f2
   have hsi:=hs2 _ (List.getElem_mem hlt)
   have hlen:=congrArg List.length f2
   rw[List.length_append,List.length_append,List.length_map] at hlen
   have hr1:VC (ys.length+(Jq ⟨next,xs⟩).snaps[i].l.length) 24:=Jbz (by unfold Jc at ht2;omega) (by decide)
   have htk:((Jq ⟨next,xs⟩).snaps[i].l.map Jo).take (Jq ⟨next,xs⟩).snaps[i].l.length=(Jq ⟨next,xs⟩).snaps[i].l.map Jo:=List.take_of_length_le (by simp)
   (repeat' (first
 | (with_reducible first|refine callX.by (ZT _ _ ?_) ?_|refine callX.by (JgO _ ?_) ?_)
 | (with_reducible refine callX.ar ?_ ?_ (ZX ?_ ?_);(focus(simp only[go_sem,↓reduceIte,Qa,Qh,Qb,Qc,Qd,Qe,Qf,Qg,reduceCtorEq, *,List.length_map,-hlen,-f2];first|done|rfl)))
 |with_reducible refine callX.by (Vw _ _ _ _) ?_
 | (with_reducible refine callX.mv ?_ ?_ ?_ (ZH ?_ ?_);(focus(simp only[go_sem,↓reduceIte,Qa,Qh,Qb,Qc,Qd,Qe,Qf,Qg,reduceCtorEq, *,List.length_map,-hlen,-f2];first|done|rfl));(focus(simp only[go_sem,↓reduceIte,Qa,Qh,Qb,Qc,Qd,Qe,Qf,Qg,reduceCtorEq, *,List.length_map,-hlen,-f2];first|done|rfl)))
 | (with_reducible first|assumption|(refine Qw hK _ ?_;clear hK K)|refine Qw ‹_› _ ?_|refine Qx ‹_› ?_|refine Qi fun K hK=>?_|refine Qj T fun K hK=>?_|refine Ql fun A B hA hB=>?_|refine Qm ?_|refine Qn ?_|refine Qp ?_|refine Qr ?_)
 |(with_reducible first|apply Qy|apply Qz|apply QA)<;>intro hb<;>try simp only[nr] at hb
 |simp only[go_sem,↓reduceIte,Qa,Qh,Qb,Qc,Qd,Qe,Qf,Qg,reduceCtorEq, *,List.length_map,-hlen,-f2]
 |intro(bn:Bool) hbn))
   all_goals ((repeat clear hK);(repeat clear hA);(repeat clear hB))
   (refine hM.onE ((Jq ⟨next,xs⟩).snaps.length-(i+1)) (Ent.ren 3 18 ?_ ?_) ?_ ?_ ?_;(focus(simp only[go_sem,↓reduceIte,Qa,Qh,Qb,Qc,Qd,Qe,Qf,Qg,reduceCtorEq, *,Jh hlt hl2,List.length_map,List.length_append,-hlen,-f2];first|done|rfl));(focus(simp only[go_sem,↓reduceIte,Qa,Qh,Qb,Qc,Qd,Qe,Qf,Qg,reduceCtorEq, *,Jh hlt hl2,List.length_map,List.length_append,-hlen,-f2];first|done|rfl));omega;(focus(simp only[go_sem,↓reduceIte,Qa,Qh,Qb,Qc,Qd,Qe,Qf,Qg,reduceCtorEq, *,Jh hlt hl2,List.length_map,List.length_append,-hlen,-f2];done));refine⟨i+1,g+1,ys++(Jq ⟨next,xs⟩).snaps[i].l.map Jo,rfl,by omega,by rw[f2,List.append_assoc],?_⟩;simp only[go_sem,↓reduceIte,Qa,Qh,Qb,Qc,Qd,Qe,Qf,Qg,reduceCtorEq, *,Jh hlt hl2,List.length_map,List.length_append,-hlen,-f2];done)
  ·rw[List.drop_eq_nil_of_le (by omega)] at f2
   have e:ys=JZ (Jq ⟨next,xs⟩).snaps:=by rw[f2];simp[JZ]
   subst e
   clear f2
   have hk1:=JaB (JZ (Jq ⟨next,xs⟩).snaps)
   have htk:(JK (JZ (Jq ⟨next,xs⟩).snaps)).take (JZ (Jq ⟨next,xs⟩).snaps).length=JK (JZ (Jq ⟨next,xs⟩).snaps):=List.take_of_length_le (by omega)
   (repeat' (first
 | (with_reducible first|refine callX.by (ZT _ _ ?_) ?_|refine callX.by (JgO _ ?_) ?_)
 | (with_reducible refine callX.ar ?_ ?_ (ZX ?_ ?_);(focus(simp only[go_sem,↓reduceIte,Qa,Qh,Qb,Qc,Qd,Qe,Qf,Qg,reduceCtorEq, *,Nat.le_refl];first|done|rfl)))
 |with_reducible refine callX.by (Vw _ _ _ _) ?_
 | (with_reducible refine callX.mv ?_ ?_ ?_ (ZH ?_ ?_);(focus(simp only[go_sem,↓reduceIte,Qa,Qh,Qb,Qc,Qd,Qe,Qf,Qg,reduceCtorEq, *,Nat.le_refl];first|done|rfl));(focus(simp only[go_sem,↓reduceIte,Qa,Qh,Qb,Qc,Qd,Qe,Qf,Qg,reduceCtorEq, *,Nat.le_refl];first|done|rfl)))
 | (with_reducible first|assumption|(refine Qw hK _ ?_;clear hK K)|refine Qw ‹_› _ ?_|refine Qx ‹_› ?_|refine Qi fun K hK=>?_|refine Qj T fun K hK=>?_|refine Ql fun A B hA hB=>?_|refine Qm ?_|refine Qn ?_|refine Qp ?_|refine Qr ?_)
 |(with_reducible first|apply Qy|apply Qz|apply QA)<;>intro hb<;>try simp only[nr] at hb
 |simp only[go_sem,↓reduceIte,Qa,Qh,Qb,Qc,Qd,Qe,Qf,Qg,reduceCtorEq, *,Nat.le_refl]
 |intro(bn:Bool) hbn))
   all_goals ((repeat clear hK);(repeat clear hA);(repeat clear hB))
   all_goals rfl
theorem Jpn(p:Pins):(JW p).length≤(JZ (Jq p).snaps).length:=by
 unfold JW V8
 have h1:=JiD (JK (JZ (Jq p).snaps))
 have h2:=JaB (JZ (Jq p).snaps)
 rw[List.length_append,List.length_take]
 omega
structure SzP(p:Pins):Prop where
 n:Jc p.snaps.length
 s:∀x∈p.snaps,Yt x
 t:Jc (JZ p.snaps).length
theorem Jgf(p:Pins):Jq p=p∨Jq p=⟨0,[]⟩:=by
 unfold Jq;split
 ·exact .inl rfl
 ·exact .inr rfl
theorem SzP.nil:SzP ⟨0,[]⟩:=⟨by simp[Jc],by simp,by simp[Jc,JZ]⟩
theorem SzP.sane{p:Pins}(h:SzP p):SzP (Jq p):=by
 rcases Jgf p with e|e<;>rw[e]
 ·exact h
 ·exact SzP.nil
theorem SzP.held{p:Pins}(h:SzP p):Jc (JW p).length∧∀k∈JW p,JaV k:=by
 have h1:=h.sane
 refine⟨?_,fun k hk0=>?_⟩
 ·have:=Jpn p
  have h2:=h1.t
  unfold Jc at h2 ⊢;omega
 ·have h2:=((Jew p).2 k).1 hk0
  obtain⟨x,hx,hm⟩:=List.mem_flatMap.1 h2
  obtain⟨r,hr,rfl⟩:=List.mem_map.1 hm
  exact((h1.s x hx).2 r hr).1
def Jf(limit most:Int):Side:=⟨0,0,false,⟨z4,Va most⟩,z4,⟨⟨VS limit,[]⟩,false,[]⟩,⟨0,[]⟩⟩
theorem JfT(a b:Int):CallR Tryz.prog 30 [.int .i64 a,.int .i64 b] (.val (.agg [.int .i64 (Jf a b).epoch,.int .i64 (Jf a b).turn,.bool (Jf a b).up,.int .i64 (Jf a b).in'.last.a0,.int .i64 (Jf a b).in'.last.a1,.int .i64 (Jf a b).in'.last.a2,.int .i64 (Jf a b).in'.last.a3,.int .i64 (Jf a b).in'.max,.int .i64 (Jf a b).errs.a0,.int .i64 (Jf a b).errs.a1,.int .i64 (Jf a b).errs.a2,.int .i64 (Jf a b).errs.a3,.int .i64 (Jf a b).w.c.cap,.slice false (Ja (Jf a b).w.c.l),.bool (Jf a b).w.ready,.slice false (Ja (Jf a b).w.shown),.int .i64 (Jf a b).p.next',.slice false (Ja (Jf a b).p.snaps)])):=by
 have w1:=JnV b
 have w2:=JfU a
 refine Jm Tryz.call30 Tryz.func30 rfl Tryz.ntmps30 Tryz.results30 fun ts hn h0 h1=>?_
 (repeat' (first
 | (with_reducible first|refine callX.by (w1) ?_|refine callX.by (w2) ?_|assumption|(refine Qw hK _ ?_;clear hK K)|refine Qw ‹_› _ ?_|refine Qx ‹_› ?_|refine Qi fun K hK=>?_|refine Qj T fun K hK=>?_|refine Ql fun A B hA hB=>?_|refine Qn ?_|refine Qr ?_)
 |(with_reducible first|apply Qy|apply Qz|apply QA)<;>intro hb<;>try simp only[nr] at hb
 |simp only[go_sem,↓reduceIte,Qa,Qh,Qb,Qc,Qd,Qe,Qf,Qg,reduceCtorEq, *,-w1,-w2]
 |intro(bn:Bool) hbn))
 all_goals exact⟨rfl,rfl,rfl,rfl,rfl,rfl,rfl,rfl,rfl,rfl,rfl,rfl,rfl,rfl,rfl,rfl,rfl,rfl⟩
theorem JqP(n:Int):CallR Tryz.prog 32 [.int .i64 n] (.val (.bool (fin n 2147483647))):=by
 refine Jl Tryz.call32 Tryz.func32 rfl Tryz.ntmps32 Tryz.results32 fun ts hn h0=>?_
 (repeat' (first
 | (with_reducible first|assumption|(refine Qw hK _ ?_;clear hK K)|refine Qw ‹_› _ ?_|refine Qx ‹_› ?_|refine Qi fun K hK=>?_|refine Qj T fun K hK=>?_|refine Ql fun A B hA hB=>?_|refine Qn ?_|refine Qr ?_)
 |(with_reducible first|apply Qy|apply Qz|apply QA)<;>intro hb<;>try simp only[nr] at hb
 |simp only[go_sem,↓reduceIte,Qa,Qh,Qb,Qc,Qd,Qe,Qf,Qg,reduceCtorEq, *]
 |intro(bn:Bool) hbn))
 all_goals (rw[Bool.eq_iff_iff];simp_all[fin])
 all_goals omega
theorem Jkr(n:Int):CallR Tryz.prog 34 [.int .i64 n] (.val (.bool (!fin n 15))):=by
 refine Jl Tryz.call34 Tryz.func34 rfl Tryz.ntmps34 Tryz.results34 fun ts hn h0=>?_
 (repeat' (first
 | (with_reducible first|assumption|(refine Qw hK _ ?_;clear hK K)|refine Qw ‹_› _ ?_|refine Qx ‹_› ?_|refine Qi fun K hK=>?_|refine Qj T fun K hK=>?_|refine Ql fun A B hA hB=>?_|refine Qn ?_|refine Qr ?_)
 |(with_reducible first|apply Qy|apply Qz|apply QA)<;>intro hb<;>try simp only[nr] at hb
 |simp only[go_sem,↓reduceIte,Qa,Qh,Qb,Qc,Qd,Qe,Qf,Qg,reduceCtorEq, *]
 |intro(bn:Bool) hbn))
 all_goals (rw[Bool.eq_iff_iff];simp_all[fin])
 all_goals omega
theorem Zf(Kn Ko:Int)(KR:Bool)(Ka Kb:Int)(Kc Kd:Int)(Km Kh:Int)(Ki Kj:Int)(Kk Kf:Int)(s_w_c_l:List Res)(Kg:Bool)(Ke:List Res)(Kl:Int)(s_p_snaps:List Snap):CallR Tryz.prog 66 [.agg [.int .i64 Kn,.int .i64 Ko,.bool KR,.int .i64 Ka,.int .i64 Kb,.int .i64 Kc,.int .i64 Kd,.int .i64 Km,.int .i64 Kh,.int .i64 Ki,.int .i64 Kj,.int .i64 Kk,.int .i64 Kf,.slice false (Ja s_w_c_l),.bool Kg,.slice false (Ja Ke),.int .i64 Kl,.slice false (Ja s_p_snaps)]] (.val (.bool (decide (Ko=2147483647)))):=by
 refine Jl Tryz.call66 Tryz.func66 rfl Tryz.ntmps66 Tryz.results66 fun ts hn h0=>?_
 (repeat' (first
 | (with_reducible first|assumption|(refine Qw hK _ ?_;clear hK K)|refine Qw ‹_› _ ?_|refine Qx ‹_› ?_|refine Qi fun K hK=>?_|refine Qj T fun K hK=>?_|refine Ql fun A B hA hB=>?_|refine Qn ?_|refine Qr ?_)
 |(with_reducible first|apply Qy|apply Qz|apply QA)<;>intro hb<;>try simp only[nr] at hb
 |simp only[go_sem,↓reduceIte,Qa,Qh,Qb,Qc,Qd,Qe,Qf,Qg,reduceCtorEq, *]
 |intro(bn:Bool) hbn))
def YZ(p:Pins):Bool:=decide (YU ⟨3,0,0,0,0,[],[],0,[],JW p⟩=0)
theorem JeM(next:Int)(xs:List Snap)(h:SzP ⟨next,xs⟩):CallR Tryz.prog 38 [.agg [.int .i64 next,.slice false (Ja xs)]] (.val (.bool (YZ ⟨next,xs⟩))):=by
 have w1:=(JaH next xs h.n h.s h.t).frz
 have w2:=Jih 3 0 0 0 0 [] [] 0 [] (JW ⟨next,xs⟩) ⟨by simp[Jc],by simp,by simp[Jc],by simp,by simp[Jc],by simp,h.held⟩
 have w2:CallR Tryz.prog 79 [.agg [.int .i64 3,.int .i64 0,.int .i64 0,.int .i64 0,.int .i64 0,.slice false [],.slice false [],.int .i64 0,.slice false [],.slice false (Ja (JW ⟨next,xs⟩))]] (.val (.int .i64 (YU ⟨3,0,0,0,0,[],[],0,[],JW ⟨next,xs⟩⟩))):=w2
 clear h
 refine Jl Tryz.call38 Tryz.func38 rfl Tryz.ntmps38 Tryz.results38 fun ts hn h0=>?_
 (repeat' (first
 | (with_reducible first|refine callX.by (w1) ?_|refine callX.by (w2) ?_|assumption|(refine Qw hK _ ?_;clear hK K)|refine Qw ‹_› _ ?_|refine Qx ‹_› ?_|refine Qi fun K hK=>?_|refine Qj T fun K hK=>?_|refine Ql fun A B hA hB=>?_|refine Qn ?_|refine Qr ?_)
 |(with_reducible first|apply Qy|apply Qz|apply QA)<;>intro hb<;>try simp only[nr] at hb
 |simp only[go_sem,↓reduceIte,Qa,Qh,Qb,Qc,Qd,Qe,Qf,Qg,reduceCtorEq, *,-w1,-w2]
 |intro(bn:Bool) hbn))
 all_goals rfl
def Z2(s:Side):Bool:=decide ((JI s.p).2.2=s.w.ready) && (!(JI s.p).2.2 || decide ((JI s.p).2.1=s.w.shown))
theorem Jjn{p:Pins}(h:SzP p):Jc (JI p).2.1.length∧∀r∈(JI p).2.1,Jw r:=by
 unfold JI
 cases e:(Jq p).snaps.getLast? with
 |none=>simp[Jc]
 |some x=>exact h.sane.s x (List.mem_of_getLast? e)
theorem Jhb(Kn Ko:Int)(KR:Bool)(Ka Kb:Int)(Kc Kd:Int)(Km Kh:Int)(Ki Kj:Int)(Kk Kf:Int)(s_w_c_l:List Res)(Kg:Bool)(Ke:List Res)(Kl:Int)(s_p_snaps:List Snap)(h:SzP ⟨Kl,s_p_snaps⟩):CallR Tryz.prog 39 [.agg [.int .i64 Kn,.int .i64 Ko,.bool KR,.int .i64 Ka,.int .i64 Kb,.int .i64 Kc,.int .i64 Kd,.int .i64 Km,.int .i64 Kh,.int .i64 Ki,.int .i64 Kj,.int .i64 Kk,.int .i64 Kf,.slice false (Ja s_w_c_l),.bool Kg,.slice false (Ja Ke),.int .i64 Kl,.slice false (Ja s_p_snaps)]] (.val (.bool (Z2 (⟨Kn,Ko,KR,⟨⟨Ka,Kb,Kc,Kd⟩,Km⟩,⟨Kh,Ki,Kj,Kk⟩,⟨⟨Kf,s_w_c_l⟩,Kg,Ke⟩,⟨Kl,s_p_snaps⟩⟩:Side)))):=by
 have w1:=JhJ Kl s_p_snaps h.n
 obtain⟨g1,g2⟩:=Jjn h
 have e:Z2 (⟨Kn,Ko,KR,⟨⟨Ka,Kb,Kc,Kd⟩,Km⟩,⟨Kh,Ki,Kj,Kk⟩,⟨⟨Kf,s_w_c_l⟩,Kg,Ke⟩,⟨Kl,s_p_snaps⟩⟩:Side)=(decide ((JI ⟨Kl,s_p_snaps⟩).2.2=Kg) && (!(JI ⟨Kl,s_p_snaps⟩).2.2 || decide ((JI ⟨Kl,s_p_snaps⟩).2.1=Ke))):=rfl
 rw[e]
 clear e
 generalize JI ⟨Kl,s_p_snaps⟩=cu at *
 obtain⟨ci,cl,cb⟩:=cu
 simp only at w1 g1 g2 ⊢
 have w2:=JgQ cl Ke g1 g2
 clear g1 g2 h
 refine Jl Tryz.call39 Tryz.func39 rfl Tryz.ntmps39 Tryz.results39 fun ts hn h0=>?_
 (repeat' (first
 | (with_reducible first|refine callX.by (w1) ?_|refine callX.by (w2) ?_|assumption|(refine Qw hK _ ?_;clear hK K)|refine Qw ‹_› _ ?_|refine Qx ‹_› ?_|refine Qi fun K hK=>?_|refine Qj T fun K hK=>?_|refine Ql fun A B hA hB=>?_|refine Qn ?_|refine Qr ?_)
 |(with_reducible first|apply Qy|apply Qz|apply QA)<;>intro hb<;>try simp only[nr] at hb
 |simp only[go_sem,↓reduceIte,Qa,Qh,Qb,Qc,Qd,Qe,Qf,Qg,reduceCtorEq, *,-w1,-w2]
 |intro(bn:Bool) hbn))
 all_goals (try simp_all)
structure SzS(s:Side):Prop where
 c:s.w.c.l.length≤65536
 w:JaW s.w
 p:SzP s.p
def Z6(e:Four):Bool:=fin e.a0 15 && fin e.a1 15 && fin e.a2 15 && fin e.a3 15
theorem JnE(a b c d:Int):([a,b,c,d].any fun e=>!fin e 15)=!Z6 ⟨a,b,c,d⟩:=by
 simp[Z6,List.any_cons,Bool.and_assoc]
def JR(s:Side):Bool:=fin s.epoch 2147483647 && fin s.turn 2147483647 && Z6 s.errs && YJ s.in' && VG s.w && ZP s.p && YZ s.p && Z2 s
theorem JhG(a b c d:Int):CallR Tryz.prog 33 [.slice false [.int .i64 a,.int .i64 b,.int .i64 c,.int .i64 d],.clo (.func 34) [] []] (.val (.bool (!Z6 ⟨a,b,c,d⟩))):=by
 have:=JhH 34 [] Caps.nil (fun e=>!fin e 15) [a,b,c,d] (fun x _=>Jkr x) (by simp[Jc])
 rw[JnE] at this
 exact this
theorem Jdw(Kn Ko:Int)(KR:Bool)(Ka Kb:Int)(Kc Kd:Int)(Km Kh:Int)(Ki Kj:Int)(Kk Kf:Int)(s_w_c_l:List Res)(Kg:Bool)(Ke:List Res)(Kl:Int)(s_p_snaps:List Snap)(h:SzS (⟨Kn,Ko,KR,⟨⟨Ka,Kb,Kc,Kd⟩,Km⟩,⟨Kh,Ki,Kj,Kk⟩,⟨⟨Kf,s_w_c_l⟩,Kg,Ke⟩,⟨Kl,s_p_snaps⟩⟩:Side)):CallR Tryz.prog 12 [.agg [.int .i64 Kn,.int .i64 Ko,.bool KR,.int .i64 Ka,.int .i64 Kb,.int .i64 Kc,.int .i64 Kd,.int .i64 Km,.int .i64 Kh,.int .i64 Ki,.int .i64 Kj,.int .i64 Kk,.int .i64 Kf,.slice false (Ja s_w_c_l),.bool Kg,.slice false (Ja Ke),.int .i64 Kl,.slice false (Ja s_p_snaps)]] (.val (.bool (JR (⟨Kn,Ko,KR,⟨⟨Ka,Kb,Kc,Kd⟩,Km⟩,⟨Kh,Ki,Kj,Kk⟩,⟨⟨Kf,s_w_c_l⟩,Kg,Ke⟩,⟨Kl,s_p_snaps⟩⟩:Side)))):=by
 have w1:=JhG Kh Ki Kj Kk
 have w2:=JfY Ka Kb Kc Kd Km
 have w3:=Jdx Kf s_w_c_l Kg Ke h.c h.w.1.2 h.w.2.1 h.w.2.2
 have w4:=Jf9 Kl s_p_snaps h.p.n
 have w5:=JeM Kl s_p_snaps h.p
 have w6:=Jhb Kn Ko KR Ka Kb Kc Kd Km Kh Ki Kj Kk Kf s_w_c_l Kg Ke Kl s_p_snaps h.p
 clear h
 refine Jl Tryz.call12 Tryz.func12 rfl Tryz.ntmps12 Tryz.results12 fun ts hn h0=>?_
 (repeat' (first
 | (with_reducible first|refine SpecC.ent (Ent.frzBox _ 1) (Qj T (id:=1) fun K hK=>?_)|refine callX.by (w1) ?_|refine callX.by (w2) ?_|refine callX.by (w3) ?_|refine callX.by (w4) ?_|refine callX.by (w5) ?_|refine callX.by (w6) ?_|refine callX.by (JqP _) ?_|refine callX.by (JhH _ _ ?_ _ _ ?_ ?_) ?_|refine callX.by (JhG _ _ _ _) ?_|refine callX.by (Jkr _) ?_|refine callX.by (JfY _ _ _ _ _) ?_|refine callX.by (Jdx _ _ _ _ ?_ ?_ ?_ ?_) ?_|refine callX.by (Jf9 _ _ ?_) ?_|refine callX.by (JeM _ _ ?_) ?_|refine callX.by (Jhb _ _ _ _ _ _ _ _ _ _ _ _ _ _ _ _ _ _ ?_) ?_|assumption|(refine Qw hK _ ?_;clear hK K)|refine Qw ‹_› _ ?_|refine Qx ‹_› ?_|refine Qi fun K hK=>?_|refine Qj T fun K hK=>?_|refine Ql fun A B hA hB=>?_|refine Qn ?_|refine Qr ?_)
 |(with_reducible first|apply Qy|apply Qz|apply QA)<;>intro hb<;>try simp only[nr] at hb
 |simp only[go_sem,↓reduceIte,Qa,Qh,Qb,Qc,Qd,Qe,Qf,Qg,reduceCtorEq, *,-w1,-w2,-w3,-w4,-w5,-w6]
 |intro(bn:Bool) hbn))
 all_goals simp only[JR, *,Bool.and_true,Bool.true_and,Bool.false_and,Bool.and_false]
def Jr(s:Side):Side:=if JR s=true then s else Jf s.w.c.cap s.in'.max
theorem YN(Kn Ko:Int)(KR:Bool)(Ka Kb:Int)(Kc Kd:Int)(Km Kh:Int)(Ki Kj:Int)(Kk Kf:Int)(s_w_c_l:List Res)(Kg:Bool)(Ke:List Res)(Kl:Int)(s_p_snaps:List Snap)(h:SzS (⟨Kn,Ko,KR,⟨⟨Ka,Kb,Kc,Kd⟩,Km⟩,⟨Kh,Ki,Kj,Kk⟩,⟨⟨Kf,s_w_c_l⟩,Kg,Ke⟩,⟨Kl,s_p_snaps⟩⟩:Side)):CallR Tryz.prog 55 [.agg [.int .i64 Kn,.int .i64 Ko,.bool KR,.int .i64 Ka,.int .i64 Kb,.int .i64 Kc,.int .i64 Kd,.int .i64 Km,.int .i64 Kh,.int .i64 Ki,.int .i64 Kj,.int .i64 Kk,.int .i64 Kf,.slice false (Ja s_w_c_l),.bool Kg,.slice false (Ja Ke),.int .i64 Kl,.slice false (Ja s_p_snaps)]] (.val (.agg [.int .i64 (Jr (⟨Kn,Ko,KR,⟨⟨Ka,Kb,Kc,Kd⟩,Km⟩,⟨Kh,Ki,Kj,Kk⟩,⟨⟨Kf,s_w_c_l⟩,Kg,Ke⟩,⟨Kl,s_p_snaps⟩⟩:Side)).epoch,.int .i64 (Jr (⟨Kn,Ko,KR,⟨⟨Ka,Kb,Kc,Kd⟩,Km⟩,⟨Kh,Ki,Kj,Kk⟩,⟨⟨Kf,s_w_c_l⟩,Kg,Ke⟩,⟨Kl,s_p_snaps⟩⟩:Side)).turn,.bool (Jr (⟨Kn,Ko,KR,⟨⟨Ka,Kb,Kc,Kd⟩,Km⟩,⟨Kh,Ki,Kj,Kk⟩,⟨⟨Kf,s_w_c_l⟩,Kg,Ke⟩,⟨Kl,s_p_snaps⟩⟩:Side)).up,.int .i64 (Jr (⟨Kn,Ko,KR,⟨⟨Ka,Kb,Kc,Kd⟩,Km⟩,⟨Kh,Ki,Kj,Kk⟩,⟨⟨Kf,s_w_c_l⟩,Kg,Ke⟩,⟨Kl,s_p_snaps⟩⟩:Side)).in'.last.a0,.int .i64 (Jr (⟨Kn,Ko,KR,⟨⟨Ka,Kb,Kc,Kd⟩,Km⟩,⟨Kh,Ki,Kj,Kk⟩,⟨⟨Kf,s_w_c_l⟩,Kg,Ke⟩,⟨Kl,s_p_snaps⟩⟩:Side)).in'.last.a1,.int .i64 (Jr (⟨Kn,Ko,KR,⟨⟨Ka,Kb,Kc,Kd⟩,Km⟩,⟨Kh,Ki,Kj,Kk⟩,⟨⟨Kf,s_w_c_l⟩,Kg,Ke⟩,⟨Kl,s_p_snaps⟩⟩:Side)).in'.last.a2,.int .i64 (Jr (⟨Kn,Ko,KR,⟨⟨Ka,Kb,Kc,Kd⟩,Km⟩,⟨Kh,Ki,Kj,Kk⟩,⟨⟨Kf,s_w_c_l⟩,Kg,Ke⟩,⟨Kl,s_p_snaps⟩⟩:Side)).in'.last.a3,.int .i64 (Jr (⟨Kn,Ko,KR,⟨⟨Ka,Kb,Kc,Kd⟩,Km⟩,⟨Kh,Ki,Kj,Kk⟩,⟨⟨Kf,s_w_c_l⟩,Kg,Ke⟩,⟨Kl,s_p_snaps⟩⟩:Side)).in'.max,.int .i64 (Jr (⟨Kn,Ko,KR,⟨⟨Ka,Kb,Kc,Kd⟩,Km⟩,⟨Kh,Ki,Kj,Kk⟩,⟨⟨Kf,s_w_c_l⟩,Kg,Ke⟩,⟨Kl,s_p_snaps⟩⟩:Side)).errs.a0,.int .i64 (Jr (⟨Kn,Ko,KR,⟨⟨Ka,Kb,Kc,Kd⟩,Km⟩,⟨Kh,Ki,Kj,Kk⟩,⟨⟨Kf,s_w_c_l⟩,Kg,Ke⟩,⟨Kl,s_p_snaps⟩⟩:Side)).errs.a1,.int .i64 (Jr (⟨Kn,Ko,KR,⟨⟨Ka,Kb,Kc,Kd⟩,Km⟩,⟨Kh,Ki,Kj,Kk⟩,⟨⟨Kf,s_w_c_l⟩,Kg,Ke⟩,⟨Kl,s_p_snaps⟩⟩:Side)).errs.a2,.int .i64 (Jr (⟨Kn,Ko,KR,⟨⟨Ka,Kb,Kc,Kd⟩,Km⟩,⟨Kh,Ki,Kj,Kk⟩,⟨⟨Kf,s_w_c_l⟩,Kg,Ke⟩,⟨Kl,s_p_snaps⟩⟩:Side)).errs.a3,.int .i64 (Jr (⟨Kn,Ko,KR,⟨⟨Ka,Kb,Kc,Kd⟩,Km⟩,⟨Kh,Ki,Kj,Kk⟩,⟨⟨Kf,s_w_c_l⟩,Kg,Ke⟩,⟨Kl,s_p_snaps⟩⟩:Side)).w.c.cap,.slice false (Ja (Jr (⟨Kn,Ko,KR,⟨⟨Ka,Kb,Kc,Kd⟩,Km⟩,⟨Kh,Ki,Kj,Kk⟩,⟨⟨Kf,s_w_c_l⟩,Kg,Ke⟩,⟨Kl,s_p_snaps⟩⟩:Side)).w.c.l),.bool (Jr (⟨Kn,Ko,KR,⟨⟨Ka,Kb,Kc,Kd⟩,Km⟩,⟨Kh,Ki,Kj,Kk⟩,⟨⟨Kf,s_w_c_l⟩,Kg,Ke⟩,⟨Kl,s_p_snaps⟩⟩:Side)).w.ready,.slice false (Ja (Jr (⟨Kn,Ko,KR,⟨⟨Ka,Kb,Kc,Kd⟩,Km⟩,⟨Kh,Ki,Kj,Kk⟩,⟨⟨Kf,s_w_c_l⟩,Kg,Ke⟩,⟨Kl,s_p_snaps⟩⟩:Side)).w.shown),.int .i64 (Jr (⟨Kn,Ko,KR,⟨⟨Ka,Kb,Kc,Kd⟩,Km⟩,⟨Kh,Ki,Kj,Kk⟩,⟨⟨Kf,s_w_c_l⟩,Kg,Ke⟩,⟨Kl,s_p_snaps⟩⟩:Side)).p.next',.slice false (Ja (Jr (⟨Kn,Ko,KR,⟨⟨Ka,Kb,Kc,Kd⟩,Km⟩,⟨Kh,Ki,Kj,Kk⟩,⟨⟨Kf,s_w_c_l⟩,Kg,Ke⟩,⟨Kl,s_p_snaps⟩⟩:Side)).p.snaps)])):=by
 have w1:=Jdw Kn Ko KR Ka Kb Kc Kd Km Kh Ki Kj Kk Kf s_w_c_l Kg Ke Kl s_p_snaps h
 have w2:=JfT Kf Km
 unfold Jr
 cases hb0:JR (⟨Kn,Ko,KR,⟨⟨Ka,Kb,Kc,Kd⟩,Km⟩,⟨Kh,Ki,Kj,Kk⟩,⟨⟨Kf,s_w_c_l⟩,Kg,Ke⟩,⟨Kl,s_p_snaps⟩⟩:Side)
 ·rw[hb0] at w1
  refine Jl Tryz.call55 Tryz.func55 rfl Tryz.ntmps55 Tryz.results55 fun ts hn h0=>?_
  (repeat' (first
 | (with_reducible first|refine callX.by (w1) ?_|refine callX.by (w2) ?_|assumption|(refine Qw hK _ ?_;clear hK K)|refine Qw ‹_› _ ?_|refine Qx ‹_› ?_|refine Qi fun K hK=>?_|refine Qj T fun K hK=>?_|refine Ql fun A B hA hB=>?_|refine Qn ?_|refine Qr ?_)
 |(with_reducible first|apply Qy|apply Qz|apply QA)<;>intro hb<;>try simp only[nr] at hb
 |simp only[go_sem,↓reduceIte,Qa,Qh,Qb,Qc,Qd,Qe,Qf,Qg,reduceCtorEq, *,-w1,-w2]
 |intro(bn:Bool) hbn))
  all_goals (try rfl)
 ·rw[hb0] at w1
  refine Jl Tryz.call55 Tryz.func55 rfl Tryz.ntmps55 Tryz.results55 fun ts hn h0=>?_
  (repeat' (first
 | (with_reducible first|refine callX.by (w1) ?_|refine callX.by (w2) ?_|assumption|(refine Qw hK _ ?_;clear hK K)|refine Qw ‹_› _ ?_|refine Qx ‹_› ?_|refine Qi fun K hK=>?_|refine Qj T fun K hK=>?_|refine Ql fun A B hA hB=>?_|refine Qn ?_|refine Qr ?_)
 |(with_reducible first|apply Qy|apply Qz|apply QA)<;>intro hb<;>try simp only[nr] at hb
 |simp only[go_sem,↓reduceIte,Qa,Qh,Qb,Qc,Qd,Qe,Qf,Qg,reduceCtorEq, *,-w1,-w2]
 |intro(bn:Bool) hbn))
  all_goals (try rfl)
theorem Jrn{n:Int}(h:0≤n∧n≤2147483647):IntKind.i64.wrap (n+1)=n+1:=IntWalk.i64_in _ (by omega)
theorem Jkl(l:List Mark)(k:Int)(n:List UInt8)(v:Int):Ja l++[.agg [.int .i64 k,.str n,.int .i64 v]]=Ja (l++[⟨⟨k,n⟩,v⟩]):=by rw[YQ];rfl
theorem JbH(Kn Ko:Int)(KR:Bool)(Ka Kb:Int)(Kc Kd:Int)(Km Kh:Int)(Ki Kj:Int)(Kk Kf:Int)(s_w_c_l:List Res)(Kg:Bool)(Ke:List Res)(Kl:Int)(s_p_snaps:List Snap)(KH Kv:Int)(Kw Ku KJ:Int)(f_adds:List Res)(f_gone:List Key)(K6:Int)(f_have:List Mark)(f_held:List Key)(h:SzP ⟨Kl,s_p_snaps⟩)(ht:0≤Ko∧Ko≤2147483647):CallR Tryz.prog 99 [.agg [.int .i64 Kn,.int .i64 Ko,.bool KR,.int .i64 Ka,.int .i64 Kb,.int .i64 Kc,.int .i64 Kd,.int .i64 Km,.int .i64 Kh,.int .i64 Ki,.int .i64 Kj,.int .i64 Kk,.int .i64 Kf,.slice false (Ja s_w_c_l),.bool Kg,.slice false (Ja Ke),.int .i64 Kl,.slice false (Ja s_p_snaps)],.agg [.int .i64 KH,.int .i64 Kv,.int .i64 Kw,.int .i64 Ku,.int .i64 KJ,.slice false (Ja f_adds),.slice false (Ja f_gone),.int .i64 K6,.slice false (Ja f_have),.slice false (Ja f_held)]] (.val (.tup [.agg [.int .i64 Kn,.int .i64 (Ko+1),.bool KR,.int .i64 Ka,.int .i64 Kb,.int .i64 Kc,.int .i64 Kd,.int .i64 Km,.int .i64 Kh,.int .i64 Ki,.int .i64 Kj,.int .i64 Kk,.int .i64 Kf,.slice false (Ja s_w_c_l),.bool Kg,.slice false (Ja Ke),.int .i64 Kl,.slice false (Ja s_p_snaps)],.agg [.int .i64 KH,.int .i64 Kv,.int .i64 Kw,.int .i64 Ku,.int .i64 (Ko+1),.slice false (Ja f_adds),.slice false (Ja f_gone),.int .i64 K6,.slice false (Ja f_have),.slice false (Ja (JW ⟨Kl,s_p_snaps⟩))]])):=by
 have w1:=(JaH Kl s_p_snaps h.n h.s h.t).frz
 have w2:=Jrn ht
 clear h ht
 refine Jm Tryz.call99 Tryz.func99 rfl Tryz.ntmps99 Tryz.results99 fun ts hn h0 h1=>?_
 (repeat' (first
 | (with_reducible first|refine callX.by (w1) ?_|assumption|(refine Qw hK _ ?_;clear hK K)|refine Qw ‹_› _ ?_|refine Qx ‹_› ?_|refine Qi fun K hK=>?_|refine Qj T fun K hK=>?_|refine Qk (id:=2) T mixed [([10],[12,13,14]),([11],[12,13,14]),([12],[10,11,15]),([13],[10,11,15]),([14],[10,11,15]),([15],[12,13,14])] (by kernel_rfl) fun K hK=>?_|refine Qk (id:=3) T mixed [([17],[18]),([18],[17,4]),([4],[18])] (by kernel_rfl) fun K hK=>?_|refine Ql fun A B hA hB=>?_|refine Qn ?_|refine Qr ?_)
 |(with_reducible first|apply Qy|apply Qz|apply QA)<;>intro hb<;>try simp only[nr] at hb
 |simp only[go_sem,↓reduceIte,Qa,Qh,Qb,Qc,Qd,Qe,Qf,Qg,reduceCtorEq, *,-w1]
 |intro(bn:Bool) hbn))
 all_goals trace_state
theorem JaO(Kn Ko:Int)(KR:Bool)(Ka Kb:Int)(Kc Kd:Int)(Km Kh:Int)(Ki Kj:Int)(Kk Kf:Int)(s_w_c_l:List Res)(Kg:Bool)(Ke:List Res)(Kl:Int)(s_p_snaps:List Snap)(KH Kv:Int)(Kw Ku KJ:Int)(f_adds:List Res)(f_gone:List Key)(K6:Int)(f_have:List Mark)(f_held:List Key)(h:SzP ⟨Kl,s_p_snaps⟩)(ht:0≤Ko∧Ko≤2147483647)(e:Int)(he:Z9 ⟨Kh,Ki,Kj,Kk⟩ Kw=e)(hk4:0≤Kw∧Kw<4):CallR Tryz.prog 68 [.agg [.int .i64 Kn,.int .i64 Ko,.bool KR,.int .i64 Ka,.int .i64 Kb,.int .i64 Kc,.int .i64 Kd,.int .i64 Km,.int .i64 Kh,.int .i64 Ki,.int .i64 Kj,.int .i64 Kk,.int .i64 Kf,.slice false (Ja s_w_c_l),.bool Kg,.slice false (Ja Ke),.int .i64 Kl,.slice false (Ja s_p_snaps)],.agg [.int .i64 KH,.int .i64 Kv,.int .i64 Kw,.int .i64 Ku,.int .i64 KJ,.slice false (Ja f_adds),.slice false (Ja f_gone),.int .i64 K6,.slice false (Ja f_have),.slice false (Ja f_held)]] (.val (.tup [.agg [.int .i64 Kn,.int .i64 (Ko+1),.bool KR,.int .i64 Ka,.int .i64 Kb,.int .i64 Kc,.int .i64 Kd,.int .i64 Km,.int .i64 Kh,.int .i64 Ki,.int .i64 Kj,.int .i64 Kk,.int .i64 Kf,.slice false (Ja s_w_c_l),.bool Kg,.slice false (Ja Ke),.int .i64 Kl,.slice false (Ja s_p_snaps)],.slice false [.agg [.int .i64 2,.int .i64 Kv,.int .i64 Kw,.int .i64 Ku,.int .i64 (Ko+1),.slice false [],.slice false [],.int .i64 e,.slice false [],.slice false (Ja (JW ⟨Kl,s_p_snaps⟩))]]])):=by
 subst he
 have w1:∀e,CallR Tryz.prog 99 [.agg [.int .i64 Kn,.int .i64 Ko,.bool KR,.int .i64 Ka,.int .i64 Kb,.int .i64 Kc,.int .i64 Kd,.int .i64 Km,.int .i64 Kh,.int .i64 Ki,.int .i64 Kj,.int .i64 Kk,.int .i64 Kf,.slice false (Ja s_w_c_l),.bool Kg,.slice false (Ja Ke),.int .i64 Kl,.slice false (Ja s_p_snaps)],.agg [.int .i64 2,.int .i64 Kv,.int .i64 Kw,.int .i64 Ku,.int .i64 0,.slice false [],.slice false [],.int .i64 e,.slice false [],.slice false []]] (.val (.tup [.agg [.int .i64 Kn,.int .i64 (Ko+1),.bool KR,.int .i64 Ka,.int .i64 Kb,.int .i64 Kc,.int .i64 Kd,.int .i64 Km,.int .i64 Kh,.int .i64 Ki,.int .i64 Kj,.int .i64 Kk,.int .i64 Kf,.slice false (Ja s_w_c_l),.bool Kg,.slice false (Ja Ke),.int .i64 Kl,.slice false (Ja s_p_snaps)],.agg [.int .i64 2,.int .i64 Kv,.int .i64 Kw,.int .i64 Ku,.int .i64 (Ko+1),.slice false [],.slice false [],.int .i64 e,.slice false [],.slice false (Ja (JW ⟨Kl,s_p_snaps⟩))]])):=fun e=>JbH Kn Ko KR Ka Kb Kc Kd Km Kh Ki Kj Kk Kf s_w_c_l Kg Ke Kl s_p_snaps 2 Kv Kw Ku 0 [] [] e [] [] h ht
 clear h ht
 rcases(show Kw=0∨Kw=1∨Kw=2∨Kw=3 by omega) with rfl|rfl|rfl|rfl
 all_goals clear hk4
 all_goals
  refine CallR.go2 (T:=T.withF [27]) Tryz.call68 Tryz.func68 rfl Tryz.ntmps68 (congrArg Array.toList Tryz.results68) (by decide) fun ts hn h0 h1=>?_
  (repeat' (first
 | (with_reducible first|refine callX.by (w1 _) ?_|refine callX.by (JbH _ _ _ _ _ _ _ _ _ _ _ _ _ _ _ _ _ _ _ _ _ _ _ _ _ _ _ _ ?_ ?_) ?_|assumption|(refine Qw hK _ ?_;clear hK K)|refine Qw ‹_› _ ?_|refine Qx ‹_› ?_|refine Qi fun K hK=>?_|refine Qj (T.withF [27]) fun K hK=>?_|refine Qk (id:=1) (T.withF [27]) mixed [([9],[10,11,12,13,14,15,16,17,18,19,20,21,23,24,6,7]),([10],[9,12,13,14,15,16,17,18,19,20,22,8,23,24,6,7]),([11],[9,12,13,14,15,16,17,18,19,20,8,23,24,6,7]),([12],[9,10,11,14,15,16,17,18,19,20,22,8,23,24,6,7]),([13],[9,10,11,14,15,16,17,18,19,20,8,23,24,6,7]),([14],[9,10,11,12,13,16,17,18,19,20,22,8,23,24,6,7]),([15],[9,10,11,12,13,16,17,18,19,20,8,23,24,6,7]),([16],[9,10,11,12,13,14,15,18,20,21,22,8,23,24,6,7]),([17],[9,10,11,12,13,14,15,18,21,22,8,23,24,6,7]),([18],[9,10,11,12,13,14,15,16,17,21,22,8,23,24,6,7]),([19],[9,10,11,12,13,14,15,22,8,23,24,6,7]),([20],[9,10,11,12,13,14,15,16,8,23,24,6,7]),([21],[9,16,17,18,23,24,6,7]),([22],[10,12,14,16,17,18,19,6,7]),([8],[10,11,12,13,14,15,16,17,18,19,20,6,7]),([23],[9,10,11,12,13,14,15,16,17,18,19,20,21,24,6,7]),([24],[9,10,11,12,13,14,15,16,17,18,19,20,21,23,6,7]),([6],[9,10,11,12,13,14,15,16,17,18,19,20,21,22,8,23,24,7]),([7],[9,10,11,12,13,14,15,16,17,18,19,20,21,22,8,23,24,6]),([6],[24])] (by kernel_rfl) fun K hK=>?_|refine Qk (id:=2) (T.withF [27]) mixed [([25],[26,27]),([26],[25,4]),([27],[25,4]),([4],[26,27])] (by kernel_rfl) fun K hK=>?_|refine Ql fun A B hA hB=>?_|refine Qn ?_|refine Qr ?_)
 |(with_reducible first|apply Qy|apply Qz|apply QA)<;>intro hb<;>try simp only[nr] at hb
 |simp only[go_sem,↓reduceIte,Qa,Qh,Qb,Qc,Qd,Qe,Qf,Qg,reduceCtorEq, *,-w1,YH,YS,YY,Y0]
 |intro(bn:Bool) hbn))
 all_goals first|rfl|simp[Z9]
def Jag(s:Side)(f:Frame):Int:=if s.up=false then 12 else if YU f≠0 then YU f else if f.epoch≠s.epoch then 11 else if f.type≠1 then 15 else 0
theorem Jbv(Kn Ko:Int)(KR:Bool)(Ka Kb:Int)(Kc Kd:Int)(Km Kh:Int)(Ki Kj:Int)(Kk Kf:Int)(s_w_c_l:List Res)(Kg:Bool)(Ke:List Res)(Kl:Int)(s_p_snaps:List Snap)(KH Kv:Int)(Kw Ku KJ:Int)(f_adds:List Res)(f_gone:List Key)(K6:Int)(f_have:List Mark)(f_held:List Key)(hf:V5 (⟨KH,Kv,Kw,Ku,KJ,f_adds,f_gone,K6,f_have,f_held⟩:Frame)):CallR Tryz.prog 64 [.agg [.int .i64 Kn,.int .i64 Ko,.bool KR,.int .i64 Ka,.int .i64 Kb,.int .i64 Kc,.int .i64 Kd,.int .i64 Km,.int .i64 Kh,.int .i64 Ki,.int .i64 Kj,.int .i64 Kk,.int .i64 Kf,.slice false (Ja s_w_c_l),.bool Kg,.slice false (Ja Ke),.int .i64 Kl,.slice false (Ja s_p_snaps)],.agg [.int .i64 KH,.int .i64 Kv,.int .i64 Kw,.int .i64 Ku,.int .i64 KJ,.slice false (Ja f_adds),.slice false (Ja f_gone),.int .i64 K6,.slice false (Ja f_have),.slice false (Ja f_held)]] (.val (.int .i64 (Jag (⟨Kn,Ko,KR,⟨⟨Ka,Kb,Kc,Kd⟩,Km⟩,⟨Kh,Ki,Kj,Kk⟩,⟨⟨Kf,s_w_c_l⟩,Kg,Ke⟩,⟨Kl,s_p_snaps⟩⟩:Side) (⟨KH,Kv,Kw,Ku,KJ,f_adds,f_gone,K6,f_have,f_held⟩:Frame)))):=by
 have w1:=Jih KH Kv Kw Ku KJ f_adds f_gone K6 f_have f_held hf
 have e:Jag (⟨Kn,Ko,KR,⟨⟨Ka,Kb,Kc,Kd⟩,Km⟩,⟨Kh,Ki,Kj,Kk⟩,⟨⟨Kf,s_w_c_l⟩,Kg,Ke⟩,⟨Kl,s_p_snaps⟩⟩:Side) (⟨KH,Kv,Kw,Ku,KJ,f_adds,f_gone,K6,f_have,f_held⟩:Frame)=if KR=false then 12 else if YU (⟨KH,Kv,Kw,Ku,KJ,f_adds,f_gone,K6,f_have,f_held⟩:Frame)≠0 then YU (⟨KH,Kv,Kw,Ku,KJ,f_adds,f_gone,K6,f_have,f_held⟩:Frame) else if Kv≠Kn then 11 else if KH≠1 then 15 else 0:=rfl
 rw[e]
 clear hf e
 generalize YU (⟨KH,Kv,Kw,Ku,KJ,f_adds,f_gone,K6,f_have,f_held⟩:Frame)=v at *
 cases KR
 all_goals
  refine Jm Tryz.call64 Tryz.func64 rfl Tryz.ntmps64 Tryz.results64 fun ts hn h0 h1=>?_
  (repeat' (first
 | (with_reducible first|refine callX.by (w1) ?_|assumption|(refine Qw hK _ ?_;clear hK K)|refine Qw ‹_› _ ?_|refine Qx ‹_› ?_|refine Qi fun K hK=>?_|refine Qj T fun K hK=>?_|refine Ql fun A B hA hB=>?_|refine Qm ?_|refine Qn ?_|refine Qr ?_)
 |(with_reducible first|apply Qy|apply Qz|apply QA)<;>intro hb<;>try simp only[nr] at hb
 |simp only[go_sem,↓reduceIte,Qa,Qh,Qb,Qc,Qd,Qe,Qf,Qg,reduceCtorEq, *,-w1]
 |intro(bn:Bool) hbn))
 all_goals simp_all
def Vk(s:Side):Side:={ Jr s with p:=(Vs (Jr s).p).1 }
theorem JeS{s:Side}(h:SzS s):SzS (Jr s):=by
 unfold Jr
 split
 ·exact h
 ·exact⟨by simp[Jf],⟨⟨by simp[Jf,Jc],by simp[Jf]⟩,by simp[Jf,Jc],by simp[Jf]⟩,SzP.nil⟩
theorem Jm3(Kn Ko:Int)(KR:Bool)(Ka Kb:Int)(Kc Kd:Int)(Km Kh:Int)(Ki Kj:Int)(Kk Kf:Int)(s_w_c_l:List Res)(Kg:Bool)(Ke:List Res)(Kl:Int)(s_p_snaps:List Snap)(h:SzS (⟨Kn,Ko,KR,⟨⟨Ka,Kb,Kc,Kd⟩,Km⟩,⟨Kh,Ki,Kj,Kk⟩,⟨⟨Kf,s_w_c_l⟩,Kg,Ke⟩,⟨Kl,s_p_snaps⟩⟩:Side)):CallR Tryz.prog 81 [.agg [.int .i64 Kn,.int .i64 Ko,.bool KR,.int .i64 Ka,.int .i64 Kb,.int .i64 Kc,.int .i64 Kd,.int .i64 Km,.int .i64 Kh,.int .i64 Ki,.int .i64 Kj,.int .i64 Kk,.int .i64 Kf,.slice false (Ja s_w_c_l),.bool Kg,.slice false (Ja Ke),.int .i64 Kl,.slice false (Ja s_p_snaps)]] (.val (.tup [.agg [.int .i64 (Vk (⟨Kn,Ko,KR,⟨⟨Ka,Kb,Kc,Kd⟩,Km⟩,⟨Kh,Ki,Kj,Kk⟩,⟨⟨Kf,s_w_c_l⟩,Kg,Ke⟩,⟨Kl,s_p_snaps⟩⟩:Side)).epoch,.int .i64 (Vk (⟨Kn,Ko,KR,⟨⟨Ka,Kb,Kc,Kd⟩,Km⟩,⟨Kh,Ki,Kj,Kk⟩,⟨⟨Kf,s_w_c_l⟩,Kg,Ke⟩,⟨Kl,s_p_snaps⟩⟩:Side)).turn,.bool (Vk (⟨Kn,Ko,KR,⟨⟨Ka,Kb,Kc,Kd⟩,Km⟩,⟨Kh,Ki,Kj,Kk⟩,⟨⟨Kf,s_w_c_l⟩,Kg,Ke⟩,⟨Kl,s_p_snaps⟩⟩:Side)).up,.int .i64 (Vk (⟨Kn,Ko,KR,⟨⟨Ka,Kb,Kc,Kd⟩,Km⟩,⟨Kh,Ki,Kj,Kk⟩,⟨⟨Kf,s_w_c_l⟩,Kg,Ke⟩,⟨Kl,s_p_snaps⟩⟩:Side)).in'.last.a0,.int .i64 (Vk (⟨Kn,Ko,KR,⟨⟨Ka,Kb,Kc,Kd⟩,Km⟩,⟨Kh,Ki,Kj,Kk⟩,⟨⟨Kf,s_w_c_l⟩,Kg,Ke⟩,⟨Kl,s_p_snaps⟩⟩:Side)).in'.last.a1,.int .i64 (Vk (⟨Kn,Ko,KR,⟨⟨Ka,Kb,Kc,Kd⟩,Km⟩,⟨Kh,Ki,Kj,Kk⟩,⟨⟨Kf,s_w_c_l⟩,Kg,Ke⟩,⟨Kl,s_p_snaps⟩⟩:Side)).in'.last.a2,.int .i64 (Vk (⟨Kn,Ko,KR,⟨⟨Ka,Kb,Kc,Kd⟩,Km⟩,⟨Kh,Ki,Kj,Kk⟩,⟨⟨Kf,s_w_c_l⟩,Kg,Ke⟩,⟨Kl,s_p_snaps⟩⟩:Side)).in'.last.a3,.int .i64 (Vk (⟨Kn,Ko,KR,⟨⟨Ka,Kb,Kc,Kd⟩,Km⟩,⟨Kh,Ki,Kj,Kk⟩,⟨⟨Kf,s_w_c_l⟩,Kg,Ke⟩,⟨Kl,s_p_snaps⟩⟩:Side)).in'.max,.int .i64 (Vk (⟨Kn,Ko,KR,⟨⟨Ka,Kb,Kc,Kd⟩,Km⟩,⟨Kh,Ki,Kj,Kk⟩,⟨⟨Kf,s_w_c_l⟩,Kg,Ke⟩,⟨Kl,s_p_snaps⟩⟩:Side)).errs.a0,.int .i64 (Vk (⟨Kn,Ko,KR,⟨⟨Ka,Kb,Kc,Kd⟩,Km⟩,⟨Kh,Ki,Kj,Kk⟩,⟨⟨Kf,s_w_c_l⟩,Kg,Ke⟩,⟨Kl,s_p_snaps⟩⟩:Side)).errs.a1,.int .i64 (Vk (⟨Kn,Ko,KR,⟨⟨Ka,Kb,Kc,Kd⟩,Km⟩,⟨Kh,Ki,Kj,Kk⟩,⟨⟨Kf,s_w_c_l⟩,Kg,Ke⟩,⟨Kl,s_p_snaps⟩⟩:Side)).errs.a2,.int .i64 (Vk (⟨Kn,Ko,KR,⟨⟨Ka,Kb,Kc,Kd⟩,Km⟩,⟨Kh,Ki,Kj,Kk⟩,⟨⟨Kf,s_w_c_l⟩,Kg,Ke⟩,⟨Kl,s_p_snaps⟩⟩:Side)).errs.a3,.int .i64 (Vk (⟨Kn,Ko,KR,⟨⟨Ka,Kb,Kc,Kd⟩,Km⟩,⟨Kh,Ki,Kj,Kk⟩,⟨⟨Kf,s_w_c_l⟩,Kg,Ke⟩,⟨Kl,s_p_snaps⟩⟩:Side)).w.c.cap,.slice false (Ja (Vk (⟨Kn,Ko,KR,⟨⟨Ka,Kb,Kc,Kd⟩,Km⟩,⟨Kh,Ki,Kj,Kk⟩,⟨⟨Kf,s_w_c_l⟩,Kg,Ke⟩,⟨Kl,s_p_snaps⟩⟩:Side)).w.c.l),.bool (Vk (⟨Kn,Ko,KR,⟨⟨Ka,Kb,Kc,Kd⟩,Km⟩,⟨Kh,Ki,Kj,Kk⟩,⟨⟨Kf,s_w_c_l⟩,Kg,Ke⟩,⟨Kl,s_p_snaps⟩⟩:Side)).w.ready,.slice false (Ja (Vk (⟨Kn,Ko,KR,⟨⟨Ka,Kb,Kc,Kd⟩,Km⟩,⟨Kh,Ki,Kj,Kk⟩,⟨⟨Kf,s_w_c_l⟩,Kg,Ke⟩,⟨Kl,s_p_snaps⟩⟩:Side)).w.shown),.int .i64 (Vk (⟨Kn,Ko,KR,⟨⟨Ka,Kb,Kc,Kd⟩,Km⟩,⟨Kh,Ki,Kj,Kk⟩,⟨⟨Kf,s_w_c_l⟩,Kg,Ke⟩,⟨Kl,s_p_snaps⟩⟩:Side)).p.next',.slice false (Ja (Vk (⟨Kn,Ko,KR,⟨⟨Ka,Kb,Kc,Kd⟩,Km⟩,⟨Kh,Ki,Kj,Kk⟩,⟨⟨Kf,s_w_c_l⟩,Kg,Ke⟩,⟨Kl,s_p_snaps⟩⟩:Side)).p.snaps)],.int .i64 (Vs (Jr (⟨Kn,Ko,KR,⟨⟨Ka,Kb,Kc,Kd⟩,Km⟩,⟨Kh,Ki,Kj,Kk⟩,⟨⟨Kf,s_w_c_l⟩,Kg,Ke⟩,⟨Kl,s_p_snaps⟩⟩:Side)).p).2.1,.int .i64 (Vs (Jr (⟨Kn,Ko,KR,⟨⟨Ka,Kb,Kc,Kd⟩,Km⟩,⟨Kh,Ki,Kj,Kk⟩,⟨⟨Kf,s_w_c_l⟩,Kg,Ke⟩,⟨Kl,s_p_snaps⟩⟩:Side)).p).2.2])):=by
 have w1:=YN Kn Ko KR Ka Kb Kc Kd Km Kh Ki Kj Kk Kf s_w_c_l Kg Ke Kl s_p_snaps h
 have hz:=JeS h
 unfold Vk
 clear h
 generalize Jr (⟨Kn,Ko,KR,⟨⟨Ka,Kb,Kc,Kd⟩,Km⟩,⟨Kh,Ki,Kj,Kk⟩,⟨⟨Kf,s_w_c_l⟩,Kg,Ke⟩,⟨Kl,s_p_snaps⟩⟩:Side)=b at *
 have w2:=Jps b.p.next' b.p.snaps hz.p.n
 clear hz
 have e:(⟨b.p.next',b.p.snaps⟩:Pins)=b.p:=rfl
 rw[e] at w2
 clear e
 generalize Vs b.p=q at *
 refine Jl Tryz.call81 Tryz.func81 rfl Tryz.ntmps81 Tryz.results81 fun ts hn h0=>?_
 (repeat' (first
 | (with_reducible first|refine callX.by (w1) ?_|refine callX.by (w2) ?_|assumption|(refine Qw hK _ ?_;clear hK K)|refine Qw ‹_› _ ?_|refine Qx ‹_› ?_|refine Qi fun K hK=>?_|refine Qj T fun K hK=>?_|refine Ql fun A B hA hB=>?_|refine Qn ?_|refine Qr ?_)
 |(with_reducible first|apply Qy|apply Qz|apply QA)<;>intro hb<;>try simp only[nr] at hb
 |simp only[go_sem,↓reduceIte,Qa,Qh,Qb,Qc,Qd,Qe,Qf,Qg,reduceCtorEq, *,-w1,-w2]
 |intro(bn:Bool) hbn))
 all_goals trace_state
theorem JqE(Kn Ko:Int)(KR:Bool)(Ka Kb:Int)(Kc Kd:Int)(Km Kh:Int)(Ki Kj:Int)(Kk Kf:Int)(s_w_c_l:List Res)(Kg:Bool)(Ke:List Res)(Kl:Int)(s_p_snaps:List Snap)(h:SzS (⟨Kn,Ko,KR,⟨⟨Ka,Kb,Kc,Kd⟩,Km⟩,⟨Kh,Ki,Kj,Kk⟩,⟨⟨Kf,s_w_c_l⟩,Kg,Ke⟩,⟨Kl,s_p_snaps⟩⟩:Side)):CallR Tryz.prog 21 [.agg [.int .i64 Kn,.int .i64 Ko,.bool KR,.int .i64 Ka,.int .i64 Kb,.int .i64 Kc,.int .i64 Kd,.int .i64 Km,.int .i64 Kh,.int .i64 Ki,.int .i64 Kj,.int .i64 Kk,.int .i64 Kf,.slice false (Ja s_w_c_l),.bool Kg,.slice false (Ja Ke),.int .i64 Kl,.slice false (Ja s_p_snaps)]] (.val (.tup [.slice false (Ja (JI (Jr (⟨Kn,Ko,KR,⟨⟨Ka,Kb,Kc,Kd⟩,Km⟩,⟨Kh,Ki,Kj,Kk⟩,⟨⟨Kf,s_w_c_l⟩,Kg,Ke⟩,⟨Kl,s_p_snaps⟩⟩:Side)).p).2.1),.bool (JI (Jr (⟨Kn,Ko,KR,⟨⟨Ka,Kb,Kc,Kd⟩,Km⟩,⟨Kh,Ki,Kj,Kk⟩,⟨⟨Kf,s_w_c_l⟩,Kg,Ke⟩,⟨Kl,s_p_snaps⟩⟩:Side)).p).2.2])):=by
 have w1:=YN Kn Ko KR Ka Kb Kc Kd Km Kh Ki Kj Kk Kf s_w_c_l Kg Ke Kl s_p_snaps h
 have hz:=JeS h
 clear h
 generalize Jr (⟨Kn,Ko,KR,⟨⟨Ka,Kb,Kc,Kd⟩,Km⟩,⟨Kh,Ki,Kj,Kk⟩,⟨⟨Kf,s_w_c_l⟩,Kg,Ke⟩,⟨Kl,s_p_snaps⟩⟩:Side)=b at *
 have w2:=JhJ b.p.next' b.p.snaps hz.p.n
 clear hz
 have e:(⟨b.p.next',b.p.snaps⟩:Pins)=b.p:=rfl
 rw[e] at w2
 clear e
 generalize JI b.p=q at *
 refine Jl Tryz.call21 Tryz.func21 rfl Tryz.ntmps21 Tryz.results21 fun ts hn h0=>?_
 (repeat' (first
 | (with_reducible first|refine callX.by (w1) ?_|refine callX.by (w2) ?_|assumption|(refine Qw hK _ ?_;clear hK K)|refine Qw ‹_› _ ?_|refine Qx ‹_› ?_|refine Qi fun K hK=>?_|refine Qj T fun K hK=>?_|refine Ql fun A B hA hB=>?_|refine Qn ?_|refine Qr ?_)
 |(with_reducible first|apply Qy|apply Qz|apply QA)<;>intro hb<;>try simp only[nr] at hb
 |simp only[go_sem,↓reduceIte,Qa,Qh,Qb,Qc,Qd,Qe,Qf,Qg,reduceCtorEq, *,-w1,-w2]
 |intro(bn:Bool) hbn))
 all_goals trace_state
end Go.Proofs.YthjalhfmpffbjaaGreatDoor.Lg
