/- Parts of the proof, one behind the other. -/
import Derived.Test.YthjalhfmpffbjaaGreatDoorG21
set_option linter.unusedVariables false
set_option linter.unusedSimpArgs false
set_option maxRecDepth 100000
set_option maxHeartbeats 64000000
namespace Go.Proofs.YthjalhfmpffbjaaGreatDoor.Lg
open Go
open Tryz
open Nat renaming reduceEqDiff → Qa, reduceLT → Qb, reduceLeDiff → Qc, reduceAdd → Qd, reduceMul → Qe, reduceSub → Qf, reduceBEq → Qg
open String renaming reduceEq → Qh
open SpecC renaming seqW → Qi, regW → Qj, drawW → Qk, condW → Ql, skip → Qn, ret → Qr
open NxK renaming out → Qw
open Nx renaming out → Qx
open condK renaming split → Qy
open gK renaming split_t → Qz, split_f → QA
theorem Jps(p:Pins):(JV p).length≤(JZ (Jq p).snaps).length:=by
 unfold JV V8
 have h1:=JiM (JM (JZ (Jq p).snaps))
 have h2:=JaB (JZ (Jq p).snaps)
 rw[List.length_append,List.length_take]
 omega
structure SzP(p:Pins):Prop where
 n:Jc p.snaps.length
 s:∀x∈p.snaps,Yp x
 t:Jc (JZ p.snaps).length
theorem JeC(p:Pins):Jq p=p∨Jq p=⟨0,[]⟩:=by
 unfold Jq;split
 ·exact .inl rfl
 ·exact .inr rfl
theorem SzP.nil:SzP ⟨0,[]⟩:=⟨by simp[Jc],by simp,by simp[Jc,JZ]⟩
theorem SzP.sane{p:Pins}(h:SzP p):SzP (Jq p):=by
 rcases JeC p with e|e<;>rw[e]
 ·exact h
 ·exact SzP.nil
theorem SzP.held{p:Pins}(h:SzP p):Jc (JV p).length∧∀k∈JV p,JaX k:=by
 have h1:=h.sane
 refine⟨?_,fun k hk0=>?_⟩
 ·have:=Jps p
  have h2:=h1.t
  unfold Jc at h2 ⊢;omega
 ·have h2:=((Jew p).2 k).1 hk0
  obtain⟨x,hx,hm⟩:=List.mem_flatMap.1 h2
  obtain⟨r,hr,rfl⟩:=List.mem_map.1 hm
  exact((h1.s x hx).2 r hr).1
def Jf(limit most:Int):Side:=⟨0,0,false,⟨z4,J9 most⟩,z4,⟨⟨VT limit,[]⟩,false,[]⟩,⟨0,[]⟩⟩
theorem Jf5(a b:Int):CallR prog 30 [.int .i64 a,.int .i64 b] (.val (.agg [.int .i64 (Jf a b).epoch,.int .i64 (Jf a b).turn,.bool (Jf a b).up,.int .i64 (Jf a b).in'.last.a0,.int .i64 (Jf a b).in'.last.a1,.int .i64 (Jf a b).in'.last.a2,.int .i64 (Jf a b).in'.last.a3,.int .i64 (Jf a b).in'.max,.int .i64 (Jf a b).errs.a0,.int .i64 (Jf a b).errs.a1,.int .i64 (Jf a b).errs.a2,.int .i64 (Jf a b).errs.a3,.int .i64 (Jf a b).w.c.cap,.slice false (Ja (Jf a b).w.c.l),.bool (Jf a b).w.ready,.slice false (Ja (Jf a b).w.shown),.int .i64 (Jf a b).p.next',.slice false (Ja (Jf a b).p.snaps)])):=by
 have w1:=Jn0 b
 have w2:=Jf6 a
 refine Jn call30 func30 rfl ntmps30 results30 fun ts hn h0 h1=>?_
 (repeat' (first
 | (with_reducible first|refine callX.by (w1) ?_|refine callX.by (w2) ?_|assumption|(refine Qw hK _ ?_;clear hK K)|refine Qw ‹_› _ ?_|refine Qx ‹_› ?_|refine Qi fun K hK=>?_|refine Qj T fun K hK=>?_|refine Ql fun A B hA hB=>?_|refine Qn ?_|refine Qr ?_)
 |(with_reducible first|apply Qy|apply Qz|apply QA)<;>intro hb<;>try simp only[nr] at hb
 |simp only[go_sem,↓reduceIte,Qa,Qh,Qb,Qc,Qd,Qe,Qf,Qg,reduceCtorEq, *,-w1,-w2]
 |intro(bn:Bool) hbn))
 all_goals exact⟨rfl,rfl,rfl,rfl,rfl,rfl,rfl,rfl,rfl,rfl,rfl,rfl,rfl,rfl,rfl,rfl,rfl,rfl⟩
theorem JqX(n:Int):CallR prog 32 [.int .i64 n] (.val (.bool (fin n 2147483647))):=by
 refine Jl call32 func32 rfl ntmps32 results32 fun ts hn h0=>?_
 (repeat' (first
 | (with_reducible first|assumption|(refine Qw hK _ ?_;clear hK K)|refine Qw ‹_› _ ?_|refine Qx ‹_› ?_|refine Qi fun K hK=>?_|refine Qj T fun K hK=>?_|refine Ql fun A B hA hB=>?_|refine Qn ?_|refine Qr ?_)
 |(with_reducible first|apply Qy|apply Qz|apply QA)<;>intro hb<;>try simp only[nr] at hb
 |simp only[go_sem,↓reduceIte,Qa,Qh,Qb,Qc,Qd,Qe,Qf,Qg,reduceCtorEq, *]
 |intro(bn:Bool) hbn))
 all_goals (rw[Bool.eq_iff_iff];simp_all[fin])
 all_goals omega
theorem Jkv(n:Int):CallR prog 34 [.int .i64 n] (.val (.bool (!fin n 15))):=by
 refine Jl call34 func34 rfl ntmps34 results34 fun ts hn h0=>?_
 (repeat' (first
 | (with_reducible first|assumption|(refine Qw hK _ ?_;clear hK K)|refine Qw ‹_› _ ?_|refine Qx ‹_› ?_|refine Qi fun K hK=>?_|refine Qj T fun K hK=>?_|refine Ql fun A B hA hB=>?_|refine Qn ?_|refine Qr ?_)
 |(with_reducible first|apply Qy|apply Qz|apply QA)<;>intro hb<;>try simp only[nr] at hb
 |simp only[go_sem,↓reduceIte,Qa,Qh,Qb,Qc,Qd,Qe,Qf,Qg,reduceCtorEq, *]
 |intro(bn:Bool) hbn))
 all_goals (rw[Bool.eq_iff_iff];simp_all[fin])
 all_goals omega
theorem Zc(Kn Ko:Int)(KR:Bool)(Ka Kb:Int)(Kc Kd:Int)(Km Kh:Int)(Ki Kj:Int)(Kk Kf:Int)(s_w_c_l:List Res)(Kg:Bool)(Ke:List Res)(Kl:Int)(s_p_snaps:List Snap):CallR prog 66 [.agg [.int .i64 Kn,.int .i64 Ko,.bool KR,.int .i64 Ka,.int .i64 Kb,.int .i64 Kc,.int .i64 Kd,.int .i64 Km,.int .i64 Kh,.int .i64 Ki,.int .i64 Kj,.int .i64 Kk,.int .i64 Kf,.slice false (Ja s_w_c_l),.bool Kg,.slice false (Ja Ke),.int .i64 Kl,.slice false (Ja s_p_snaps)]] (.val (.bool (decide (Ko=2147483647)))):=by
 refine Jl call66 func66 rfl ntmps66 results66 fun ts hn h0=>?_
 (repeat' (first
 | (with_reducible first|assumption|(refine Qw hK _ ?_;clear hK K)|refine Qw ‹_› _ ?_|refine Qx ‹_› ?_|refine Qi fun K hK=>?_|refine Qj T fun K hK=>?_|refine Ql fun A B hA hB=>?_|refine Qn ?_|refine Qr ?_)
 |(with_reducible first|apply Qy|apply Qz|apply QA)<;>intro hb<;>try simp only[nr] at hb
 |simp only[go_sem,↓reduceIte,Qa,Qh,Qb,Qc,Qd,Qe,Qf,Qg,reduceCtorEq, *]
 |intro(bn:Bool) hbn))
def YW(p:Pins):Bool:=decide (YQ ⟨3,0,0,0,0,[],[],0,[],JV p⟩=0)
theorem JeO(next:Int)(xs:List Snap)(h:SzP ⟨next,xs⟩):CallR prog 38 [.agg [.int .i64 next,.slice false (Ja xs)]] (.val (.bool (YW ⟨next,xs⟩))):=by
 have w1:=(JaI next xs h.n h.s h.t).frz
 have w2:=Jip 3 0 0 0 0 [] [] 0 [] (JV ⟨next,xs⟩) ⟨by simp[Jc],by simp,by simp[Jc],by simp,by simp[Jc],by simp,h.held⟩
 have w2:CallR prog 79 [.agg [.int .i64 3,.int .i64 0,.int .i64 0,.int .i64 0,.int .i64 0,.slice false [],.slice false [],.int .i64 0,.slice false [],.slice false (Ja (JV ⟨next,xs⟩))]] (.val (.int .i64 (YQ ⟨3,0,0,0,0,[],[],0,[],JV ⟨next,xs⟩⟩))):=w2
 clear h
 refine Jl call38 func38 rfl ntmps38 results38 fun ts hn h0=>?_
 (repeat' (first
 | (with_reducible first|refine callX.by (w1) ?_|refine callX.by (w2) ?_|assumption|(refine Qw hK _ ?_;clear hK K)|refine Qw ‹_› _ ?_|refine Qx ‹_› ?_|refine Qi fun K hK=>?_|refine Qj T fun K hK=>?_|refine Ql fun A B hA hB=>?_|refine Qn ?_|refine Qr ?_)
 |(with_reducible first|apply Qy|apply Qz|apply QA)<;>intro hb<;>try simp only[nr] at hb
 |simp only[go_sem,↓reduceIte,Qa,Qh,Qb,Qc,Qd,Qe,Qf,Qg,reduceCtorEq, *,-w1,-w2]
 |intro(bn:Bool) hbn))
 all_goals rfl
def Z0(s:Side):Bool:=decide ((JJ s.p).2.2=s.w.ready) && (!(JJ s.p).2.2 || decide ((JJ s.p).2.1=s.w.shown))
theorem Jpr{p:Pins}(h:SzP p):Jc (JJ p).2.1.length∧∀r∈(JJ p).2.1,Jy r:=by
 unfold JJ
 cases e:(Jq p).snaps.getLast? with
 |none=>simp[Jc]
 |some x=>exact h.sane.s x (List.mem_of_getLast? e)
theorem Jhj(Kn Ko:Int)(KR:Bool)(Ka Kb:Int)(Kc Kd:Int)(Km Kh:Int)(Ki Kj:Int)(Kk Kf:Int)(s_w_c_l:List Res)(Kg:Bool)(Ke:List Res)(Kl:Int)(s_p_snaps:List Snap)(h:SzP ⟨Kl,s_p_snaps⟩):CallR prog 39 [.agg [.int .i64 Kn,.int .i64 Ko,.bool KR,.int .i64 Ka,.int .i64 Kb,.int .i64 Kc,.int .i64 Kd,.int .i64 Km,.int .i64 Kh,.int .i64 Ki,.int .i64 Kj,.int .i64 Kk,.int .i64 Kf,.slice false (Ja s_w_c_l),.bool Kg,.slice false (Ja Ke),.int .i64 Kl,.slice false (Ja s_p_snaps)]] (.val (.bool (Z0 (⟨Kn,Ko,KR,⟨⟨Ka,Kb,Kc,Kd⟩,Km⟩,⟨Kh,Ki,Kj,Kk⟩,⟨⟨Kf,s_w_c_l⟩,Kg,Ke⟩,⟨Kl,s_p_snaps⟩⟩:Side)))):=by
 have w1:=JfE Kl s_p_snaps h.n
 obtain⟨g1,g2⟩:=Jpr h
 have e:Z0 (⟨Kn,Ko,KR,⟨⟨Ka,Kb,Kc,Kd⟩,Km⟩,⟨Kh,Ki,Kj,Kk⟩,⟨⟨Kf,s_w_c_l⟩,Kg,Ke⟩,⟨Kl,s_p_snaps⟩⟩:Side)=(decide ((JJ ⟨Kl,s_p_snaps⟩).2.2=Kg) && (!(JJ ⟨Kl,s_p_snaps⟩).2.2 || decide ((JJ ⟨Kl,s_p_snaps⟩).2.1=Ke))):=rfl
 rw[e]
 clear e
 generalize JJ ⟨Kl,s_p_snaps⟩=cu at *
 obtain⟨ci,cl,cb⟩:=cu
 simp only at w1 g1 g2 ⊢
 have w2:=JgZ cl Ke g1 g2
 clear g1 g2 h
 refine Jl call39 func39 rfl ntmps39 results39 fun ts hn h0=>?_
 (repeat' (first
 | (with_reducible first|refine callX.by (w1) ?_|refine callX.by (w2) ?_|assumption|(refine Qw hK _ ?_;clear hK K)|refine Qw ‹_› _ ?_|refine Qx ‹_› ?_|refine Qi fun K hK=>?_|refine Qj T fun K hK=>?_|refine Ql fun A B hA hB=>?_|refine Qn ?_|refine Qr ?_)
 |(with_reducible first|apply Qy|apply Qz|apply QA)<;>intro hb<;>try simp only[nr] at hb
 |simp only[go_sem,↓reduceIte,Qa,Qh,Qb,Qc,Qd,Qe,Qf,Qg,reduceCtorEq, *,-w1,-w2]
 |intro(bn:Bool) hbn))
 all_goals (try simp_all)
structure SzS(s:Side):Prop where
 c:s.w.c.l.length≤65536
 w:JaY s.w
 p:SzP s.p
def Z4(e:Four):Bool:=fin e.a0 15 && fin e.a1 15 && fin e.a2 15 && fin e.a3 15
theorem JnI(a b c d:Int):([a,b,c,d].any fun e=>!fin e 15)=!Z4 ⟨a,b,c,d⟩:=by
 simp[Z4,List.any_cons,Bool.and_assoc]
def JK(s:Side):Bool:=fin s.epoch 2147483647 && fin s.turn 2147483647 && Z4 s.errs && YF s.in' && VF s.w && ZL s.p && YW s.p && Z0 s
theorem JhO(a b c d:Int):CallR prog 33 [.slice false [.int .i64 a,.int .i64 b,.int .i64 c,.int .i64 d],.clo (.func 34) [] []] (.val (.bool (!Z4 ⟨a,b,c,d⟩))):=by
 have:=JhP 34 [] Caps.nil (fun e=>!fin e 15) [a,b,c,d] (fun x _=>Jkv x) (by simp[Jc])
 rw[JnI] at this
 exact this
theorem Je1(Kn Ko:Int)(KR:Bool)(Ka Kb:Int)(Kc Kd:Int)(Km Kh:Int)(Ki Kj:Int)(Kk Kf:Int)(s_w_c_l:List Res)(Kg:Bool)(Ke:List Res)(Kl:Int)(s_p_snaps:List Snap)(h:SzS (⟨Kn,Ko,KR,⟨⟨Ka,Kb,Kc,Kd⟩,Km⟩,⟨Kh,Ki,Kj,Kk⟩,⟨⟨Kf,s_w_c_l⟩,Kg,Ke⟩,⟨Kl,s_p_snaps⟩⟩:Side)):CallR prog 12 [.agg [.int .i64 Kn,.int .i64 Ko,.bool KR,.int .i64 Ka,.int .i64 Kb,.int .i64 Kc,.int .i64 Kd,.int .i64 Km,.int .i64 Kh,.int .i64 Ki,.int .i64 Kj,.int .i64 Kk,.int .i64 Kf,.slice false (Ja s_w_c_l),.bool Kg,.slice false (Ja Ke),.int .i64 Kl,.slice false (Ja s_p_snaps)]] (.val (.bool (JK (⟨Kn,Ko,KR,⟨⟨Ka,Kb,Kc,Kd⟩,Km⟩,⟨Kh,Ki,Kj,Kk⟩,⟨⟨Kf,s_w_c_l⟩,Kg,Ke⟩,⟨Kl,s_p_snaps⟩⟩:Side)))):=by
 have w1:=JhO Kh Ki Kj Kk
 have w2:=Jga Ka Kb Kc Kd Km
 have w3:=Jdr Kf s_w_c_l Kg Ke h.c h.w.1.2 h.w.2.1 h.w.2.2
 have w4:=Jgl Kl s_p_snaps h.p.n
 have w5:=JeO Kl s_p_snaps h.p
 have w6:=Jhj Kn Ko KR Ka Kb Kc Kd Km Kh Ki Kj Kk Kf s_w_c_l Kg Ke Kl s_p_snaps h.p
 clear h
 refine Jl call12 func12 rfl ntmps12 results12 fun ts hn h0=>?_
 (repeat' (first
 | (with_reducible first|refine SpecC.ent (Ent.frzBox _ 1) (Qj T (id:=1) fun K hK=>?_)|refine callX.by (w1) ?_|refine callX.by (w2) ?_|refine callX.by (w3) ?_|refine callX.by (w4) ?_|refine callX.by (w5) ?_|refine callX.by (w6) ?_|refine callX.by (JqX _) ?_|refine callX.by (JhP _ _ ?_ _ _ ?_ ?_) ?_|refine callX.by (JhO _ _ _ _) ?_|refine callX.by (Jkv _) ?_|refine callX.by (Jga _ _ _ _ _) ?_|refine callX.by (Jdr _ _ _ _ ?_ ?_ ?_ ?_) ?_|refine callX.by (Jgl _ _ ?_) ?_|refine callX.by (JeO _ _ ?_) ?_|refine callX.by (Jhj _ _ _ _ _ _ _ _ _ _ _ _ _ _ _ _ _ _ ?_) ?_|assumption|(refine Qw hK _ ?_;clear hK K)|refine Qw ‹_› _ ?_|refine Qx ‹_› ?_|refine Qi fun K hK=>?_|refine Qj T fun K hK=>?_|refine Ql fun A B hA hB=>?_|refine Qn ?_|refine Qr ?_)
 |(with_reducible first|apply Qy|apply Qz|apply QA)<;>intro hb<;>try simp only[nr] at hb
 |simp only[go_sem,↓reduceIte,Qa,Qh,Qb,Qc,Qd,Qe,Qf,Qg,reduceCtorEq, *,-w1,-w2,-w3,-w4,-w5,-w6]
 |intro(bn:Bool) hbn))
 all_goals simp only[JK, *,Bool.and_true,Bool.true_and,Bool.false_and,Bool.and_false]
def Jr(s:Side):Side:=if JK s=true then s else Jf s.w.c.cap s.in'.max
theorem YJ(Kn Ko:Int)(KR:Bool)(Ka Kb:Int)(Kc Kd:Int)(Km Kh:Int)(Ki Kj:Int)(Kk Kf:Int)(s_w_c_l:List Res)(Kg:Bool)(Ke:List Res)(Kl:Int)(s_p_snaps:List Snap)(h:SzS (⟨Kn,Ko,KR,⟨⟨Ka,Kb,Kc,Kd⟩,Km⟩,⟨Kh,Ki,Kj,Kk⟩,⟨⟨Kf,s_w_c_l⟩,Kg,Ke⟩,⟨Kl,s_p_snaps⟩⟩:Side)):CallR prog 55 [.agg [.int .i64 Kn,.int .i64 Ko,.bool KR,.int .i64 Ka,.int .i64 Kb,.int .i64 Kc,.int .i64 Kd,.int .i64 Km,.int .i64 Kh,.int .i64 Ki,.int .i64 Kj,.int .i64 Kk,.int .i64 Kf,.slice false (Ja s_w_c_l),.bool Kg,.slice false (Ja Ke),.int .i64 Kl,.slice false (Ja s_p_snaps)]] (.val (.agg [.int .i64 (Jr (⟨Kn,Ko,KR,⟨⟨Ka,Kb,Kc,Kd⟩,Km⟩,⟨Kh,Ki,Kj,Kk⟩,⟨⟨Kf,s_w_c_l⟩,Kg,Ke⟩,⟨Kl,s_p_snaps⟩⟩:Side)).epoch,.int .i64 (Jr (⟨Kn,Ko,KR,⟨⟨Ka,Kb,Kc,Kd⟩,Km⟩,⟨Kh,Ki,Kj,Kk⟩,⟨⟨Kf,s_w_c_l⟩,Kg,Ke⟩,⟨Kl,s_p_snaps⟩⟩:Side)).turn,.bool (Jr (⟨Kn,Ko,KR,⟨⟨Ka,Kb,Kc,Kd⟩,Km⟩,⟨Kh,Ki,Kj,Kk⟩,⟨⟨Kf,s_w_c_l⟩,Kg,Ke⟩,⟨Kl,s_p_snaps⟩⟩:Side)).up,.int .i64 (Jr (⟨Kn,Ko,KR,⟨⟨Ka,Kb,Kc,Kd⟩,Km⟩,⟨Kh,Ki,Kj,Kk⟩,⟨⟨Kf,s_w_c_l⟩,Kg,Ke⟩,⟨Kl,s_p_snaps⟩⟩:Side)).in'.last.a0,.int .i64 (Jr (⟨Kn,Ko,KR,⟨⟨Ka,Kb,Kc,Kd⟩,Km⟩,⟨Kh,Ki,Kj,Kk⟩,⟨⟨Kf,s_w_c_l⟩,Kg,Ke⟩,⟨Kl,s_p_snaps⟩⟩:Side)).in'.last.a1,.int .i64 (Jr (⟨Kn,Ko,KR,⟨⟨Ka,Kb,Kc,Kd⟩,Km⟩,⟨Kh,Ki,Kj,Kk⟩,⟨⟨Kf,s_w_c_l⟩,Kg,Ke⟩,⟨Kl,s_p_snaps⟩⟩:Side)).in'.last.a2,.int .i64 (Jr (⟨Kn,Ko,KR,⟨⟨Ka,Kb,Kc,Kd⟩,Km⟩,⟨Kh,Ki,Kj,Kk⟩,⟨⟨Kf,s_w_c_l⟩,Kg,Ke⟩,⟨Kl,s_p_snaps⟩⟩:Side)).in'.last.a3,.int .i64 (Jr (⟨Kn,Ko,KR,⟨⟨Ka,Kb,Kc,Kd⟩,Km⟩,⟨Kh,Ki,Kj,Kk⟩,⟨⟨Kf,s_w_c_l⟩,Kg,Ke⟩,⟨Kl,s_p_snaps⟩⟩:Side)).in'.max,.int .i64 (Jr (⟨Kn,Ko,KR,⟨⟨Ka,Kb,Kc,Kd⟩,Km⟩,⟨Kh,Ki,Kj,Kk⟩,⟨⟨Kf,s_w_c_l⟩,Kg,Ke⟩,⟨Kl,s_p_snaps⟩⟩:Side)).errs.a0,.int .i64 (Jr (⟨Kn,Ko,KR,⟨⟨Ka,Kb,Kc,Kd⟩,Km⟩,⟨Kh,Ki,Kj,Kk⟩,⟨⟨Kf,s_w_c_l⟩,Kg,Ke⟩,⟨Kl,s_p_snaps⟩⟩:Side)).errs.a1,.int .i64 (Jr (⟨Kn,Ko,KR,⟨⟨Ka,Kb,Kc,Kd⟩,Km⟩,⟨Kh,Ki,Kj,Kk⟩,⟨⟨Kf,s_w_c_l⟩,Kg,Ke⟩,⟨Kl,s_p_snaps⟩⟩:Side)).errs.a2,.int .i64 (Jr (⟨Kn,Ko,KR,⟨⟨Ka,Kb,Kc,Kd⟩,Km⟩,⟨Kh,Ki,Kj,Kk⟩,⟨⟨Kf,s_w_c_l⟩,Kg,Ke⟩,⟨Kl,s_p_snaps⟩⟩:Side)).errs.a3,.int .i64 (Jr (⟨Kn,Ko,KR,⟨⟨Ka,Kb,Kc,Kd⟩,Km⟩,⟨Kh,Ki,Kj,Kk⟩,⟨⟨Kf,s_w_c_l⟩,Kg,Ke⟩,⟨Kl,s_p_snaps⟩⟩:Side)).w.c.cap,.slice false (Ja (Jr (⟨Kn,Ko,KR,⟨⟨Ka,Kb,Kc,Kd⟩,Km⟩,⟨Kh,Ki,Kj,Kk⟩,⟨⟨Kf,s_w_c_l⟩,Kg,Ke⟩,⟨Kl,s_p_snaps⟩⟩:Side)).w.c.l),.bool (Jr (⟨Kn,Ko,KR,⟨⟨Ka,Kb,Kc,Kd⟩,Km⟩,⟨Kh,Ki,Kj,Kk⟩,⟨⟨Kf,s_w_c_l⟩,Kg,Ke⟩,⟨Kl,s_p_snaps⟩⟩:Side)).w.ready,.slice false (Ja (Jr (⟨Kn,Ko,KR,⟨⟨Ka,Kb,Kc,Kd⟩,Km⟩,⟨Kh,Ki,Kj,Kk⟩,⟨⟨Kf,s_w_c_l⟩,Kg,Ke⟩,⟨Kl,s_p_snaps⟩⟩:Side)).w.shown),.int .i64 (Jr (⟨Kn,Ko,KR,⟨⟨Ka,Kb,Kc,Kd⟩,Km⟩,⟨Kh,Ki,Kj,Kk⟩,⟨⟨Kf,s_w_c_l⟩,Kg,Ke⟩,⟨Kl,s_p_snaps⟩⟩:Side)).p.next',.slice false (Ja (Jr (⟨Kn,Ko,KR,⟨⟨Ka,Kb,Kc,Kd⟩,Km⟩,⟨Kh,Ki,Kj,Kk⟩,⟨⟨Kf,s_w_c_l⟩,Kg,Ke⟩,⟨Kl,s_p_snaps⟩⟩:Side)).p.snaps)])):=by
 have w1:=Je1 Kn Ko KR Ka Kb Kc Kd Km Kh Ki Kj Kk Kf s_w_c_l Kg Ke Kl s_p_snaps h
 have w2:=Jf5 Kf Km
 unfold Jr
 cases hb0:JK (⟨Kn,Ko,KR,⟨⟨Ka,Kb,Kc,Kd⟩,Km⟩,⟨Kh,Ki,Kj,Kk⟩,⟨⟨Kf,s_w_c_l⟩,Kg,Ke⟩,⟨Kl,s_p_snaps⟩⟩:Side)
 ·rw[hb0] at w1
  refine Jl call55 func55 rfl ntmps55 results55 fun ts hn h0=>?_
  (repeat' (first
 | (with_reducible first|refine callX.by (w1) ?_|refine callX.by (w2) ?_|assumption|(refine Qw hK _ ?_;clear hK K)|refine Qw ‹_› _ ?_|refine Qx ‹_› ?_|refine Qi fun K hK=>?_|refine Qj T fun K hK=>?_|refine Ql fun A B hA hB=>?_|refine Qn ?_|refine Qr ?_)
 |(with_reducible first|apply Qy|apply Qz|apply QA)<;>intro hb<;>try simp only[nr] at hb
 |simp only[go_sem,↓reduceIte,Qa,Qh,Qb,Qc,Qd,Qe,Qf,Qg,reduceCtorEq, *,-w1,-w2]
 |intro(bn:Bool) hbn))
  all_goals (try rfl)
 ·rw[hb0] at w1
  refine Jl call55 func55 rfl ntmps55 results55 fun ts hn h0=>?_
  (repeat' (first
 | (with_reducible first|refine callX.by (w1) ?_|refine callX.by (w2) ?_|assumption|(refine Qw hK _ ?_;clear hK K)|refine Qw ‹_› _ ?_|refine Qx ‹_› ?_|refine Qi fun K hK=>?_|refine Qj T fun K hK=>?_|refine Ql fun A B hA hB=>?_|refine Qn ?_|refine Qr ?_)
 |(with_reducible first|apply Qy|apply Qz|apply QA)<;>intro hb<;>try simp only[nr] at hb
 |simp only[go_sem,↓reduceIte,Qa,Qh,Qb,Qc,Qd,Qe,Qf,Qg,reduceCtorEq, *,-w1,-w2]
 |intro(bn:Bool) hbn))
  all_goals (try rfl)
theorem Jrv{n:Int}(h:0≤n∧n≤2147483647):IntKind.i64.wrap (n+1)=n+1:=IntWalk.i64_in _ (by omega)
theorem Jko(l:List Mark)(k:Int)(n:List UInt8)(v:Int):Ja l++[.agg [.int .i64 k,.str n,.int .i64 v]]=Ja (l++[⟨⟨k,n⟩,v⟩]):=by rw[YM];rfl
theorem JbD(Kn Ko:Int)(KR:Bool)(Ka Kb:Int)(Kc Kd:Int)(Km Kh:Int)(Ki Kj:Int)(Kk Kf:Int)(s_w_c_l:List Res)(Kg:Bool)(Ke:List Res)(Kl:Int)(s_p_snaps:List Snap)(KH Kv:Int)(Kw Ku KJ:Int)(f_adds:List Res)(f_gone:List Key)(K4:Int)(f_have:List Mark)(f_held:List Key)(h:SzP ⟨Kl,s_p_snaps⟩)(ht:0≤Ko∧Ko≤2147483647):CallR prog 99 [.agg [.int .i64 Kn,.int .i64 Ko,.bool KR,.int .i64 Ka,.int .i64 Kb,.int .i64 Kc,.int .i64 Kd,.int .i64 Km,.int .i64 Kh,.int .i64 Ki,.int .i64 Kj,.int .i64 Kk,.int .i64 Kf,.slice false (Ja s_w_c_l),.bool Kg,.slice false (Ja Ke),.int .i64 Kl,.slice false (Ja s_p_snaps)],.agg [.int .i64 KH,.int .i64 Kv,.int .i64 Kw,.int .i64 Ku,.int .i64 KJ,.slice false (Ja f_adds),.slice false (Ja f_gone),.int .i64 K4,.slice false (Ja f_have),.slice false (Ja f_held)]] (.val (.tup [.agg [.int .i64 Kn,.int .i64 (Ko+1),.bool KR,.int .i64 Ka,.int .i64 Kb,.int .i64 Kc,.int .i64 Kd,.int .i64 Km,.int .i64 Kh,.int .i64 Ki,.int .i64 Kj,.int .i64 Kk,.int .i64 Kf,.slice false (Ja s_w_c_l),.bool Kg,.slice false (Ja Ke),.int .i64 Kl,.slice false (Ja s_p_snaps)],.agg [.int .i64 KH,.int .i64 Kv,.int .i64 Kw,.int .i64 Ku,.int .i64 (Ko+1),.slice false (Ja f_adds),.slice false (Ja f_gone),.int .i64 K4,.slice false (Ja f_have),.slice false (Ja (JV ⟨Kl,s_p_snaps⟩))]])):=by
 have w1:=(JaI Kl s_p_snaps h.n h.s h.t).frz
 have w2:=Jrv ht
 clear h ht
 refine Jn call99 func99 rfl ntmps99 results99 fun ts hn h0 h1=>?_
 (repeat' (first
 | (with_reducible first|refine callX.by (w1) ?_|assumption|(refine Qw hK _ ?_;clear hK K)|refine Qw ‹_› _ ?_|refine Qx ‹_› ?_|refine Qi fun K hK=>?_|refine Qj T fun K hK=>?_|refine Qk (id:=2) T mixed [([10],[12,13,14]),([11],[12,13,14]),([12],[10,11,15]),([13],[10,11,15]),([14],[10,11,15]),([15],[12,13,14])] (by kernel_rfl) fun K hK=>?_|refine Qk (id:=3) T mixed [([17],[18]),([18],[17,4]),([4],[18])] (by kernel_rfl) fun K hK=>?_|refine Ql fun A B hA hB=>?_|refine Qn ?_|refine Qr ?_)
 |(with_reducible first|apply Qy|apply Qz|apply QA)<;>intro hb<;>try simp only[nr] at hb
 |simp only[go_sem,↓reduceIte,Qa,Qh,Qb,Qc,Qd,Qe,Qf,Qg,reduceCtorEq, *,-w1]
 |intro(bn:Bool) hbn))
 all_goals trace_state
theorem JaR(Kn Ko:Int)(KR:Bool)(Ka Kb:Int)(Kc Kd:Int)(Km Kh:Int)(Ki Kj:Int)(Kk Kf:Int)(s_w_c_l:List Res)(Kg:Bool)(Ke:List Res)(Kl:Int)(s_p_snaps:List Snap)(KH Kv:Int)(Kw Ku KJ:Int)(f_adds:List Res)(f_gone:List Key)(K4:Int)(f_have:List Mark)(f_held:List Key)(h:SzP ⟨Kl,s_p_snaps⟩)(ht:0≤Ko∧Ko≤2147483647)(e:Int)(he:Z6 ⟨Kh,Ki,Kj,Kk⟩ Kw=e)(hk4:0≤Kw∧Kw<4):CallR prog 68 [.agg [.int .i64 Kn,.int .i64 Ko,.bool KR,.int .i64 Ka,.int .i64 Kb,.int .i64 Kc,.int .i64 Kd,.int .i64 Km,.int .i64 Kh,.int .i64 Ki,.int .i64 Kj,.int .i64 Kk,.int .i64 Kf,.slice false (Ja s_w_c_l),.bool Kg,.slice false (Ja Ke),.int .i64 Kl,.slice false (Ja s_p_snaps)],.agg [.int .i64 KH,.int .i64 Kv,.int .i64 Kw,.int .i64 Ku,.int .i64 KJ,.slice false (Ja f_adds),.slice false (Ja f_gone),.int .i64 K4,.slice false (Ja f_have),.slice false (Ja f_held)]] (.val (.tup [.agg [.int .i64 Kn,.int .i64 (Ko+1),.bool KR,.int .i64 Ka,.int .i64 Kb,.int .i64 Kc,.int .i64 Kd,.int .i64 Km,.int .i64 Kh,.int .i64 Ki,.int .i64 Kj,.int .i64 Kk,.int .i64 Kf,.slice false (Ja s_w_c_l),.bool Kg,.slice false (Ja Ke),.int .i64 Kl,.slice false (Ja s_p_snaps)],.slice false [.agg [.int .i64 2,.int .i64 Kv,.int .i64 Kw,.int .i64 Ku,.int .i64 (Ko+1),.slice false [],.slice false [],.int .i64 e,.slice false [],.slice false (Ja (JV ⟨Kl,s_p_snaps⟩))]]])):=by
 subst he
 have w1:∀e,CallR prog 99 [.agg [.int .i64 Kn,.int .i64 Ko,.bool KR,.int .i64 Ka,.int .i64 Kb,.int .i64 Kc,.int .i64 Kd,.int .i64 Km,.int .i64 Kh,.int .i64 Ki,.int .i64 Kj,.int .i64 Kk,.int .i64 Kf,.slice false (Ja s_w_c_l),.bool Kg,.slice false (Ja Ke),.int .i64 Kl,.slice false (Ja s_p_snaps)],.agg [.int .i64 2,.int .i64 Kv,.int .i64 Kw,.int .i64 Ku,.int .i64 0,.slice false [],.slice false [],.int .i64 e,.slice false [],.slice false []]] (.val (.tup [.agg [.int .i64 Kn,.int .i64 (Ko+1),.bool KR,.int .i64 Ka,.int .i64 Kb,.int .i64 Kc,.int .i64 Kd,.int .i64 Km,.int .i64 Kh,.int .i64 Ki,.int .i64 Kj,.int .i64 Kk,.int .i64 Kf,.slice false (Ja s_w_c_l),.bool Kg,.slice false (Ja Ke),.int .i64 Kl,.slice false (Ja s_p_snaps)],.agg [.int .i64 2,.int .i64 Kv,.int .i64 Kw,.int .i64 Ku,.int .i64 (Ko+1),.slice false [],.slice false [],.int .i64 e,.slice false [],.slice false (Ja (JV ⟨Kl,s_p_snaps⟩))]])):=fun e=>JbD Kn Ko KR Ka Kb Kc Kd Km Kh Ki Kj Kk Kf s_w_c_l Kg Ke Kl s_p_snaps 2 Kv Kw Ku 0 [] [] e [] [] h ht
 clear h ht
 rcases(show Kw=0∨Kw=1∨Kw=2∨Kw=3 by omega) with rfl|rfl|rfl|rfl
 all_goals clear hk4
 all_goals
  refine CallR.go2 (T:=T.withF [27]) call68 func68 rfl ntmps68 (congrArg Array.toList results68) (by decide) fun ts hn h0 h1=>?_
  (repeat' (first
 | (with_reducible first|refine callX.by (w1 _) ?_|refine callX.by (JbD _ _ _ _ _ _ _ _ _ _ _ _ _ _ _ _ _ _ _ _ _ _ _ _ _ _ _ _ ?_ ?_) ?_|assumption|(refine Qw hK _ ?_;clear hK K)|refine Qw ‹_› _ ?_|refine Qx ‹_› ?_|refine Qi fun K hK=>?_|refine Qj (T.withF [27]) fun K hK=>?_|refine Qk (id:=1) (T.withF [27]) mixed [([9],[10,11,12,13,14,15,16,17,18,19,20,21,23,24,6,7]),([10],[9,12,13,14,15,16,17,18,19,20,22,8,23,24,6,7]),([11],[9,12,13,14,15,16,17,18,19,20,8,23,24,6,7]),([12],[9,10,11,14,15,16,17,18,19,20,22,8,23,24,6,7]),([13],[9,10,11,14,15,16,17,18,19,20,8,23,24,6,7]),([14],[9,10,11,12,13,16,17,18,19,20,22,8,23,24,6,7]),([15],[9,10,11,12,13,16,17,18,19,20,8,23,24,6,7]),([16],[9,10,11,12,13,14,15,18,20,21,22,8,23,24,6,7]),([17],[9,10,11,12,13,14,15,18,21,22,8,23,24,6,7]),([18],[9,10,11,12,13,14,15,16,17,21,22,8,23,24,6,7]),([19],[9,10,11,12,13,14,15,22,8,23,24,6,7]),([20],[9,10,11,12,13,14,15,16,8,23,24,6,7]),([21],[9,16,17,18,23,24,6,7]),([22],[10,12,14,16,17,18,19,6,7]),([8],[10,11,12,13,14,15,16,17,18,19,20,6,7]),([23],[9,10,11,12,13,14,15,16,17,18,19,20,21,24,6,7]),([24],[9,10,11,12,13,14,15,16,17,18,19,20,21,23,6,7]),([6],[9,10,11,12,13,14,15,16,17,18,19,20,21,22,8,23,24,7]),([7],[9,10,11,12,13,14,15,16,17,18,19,20,21,22,8,23,24,6]),([6],[24])] (by kernel_rfl) fun K hK=>?_|refine Qk (id:=2) (T.withF [27]) mixed [([25],[26,27]),([26],[25,4]),([27],[25,4]),([4],[26,27])] (by kernel_rfl) fun K hK=>?_|refine Ql fun A B hA hB=>?_|refine Qn ?_|refine Qr ?_)
 |(with_reducible first|apply Qy|apply Qz|apply QA)<;>intro hb<;>try simp only[nr] at hb
 |simp only[go_sem,↓reduceIte,Qa,Qh,Qb,Qc,Qd,Qe,Qf,Qg,reduceCtorEq, *,-w1,YD,YO,YU,YX]
 |intro(bn:Bool) hbn))
 all_goals first|rfl|simp[Z6]
def Jad(s:Side)(f:Frame):Int:=if s.up=false then 12 else if YQ f≠0 then YQ f else if f.epoch≠s.epoch then 11 else if f.type≠1 then 15 else 0
theorem Jbt(Kn Ko:Int)(KR:Bool)(Ka Kb:Int)(Kc Kd:Int)(Km Kh:Int)(Ki Kj:Int)(Kk Kf:Int)(s_w_c_l:List Res)(Kg:Bool)(Ke:List Res)(Kl:Int)(s_p_snaps:List Snap)(KH Kv:Int)(Kw Ku KJ:Int)(f_adds:List Res)(f_gone:List Key)(K4:Int)(f_have:List Mark)(f_held:List Key)(hf:V4 (⟨KH,Kv,Kw,Ku,KJ,f_adds,f_gone,K4,f_have,f_held⟩:Frame)):CallR prog 64 [.agg [.int .i64 Kn,.int .i64 Ko,.bool KR,.int .i64 Ka,.int .i64 Kb,.int .i64 Kc,.int .i64 Kd,.int .i64 Km,.int .i64 Kh,.int .i64 Ki,.int .i64 Kj,.int .i64 Kk,.int .i64 Kf,.slice false (Ja s_w_c_l),.bool Kg,.slice false (Ja Ke),.int .i64 Kl,.slice false (Ja s_p_snaps)],.agg [.int .i64 KH,.int .i64 Kv,.int .i64 Kw,.int .i64 Ku,.int .i64 KJ,.slice false (Ja f_adds),.slice false (Ja f_gone),.int .i64 K4,.slice false (Ja f_have),.slice false (Ja f_held)]] (.val (.int .i64 (Jad (⟨Kn,Ko,KR,⟨⟨Ka,Kb,Kc,Kd⟩,Km⟩,⟨Kh,Ki,Kj,Kk⟩,⟨⟨Kf,s_w_c_l⟩,Kg,Ke⟩,⟨Kl,s_p_snaps⟩⟩:Side) (⟨KH,Kv,Kw,Ku,KJ,f_adds,f_gone,K4,f_have,f_held⟩:Frame)))):=by
 have w1:=Jip KH Kv Kw Ku KJ f_adds f_gone K4 f_have f_held hf
 have e:Jad (⟨Kn,Ko,KR,⟨⟨Ka,Kb,Kc,Kd⟩,Km⟩,⟨Kh,Ki,Kj,Kk⟩,⟨⟨Kf,s_w_c_l⟩,Kg,Ke⟩,⟨Kl,s_p_snaps⟩⟩:Side) (⟨KH,Kv,Kw,Ku,KJ,f_adds,f_gone,K4,f_have,f_held⟩:Frame)=if KR=false then 12 else if YQ (⟨KH,Kv,Kw,Ku,KJ,f_adds,f_gone,K4,f_have,f_held⟩:Frame)≠0 then YQ (⟨KH,Kv,Kw,Ku,KJ,f_adds,f_gone,K4,f_have,f_held⟩:Frame) else if Kv≠Kn then 11 else if KH≠1 then 15 else 0:=rfl
 rw[e]
 clear hf e
 generalize YQ (⟨KH,Kv,Kw,Ku,KJ,f_adds,f_gone,K4,f_have,f_held⟩:Frame)=v at *
 cases KR
 all_goals
  refine Jn call64 func64 rfl ntmps64 results64 fun ts hn h0 h1=>?_
  (repeat' (first
 | (with_reducible first|refine callX.by (w1) ?_|assumption|(refine Qw hK _ ?_;clear hK K)|refine Qw ‹_› _ ?_|refine Qx ‹_› ?_|refine Qi fun K hK=>?_|refine Qj T fun K hK=>?_|refine Ql fun A B hA hB=>?_|refine SpecC.block ?_|refine Qn ?_|refine Qr ?_)
 |(with_reducible first|apply Qy|apply Qz|apply QA)<;>intro hb<;>try simp only[nr] at hb
 |simp only[go_sem,↓reduceIte,Qa,Qh,Qb,Qc,Qd,Qe,Qf,Qg,reduceCtorEq, *,-w1]
 |intro(bn:Bool) hbn))
 all_goals simp_all
def Vi(s:Side):Side:={ Jr s with p:=(Vn (Jr s).p).1 }
theorem JeY{s:Side}(h:SzS s):SzS (Jr s):=by
 unfold Jr
 split
 ·exact h
 ·exact⟨by simp[Jf],⟨⟨by simp[Jf,Jc],by simp[Jf]⟩,by simp[Jf,Jc],by simp[Jf]⟩,SzP.nil⟩
theorem Jm7(Kn Ko:Int)(KR:Bool)(Ka Kb:Int)(Kc Kd:Int)(Km Kh:Int)(Ki Kj:Int)(Kk Kf:Int)(s_w_c_l:List Res)(Kg:Bool)(Ke:List Res)(Kl:Int)(s_p_snaps:List Snap)(h:SzS (⟨Kn,Ko,KR,⟨⟨Ka,Kb,Kc,Kd⟩,Km⟩,⟨Kh,Ki,Kj,Kk⟩,⟨⟨Kf,s_w_c_l⟩,Kg,Ke⟩,⟨Kl,s_p_snaps⟩⟩:Side)):CallR prog 81 [.agg [.int .i64 Kn,.int .i64 Ko,.bool KR,.int .i64 Ka,.int .i64 Kb,.int .i64 Kc,.int .i64 Kd,.int .i64 Km,.int .i64 Kh,.int .i64 Ki,.int .i64 Kj,.int .i64 Kk,.int .i64 Kf,.slice false (Ja s_w_c_l),.bool Kg,.slice false (Ja Ke),.int .i64 Kl,.slice false (Ja s_p_snaps)]] (.val (.tup [.agg [.int .i64 (Vi (⟨Kn,Ko,KR,⟨⟨Ka,Kb,Kc,Kd⟩,Km⟩,⟨Kh,Ki,Kj,Kk⟩,⟨⟨Kf,s_w_c_l⟩,Kg,Ke⟩,⟨Kl,s_p_snaps⟩⟩:Side)).epoch,.int .i64 (Vi (⟨Kn,Ko,KR,⟨⟨Ka,Kb,Kc,Kd⟩,Km⟩,⟨Kh,Ki,Kj,Kk⟩,⟨⟨Kf,s_w_c_l⟩,Kg,Ke⟩,⟨Kl,s_p_snaps⟩⟩:Side)).turn,.bool (Vi (⟨Kn,Ko,KR,⟨⟨Ka,Kb,Kc,Kd⟩,Km⟩,⟨Kh,Ki,Kj,Kk⟩,⟨⟨Kf,s_w_c_l⟩,Kg,Ke⟩,⟨Kl,s_p_snaps⟩⟩:Side)).up,.int .i64 (Vi (⟨Kn,Ko,KR,⟨⟨Ka,Kb,Kc,Kd⟩,Km⟩,⟨Kh,Ki,Kj,Kk⟩,⟨⟨Kf,s_w_c_l⟩,Kg,Ke⟩,⟨Kl,s_p_snaps⟩⟩:Side)).in'.last.a0,.int .i64 (Vi (⟨Kn,Ko,KR,⟨⟨Ka,Kb,Kc,Kd⟩,Km⟩,⟨Kh,Ki,Kj,Kk⟩,⟨⟨Kf,s_w_c_l⟩,Kg,Ke⟩,⟨Kl,s_p_snaps⟩⟩:Side)).in'.last.a1,.int .i64 (Vi (⟨Kn,Ko,KR,⟨⟨Ka,Kb,Kc,Kd⟩,Km⟩,⟨Kh,Ki,Kj,Kk⟩,⟨⟨Kf,s_w_c_l⟩,Kg,Ke⟩,⟨Kl,s_p_snaps⟩⟩:Side)).in'.last.a2,.int .i64 (Vi (⟨Kn,Ko,KR,⟨⟨Ka,Kb,Kc,Kd⟩,Km⟩,⟨Kh,Ki,Kj,Kk⟩,⟨⟨Kf,s_w_c_l⟩,Kg,Ke⟩,⟨Kl,s_p_snaps⟩⟩:Side)).in'.last.a3,.int .i64 (Vi (⟨Kn,Ko,KR,⟨⟨Ka,Kb,Kc,Kd⟩,Km⟩,⟨Kh,Ki,Kj,Kk⟩,⟨⟨Kf,s_w_c_l⟩,Kg,Ke⟩,⟨Kl,s_p_snaps⟩⟩:Side)).in'.max,.int .i64 (Vi (⟨Kn,Ko,KR,⟨⟨Ka,Kb,Kc,Kd⟩,Km⟩,⟨Kh,Ki,Kj,Kk⟩,⟨⟨Kf,s_w_c_l⟩,Kg,Ke⟩,⟨Kl,s_p_snaps⟩⟩:Side)).errs.a0,.int .i64 (Vi (⟨Kn,Ko,KR,⟨⟨Ka,Kb,Kc,Kd⟩,Km⟩,⟨Kh,Ki,Kj,Kk⟩,⟨⟨Kf,s_w_c_l⟩,Kg,Ke⟩,⟨Kl,s_p_snaps⟩⟩:Side)).errs.a1,.int .i64 (Vi (⟨Kn,Ko,KR,⟨⟨Ka,Kb,Kc,Kd⟩,Km⟩,⟨Kh,Ki,Kj,Kk⟩,⟨⟨Kf,s_w_c_l⟩,Kg,Ke⟩,⟨Kl,s_p_snaps⟩⟩:Side)).errs.a2,.int .i64 (Vi (⟨Kn,Ko,KR,⟨⟨Ka,Kb,Kc,Kd⟩,Km⟩,⟨Kh,Ki,Kj,Kk⟩,⟨⟨Kf,s_w_c_l⟩,Kg,Ke⟩,⟨Kl,s_p_snaps⟩⟩:Side)).errs.a3,.int .i64 (Vi (⟨Kn,Ko,KR,⟨⟨Ka,Kb,Kc,Kd⟩,Km⟩,⟨Kh,Ki,Kj,Kk⟩,⟨⟨Kf,s_w_c_l⟩,Kg,Ke⟩,⟨Kl,s_p_snaps⟩⟩:Side)).w.c.cap,.slice false (Ja (Vi (⟨Kn,Ko,KR,⟨⟨Ka,Kb,Kc,Kd⟩,Km⟩,⟨Kh,Ki,Kj,Kk⟩,⟨⟨Kf,s_w_c_l⟩,Kg,Ke⟩,⟨Kl,s_p_snaps⟩⟩:Side)).w.c.l),.bool (Vi (⟨Kn,Ko,KR,⟨⟨Ka,Kb,Kc,Kd⟩,Km⟩,⟨Kh,Ki,Kj,Kk⟩,⟨⟨Kf,s_w_c_l⟩,Kg,Ke⟩,⟨Kl,s_p_snaps⟩⟩:Side)).w.ready,.slice false (Ja (Vi (⟨Kn,Ko,KR,⟨⟨Ka,Kb,Kc,Kd⟩,Km⟩,⟨Kh,Ki,Kj,Kk⟩,⟨⟨Kf,s_w_c_l⟩,Kg,Ke⟩,⟨Kl,s_p_snaps⟩⟩:Side)).w.shown),.int .i64 (Vi (⟨Kn,Ko,KR,⟨⟨Ka,Kb,Kc,Kd⟩,Km⟩,⟨Kh,Ki,Kj,Kk⟩,⟨⟨Kf,s_w_c_l⟩,Kg,Ke⟩,⟨Kl,s_p_snaps⟩⟩:Side)).p.next',.slice false (Ja (Vi (⟨Kn,Ko,KR,⟨⟨Ka,Kb,Kc,Kd⟩,Km⟩,⟨Kh,Ki,Kj,Kk⟩,⟨⟨Kf,s_w_c_l⟩,Kg,Ke⟩,⟨Kl,s_p_snaps⟩⟩:Side)).p.snaps)],.int .i64 (Vn (Jr (⟨Kn,Ko,KR,⟨⟨Ka,Kb,Kc,Kd⟩,Km⟩,⟨Kh,Ki,Kj,Kk⟩,⟨⟨Kf,s_w_c_l⟩,Kg,Ke⟩,⟨Kl,s_p_snaps⟩⟩:Side)).p).2.1,.int .i64 (Vn (Jr (⟨Kn,Ko,KR,⟨⟨Ka,Kb,Kc,Kd⟩,Km⟩,⟨Kh,Ki,Kj,Kk⟩,⟨⟨Kf,s_w_c_l⟩,Kg,Ke⟩,⟨Kl,s_p_snaps⟩⟩:Side)).p).2.2])):=by
 have w1:=YJ Kn Ko KR Ka Kb Kc Kd Km Kh Ki Kj Kk Kf s_w_c_l Kg Ke Kl s_p_snaps h
 have hz:=JeY h
 unfold Vi
 clear h
 generalize Jr (⟨Kn,Ko,KR,⟨⟨Ka,Kb,Kc,Kd⟩,Km⟩,⟨Kh,Ki,Kj,Kk⟩,⟨⟨Kf,s_w_c_l⟩,Kg,Ke⟩,⟨Kl,s_p_snaps⟩⟩:Side)=b at *
 have w2:=JpB b.p.next' b.p.snaps hz.p.n
 clear hz
 have e:(⟨b.p.next',b.p.snaps⟩:Pins)=b.p:=rfl
 rw[e] at w2
 clear e
 generalize Vn b.p=q at *
 refine Jl call81 func81 rfl ntmps81 results81 fun ts hn h0=>?_
 (repeat' (first
 | (with_reducible first|refine callX.by (w1) ?_|refine callX.by (w2) ?_|assumption|(refine Qw hK _ ?_;clear hK K)|refine Qw ‹_› _ ?_|refine Qx ‹_› ?_|refine Qi fun K hK=>?_|refine Qj T fun K hK=>?_|refine Ql fun A B hA hB=>?_|refine Qn ?_|refine Qr ?_)
 |(with_reducible first|apply Qy|apply Qz|apply QA)<;>intro hb<;>try simp only[nr] at hb
 |simp only[go_sem,↓reduceIte,Qa,Qh,Qb,Qc,Qd,Qe,Qf,Qg,reduceCtorEq, *,-w1,-w2]
 |intro(bn:Bool) hbn))
 all_goals trace_state
theorem JqN(Kn Ko:Int)(KR:Bool)(Ka Kb:Int)(Kc Kd:Int)(Km Kh:Int)(Ki Kj:Int)(Kk Kf:Int)(s_w_c_l:List Res)(Kg:Bool)(Ke:List Res)(Kl:Int)(s_p_snaps:List Snap)(h:SzS (⟨Kn,Ko,KR,⟨⟨Ka,Kb,Kc,Kd⟩,Km⟩,⟨Kh,Ki,Kj,Kk⟩,⟨⟨Kf,s_w_c_l⟩,Kg,Ke⟩,⟨Kl,s_p_snaps⟩⟩:Side)):CallR prog 21 [.agg [.int .i64 Kn,.int .i64 Ko,.bool KR,.int .i64 Ka,.int .i64 Kb,.int .i64 Kc,.int .i64 Kd,.int .i64 Km,.int .i64 Kh,.int .i64 Ki,.int .i64 Kj,.int .i64 Kk,.int .i64 Kf,.slice false (Ja s_w_c_l),.bool Kg,.slice false (Ja Ke),.int .i64 Kl,.slice false (Ja s_p_snaps)]] (.val (.tup [.slice false (Ja (JJ (Jr (⟨Kn,Ko,KR,⟨⟨Ka,Kb,Kc,Kd⟩,Km⟩,⟨Kh,Ki,Kj,Kk⟩,⟨⟨Kf,s_w_c_l⟩,Kg,Ke⟩,⟨Kl,s_p_snaps⟩⟩:Side)).p).2.1),.bool (JJ (Jr (⟨Kn,Ko,KR,⟨⟨Ka,Kb,Kc,Kd⟩,Km⟩,⟨Kh,Ki,Kj,Kk⟩,⟨⟨Kf,s_w_c_l⟩,Kg,Ke⟩,⟨Kl,s_p_snaps⟩⟩:Side)).p).2.2])):=by
 have w1:=YJ Kn Ko KR Ka Kb Kc Kd Km Kh Ki Kj Kk Kf s_w_c_l Kg Ke Kl s_p_snaps h
 have hz:=JeY h
 clear h
 generalize Jr (⟨Kn,Ko,KR,⟨⟨Ka,Kb,Kc,Kd⟩,Km⟩,⟨Kh,Ki,Kj,Kk⟩,⟨⟨Kf,s_w_c_l⟩,Kg,Ke⟩,⟨Kl,s_p_snaps⟩⟩:Side)=b at *
 have w2:=JfE b.p.next' b.p.snaps hz.p.n
 clear hz
 have e:(⟨b.p.next',b.p.snaps⟩:Pins)=b.p:=rfl
 rw[e] at w2
 clear e
 generalize JJ b.p=q at *
 refine Jl call21 func21 rfl ntmps21 results21 fun ts hn h0=>?_
 (repeat' (first
 | (with_reducible first|refine callX.by (w1) ?_|refine callX.by (w2) ?_|assumption|(refine Qw hK _ ?_;clear hK K)|refine Qw ‹_› _ ?_|refine Qx ‹_› ?_|refine Qi fun K hK=>?_|refine Qj T fun K hK=>?_|refine Ql fun A B hA hB=>?_|refine Qn ?_|refine Qr ?_)
 |(with_reducible first|apply Qy|apply Qz|apply QA)<;>intro hb<;>try simp only[nr] at hb
 |simp only[go_sem,↓reduceIte,Qa,Qh,Qb,Qc,Qd,Qe,Qf,Qg,reduceCtorEq, *,-w1,-w2]
 |intro(bn:Bool) hbn))
 all_goals trace_state
end Go.Proofs.YthjalhfmpffbjaaGreatDoor.Lg
