/- Parts of the proof, one behind the other. -/
import Derived.Test.YthjalhfmpffbjaaGreatDoorG24
set_option linter.unusedVariables false
set_option linter.unusedSimpArgs false
set_option maxRecDepth 100000
set_option maxHeartbeats 64000000
namespace Go.Proofs.YthjalhfmpffbjaaGreatDoor.Lg
open Go
open Tryz
open Nat renaming reduceEqDiff → Qa, reduceLT → Qb, reduceLeDiff → Qc, reduceAdd → Qd, reduceMul → Qe, reduceSub → Qf, reduceBEq → Qg
open String renaming reduceEq → Qh
open SpecC renaming drawW → Qk, condW → Ql, skip → Qn, ret → Qr
open NxK renaming out → Qw
@[go_sem] def JdO:List (List Nat×List Nat):=[([21],[23,24]),([22],[23,24]),([23],[21,22]),([24],[21,22])]
@[go_sem] def JdP:List (List Nat×List Nat):=[([49],[50,51,52]),([50],[49,52,4]),([51],[49,52,4]),([52],[49,50,51,4,5]),([4],[50,51,52]),([5],[52])]
theorem JjK(p:Pins)(id:Int):∀x∈(J6 p id).1.snaps,∃y∈(Jq p).snaps,x.l=y.l:=by
 unfold J6
 simp only
 generalize Jq p=q
 have hp:=Jex q.snaps id q.snaps.length
 split
 ·exact fun x hx=>⟨x,hx,rfl⟩
 ·rename_i h0
  split
  ·exact fun x hx=>⟨x,hx,rfl⟩
  ·have hk:(J5 q.snaps id q.snaps.length).toNat<q.snaps.length:=by omega
   generalize (J5 q.snaps id q.snaps.length).toNat=k at *
   have hset:∀t:Snap,t.l=(q.snaps.getD k default).l→∀x∈q.snaps.set k t,∃y∈q.snaps,x.l=y.l:=fun t ht x hx=>by
    rcases List.mem_or_eq_of_mem_set hx with hx|rfl
    ·exact⟨x,hx,rfl⟩
    ·refine⟨q.snaps[k],List.getElem_mem hk,?_⟩
     rw[ht];simp[hk]
   split
   ·intro x hx
    refine hset ⟨(q.snaps.getD k default).id,IntKind.i64.wrap ((q.snaps.getD k default).pins-1),(q.snaps.getD k default).l⟩ rfl x ?_
    rcases List.mem_append.1 hx with hx|hx
    ·exact List.mem_of_mem_take hx
    ·exact List.mem_of_mem_drop hx
   ·exact hset _ rfl
theorem Jp6(p:Pins)(id:Int):(J6 p id).1.snaps.length≤(Jq p).snaps.length:=by
 unfold J6
 simp only
 generalize Jq p=q
 split
 ·exact Nat.le_refl _
 ·split
  ·exact Nat.le_refl _
  ·split
   ·simp only[List.length_append,List.length_take,List.length_drop,List.length_set];omega
   ·simp
theorem Bd.release{p:Pins}{n:Nat}(h:Bd p n)(id:Int):Bd (J6 p id).1 n:=by
 have h0:=h.sane
 refine⟨Nat.le_trans (Jp6 p id) h0.len,fun x hx=>?_⟩
 obtain⟨y,hy,e⟩:=JjK p id x hx
 have h1:=h0.all y hy
 refine⟨by rw[e];exact h1.1,?_⟩
 have h3:=h1.2
 unfold Yp at h3 ⊢
 rw[e]
 exact h3
def endS(s:Side)(id:Int):Side×List Frame×Int :=
 let b:=Jr s
 let r:=J6 b.p id
 if JV r.1=JV b.p∨b.up=false∨b.turn=2147483647 then ({ b with p:=r.1 },[],r.2)
 else ({ b with p:=r.1,turn:=b.turn+1 },[⟨3,b.epoch,0,0,b.turn+1,[],[],0,[],JV r.1⟩],r.2)
theorem JnD(Kn Ko:Int)(KR:Bool)(Ka Kb:Int)(Kc Kd:Int)(Km Kh:Int)(Ki Kj:Int)(Kk Kf:Int)(s_w_c_l:List Res)(Kg:Bool)(Ke:List Res)(Kl:Int)(s_p_snaps:List Snap)(id:Int)(h:SzS (⟨Kn,Ko,KR,⟨⟨Ka,Kb,Kc,Kd⟩,Km⟩,⟨Kh,Ki,Kj,Kk⟩,⟨⟨Kf,s_w_c_l⟩,Kg,Ke⟩,⟨Kl,s_p_snaps⟩⟩:Side))(hq:SzP (J6 (Jr (⟨Kn,Ko,KR,⟨⟨Ka,Kb,Kc,Kd⟩,Km⟩,⟨Kh,Ki,Kj,Kk⟩,⟨⟨Kf,s_w_c_l⟩,Kg,Ke⟩,⟨Kl,s_p_snaps⟩⟩:Side)).p id).1):CallR prog 85 [.agg [.int .i64 Kn,.int .i64 Ko,.bool KR,.int .i64 Ka,.int .i64 Kb,.int .i64 Kc,.int .i64 Kd,.int .i64 Km,.int .i64 Kh,.int .i64 Ki,.int .i64 Kj,.int .i64 Kk,.int .i64 Kf,.slice false (Ja s_w_c_l),.bool Kg,.slice false (Ja Ke),.int .i64 Kl,.slice false (Ja s_p_snaps)],.int .i64 id] (.val (.tup [.agg [.int .i64 (endS (⟨Kn,Ko,KR,⟨⟨Ka,Kb,Kc,Kd⟩,Km⟩,⟨Kh,Ki,Kj,Kk⟩,⟨⟨Kf,s_w_c_l⟩,Kg,Ke⟩,⟨Kl,s_p_snaps⟩⟩:Side) id).1.epoch,.int .i64 (endS (⟨Kn,Ko,KR,⟨⟨Ka,Kb,Kc,Kd⟩,Km⟩,⟨Kh,Ki,Kj,Kk⟩,⟨⟨Kf,s_w_c_l⟩,Kg,Ke⟩,⟨Kl,s_p_snaps⟩⟩:Side) id).1.turn,.bool (endS (⟨Kn,Ko,KR,⟨⟨Ka,Kb,Kc,Kd⟩,Km⟩,⟨Kh,Ki,Kj,Kk⟩,⟨⟨Kf,s_w_c_l⟩,Kg,Ke⟩,⟨Kl,s_p_snaps⟩⟩:Side) id).1.up,.int .i64 (endS (⟨Kn,Ko,KR,⟨⟨Ka,Kb,Kc,Kd⟩,Km⟩,⟨Kh,Ki,Kj,Kk⟩,⟨⟨Kf,s_w_c_l⟩,Kg,Ke⟩,⟨Kl,s_p_snaps⟩⟩:Side) id).1.in'.last.a0,.int .i64 (endS (⟨Kn,Ko,KR,⟨⟨Ka,Kb,Kc,Kd⟩,Km⟩,⟨Kh,Ki,Kj,Kk⟩,⟨⟨Kf,s_w_c_l⟩,Kg,Ke⟩,⟨Kl,s_p_snaps⟩⟩:Side) id).1.in'.last.a1,.int .i64 (endS (⟨Kn,Ko,KR,⟨⟨Ka,Kb,Kc,Kd⟩,Km⟩,⟨Kh,Ki,Kj,Kk⟩,⟨⟨Kf,s_w_c_l⟩,Kg,Ke⟩,⟨Kl,s_p_snaps⟩⟩:Side) id).1.in'.last.a2,.int .i64 (endS (⟨Kn,Ko,KR,⟨⟨Ka,Kb,Kc,Kd⟩,Km⟩,⟨Kh,Ki,Kj,Kk⟩,⟨⟨Kf,s_w_c_l⟩,Kg,Ke⟩,⟨Kl,s_p_snaps⟩⟩:Side) id).1.in'.last.a3,.int .i64 (endS (⟨Kn,Ko,KR,⟨⟨Ka,Kb,Kc,Kd⟩,Km⟩,⟨Kh,Ki,Kj,Kk⟩,⟨⟨Kf,s_w_c_l⟩,Kg,Ke⟩,⟨Kl,s_p_snaps⟩⟩:Side) id).1.in'.max,.int .i64 (endS (⟨Kn,Ko,KR,⟨⟨Ka,Kb,Kc,Kd⟩,Km⟩,⟨Kh,Ki,Kj,Kk⟩,⟨⟨Kf,s_w_c_l⟩,Kg,Ke⟩,⟨Kl,s_p_snaps⟩⟩:Side) id).1.errs.a0,.int .i64 (endS (⟨Kn,Ko,KR,⟨⟨Ka,Kb,Kc,Kd⟩,Km⟩,⟨Kh,Ki,Kj,Kk⟩,⟨⟨Kf,s_w_c_l⟩,Kg,Ke⟩,⟨Kl,s_p_snaps⟩⟩:Side) id).1.errs.a1,.int .i64 (endS (⟨Kn,Ko,KR,⟨⟨Ka,Kb,Kc,Kd⟩,Km⟩,⟨Kh,Ki,Kj,Kk⟩,⟨⟨Kf,s_w_c_l⟩,Kg,Ke⟩,⟨Kl,s_p_snaps⟩⟩:Side) id).1.errs.a2,.int .i64 (endS (⟨Kn,Ko,KR,⟨⟨Ka,Kb,Kc,Kd⟩,Km⟩,⟨Kh,Ki,Kj,Kk⟩,⟨⟨Kf,s_w_c_l⟩,Kg,Ke⟩,⟨Kl,s_p_snaps⟩⟩:Side) id).1.errs.a3,.int .i64 (endS (⟨Kn,Ko,KR,⟨⟨Ka,Kb,Kc,Kd⟩,Km⟩,⟨Kh,Ki,Kj,Kk⟩,⟨⟨Kf,s_w_c_l⟩,Kg,Ke⟩,⟨Kl,s_p_snaps⟩⟩:Side) id).1.w.c.cap,.slice false (Ja (endS (⟨Kn,Ko,KR,⟨⟨Ka,Kb,Kc,Kd⟩,Km⟩,⟨Kh,Ki,Kj,Kk⟩,⟨⟨Kf,s_w_c_l⟩,Kg,Ke⟩,⟨Kl,s_p_snaps⟩⟩:Side) id).1.w.c.l),.bool (endS (⟨Kn,Ko,KR,⟨⟨Ka,Kb,Kc,Kd⟩,Km⟩,⟨Kh,Ki,Kj,Kk⟩,⟨⟨Kf,s_w_c_l⟩,Kg,Ke⟩,⟨Kl,s_p_snaps⟩⟩:Side) id).1.w.ready,.slice false (Ja (endS (⟨Kn,Ko,KR,⟨⟨Ka,Kb,Kc,Kd⟩,Km⟩,⟨Kh,Ki,Kj,Kk⟩,⟨⟨Kf,s_w_c_l⟩,Kg,Ke⟩,⟨Kl,s_p_snaps⟩⟩:Side) id).1.w.shown),.int .i64 (endS (⟨Kn,Ko,KR,⟨⟨Ka,Kb,Kc,Kd⟩,Km⟩,⟨Kh,Ki,Kj,Kk⟩,⟨⟨Kf,s_w_c_l⟩,Kg,Ke⟩,⟨Kl,s_p_snaps⟩⟩:Side) id).1.p.next',.slice false (Ja (endS (⟨Kn,Ko,KR,⟨⟨Ka,Kb,Kc,Kd⟩,Km⟩,⟨Kh,Ki,Kj,Kk⟩,⟨⟨Kf,s_w_c_l⟩,Kg,Ke⟩,⟨Kl,s_p_snaps⟩⟩:Side) id).1.p.snaps)],.slice false (Ja (endS (⟨Kn,Ko,KR,⟨⟨Ka,Kb,Kc,Kd⟩,Km⟩,⟨Kh,Ki,Kj,Kk⟩,⟨⟨Kf,s_w_c_l⟩,Kg,Ke⟩,⟨Kl,s_p_snaps⟩⟩:Side) id).2.1),.int .i64 (endS (⟨Kn,Ko,KR,⟨⟨Ka,Kb,Kc,Kd⟩,Km⟩,⟨Kh,Ki,Kj,Kk⟩,⟨⟨Kf,s_w_c_l⟩,Kg,Ke⟩,⟨Kl,s_p_snaps⟩⟩:Side) id).2.2])):=by
 have w1:=YJ Kn Ko KR Ka Kb Kc Kd Km Kh Ki Kj Kk Kf s_w_c_l Kg Ke Kl s_p_snaps h
 have hz:=JeY h
 have hr:=(saneS_iff.1 (Jdp (⟨Kn,Ko,KR,⟨⟨Ka,Kb,Kc,Kd⟩,Km⟩,⟨Kh,Ki,Kj,Kk⟩,⟨⟨Kf,s_w_c_l⟩,Kg,Ke⟩,⟨Kl,s_p_snaps⟩⟩:Side))).2.1
 unfold endS
 clear h
 generalize Jr (⟨Kn,Ko,KR,⟨⟨Ka,Kb,Kc,Kd⟩,Km⟩,⟨Kh,Ki,Kj,Kk⟩,⟨⟨Kf,s_w_c_l⟩,Kg,Ke⟩,⟨Kl,s_p_snaps⟩⟩:Side)=b at *
 simp only
 have w2:=Jde b.p.next' id b.p.snaps hz.p.n
 have w2:CallR prog 129 [.agg [.int .i64 b.p.next',.slice false (Ja b.p.snaps)],.int .i64 id] (.val (.tup [.agg [.int .i64 (J6 b.p id).1.next',.slice false (Ja (J6 b.p id).1.snaps)],.int .i64 (J6 b.p id).2])):=w2
 generalize (J6 b.p id).2=e at *
 generalize (J6 b.p id).1=q at *
 have w3:=(JaI q.next' q.snaps hq.n hq.s hq.t).frz
 have w3:CallR prog 80 [.agg [.int .i64 q.next',.slice false (Ja q.snaps)]] (.val (.slice false (Ja (JV q)))):=w3
 have w4:=(JaI b.p.next' b.p.snaps hz.p.n hz.p.s hz.p.t).frz
 have w4:CallR prog 80 [.agg [.int .i64 b.p.next',.slice false (Ja b.p.snaps)]] (.val (.slice false (Ja (JV b.p)))):=w4
 have w5:=Ja6 (JV q) (JV b.p) hq.held.1
 have w6:=Zc b.epoch b.turn b.up b.in'.last.a0 b.in'.last.a1 b.in'.last.a2 b.in'.last.a3 b.in'.max b.errs.a0 b.errs.a1 b.errs.a2 b.errs.a3 b.w.c.cap b.w.c.l b.w.ready b.w.shown q.next' q.snaps
 have w7:CallR prog 99 [.agg [.int .i64 (b.epoch),.int .i64 (b.turn),.bool (b.up),.int .i64 (b.in'.last.a0),.int .i64 (b.in'.last.a1),.int .i64 (b.in'.last.a2),.int .i64 (b.in'.last.a3),.int .i64 (b.in'.max),.int .i64 (b.errs.a0),.int .i64 (b.errs.a1),.int .i64 (b.errs.a2),.int .i64 (b.errs.a3),.int .i64 (b.w.c.cap),.slice false (Ja (b.w.c.l)),.bool (b.w.ready),.slice false (Ja (b.w.shown)),.int .i64 (q.next'),.slice false (Ja (q.snaps))],.agg [.int .i64 3,.int .i64 b.epoch,.int .i64 0,.int .i64 0,.int .i64 0,.slice false [],.slice false [],.int .i64 0,.slice false [],.slice false []]]
  (.val (.tup [.agg [.int .i64 (b.epoch),.int .i64 (b.turn+1),.bool (b.up),.int .i64 (b.in'.last.a0),.int .i64 (b.in'.last.a1),.int .i64 (b.in'.last.a2),.int .i64 (b.in'.last.a3),.int .i64 (b.in'.max),.int .i64 (b.errs.a0),.int .i64 (b.errs.a1),.int .i64 (b.errs.a2),.int .i64 (b.errs.a3),.int .i64 (b.w.c.cap),.slice false (Ja (b.w.c.l)),.bool (b.w.ready),.slice false (Ja (b.w.shown)),.int .i64 (q.next'),.slice false (Ja (q.snaps))],.agg [.int .i64 3,.int .i64 b.epoch,.int .i64 0,.int .i64 0,.int .i64 (b.turn+1),.slice false [],.slice false [],.int .i64 0,.slice false [],.slice false (Ja (JV q))]])) :=
  JbD b.epoch b.turn b.up b.in'.last.a0 b.in'.last.a1 b.in'.last.a2 b.in'.last.a3 b.in'.max b.errs.a0 b.errs.a1 b.errs.a2 b.errs.a3 b.w.c.cap b.w.c.l b.w.ready b.w.shown q.next' q.snaps 3 b.epoch 0 0 0 [] [] 0 [] [] hq hr
 clear hz hr hq
 generalize JV q=hq at *
 generalize JV b.p=hb0 at *
 by_cases hc:hq=hb0
 ·rw[decide_eq_true hc] at w5
  rw[if_pos (.inl hc)]
  have w7:=trivial
  refine Jn call85 func85 rfl ntmps85 results85 fun ts hn h0 h1=>?_
  (repeat' (first
 | (with_reducible first|refine callX.by (w1) ?_|refine callX.by (w2) ?_|refine callX.by (w3) ?_|refine callX.by (w4) ?_|refine callX.by (w5) ?_|refine callX.by (w6) ?_|refine callX.by (YJ _ _ _ _ _ _ _ _ _ _ _ _ _ _ _ _ _ _ ?_) ?_|refine callX.by awc5 ?_|refine callX.by (Jde _ _ _ ?_) ?_|refine callX.by (JaI _ _ ?_ ?_ ?_) ?_|refine callX.by awc7 ?_|refine callX.by awc8 ?_|refine callX.by (Ja6 _ _ ?_) ?_|refine callX.by (Zc _ _ _ _ _ _ _ _ _ _ _ _ _ _ _ _ _ _) ?_|refine callX.by (JbD _ _ _ _ _ _ _ _ _ _ _ _ _ _ _ _ _ _ _ _ _ _ _ _ _ _ _ _ ?_ ?_) ?_|assumption|(refine Qw hK _ ?_;clear hK K)|refine Qw ‹_› _ ?_|refine Nx.out ‹_› ?_|refine SpecC.seqW fun K hK=>?_|refine SpecC.regW T fun K hK=>?_|refine Qk (id:=3) T mixed JdO (by kernel_rfl) fun K hK=>?_|refine Qk (id:=8) T mixed JdP (by kernel_rfl) fun K hK=>?_|refine Ql fun A B hA hB=>?_|refine Qn ?_|refine Qr ?_)
 |(with_reducible first|apply condK.split|apply gK.split_t|apply gK.split_f)<;>intro hb<;>try simp only[nr] at hb
 |simp only[go_sem,↓reduceIte,Qa,Qh,Qb,Qc,Qd,Qe,Qf,Qg,reduceCtorEq, *,-w1,-w2,-w3,-w4,-w5,-w6,-hc,Vp]
 |intro(bn:Bool) hbn))
 ·rw[decide_eq_false hc] at w5
  by_cases hu:b.up=false
  ·rw[if_pos (.inr (.inl hu))]
   have w7:=trivial
   refine Jn call85 func85 rfl ntmps85 results85 fun ts hn h0 h1=>?_
   (repeat' (first
 | (with_reducible first|refine callX.by (w1) ?_|refine callX.by (w2) ?_|refine callX.by (w3) ?_|refine callX.by (w4) ?_|refine callX.by (w5) ?_|refine callX.by (w6) ?_|refine callX.by (YJ _ _ _ _ _ _ _ _ _ _ _ _ _ _ _ _ _ _ ?_) ?_|refine callX.by awc5 ?_|refine callX.by (Jde _ _ _ ?_) ?_|refine callX.by (JaI _ _ ?_ ?_ ?_) ?_|refine callX.by awc7 ?_|refine callX.by awc8 ?_|refine callX.by (Ja6 _ _ ?_) ?_|refine callX.by (Zc _ _ _ _ _ _ _ _ _ _ _ _ _ _ _ _ _ _) ?_|refine callX.by (JbD _ _ _ _ _ _ _ _ _ _ _ _ _ _ _ _ _ _ _ _ _ _ _ _ _ _ _ _ ?_ ?_) ?_|assumption|(refine Qw hK _ ?_;clear hK K)|refine Qw ‹_› _ ?_|refine Nx.out ‹_› ?_|refine SpecC.seqW fun K hK=>?_|refine SpecC.regW T fun K hK=>?_|refine Qk (id:=3) T mixed JdO (by kernel_rfl) fun K hK=>?_|refine Qk (id:=8) T mixed JdP (by kernel_rfl) fun K hK=>?_|refine Ql fun A B hA hB=>?_|refine Qn ?_|refine Qr ?_)
 |(with_reducible first|apply condK.split|apply gK.split_t|apply gK.split_f)<;>intro hb<;>try simp only[nr] at hb
 |simp only[go_sem,↓reduceIte,Qa,Qh,Qb,Qc,Qd,Qe,Qf,Qg,reduceCtorEq, *,-w1,-w2,-w3,-w4,-w5,-w6,-hc,Vp]
 |intro(bn:Bool) hbn))
  ·have hu:b.up=true:=by simpa using hu
   by_cases ht:b.turn=2147483647
   ·rw[if_pos (.inr (.inr ht))]
    have w7:=trivial
    refine Jn call85 func85 rfl ntmps85 results85 fun ts hn h0 h1=>?_
    (repeat' (first
 | (with_reducible first|refine callX.by (w1) ?_|refine callX.by (w2) ?_|refine callX.by (w3) ?_|refine callX.by (w4) ?_|refine callX.by (w5) ?_|refine callX.by (w6) ?_|refine callX.by (YJ _ _ _ _ _ _ _ _ _ _ _ _ _ _ _ _ _ _ ?_) ?_|refine callX.by awc5 ?_|refine callX.by (Jde _ _ _ ?_) ?_|refine callX.by (JaI _ _ ?_ ?_ ?_) ?_|refine callX.by awc7 ?_|refine callX.by awc8 ?_|refine callX.by (Ja6 _ _ ?_) ?_|refine callX.by (Zc _ _ _ _ _ _ _ _ _ _ _ _ _ _ _ _ _ _) ?_|refine callX.by (JbD _ _ _ _ _ _ _ _ _ _ _ _ _ _ _ _ _ _ _ _ _ _ _ _ _ _ _ _ ?_ ?_) ?_|assumption|(refine Qw hK _ ?_;clear hK K)|refine Qw ‹_› _ ?_|refine Nx.out ‹_› ?_|refine SpecC.seqW fun K hK=>?_|refine SpecC.regW T fun K hK=>?_|refine Qk (id:=3) T mixed JdO (by kernel_rfl) fun K hK=>?_|refine Qk (id:=8) T mixed JdP (by kernel_rfl) fun K hK=>?_|refine Ql fun A B hA hB=>?_|refine Qn ?_|refine Qr ?_)
 |(with_reducible first|apply condK.split|apply gK.split_t|apply gK.split_f)<;>intro hb<;>try simp only[nr] at hb
 |simp only[go_sem,↓reduceIte,Qa,Qh,Qb,Qc,Qd,Qe,Qf,Qg,reduceCtorEq, *,-w1,-w2,-w3,-w4,-w5,-w6,-hc,Vp]
 |intro(bn:Bool) hbn))
   ·rw[if_neg (by simp[hc,hu,ht])]
    rw[hu] at w7
    refine Jn call85 func85 rfl ntmps85 results85 fun ts hn h0 h1=>?_
    (repeat' (first
 | (with_reducible first|refine callX.by (w1) ?_|refine callX.by (w2) ?_|refine callX.by (w3) ?_|refine callX.by (w4) ?_|refine callX.by (w5) ?_|refine callX.by (w6) ?_|refine callX.by (w7) ?_|refine callX.by (YJ _ _ _ _ _ _ _ _ _ _ _ _ _ _ _ _ _ _ ?_) ?_|refine callX.by awc5 ?_|refine callX.by (Jde _ _ _ ?_) ?_|refine callX.by (JaI _ _ ?_ ?_ ?_) ?_|refine callX.by awc7 ?_|refine callX.by awc8 ?_|refine callX.by (Ja6 _ _ ?_) ?_|refine callX.by (Zc _ _ _ _ _ _ _ _ _ _ _ _ _ _ _ _ _ _) ?_|refine callX.by (JbD _ _ _ _ _ _ _ _ _ _ _ _ _ _ _ _ _ _ _ _ _ _ _ _ _ _ _ _ ?_ ?_) ?_|assumption|(refine Qw hK _ ?_;clear hK K)|refine Qw ‹_› _ ?_|refine Nx.out ‹_› ?_|refine SpecC.seqW fun K hK=>?_|refine SpecC.regW T fun K hK=>?_|refine Qk (id:=3) T mixed JdO (by kernel_rfl) fun K hK=>?_|refine Qk (id:=8) T mixed JdP (by kernel_rfl) fun K hK=>?_|refine Ql fun A B hA hB=>?_|refine Qn ?_|refine Qr ?_)
 |(with_reducible first|apply condK.split|apply gK.split_t|apply gK.split_f)<;>intro hb<;>try simp only[nr] at hb
 |simp only[go_sem,↓reduceIte,Qa,Qh,Qb,Qc,Qd,Qe,Qf,Qg,reduceCtorEq, *,-w1,-w2,-w3,-w4,-w5,-w6,-w7,-hc]
 |intro(bn:Bool) hbn))
    all_goals rfl
end Go.Proofs.YthjalhfmpffbjaaGreatDoor.Lg
