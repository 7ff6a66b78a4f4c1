/- Parts of the proof, one behind the other. -/
import Derived.Test.YthjalhfmpffbjaaGreatDoorG25
namespace Go.Proofs.YthjalhfmpffbjaaGreatDoor.Lg
set_option maxRecDepth 100000
set_option maxHeartbeats 64000000
set_option linter.unusedVariables false
set_option linter.unusedSimpArgs false
open Go
open Nat renaming reduceEqDiff → Qa, reduceLT → Qb, reduceLeDiff → Qc, reduceAdd → Qd, reduceMul → Qe, reduceSub → Qf, reduceBEq → Qg
open String renaming reduceEq → Qh
open SpecC renaming seqW → Qi, regW → Qj, drawW → Qk, condW → Ql, skip → Qn, ret → Qr
open NxK renaming out → Qw
open condK renaming split → Qy
open gK renaming split_t → Qz, split_f → QA
def wc(w:Work):List AV:=[.int .i64 w.req.a.port,.str w.req.a.host,.str w.req.a.path,.int .i64 w.req.a.first,.int .i64 w.req.a.other,.int .i64 w.req.stage,.int .i64 w.req.id,.str w.req.route,.str w.req.cluster,.int .i64 w.req.out.what,.str w.req.out.cluster,.int .i64 w.req.out.host,.int .i64 w.side.epoch,.int .i64 w.side.turn,.bool w.side.up,.int .i64 w.side.in'.last.a0,.int .i64 w.side.in'.last.a1,.int .i64 w.side.in'.last.a2,.int .i64 w.side.in'.last.a3,.int .i64 w.side.in'.max,.int .i64 w.side.errs.a0,.int .i64 w.side.errs.a1,.int .i64 w.side.errs.a2,.int .i64 w.side.errs.a3,.int .i64 w.side.w.c.cap,.slice false (Ja w.side.w.c.l),.bool w.side.w.ready,.slice false (Ja w.side.w.shown),.int .i64 w.side.p.next',.slice false (Ja w.side.p.snaps),.slice false (Ja w.told)]
theorem Vu(w:Work):AV.pure.pureL (wc w)=true:=by simp[wc,AV.pure,AV.pure.pureL,JpA]
def VB(w:Work):List Res:=(Zc w.side.p w.req.id).1
def Yl(w:Work)(a:Answer):Work :=
 if w.req.stage=0 then ⟨⟨w.req.a,5,w.req.id,w.req.route,w.req.cluster,a⟩,w.side,w.told⟩
 else ⟨⟨w.req.a,5,w.req.id,w.req.route,w.req.cluster,a⟩,(endS w.side w.req.id).1,(endS w.side w.req.id).2.1⟩
def Jao(w:Work):Work :=
 if(Vs (Jr w.side).p).2.2=0 then ⟨⟨w.req.a,1,(Vs (Jr w.side).p).2.1,w.req.route,w.req.cluster,w.req.out⟩,Vk w.side,w.told⟩ else Yl w ⟨0,[],0⟩
def Jbh(w:Work):Work :=
 match ZN (VB w) w.req.a.port with
 |none=>Yl w ⟨1,[],0⟩
 |some x=>⟨⟨w.req.a,2,w.req.id,x.to',w.req.cluster,w.req.out⟩,w.side,w.told⟩
def JbB(w:Work):Work :=
 match V0 (VB w) w.req.route w.req.a.host w.req.a.path with
 |none=>Yl w ⟨2,[],0⟩
 |some r=>match Yz r.split w.req.a.first with
  |none=>Yl w ⟨0,[],0⟩
  |some c=>⟨⟨w.req.a,3,w.req.id,w.req.route,c,w.req.out⟩,w.side,w.told⟩
def Ja0(w:Work):Work :=
 match Yc (Vo (VB w) w.req.cluster).1 w.req.a.other with
 |none=>Yl w ⟨0,[],0⟩
 |some h=>⟨⟨w.req.a,4,w.req.id,w.req.route,w.req.cluster,⟨3,w.req.cluster,h⟩⟩,w.side,w.told⟩
structure SzK(w:Work):Prop where
 s:SzS w.side
 q:SzP (Vh (Jr w.side).p w.req.id).1
 h:Jc w.req.a.host.length
theorem SzK.snap{w:Work}(h:SzK w):Jc (VB w).length∧∀r∈VB w,Jw r:=by
 unfold VB
 rw[Jga]
 exact JqM h.s.p.s
theorem JbW(KV:Int)(KT KU:List UInt8)(KN KO:Int)(K7 Lj:Int)(K5 KK:List UInt8)(KM:Int)(Kx:List UInt8)(KL KP KW:Int)(Ld:Bool)(Kq Kr:Int)(Ks Kt:Int)(KI Ky:Int)(Kz KA:Int)(KB KC:Int)(KQ:List Res)(KD:Bool)(KE:List Res)(KG:Int)(w_side_p_snaps:List Snap)(Lo:List Frame)(LI:Int)(LC:List UInt8)(a_host:Int)(hz:SzK (⟨⟨⟨KV,KT,KU,KN,KO⟩,K7,Lj,K5,KK,⟨KM,Kx,KL⟩⟩,⟨KP,KW,Ld,⟨⟨Kq,Kr,Ks,Kt⟩,KI⟩,⟨Ky,Kz,KA,KB⟩,⟨⟨KC,KQ⟩,KD,KE⟩,⟨KG,w_side_p_snaps⟩⟩,Lo⟩:Work)):CallI Tryz.prog 50 [.int .i64 KV,.str KT,.str KU,.int .i64 KN,.int .i64 KO,.int .i64 K7,.int .i64 Lj,.str K5,.str KK,.int .i64 KM,.str Kx,.int .i64 KL,.int .i64 KP,.int .i64 KW,.bool Ld,.int .i64 Kq,.int .i64 Kr,.int .i64 Ks,.int .i64 Kt,.int .i64 KI,.int .i64 Ky,.int .i64 Kz,.int .i64 KA,.int .i64 KB,.int .i64 KC,.slice false (Ja KQ),.bool KD,.slice false (Ja KE),.int .i64 KG,.slice false (Ja w_side_p_snaps),.slice false (Ja Lo)] [.agg [.int .i64 LI,.str LC,.int .i64 a_host]] (.tup []) (wc (Yl (⟨⟨⟨KV,KT,KU,KN,KO⟩,K7,Lj,K5,KK,⟨KM,Kx,KL⟩⟩,⟨KP,KW,Ld,⟨⟨Kq,Kr,Ks,Kt⟩,KI⟩,⟨Ky,Kz,KA,KB⟩,⟨⟨KC,KQ⟩,KD,KE⟩,⟨KG,w_side_p_snaps⟩⟩,Lo⟩:Work) (⟨LI,LC,a_host⟩:Answer))):=by
 by_cases hst:K7=0
 subst hst
 have e:Yl (⟨⟨⟨KV,KT,KU,KN,KO⟩,(0),Lj,K5,KK,⟨KM,Kx,KL⟩⟩,⟨KP,KW,Ld,⟨⟨Kq,Kr,Ks,Kt⟩,KI⟩,⟨Ky,Kz,KA,KB⟩,⟨⟨KC,KQ⟩,KD,KE⟩,⟨KG,w_side_p_snaps⟩⟩,Lo⟩:Work) (⟨LI,LC,a_host⟩:Answer)=(⟨⟨⟨KV,KT,KU,KN,KO⟩,(5),Lj,K5,KK,⟨(LI),(LC),(a_host)⟩⟩,⟨KP,KW,Ld,⟨⟨Kq,Kr,Ks,Kt⟩,KI⟩,⟨Ky,Kz,KA,KB⟩,⟨⟨KC,KQ⟩,KD,KE⟩,⟨KG,w_side_p_snaps⟩⟩,Lo⟩:Work):=by
  unfold Yl
  rw[if_pos rfl]
 rw[e]
 clear e hz
 have w1:=trivial
 rotate_left
 have e:Yl (⟨⟨⟨KV,KT,KU,KN,KO⟩,K7,Lj,K5,KK,⟨KM,Kx,KL⟩⟩,⟨KP,KW,Ld,⟨⟨Kq,Kr,Ks,Kt⟩,KI⟩,⟨Ky,Kz,KA,KB⟩,⟨⟨KC,KQ⟩,KD,KE⟩,⟨KG,w_side_p_snaps⟩⟩,Lo⟩:Work) (⟨LI,LC,a_host⟩:Answer)=⟨⟨⟨KV,KT,KU,KN,KO⟩,5,Lj,K5,KK,⟨LI,LC,a_host⟩⟩,(endS (⟨KP,KW,Ld,⟨⟨Kq,Kr,Ks,Kt⟩,KI⟩,⟨Ky,Kz,KA,KB⟩,⟨⟨KC,KQ⟩,KD,KE⟩,⟨KG,w_side_p_snaps⟩⟩:Side) Lj).1,(endS (⟨KP,KW,Ld,⟨⟨Kq,Kr,Ks,Kt⟩,KI⟩,⟨Ky,Kz,KA,KB⟩,⟨⟨KC,KQ⟩,KD,KE⟩,⟨KG,w_side_p_snaps⟩⟩:Side) Lj).2.1⟩:=by
  unfold Yl
  rw[if_neg hst]
 rw[e]
 clear e
 have w1:=Jnz KP KW Ld Kq Kr Ks Kt KI Ky Kz KA KB KC KQ KD KE KG w_side_p_snaps Lj hz.s hz.q
 clear hz
 generalize endS (⟨KP,KW,Ld,⟨⟨Kq,Kr,Ks,Kt⟩,KI⟩,⟨Ky,Kz,KA,KB⟩,⟨⟨KC,KQ⟩,KD,KE⟩,⟨KG,w_side_p_snaps⟩⟩:Side) Lj=E at *
 all_goals
  unfold wc
  simp only
  refine CallI.goR1 Tryz.call50 Tryz.func50 rfl Tryz.ntmps50 T (congrArg Array.toList Tryz.results50) (by decide) fun ts hn h0 hg0 ho0 h1=>?_
  (repeat' (first
 | (with_reducible first|refine callX.by (w1) ?_|assumption|(refine Qw hK _ ?_;clear hK K)|refine Qw ‹_› _ ?_|refine Nx.out ‹_› ?_|refine Qi fun K hK=>?_|refine Qj T fun K hK=>?_|refine Qk (id:=2) T mixed [([14],[17,18,19,20,21,22,23,13,24,25,26,4]),([15],[18,19,20,21,22,23,13,24,25,26,4]),([16],[18,19,20,21,22,13,24,25,26,4]),([17],[14,18,19,20,21,22,24,25,26,4]),([18],[14,15,16,17,21,22,23,13,24,25,26,4]),([19],[14,15,16,17,22,23,13,24,25,26,4]),([20],[14,15,16,17,23,13,24,25,26,4]),([21],[14,15,16,17,18,13,24,25,26,4]),([22],[14,15,16,17,18,19,24,25,26,4]),([23],[14,15,18,19,20,4]),([13],[14,15,16,18,19,20,21,4]),([24],[14,15,16,17,18,19,20,21,22,25,26,4]),([25],[14,15,16,17,18,19,20,21,22,24,26,4]),([26],[14,15,16,17,18,19,20,21,22,24,25,4,5]),([4],[14,15,16,17,18,19,20,21,22,23,13,24,25,26]),([4],[25,26]),([5],[26])] (by kernel_rfl) fun K hK=>?_|refine SpecC.drawI (id:=4) T mixed 0 [([35],[36,37]),([36],[0,35,37,38,39,40]),([37],[0,35,36,38,39,40]),([38],[0,36,37]),([39],[36,37]),([40],[36,37]),([0],[36,37,38])] (by kernel_rfl) fun K hK=>?_|refine Ql fun A B hA hB=>?_|refine Qn ?_|refine Qr ?_)
 |(with_reducible first|apply Qy|apply Qz|apply QA)<;>intro hb<;>try simp only[nr] at hb
 |simp only[go_sem,↓reduceIte,Qa,Qh,Qb,Qc,Qd,Qe,Qf,Qg,reduceCtorEq, *,-w1]
 |intro(bn:Bool) hbn))
theorem Jkk(KV:Int)(KT KU:List UInt8)(KN KO:Int)(K7 Lj:Int)(K5 KK:List UInt8)(KM:Int)(Kx:List UInt8)(KL KP KW:Int)(Ld:Bool)(Kq Kr:Int)(Ks Kt:Int)(KI Ky:Int)(Kz KA:Int)(KB KC:Int)(KQ:List Res)(KD:Bool)(KE:List Res)(KG:Int)(w_side_p_snaps:List Snap)(Lo:List Frame)(hl:Jc w_side_p_snaps.length):CallI Tryz.prog 82 [.int .i64 KV,.str KT,.str KU,.int .i64 KN,.int .i64 KO,.int .i64 K7,.int .i64 Lj,.str K5,.str KK,.int .i64 KM,.str Kx,.int .i64 KL,.int .i64 KP,.int .i64 KW,.bool Ld,.int .i64 Kq,.int .i64 Kr,.int .i64 Ks,.int .i64 Kt,.int .i64 KI,.int .i64 Ky,.int .i64 Kz,.int .i64 KA,.int .i64 KB,.int .i64 KC,.slice false (Ja KQ),.bool KD,.slice false (Ja KE),.int .i64 KG,.slice false (Ja w_side_p_snaps),.slice false (Ja Lo)] [] (.slice false (Ja (VB (⟨⟨⟨KV,KT,KU,KN,KO⟩,K7,Lj,K5,KK,⟨KM,Kx,KL⟩⟩,⟨KP,KW,Ld,⟨⟨Kq,Kr,Ks,Kt⟩,KI⟩,⟨Ky,Kz,KA,KB⟩,⟨⟨KC,KQ⟩,KD,KE⟩,⟨KG,w_side_p_snaps⟩⟩,Lo⟩:Work)))) ([.int .i64 KV,.str KT,.str KU,.int .i64 KN,.int .i64 KO,.int .i64 K7,.int .i64 Lj,.str K5,.str KK,.int .i64 KM,.str Kx,.int .i64 KL,.int .i64 KP,.int .i64 KW,.bool Ld,.int .i64 Kq,.int .i64 Kr,.int .i64 Ks,.int .i64 Kt,.int .i64 KI,.int .i64 Ky,.int .i64 Kz,.int .i64 KA,.int .i64 KB,.int .i64 KC,.slice false (Ja KQ),.bool KD,.slice false (Ja KE),.int .i64 KG,.slice false (Ja w_side_p_snaps),.slice false (Ja Lo)]):=by
 have w1:=Jpm KG Lj w_side_p_snaps hl
 clear hl
 unfold VB
 simp only
 generalize Zc ⟨KG,w_side_p_snaps⟩ Lj=E at *
 refine CallI.goR0 Tryz.call82 Tryz.func82 rfl Tryz.ntmps82 T (congrArg Array.toList Tryz.results82) (by decide) fun ts hn h0 hg0 ho0=>?_
 (repeat' (first
 | (with_reducible first|refine callX.by (w1) ?_|assumption|(refine Qw hK _ ?_;clear hK K)|refine Qw ‹_› _ ?_|refine Nx.out ‹_› ?_|refine Qi fun K hK=>?_|refine Qj T fun K hK=>?_|refine Qk (id:=1) T mixed [([6],[9,10,11,12,13,14,15,16,5,17,18]),([7],[10,11,12,13,14,15,16,5,17,18]),([8],[11,12,13,14,15,16,5,17,18]),([9],[6,11,12,13,14,15,5,17,18]),([10],[6,7,11,12,13,14,15,17,18]),([11],[6,7,8,9,10,14,15,16,5,17,18]),([12],[6,7,8,9,10,15,16,5,17,18]),([13],[6,7,8,9,10,16,5,17,18]),([14],[6,7,8,9,10,11,5,17,18]),([15],[6,7,8,9,10,11,12,17,18]),([16],[6,7,8,11,12,13]),([5],[6,7,8,9,11,12,13,14]),([17],[6,7,8,9,10,11,12,13,14,15,18]),([18],[6,7,8,9,10,11,12,13,14,15,17,3]),([3],[18])] (by kernel_rfl) fun K hK=>?_|refine Ql fun A B hA hB=>?_|refine Qn ?_|refine Qr ?_)
 |(with_reducible first|apply Qy|apply Qz|apply QA)<;>intro hb<;>try simp only[nr] at hb
 |simp only[go_sem,↓reduceIte,Qa,Qh,Qb,Qc,Qd,Qe,Qf,Qg,reduceCtorEq, *,-w1]
 |intro(bn:Bool) hbn))
theorem JfF(KV:Int)(KT KU:List UInt8)(KN KO:Int)(K7 Lj:Int)(K5 KK:List UInt8)(KM:Int)(Kx:List UInt8)(KL KP KW:Int)(Ld:Bool)(Kq Kr:Int)(Ks Kt:Int)(KI Ky:Int)(Kz KA:Int)(KB KC:Int)(KQ:List Res)(KD:Bool)(KE:List Res)(KG:Int)(w_side_p_snaps:List Snap)(Lo:List Frame)(kind:Int)(name:List UInt8)(hl:Jc w_side_p_snaps.length)(hs:Jc (VB (⟨⟨⟨KV,KT,KU,KN,KO⟩,K7,Lj,K5,KK,⟨KM,Kx,KL⟩⟩,⟨KP,KW,Ld,⟨⟨Kq,Kr,Ks,Kt⟩,KI⟩,⟨Ky,Kz,KA,KB⟩,⟨⟨KC,KQ⟩,KD,KE⟩,⟨KG,w_side_p_snaps⟩⟩,Lo⟩:Work)).length):CallI Tryz.prog 83 [.int .i64 KV,.str KT,.str KU,.int .i64 KN,.int .i64 KO,.int .i64 K7,.int .i64 Lj,.str K5,.str KK,.int .i64 KM,.str Kx,.int .i64 KL,.int .i64 KP,.int .i64 KW,.bool Ld,.int .i64 Kq,.int .i64 Kr,.int .i64 Ks,.int .i64 Kt,.int .i64 KI,.int .i64 Ky,.int .i64 Kz,.int .i64 KA,.int .i64 KB,.int .i64 KC,.slice false (Ja KQ),.bool KD,.slice false (Ja KE),.int .i64 KG,.slice false (Ja w_side_p_snaps),.slice false (Ja Lo)] [.int .i64 kind,.str name] (.tup [Dat.av ((JM (VB (⟨⟨⟨KV,KT,KU,KN,KO⟩,K7,Lj,K5,KK,⟨KM,Kx,KL⟩⟩,⟨KP,KW,Ld,⟨⟨Kq,Kr,Ks,Kt⟩,KI⟩,⟨Ky,Kz,KA,KB⟩,⟨⟨KC,KQ⟩,KD,KE⟩,⟨KG,w_side_p_snaps⟩⟩,Lo⟩:Work)) ⟨kind,name⟩).getD Vj),.bool (JM (VB (⟨⟨⟨KV,KT,KU,KN,KO⟩,K7,Lj,K5,KK,⟨KM,Kx,KL⟩⟩,⟨KP,KW,Ld,⟨⟨Kq,Kr,Ks,Kt⟩,KI⟩,⟨Ky,Kz,KA,KB⟩,⟨⟨KC,KQ⟩,KD,KE⟩,⟨KG,w_side_p_snaps⟩⟩,Lo⟩:Work)) ⟨kind,name⟩).isSome]) ([.int .i64 KV,.str KT,.str KU,.int .i64 KN,.int .i64 KO,.int .i64 K7,.int .i64 Lj,.str K5,.str KK,.int .i64 KM,.str Kx,.int .i64 KL,.int .i64 KP,.int .i64 KW,.bool Ld,.int .i64 Kq,.int .i64 Kr,.int .i64 Ks,.int .i64 Kt,.int .i64 KI,.int .i64 Ky,.int .i64 Kz,.int .i64 KA,.int .i64 KB,.int .i64 KC,.slice false (Ja KQ),.bool KD,.slice false (Ja KE),.int .i64 KG,.slice false (Ja w_side_p_snaps),.slice false (Ja Lo)]):=by
 have w1:=Jkk KV KT KU KN KO K7 Lj K5 KK KM Kx KL KP KW Ld Kq Kr Ks Kt KI Ky Kz KA KB KC KQ KD KE KG w_side_p_snaps Lo hl
 have w2:=Jku (VB (⟨⟨⟨KV,KT,KU,KN,KO⟩,K7,Lj,K5,KK,⟨KM,Kx,KL⟩⟩,⟨KP,KW,Ld,⟨⟨Kq,Kr,Ks,Kt⟩,KI⟩,⟨Ky,Kz,KA,KB⟩,⟨⟨KC,KQ⟩,KD,KE⟩,⟨KG,w_side_p_snaps⟩⟩,Lo⟩:Work)) kind name hs
 clear hl hs
 generalize VB (⟨⟨⟨KV,KT,KU,KN,KO⟩,K7,Lj,K5,KK,⟨KM,Kx,KL⟩⟩,⟨KP,KW,Ld,⟨⟨Kq,Kr,Ks,Kt⟩,KI⟩,⟨Ky,Kz,KA,KB⟩,⟨⟨KC,KQ⟩,KD,KE⟩,⟨KG,w_side_p_snaps⟩⟩,Lo⟩:Work)=l at *
 generalize JM l ⟨kind,name⟩=o at *
 refine CallI.goR2 Tryz.call83 Tryz.func83 rfl Tryz.ntmps83 T (congrArg Array.toList Tryz.results83) (by decide) fun ts hn h0 hg0 ho0 h1 h2=>?_
 (repeat' (first
 | (with_reducible refine callX.io ?_ ?_ ?_ (w1);(focus(simp only[go_sem,↓reduceIte,Qa,Qh,Qb,Qc,Qd,Qe,Qf,Qg,reduceCtorEq, *,-w1,-w2];first|done|rfl));(focus(simp only[go_sem,↓reduceIte,Qa,Qh,Qb,Qc,Qd,Qe,Qf,Qg,reduceCtorEq, *,-w1,-w2];first|done|rfl)))
 | (with_reducible first|refine callX.by (w2) ?_|assumption|(refine Qw hK _ ?_;clear hK K)|refine Qw ‹_› _ ?_|refine Nx.out ‹_› ?_|refine Qi fun K hK=>?_|refine Qj T fun K hK=>?_|refine Ql fun A B hA hB=>?_|refine Qn ?_|refine Qr ?_)
 |(with_reducible first|apply Qy|apply Qz|apply QA)<;>intro hb<;>try simp only[nr] at hb
 |simp only[go_sem,↓reduceIte,Qa,Qh,Qb,Qc,Qd,Qe,Qf,Qg,reduceCtorEq, *,-w1,-w2]
 |intro(bn:Bool) hbn))
theorem Jm4(KV:Int)(KT KU:List UInt8)(KN KO:Int)(K7 Lj:Int)(K5 KK:List UInt8)(KM:Int)(Kx:List UInt8)(KL KP KW:Int)(Ld:Bool)(Kq Kr:Int)(Ks Kt:Int)(KI Ky:Int)(Kz KA:Int)(KB KC:Int)(KQ:List Res)(KD:Bool)(KE:List Res)(KG:Int)(w_side_p_snaps:List Snap)(Lo:List Frame)(hz:SzK (⟨⟨⟨KV,KT,KU,KN,KO⟩,K7,Lj,K5,KK,⟨KM,Kx,KL⟩⟩,⟨KP,KW,Ld,⟨⟨Kq,Kr,Ks,Kt⟩,KI⟩,⟨Ky,Kz,KA,KB⟩,⟨⟨KC,KQ⟩,KD,KE⟩,⟨KG,w_side_p_snaps⟩⟩,Lo⟩:Work)):CallI Tryz.prog 46 [.int .i64 KV,.str KT,.str KU,.int .i64 KN,.int .i64 KO,.int .i64 K7,.int .i64 Lj,.str K5,.str KK,.int .i64 KM,.str Kx,.int .i64 KL,.int .i64 KP,.int .i64 KW,.bool Ld,.int .i64 Kq,.int .i64 Kr,.int .i64 Ks,.int .i64 Kt,.int .i64 KI,.int .i64 Ky,.int .i64 Kz,.int .i64 KA,.int .i64 KB,.int .i64 KC,.slice false (Ja KQ),.bool KD,.slice false (Ja KE),.int .i64 KG,.slice false (Ja w_side_p_snaps),.slice false (Ja Lo)] [] (.tup []) (wc (Jao (⟨⟨⟨KV,KT,KU,KN,KO⟩,K7,Lj,K5,KK,⟨KM,Kx,KL⟩⟩,⟨KP,KW,Ld,⟨⟨Kq,Kr,Ks,Kt⟩,KI⟩,⟨Ky,Kz,KA,KB⟩,⟨⟨KC,KQ⟩,KD,KE⟩,⟨KG,w_side_p_snaps⟩⟩,Lo⟩:Work))):=by
 have w1:=Jm3 KP KW Ld Kq Kr Ks Kt KI Ky Kz KA KB KC KQ KD KE KG w_side_p_snaps hz.s
 have w2:=JbW KV KT KU KN KO K7 Lj K5 KK KM Kx KL KP KW Ld Kq Kr Ks Kt KI Ky Kz KA KB KC KQ KD KE KG w_side_p_snaps Lo 0 [] 0 hz
 unfold Jao
 clear hz
 simp only
 generalize Vs (Jr (⟨KP,KW,Ld,⟨⟨Kq,Kr,Ks,Kt⟩,KI⟩,⟨Ky,Kz,KA,KB⟩,⟨⟨KC,KQ⟩,KD,KE⟩,⟨KG,w_side_p_snaps⟩⟩:Side)).p=p at *
 generalize Vk (⟨KP,KW,Ld,⟨⟨Kq,Kr,Ks,Kt⟩,KI⟩,⟨Ky,Kz,KA,KB⟩,⟨⟨KC,KQ⟩,KD,KE⟩,⟨KG,w_side_p_snaps⟩⟩:Side)=b at *
 by_cases he:p.2.2=0
 rw[if_pos he]
 clear w2
 have w2:=trivial
 unfold wc
 simp only
 rotate_left
 rw[if_neg he]
 all_goals
  refine CallI.goR0 Tryz.call46 Tryz.func46 rfl Tryz.ntmps46 T (congrArg Array.toList Tryz.results46) (by decide) fun ts hn h0 hg0 ho0=>?_
  (repeat' (first
 |with_reducible refine callX.by (w1) ?_
 | (with_reducible refine callX.io ?_ ?_ ?_ (w2);(focus(simp only[go_sem,↓reduceIte,Qa,Qh,Qb,Qc,Qd,Qe,Qf,Qg,reduceCtorEq, *,-w1,-w2,Vu];first|done|rfl));(focus(simp only[go_sem,↓reduceIte,Qa,Qh,Qb,Qc,Qd,Qe,Qf,Qg,reduceCtorEq, *,-w1,-w2,Vu];first|done|rfl)))
 | (with_reducible first|assumption|(refine Qw hK _ ?_;clear hK K)|refine Qw ‹_› _ ?_|refine Nx.out ‹_› ?_|refine Qi fun K hK=>?_|refine Qj T fun K hK=>?_|refine Ql fun A B hA hB=>?_|refine Qn ?_|refine Qr ?_)
 |(with_reducible first|apply Qy|apply Qz|apply QA)<;>intro hb<;>try simp only[nr] at hb
 |simp only[go_sem,↓reduceIte,Qa,Qh,Qb,Qc,Qd,Qe,Qf,Qg,reduceCtorEq, *,-w1,-w2,Vu]
 |intro(bn:Bool) hbn))
theorem JoG(KV:Int)(KT KU:List UInt8)(KN KO:Int)(K7 Lj:Int)(K5 KK:List UInt8)(KM:Int)(Kx:List UInt8)(KL KP KW:Int)(Ld:Bool)(Kq Kr:Int)(Ks Kt:Int)(KI Ky:Int)(Kz KA:Int)(KB KC:Int)(KQ:List Res)(KD:Bool)(KE:List Res)(KG:Int)(w_side_p_snaps:List Snap)(Lo:List Frame)(hz:SzK (⟨⟨⟨KV,KT,KU,KN,KO⟩,K7,Lj,K5,KK,⟨KM,Kx,KL⟩⟩,⟨KP,KW,Ld,⟨⟨Kq,Kr,Ks,Kt⟩,KI⟩,⟨Ky,Kz,KA,KB⟩,⟨⟨KC,KQ⟩,KD,KE⟩,⟨KG,w_side_p_snaps⟩⟩,Lo⟩:Work)):CallI Tryz.prog 47 [.int .i64 KV,.str KT,.str KU,.int .i64 KN,.int .i64 KO,.int .i64 K7,.int .i64 Lj,.str K5,.str KK,.int .i64 KM,.str Kx,.int .i64 KL,.int .i64 KP,.int .i64 KW,.bool Ld,.int .i64 Kq,.int .i64 Kr,.int .i64 Ks,.int .i64 Kt,.int .i64 KI,.int .i64 Ky,.int .i64 Kz,.int .i64 KA,.int .i64 KB,.int .i64 KC,.slice false (Ja KQ),.bool KD,.slice false (Ja KE),.int .i64 KG,.slice false (Ja w_side_p_snaps),.slice false (Ja Lo)] [] (.tup []) (wc (Jbh (⟨⟨⟨KV,KT,KU,KN,KO⟩,K7,Lj,K5,KK,⟨KM,Kx,KL⟩⟩,⟨KP,KW,Ld,⟨⟨Kq,Kr,Ks,Kt⟩,KI⟩,⟨Ky,Kz,KA,KB⟩,⟨⟨KC,KQ⟩,KD,KE⟩,⟨KG,w_side_p_snaps⟩⟩,Lo⟩:Work))):=by
 have w1:=Jkk KV KT KU KN KO K7 Lj K5 KK KM Kx KL KP KW Ld Kq Kr Ks Kt KI Ky Kz KA KB KC KQ KD KE KG w_side_p_snaps Lo hz.s.p.n
 have w2:=Jbi (VB (⟨⟨⟨KV,KT,KU,KN,KO⟩,K7,Lj,K5,KK,⟨KM,Kx,KL⟩⟩,⟨KP,KW,Ld,⟨⟨Kq,Kr,Ks,Kt⟩,KI⟩,⟨Ky,Kz,KA,KB⟩,⟨⟨KC,KQ⟩,KD,KE⟩,⟨KG,w_side_p_snaps⟩⟩,Lo⟩:Work)) KV hz.snap.1
 have w3:=JbW KV KT KU KN KO K7 Lj K5 KK KM Kx KL KP KW Ld Kq Kr Ks Kt KI Ky Kz KA KB KC KQ KD KE KG w_side_p_snaps Lo 1 [] 0 hz
 unfold Jbh
 clear hz
 simp only
 generalize VB (⟨⟨⟨KV,KT,KU,KN,KO⟩,K7,Lj,K5,KK,⟨KM,Kx,KL⟩⟩,⟨KP,KW,Ld,⟨⟨Kq,Kr,Ks,Kt⟩,KI⟩,⟨Ky,Kz,KA,KB⟩,⟨⟨KC,KQ⟩,KD,KE⟩,⟨KG,w_side_p_snaps⟩⟩,Lo⟩:Work)=l at *
 cases ho:ZN l KV
 rw[ho] at w2
 rotate_left
 rename_i x
 rw[ho] at w2
 clear w3
 have w3:=trivial
 simp only
 unfold wc
 simp only
 all_goals
  simp only[Option.getD_none,Option.isSome_none,Option.getD_some,Option.isSome_some] at w2
  refine CallI.goR0 Tryz.call47 Tryz.func47 rfl Tryz.ntmps47 T (congrArg Array.toList Tryz.results47) (by decide) fun ts hn h0 hg0 ho0=>?_
  (repeat' (first
 | (with_reducible refine callX.ior ?_ ?_ ?_ (w1);(focus(simp only[go_sem,↓reduceIte,Qa,Qh,Qb,Qc,Qd,Qe,Qf,Qg,reduceCtorEq, *,-w1,-w2,-w3,Vu,Option.getD_none,Option.isSome_none];first|done|rfl));(focus(simp only[go_sem,↓reduceIte,Qa,Qh,Qb,Qc,Qd,Qe,Qf,Qg,reduceCtorEq, *,-w1,-w2,-w3,Vu,Option.getD_none,Option.isSome_none];first|done|rfl)))
 |with_reducible refine callX.by (w2) ?_
 | (with_reducible refine callX.io ?_ ?_ ?_ (w3);(focus(simp only[go_sem,↓reduceIte,Qa,Qh,Qb,Qc,Qd,Qe,Qf,Qg,reduceCtorEq, *,-w1,-w2,-w3,Vu,Option.getD_none,Option.isSome_none];first|done|rfl));(focus(simp only[go_sem,↓reduceIte,Qa,Qh,Qb,Qc,Qd,Qe,Qf,Qg,reduceCtorEq, *,-w1,-w2,-w3,Vu,Option.getD_none,Option.isSome_none];first|done|rfl)))
 | (with_reducible first|assumption|(refine Qw hK _ ?_;clear hK K)|refine Qw ‹_› _ ?_|refine Nx.out ‹_› ?_|refine Qi fun K hK=>?_|refine Qj T fun K hK=>?_|refine Qk (id:=0) T mixed [([5],[7,8,9,10,11,12,4,14,15,2]),([6],[7,8,9,10,11,12,14,15,2]),([7],[5,6,10,11,12,13,4,14,15,2]),([8],[5,6,11,12,13,4,14,15,2]),([9],[5,6,12,13,4,14,15,2]),([10],[5,6,7,13,4,14,15,2]),([11],[5,6,7,8,4,14,15,2]),([12],[5,6,7,8,9,14,15,2]),([13],[7,8,9,10,2]),([4],[5,7,8,9,10,11,2]),([14],[5,6,7,8,9,10,11,12,15,2]),([15],[5,6,7,8,9,10,11,12,14,2]),([2],[5,6,7,8,9,10,11,12,13,4,14,15]),([2],[15])] (by kernel_rfl) fun K hK=>?_|refine Ql fun A B hA hB=>?_|refine Qn ?_|refine Qr ?_)
 |(with_reducible first|apply Qy|apply Qz|apply QA)<;>intro hb<;>try simp only[nr] at hb
 |simp only[go_sem,↓reduceIte,Qa,Qh,Qb,Qc,Qd,Qe,Qf,Qg,reduceCtorEq, *,-w1,-w2,-w3,Vu,Option.getD_none,Option.isSome_none]
 |intro(bn:Bool) hbn))
theorem Jkv{l:List Res}(hs:∀r∈l,Jw r)(k:Key):Jc ((JM l k).getD Vj).rules'.length∧(∀y∈((JM l k).getD Vj).rules',Yh y)∧Jc ((JM l k).getD Vj).hosts.length:=by
 obtain⟨_,_,h1,h2,h3⟩:=Jq4 hs k
 exact⟨h1,h2,h3⟩
theorem Jqd(l:List Res)(to' h p:List UInt8):V0 l to' h p=if(JM l ⟨1,to'⟩).isSome=true then ZQ ((JM l ⟨1,to'⟩).getD Vj).rules' h p else none:=by
 unfold V0
 cases JM l ⟨1,to'⟩<;>rfl
theorem JqT{l:List Rule}{h p:List UInt8}(hs:∀y∈l,Yh y):Jc ((ZQ l h p).getD JaU).split.length:=by
 cases e:ZQ l h p with
 |none=>simp[JaU,Jc]
 |some r=>exact(hs r (Jjo e)).2.2.1
theorem Jp9(KV:Int)(KT KU:List UInt8)(KN KO:Int)(K7 Lj:Int)(K5 KK:List UInt8)(KM:Int)(Kx:List UInt8)(KL KP KW:Int)(Ld:Bool)(Kq Kr:Int)(Ks Kt:Int)(KI Ky:Int)(Kz KA:Int)(KB KC:Int)(KQ:List Res)(KD:Bool)(KE:List Res)(KG:Int)(w_side_p_snaps:List Snap)(Lo:List Frame)(hz:SzK (⟨⟨⟨KV,KT,KU,KN,KO⟩,K7,Lj,K5,KK,⟨KM,Kx,KL⟩⟩,⟨KP,KW,Ld,⟨⟨Kq,Kr,Ks,Kt⟩,KI⟩,⟨Ky,Kz,KA,KB⟩,⟨⟨KC,KQ⟩,KD,KE⟩,⟨KG,w_side_p_snaps⟩⟩,Lo⟩:Work)):CallI Tryz.prog 48 [.int .i64 KV,.str KT,.str KU,.int .i64 KN,.int .i64 KO,.int .i64 K7,.int .i64 Lj,.str K5,.str KK,.int .i64 KM,.str Kx,.int .i64 KL,.int .i64 KP,.int .i64 KW,.bool Ld,.int .i64 Kq,.int .i64 Kr,.int .i64 Ks,.int .i64 Kt,.int .i64 KI,.int .i64 Ky,.int .i64 Kz,.int .i64 KA,.int .i64 KB,.int .i64 KC,.slice false (Ja KQ),.bool KD,.slice false (Ja KE),.int .i64 KG,.slice false (Ja w_side_p_snaps),.slice false (Ja Lo)] [] (.tup []) (wc (JbB (⟨⟨⟨KV,KT,KU,KN,KO⟩,K7,Lj,K5,KK,⟨KM,Kx,KL⟩⟩,⟨KP,KW,Ld,⟨⟨Kq,Kr,Ks,Kt⟩,KI⟩,⟨Ky,Kz,KA,KB⟩,⟨⟨KC,KQ⟩,KD,KE⟩,⟨KG,w_side_p_snaps⟩⟩,Lo⟩:Work))):=by
 have w1:=JfF KV KT KU KN KO K7 Lj K5 KK KM Kx KL KP KW Ld Kq Kr Ks Kt KI Ky Kz KA KB KC KQ KD KE KG w_side_p_snaps Lo 1 K5 hz.s.p.n hz.snap.1
 obtain⟨s1,s2,_⟩:=Jkv hz.snap.2 ⟨1,K5⟩
 have w2:=Jex _ KT KU s1 s2 hz.h
 have w3:=Jbq _ KN (JqT (h:=KT) (p:=KU) s2)
 have w4:=JbW KV KT KU KN KO K7 Lj K5 KK KM Kx KL KP KW Ld Kq Kr Ks Kt KI Ky Kz KA KB KC KQ KD KE KG w_side_p_snaps Lo 2 [] 0 hz
 have w5:=JbW KV KT KU KN KO K7 Lj K5 KK KM Kx KL KP KW Ld Kq Kr Ks Kt KI Ky Kz KA KB KC KQ KD KE KG w_side_p_snaps Lo 0 [] 0 hz
 unfold JbB
 rw[Jqd]
 clear hz s1 s2
 simp only
 generalize VB (⟨⟨⟨KV,KT,KU,KN,KO⟩,K7,Lj,K5,KK,⟨KM,Kx,KL⟩⟩,⟨KP,KW,Ld,⟨⟨Kq,Kr,Ks,Kt⟩,KI⟩,⟨Ky,Kz,KA,KB⟩,⟨⟨KC,KQ⟩,KD,KE⟩,⟨KG,w_side_p_snaps⟩⟩,Lo⟩:Work)=l at *
 generalize JM l ⟨1,K5⟩=o at *
 generalize ZQ (o.getD Vj).rules' KT KU=q at *
 cases o
 simp only[Option.isSome_none,Bool.false_eq_true,↓reduceIte]
 simp only[Option.getD_none,Option.isSome_none,Option.getD_some,Option.isSome_some] at w1 w2
 clear w3 w5
 have w3:=trivial
 have w5:=trivial
 rotate_left
 simp only[Option.isSome_some,↓reduceIte]
 simp only[Option.getD_none,Option.isSome_none,Option.getD_some,Option.isSome_some] at w1 w2
 cases q
 simp only[Option.getD_none,Option.isSome_none,Option.getD_some,Option.isSome_some] at w2
 clear w3 w5
 have w3:=trivial
 have w5:=trivial
 rotate_left
 rename_i r
 simp only[Option.getD_none,Option.isSome_none,Option.getD_some,Option.isSome_some] at w2 w3
 simp only
 generalize Yz r.split KN=c at *
 cases c
 simp only[Option.getD_none,Option.isSome_none,Option.getD_some,Option.isSome_some] at w3
 clear w4
 have w4:=trivial
 rotate_left
 simp only[Option.getD_none,Option.isSome_none,Option.getD_some,Option.isSome_some] at w3
 clear w4 w5
 have w4:=trivial
 have w5:=trivial
 simp only
 unfold wc
 simp only
 all_goals
  refine CallI.goR0 Tryz.call48 Tryz.func48 rfl Tryz.ntmps48 T (congrArg Array.toList Tryz.results48) (by decide) fun ts hn h0 hg0 ho0=>?_
  (repeat' (first
 | (with_reducible refine callX.io ?_ ?_ ?_ (w1);(focus(simp only[go_sem,↓reduceIte,Qa,Qh,Qb,Qc,Qd,Qe,Qf,Qg,reduceCtorEq, *,-w1,-w2,-w3,-w4,-w5,Vu,Option.getD_none,Option.isSome_none,Option.getD_some,Option.isSome_some];first|done|rfl));(focus(simp only[go_sem,↓reduceIte,Qa,Qh,Qb,Qc,Qd,Qe,Qf,Qg,reduceCtorEq, *,-w1,-w2,-w3,-w4,-w5,Vu,Option.getD_none,Option.isSome_none,Option.getD_some,Option.isSome_some];first|done|rfl)))
 | (with_reducible first|refine callX.by (w2) ?_|refine callX.by (w3) ?_)
 | (with_reducible refine callX.io ?_ ?_ ?_ (w4);(focus(simp only[go_sem,↓reduceIte,Qa,Qh,Qb,Qc,Qd,Qe,Qf,Qg,reduceCtorEq, *,-w1,-w2,-w3,-w4,-w5,Vu,Option.getD_none,Option.isSome_none,Option.getD_some,Option.isSome_some];first|done|rfl));(focus(simp only[go_sem,↓reduceIte,Qa,Qh,Qb,Qc,Qd,Qe,Qf,Qg,reduceCtorEq, *,-w1,-w2,-w3,-w4,-w5,Vu,Option.getD_none,Option.isSome_none,Option.getD_some,Option.isSome_some];first|done|rfl)))
 | (with_reducible refine callX.io ?_ ?_ ?_ (w5);(focus(simp only[go_sem,↓reduceIte,Qa,Qh,Qb,Qc,Qd,Qe,Qf,Qg,reduceCtorEq, *,-w1,-w2,-w3,-w4,-w5,Vu,Option.getD_none,Option.isSome_none,Option.getD_some,Option.isSome_some];first|done|rfl));(focus(simp only[go_sem,↓reduceIte,Qa,Qh,Qb,Qc,Qd,Qe,Qf,Qg,reduceCtorEq, *,-w1,-w2,-w3,-w4,-w5,Vu,Option.getD_none,Option.isSome_none,Option.getD_some,Option.isSome_some];first|done|rfl)))
 | (with_reducible first|assumption|(refine Qw hK _ ?_;clear hK K)|refine Qw ‹_› _ ?_|refine Nx.out ‹_› ?_|refine Qi fun K hK=>?_|refine Qj T fun K hK=>?_|refine Qk (id:=1) T mixed [([18],[20,21,22,23,24,25,26,27,28,29,30,31,17,33,34,4]),([19],[20,21,22,23,24,25,26,27,28,29,30,31,33,34,4]),([20],[18,19,23,24,25,26,27,28,29,30,31,32,17,33,34,4]),([21],[18,19,24,25,26,27,28,29,30,31,32,17,33,34,4]),([22],[18,19,25,26,27,28,29,30,31,32,17,33,34,4]),([23],[18,19,20,26,27,28,29,30,31,32,17,33,34,4]),([24],[18,19,20,21,26,27,28,29,30,31,17,33,34,4]),([25],[18,19,20,21,22,26,27,28,29,30,31,33,34,4]),([26],[18,19,20,21,22,23,24,25,29,30,31,32,17,33,34,4]),([27],[18,19,20,21,22,23,24,25,30,31,32,17,33,34,4]),([28],[18,19,20,21,22,23,24,25,31,32,17,33,34,4]),([29],[18,19,20,21,22,23,24,25,26,32,17,33,34,4]),([30],[18,19,20,21,22,23,24,25,26,27,17,33,34,4]),([31],[18,19,20,21,22,23,24,25,26,27,28,33,34,4]),([32],[20,21,22,23,26,27,28,29,4]),([17],[18,20,21,22,23,24,26,27,28,29,30,4]),([33],[18,19,20,21,22,23,24,25,26,27,28,29,30,31,34,4]),([34],[18,19,20,21,22,23,24,25,26,27,28,29,30,31,33,4]),([4],[18,19,20,21,22,23,24,25,26,27,28,29,30,31,32,17,33,34]),([4],[34])] (by kernel_rfl) fun K hK=>?_|refine Qk (id:=4) T mixed [([45],[47,48,49,50,51,52,44,54,55]),([46],[47,48,49,50,51,52,54,55]),([47],[45,46,50,51,52,53,44,54,55]),([48],[45,46,51,52,53,44,54,55]),([49],[45,46,52,53,44,54,55]),([50],[45,46,47,53,44,54,55]),([51],[45,46,47,48,44,54,55]),([52],[45,46,47,48,49,54,55]),([53],[47,48,49,50]),([44],[45,47,48,49,50,51]),([54],[45,46,47,48,49,50,51,52,55]),([55],[45,46,47,48,49,50,51,52,54,6]),([6],[55])] (by kernel_rfl) fun K hK=>?_|refine Ql fun A B hA hB=>?_|refine Qn ?_|refine Qr ?_)
 |(with_reducible first|apply Qy|apply Qz|apply QA)<;>intro hb<;>try simp only[nr] at hb
 |simp only[go_sem,↓reduceIte,Qa,Qh,Qb,Qc,Qd,Qe,Qf,Qg,reduceCtorEq, *,-w1,-w2,-w3,-w4,-w5,Vu,Option.getD_none,Option.isSome_none,Option.getD_some,Option.isSome_some]
 |intro(bn:Bool) hbn))
theorem Jnq(l:List Res)(c:List UInt8)(n:Int):Yc (Vo l c).1 n=if(JM l ⟨2,c⟩).isSome=true∧(JM l ⟨3,((JM l ⟨2,c⟩).getD Vj).to'⟩).isSome=true then Yc ((JM l ⟨3,((JM l ⟨2,c⟩).getD Vj).to'⟩).getD Vj).hosts n else none:=by
 unfold Vo
 cases JM l ⟨2,c⟩ with
 |none=>simp[Yc]
 |some x =>
  simp only[Option.isSome_some,Option.getD_some,true_and]
  cases JM l ⟨3,x.to'⟩ with
  |none=>simp[Yc]
  |some e=>simp
theorem Jnp(KV:Int)(KT KU:List UInt8)(KN KO:Int)(K7 Lj:Int)(K5 KK:List UInt8)(KM:Int)(Kx:List UInt8)(KL KP KW:Int)(Ld:Bool)(Kq Kr:Int)(Ks Kt:Int)(KI Ky:Int)(Kz KA:Int)(KB KC:Int)(KQ:List Res)(KD:Bool)(KE:List Res)(KG:Int)(w_side_p_snaps:List Snap)(Lo:List Frame)(hz:SzK (⟨⟨⟨KV,KT,KU,KN,KO⟩,K7,Lj,K5,KK,⟨KM,Kx,KL⟩⟩,⟨KP,KW,Ld,⟨⟨Kq,Kr,Ks,Kt⟩,KI⟩,⟨Ky,Kz,KA,KB⟩,⟨⟨KC,KQ⟩,KD,KE⟩,⟨KG,w_side_p_snaps⟩⟩,Lo⟩:Work)):CallI Tryz.prog 49 [.int .i64 KV,.str KT,.str KU,.int .i64 KN,.int .i64 KO,.int .i64 K7,.int .i64 Lj,.str K5,.str KK,.int .i64 KM,.str Kx,.int .i64 KL,.int .i64 KP,.int .i64 KW,.bool Ld,.int .i64 Kq,.int .i64 Kr,.int .i64 Ks,.int .i64 Kt,.int .i64 KI,.int .i64 Ky,.int .i64 Kz,.int .i64 KA,.int .i64 KB,.int .i64 KC,.slice false (Ja KQ),.bool KD,.slice false (Ja KE),.int .i64 KG,.slice false (Ja w_side_p_snaps),.slice false (Ja Lo)] [] (.tup []) (wc (Ja0 (⟨⟨⟨KV,KT,KU,KN,KO⟩,K7,Lj,K5,KK,⟨KM,Kx,KL⟩⟩,⟨KP,KW,Ld,⟨⟨Kq,Kr,Ks,Kt⟩,KI⟩,⟨Ky,Kz,KA,KB⟩,⟨⟨KC,KQ⟩,KD,KE⟩,⟨KG,w_side_p_snaps⟩⟩,Lo⟩:Work))):=by
 have w1:=JfF KV KT KU KN KO K7 Lj K5 KK KM Kx KL KP KW Ld Kq Kr Ks Kt KI Ky Kz KA KB KC KQ KD KE KG w_side_p_snaps Lo 2 KK hz.s.p.n hz.snap.1
 have w2:=JfF KV KT KU KN KO K7 Lj K5 KK KM Kx KL KP KW Ld Kq Kr Ks Kt KI Ky Kz KA KB KC KQ KD KE KG w_side_p_snaps Lo 3 ((JM (VB (⟨⟨⟨KV,KT,KU,KN,KO⟩,K7,Lj,K5,KK,⟨KM,Kx,KL⟩⟩,⟨KP,KW,Ld,⟨⟨Kq,Kr,Ks,Kt⟩,KI⟩,⟨Ky,Kz,KA,KB⟩,⟨⟨KC,KQ⟩,KD,KE⟩,⟨KG,w_side_p_snaps⟩⟩,Lo⟩:Work)) ⟨2,KK⟩).getD Vj).to' hz.s.p.n hz.snap.1
 obtain⟨_,_,s1⟩:=Jkv hz.snap.2 ⟨3,((JM (VB (⟨⟨⟨KV,KT,KU,KN,KO⟩,K7,Lj,K5,KK,⟨KM,Kx,KL⟩⟩,⟨KP,KW,Ld,⟨⟨Kq,Kr,Ks,Kt⟩,KI⟩,⟨Ky,Kz,KA,KB⟩,⟨⟨KC,KQ⟩,KD,KE⟩,⟨KG,w_side_p_snaps⟩⟩,Lo⟩:Work)) ⟨2,KK⟩).getD Vj).to'⟩
 have w3:=Jbr _ KO s1
 have w4:=JbW KV KT KU KN KO K7 Lj K5 KK KM Kx KL KP KW Ld Kq Kr Ks Kt KI Ky Kz KA KB KC KQ KD KE KG w_side_p_snaps Lo 0 [] 0 hz
 unfold Ja0
 rw[Jnq]
 clear hz s1
 simp only
 generalize VB (⟨⟨⟨KV,KT,KU,KN,KO⟩,K7,Lj,K5,KK,⟨KM,Kx,KL⟩⟩,⟨KP,KW,Ld,⟨⟨Kq,Kr,Ks,Kt⟩,KI⟩,⟨Ky,Kz,KA,KB⟩,⟨⟨KC,KQ⟩,KD,KE⟩,⟨KG,w_side_p_snaps⟩⟩,Lo⟩:Work)=l at *
 generalize JM l ⟨2,KK⟩=o at *
 generalize JM l ⟨3,(o.getD Vj).to'⟩=u at *
 generalize Yc (u.getD Vj).hosts KO=q at *
 by_cases hc:(o.isSome=true∧u.isSome=true)∧q.isSome=true
 obtain⟨⟨c1,c2⟩,c3⟩:=hc
 rw[if_pos ⟨c1,c2⟩]
 clear w4
 have w4:=trivial
 obtain⟨n,rfl⟩:=Option.isSome_iff_exists.1 c3
 simp only
 simp only[Option.getD_none,Option.isSome_none,Option.getD_some,Option.isSome_some] at w3
 rw[c1] at w1
 rw[c2] at w2
 clear c1 c2 c3
 unfold wc
 simp only
 rotate_left
 cases o<;>cases u<;>cases q<;>simp only[Option.getD_none,Option.isSome_none,Option.getD_some,Option.isSome_some,and_self,and_false,false_and,and_true,true_and,Bool.false_eq_true,↓reduceIte,not_true_eq_false,not_false_eq_true] at hc w1 w2 w3 ⊢
 all_goals
  refine CallI.goR0 Tryz.call49 Tryz.func49 rfl Tryz.ntmps49 T (congrArg Array.toList Tryz.results49) (by decide) fun ts hn h0 hg0 ho0=>?_
  (repeat' (first
 | (with_reducible refine callX.io ?_ ?_ ?_ (w1);(focus(simp only[go_sem,↓reduceIte,Qa,Qh,Qb,Qc,Qd,Qe,Qf,Qg,reduceCtorEq, *,-w1,-w2,-w3,-w4,Vu,Option.getD_none,Option.isSome_none,Option.getD_some,Option.isSome_some];first|done|rfl));(focus(simp only[go_sem,↓reduceIte,Qa,Qh,Qb,Qc,Qd,Qe,Qf,Qg,reduceCtorEq, *,-w1,-w2,-w3,-w4,Vu,Option.getD_none,Option.isSome_none,Option.getD_some,Option.isSome_some];first|done|rfl)))
 | (with_reducible refine callX.io ?_ ?_ ?_ (w2);(focus(simp only[go_sem,↓reduceIte,Qa,Qh,Qb,Qc,Qd,Qe,Qf,Qg,reduceCtorEq, *,-w1,-w2,-w3,-w4,Vu,Option.getD_none,Option.isSome_none,Option.getD_some,Option.isSome_some];first|done|rfl));(focus(simp only[go_sem,↓reduceIte,Qa,Qh,Qb,Qc,Qd,Qe,Qf,Qg,reduceCtorEq, *,-w1,-w2,-w3,-w4,Vu,Option.getD_none,Option.isSome_none,Option.getD_some,Option.isSome_some];first|done|rfl)))
 |with_reducible refine callX.by (w3) ?_
 | (with_reducible refine callX.io ?_ ?_ ?_ (w4);(focus(simp only[go_sem,↓reduceIte,Qa,Qh,Qb,Qc,Qd,Qe,Qf,Qg,reduceCtorEq, *,-w1,-w2,-w3,-w4,Vu,Option.getD_none,Option.isSome_none,Option.getD_some,Option.isSome_some];first|done|rfl));(focus(simp only[go_sem,↓reduceIte,Qa,Qh,Qb,Qc,Qd,Qe,Qf,Qg,reduceCtorEq, *,-w1,-w2,-w3,-w4,Vu,Option.getD_none,Option.isSome_none,Option.getD_some,Option.isSome_some];first|done|rfl)))
 | (with_reducible first|assumption|(refine Qw hK _ ?_;clear hK K)|refine Qw ‹_› _ ?_|refine Nx.out ‹_› ?_|refine Qi fun K hK=>?_|refine Qj T fun K hK=>?_|refine Qk (id:=2) T mixed [([26],[28,29,30,31,32,33,25,35,36]),([27],[28,29,30,31,32,33,35,36]),([28],[26,27,31,32,33,34,25,35,36]),([29],[26,27,32,33,34,25,35,36]),([30],[26,27,33,34,25,35,36]),([31],[26,27,28,34,25,35,36]),([32],[26,27,28,29,25,35,36]),([33],[26,27,28,29,30,35,36]),([34],[28,29,30,31]),([25],[26,28,29,30,31,32]),([35],[26,27,28,29,30,31,32,33,36]),([36],[26,27,28,29,30,31,32,33,35,6]),([6],[36])] (by kernel_rfl) fun K hK=>?_|refine Ql fun A B hA hB=>?_|refine Qn ?_|refine Qr ?_)
 |(with_reducible first|apply Qy|apply Qz|apply QA)<;>intro hb<;>try simp only[nr] at hb
 |simp only[go_sem,↓reduceIte,Qa,Qh,Qb,Qc,Qd,Qe,Qf,Qg,reduceCtorEq, *,-w1,-w2,-w3,-w4,Vu,Option.getD_none,Option.isSome_none,Option.getD_some,Option.isSome_some]
 |intro(bn:Bool) hbn))
end Go.Proofs.YthjalhfmpffbjaaGreatDoor.Lg
