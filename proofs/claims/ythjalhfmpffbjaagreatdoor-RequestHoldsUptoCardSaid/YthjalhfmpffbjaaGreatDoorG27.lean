/- Parts of the proof, one behind the other. -/
import Derived.Test.YthjalhfmpffbjaaGreatDoorG26
set_option linter.unusedVariables false
set_option linter.unusedSimpArgs false
set_option maxRecDepth 100000
set_option maxHeartbeats 64000000
namespace Go.Proofs.YthjalhfmpffbjaaGreatDoor.Lg
open Go
open Tryz
open Nat renaming reduceEqDiff → Qa, reduceLT → Qb, reduceLeDiff → Qc, reduceAdd → Qd, reduceMul → Qe, reduceSub → Qf, reduceBEq → Qg
open String renaming reduceEq → Qh
open SpecC renaming seqW → Qi, regW → Qj, drawW → Qk, condW → Ql, skip → Qn, ret → Qr
open NxK renaming out → Qw
open condK renaming split → Qy
open gK renaming split_t → Qz, split_f → QA
def wc(w:Work):List AV:=[.int .i64 w.req.a.port,.str w.req.a.host,.str w.req.a.path,.int .i64 w.req.a.first,.int .i64 w.req.a.other,.int .i64 w.req.stage,.int .i64 w.req.id,.str w.req.route,.str w.req.cluster,.int .i64 w.req.out.what,.str w.req.out.cluster,.int .i64 w.req.out.host,.int .i64 w.side.epoch,.int .i64 w.side.turn,.bool w.side.up,.int .i64 w.side.in'.last.a0,.int .i64 w.side.in'.last.a1,.int .i64 w.side.in'.last.a2,.int .i64 w.side.in'.last.a3,.int .i64 w.side.in'.max,.int .i64 w.side.errs.a0,.int .i64 w.side.errs.a1,.int .i64 w.side.errs.a2,.int .i64 w.side.errs.a3,.int .i64 w.side.w.c.cap,.slice false (Ja w.side.w.c.l),.bool w.side.w.ready,.slice false (Ja w.side.w.shown),.int .i64 w.side.p.next',.slice false (Ja w.side.p.snaps),.slice false (Ja w.told)]
theorem Vr(w:Work):AV.pure.pureL (wc w)=true:=by simp[wc,AV.pure,AV.pure.pureL,JpJ]
def VB(w:Work):List Res:=(VO w.side.p w.req.id).1
def V5(w:Work)(a:Answer):Work :=
 if w.req.stage=0 then ⟨⟨w.req.a,5,w.req.id,w.req.route,w.req.cluster,a⟩,w.side,w.told⟩
 else ⟨⟨w.req.a,5,w.req.id,w.req.route,w.req.cluster,a⟩,(endS w.side w.req.id).1,(endS w.side w.req.id).2.1⟩
def Jao(w:Work):Work :=
 if(Vn (Jr w.side).p).2.2=0 then ⟨⟨w.req.a,1,(Vn (Jr w.side).p).2.1,w.req.route,w.req.cluster,w.req.out⟩,Vi w.side,w.told⟩ else V5 w ⟨0,[],0⟩
def Jbj(w:Work):Work :=
 match JaE (VB w) w.req.a.port with
 |none=>V5 w ⟨1,[],0⟩
 |some x=>⟨⟨w.req.a,2,w.req.id,x.to',w.req.cluster,w.req.out⟩,w.side,w.told⟩
def Jbx(w:Work):Work :=
 match JaP (VB w) w.req.route w.req.a.host w.req.a.path with
 |none=>V5 w ⟨2,[],0⟩
 |some r=>match YV r.split w.req.a.first with
  |none=>V5 w ⟨0,[],0⟩
  |some c=>⟨⟨w.req.a,3,w.req.id,w.req.route,c,w.req.out⟩,w.side,w.told⟩
def Ja2(w:Work):Work :=
 match Yw (JbT (VB w) w.req.cluster).1 w.req.a.other with
 |none=>V5 w ⟨0,[],0⟩
 |some h=>⟨⟨w.req.a,4,w.req.id,w.req.route,w.req.cluster,⟨3,w.req.cluster,h⟩⟩,w.side,w.told⟩
structure SzK(w:Work):Prop where
 s:SzS w.side
 q:SzP (J6 (Jr w.side).p w.req.id).1
 h:Jc w.req.a.host.length
theorem SzK.snap{w:Work}(h:SzK w):Jc (VB w).length∧∀r∈VB w,Jy r:=by
 unfold VB
 rw[Jdd]
 exact Jkl h.s.p.s
theorem JbS(KV:Int)(KT KU:List UInt8)(KN KO:Int)(K7 Lj:Int)(KZ KK:List UInt8)(KM:Int)(Kx:List UInt8)(KL KP KW:Int)(Lc:Bool)(Kq Kr:Int)(Ks Kt:Int)(KI Ky:Int)(Kz KA:Int)(KB KC:Int)(KQ:List Res)(KD:Bool)(KE:List Res)(KG:Int)(w_side_p_snaps:List Snap)(Lo:List Frame)(LO:Int)(LD:List UInt8)(a_host:Int)(hz:SzK (⟨⟨⟨KV,KT,KU,KN,KO⟩,K7,Lj,KZ,KK,⟨KM,Kx,KL⟩⟩,⟨KP,KW,Lc,⟨⟨Kq,Kr,Ks,Kt⟩,KI⟩,⟨Ky,Kz,KA,KB⟩,⟨⟨KC,KQ⟩,KD,KE⟩,⟨KG,w_side_p_snaps⟩⟩,Lo⟩:Work)):CallI prog 50 [.int .i64 KV,.str KT,.str KU,.int .i64 KN,.int .i64 KO,.int .i64 K7,.int .i64 Lj,.str KZ,.str KK,.int .i64 KM,.str Kx,.int .i64 KL,.int .i64 KP,.int .i64 KW,.bool Lc,.int .i64 Kq,.int .i64 Kr,.int .i64 Ks,.int .i64 Kt,.int .i64 KI,.int .i64 Ky,.int .i64 Kz,.int .i64 KA,.int .i64 KB,.int .i64 KC,.slice false (Ja KQ),.bool KD,.slice false (Ja KE),.int .i64 KG,.slice false (Ja w_side_p_snaps),.slice false (Ja Lo)] [.agg [.int .i64 LO,.str LD,.int .i64 a_host]] (.tup []) (wc (V5 (⟨⟨⟨KV,KT,KU,KN,KO⟩,K7,Lj,KZ,KK,⟨KM,Kx,KL⟩⟩,⟨KP,KW,Lc,⟨⟨Kq,Kr,Ks,Kt⟩,KI⟩,⟨Ky,Kz,KA,KB⟩,⟨⟨KC,KQ⟩,KD,KE⟩,⟨KG,w_side_p_snaps⟩⟩,Lo⟩:Work) (⟨LO,LD,a_host⟩:Answer))):=by
 by_cases hst:K7=0
 subst hst
 have e:V5 (⟨⟨⟨KV,KT,KU,KN,KO⟩,(0),Lj,KZ,KK,⟨KM,Kx,KL⟩⟩,⟨KP,KW,Lc,⟨⟨Kq,Kr,Ks,Kt⟩,KI⟩,⟨Ky,Kz,KA,KB⟩,⟨⟨KC,KQ⟩,KD,KE⟩,⟨KG,w_side_p_snaps⟩⟩,Lo⟩:Work) (⟨LO,LD,a_host⟩:Answer)=(⟨⟨⟨KV,KT,KU,KN,KO⟩,(5),Lj,KZ,KK,⟨(LO),(LD),(a_host)⟩⟩,⟨KP,KW,Lc,⟨⟨Kq,Kr,Ks,Kt⟩,KI⟩,⟨Ky,Kz,KA,KB⟩,⟨⟨KC,KQ⟩,KD,KE⟩,⟨KG,w_side_p_snaps⟩⟩,Lo⟩:Work):=by
  unfold V5
  rw[if_pos rfl]
 rw[e]
 clear e hz
 have w1:=trivial
 rotate_left
 have e:V5 (⟨⟨⟨KV,KT,KU,KN,KO⟩,K7,Lj,KZ,KK,⟨KM,Kx,KL⟩⟩,⟨KP,KW,Lc,⟨⟨Kq,Kr,Ks,Kt⟩,KI⟩,⟨Ky,Kz,KA,KB⟩,⟨⟨KC,KQ⟩,KD,KE⟩,⟨KG,w_side_p_snaps⟩⟩,Lo⟩:Work) (⟨LO,LD,a_host⟩:Answer)=⟨⟨⟨KV,KT,KU,KN,KO⟩,5,Lj,KZ,KK,⟨LO,LD,a_host⟩⟩,(endS (⟨KP,KW,Lc,⟨⟨Kq,Kr,Ks,Kt⟩,KI⟩,⟨Ky,Kz,KA,KB⟩,⟨⟨KC,KQ⟩,KD,KE⟩,⟨KG,w_side_p_snaps⟩⟩:Side) Lj).1,(endS (⟨KP,KW,Lc,⟨⟨Kq,Kr,Ks,Kt⟩,KI⟩,⟨Ky,Kz,KA,KB⟩,⟨⟨KC,KQ⟩,KD,KE⟩,⟨KG,w_side_p_snaps⟩⟩:Side) Lj).2.1⟩:=by
  unfold V5
  rw[if_neg hst]
 rw[e]
 clear e
 have w1:=JnD KP KW Lc Kq Kr Ks Kt KI Ky Kz KA KB KC KQ KD KE KG w_side_p_snaps Lj hz.s hz.q
 clear hz
 generalize endS (⟨KP,KW,Lc,⟨⟨Kq,Kr,Ks,Kt⟩,KI⟩,⟨Ky,Kz,KA,KB⟩,⟨⟨KC,KQ⟩,KD,KE⟩,⟨KG,w_side_p_snaps⟩⟩:Side) Lj=E at *
 all_goals
  unfold wc
  simp only
  refine CallI.goR1 call50 func50 rfl ntmps50 T (congrArg Array.toList results50) (by decide) fun ts hn h0 hg0 ho0 h1=>?_
  (repeat' (first
 | (with_reducible first|refine callX.by (w1) ?_|assumption|(refine Qw hK _ ?_;clear hK K)|refine Qw ‹_› _ ?_|refine Nx.out ‹_› ?_|refine Qi fun K hK=>?_|refine Qj T fun K hK=>?_|refine Qk (id:=2) T mixed [([14],[17,18,19,20,21,22,23,13,24,25,26,4]),([15],[18,19,20,21,22,23,13,24,25,26,4]),([16],[18,19,20,21,22,13,24,25,26,4]),([17],[14,18,19,20,21,22,24,25,26,4]),([18],[14,15,16,17,21,22,23,13,24,25,26,4]),([19],[14,15,16,17,22,23,13,24,25,26,4]),([20],[14,15,16,17,23,13,24,25,26,4]),([21],[14,15,16,17,18,13,24,25,26,4]),([22],[14,15,16,17,18,19,24,25,26,4]),([23],[14,15,18,19,20,4]),([13],[14,15,16,18,19,20,21,4]),([24],[14,15,16,17,18,19,20,21,22,25,26,4]),([25],[14,15,16,17,18,19,20,21,22,24,26,4]),([26],[14,15,16,17,18,19,20,21,22,24,25,4,5]),([4],[14,15,16,17,18,19,20,21,22,23,13,24,25,26]),([4],[25,26]),([5],[26])] (by kernel_rfl) fun K hK=>?_|refine SpecC.drawI (id:=4) T mixed 0 [([35],[36,37]),([36],[0,35,37,38,39,40]),([37],[0,35,36,38,39,40]),([38],[0,36,37]),([39],[36,37]),([40],[36,37]),([0],[36,37,38])] (by kernel_rfl) fun K hK=>?_|refine Ql fun A B hA hB=>?_|refine Qn ?_|refine Qr ?_)
 |(with_reducible first|apply Qy|apply Qz|apply QA)<;>intro hb<;>try simp only[nr] at hb
 |simp only[go_sem,↓reduceIte,Qa,Qh,Qb,Qc,Qd,Qe,Qf,Qg,reduceCtorEq, *,-w1]
 |intro(bn:Bool) hbn))
theorem Jkn(KV:Int)(KT KU:List UInt8)(KN KO:Int)(K7 Lj:Int)(KZ KK:List UInt8)(KM:Int)(Kx:List UInt8)(KL KP KW:Int)(Lc:Bool)(Kq Kr:Int)(Ks Kt:Int)(KI Ky:Int)(Kz KA:Int)(KB KC:Int)(KQ:List Res)(KD:Bool)(KE:List Res)(KG:Int)(w_side_p_snaps:List Snap)(Lo:List Frame)(hl:Jc w_side_p_snaps.length):CallI prog 82 [.int .i64 KV,.str KT,.str KU,.int .i64 KN,.int .i64 KO,.int .i64 K7,.int .i64 Lj,.str KZ,.str KK,.int .i64 KM,.str Kx,.int .i64 KL,.int .i64 KP,.int .i64 KW,.bool Lc,.int .i64 Kq,.int .i64 Kr,.int .i64 Ks,.int .i64 Kt,.int .i64 KI,.int .i64 Ky,.int .i64 Kz,.int .i64 KA,.int .i64 KB,.int .i64 KC,.slice false (Ja KQ),.bool KD,.slice false (Ja KE),.int .i64 KG,.slice false (Ja w_side_p_snaps),.slice false (Ja Lo)] [] (.slice false (Ja (VB (⟨⟨⟨KV,KT,KU,KN,KO⟩,K7,Lj,KZ,KK,⟨KM,Kx,KL⟩⟩,⟨KP,KW,Lc,⟨⟨Kq,Kr,Ks,Kt⟩,KI⟩,⟨Ky,Kz,KA,KB⟩,⟨⟨KC,KQ⟩,KD,KE⟩,⟨KG,w_side_p_snaps⟩⟩,Lo⟩:Work)))) ([.int .i64 KV,.str KT,.str KU,.int .i64 KN,.int .i64 KO,.int .i64 K7,.int .i64 Lj,.str KZ,.str KK,.int .i64 KM,.str Kx,.int .i64 KL,.int .i64 KP,.int .i64 KW,.bool Lc,.int .i64 Kq,.int .i64 Kr,.int .i64 Ks,.int .i64 Kt,.int .i64 KI,.int .i64 Ky,.int .i64 Kz,.int .i64 KA,.int .i64 KB,.int .i64 KC,.slice false (Ja KQ),.bool KD,.slice false (Ja KE),.int .i64 KG,.slice false (Ja w_side_p_snaps),.slice false (Ja Lo)]):=by
 have w1:=Jgm KG Lj w_side_p_snaps hl
 clear hl
 unfold VB
 simp only
 generalize VO ⟨KG,w_side_p_snaps⟩ Lj=E at *
 refine CallI.goR0 call82 func82 rfl ntmps82 T (congrArg Array.toList results82) (by decide) fun ts hn h0 hg0 ho0=>?_
 (repeat' (first
 | (with_reducible first|refine callX.by (w1) ?_|assumption|(refine Qw hK _ ?_;clear hK K)|refine Qw ‹_› _ ?_|refine Nx.out ‹_› ?_|refine Qi fun K hK=>?_|refine Qj T fun K hK=>?_|refine Qk (id:=1) T mixed [([6],[9,10,11,12,13,14,15,16,5,17,18]),([7],[10,11,12,13,14,15,16,5,17,18]),([8],[11,12,13,14,15,16,5,17,18]),([9],[6,11,12,13,14,15,5,17,18]),([10],[6,7,11,12,13,14,15,17,18]),([11],[6,7,8,9,10,14,15,16,5,17,18]),([12],[6,7,8,9,10,15,16,5,17,18]),([13],[6,7,8,9,10,16,5,17,18]),([14],[6,7,8,9,10,11,5,17,18]),([15],[6,7,8,9,10,11,12,17,18]),([16],[6,7,8,11,12,13]),([5],[6,7,8,9,11,12,13,14]),([17],[6,7,8,9,10,11,12,13,14,15,18]),([18],[6,7,8,9,10,11,12,13,14,15,17,3]),([3],[18])] (by kernel_rfl) fun K hK=>?_|refine Ql fun A B hA hB=>?_|refine Qn ?_|refine Qr ?_)
 |(with_reducible first|apply Qy|apply Qz|apply QA)<;>intro hb<;>try simp only[nr] at hb
 |simp only[go_sem,↓reduceIte,Qa,Qh,Qb,Qc,Qd,Qe,Qf,Qg,reduceCtorEq, *,-w1]
 |intro(bn:Bool) hbn))
theorem JfR(KV:Int)(KT KU:List UInt8)(KN KO:Int)(K7 Lj:Int)(KZ KK:List UInt8)(KM:Int)(Kx:List UInt8)(KL KP KW:Int)(Lc:Bool)(Kq Kr:Int)(Ks Kt:Int)(KI Ky:Int)(Kz KA:Int)(KB KC:Int)(KQ:List Res)(KD:Bool)(KE:List Res)(KG:Int)(w_side_p_snaps:List Snap)(Lo:List Frame)(kind:Int)(name:List UInt8)(hl:Jc w_side_p_snaps.length)(hs:Jc (VB (⟨⟨⟨KV,KT,KU,KN,KO⟩,K7,Lj,KZ,KK,⟨KM,Kx,KL⟩⟩,⟨KP,KW,Lc,⟨⟨Kq,Kr,Ks,Kt⟩,KI⟩,⟨Ky,Kz,KA,KB⟩,⟨⟨KC,KQ⟩,KD,KE⟩,⟨KG,w_side_p_snaps⟩⟩,Lo⟩:Work)).length):CallI prog 83 [.int .i64 KV,.str KT,.str KU,.int .i64 KN,.int .i64 KO,.int .i64 K7,.int .i64 Lj,.str KZ,.str KK,.int .i64 KM,.str Kx,.int .i64 KL,.int .i64 KP,.int .i64 KW,.bool Lc,.int .i64 Kq,.int .i64 Kr,.int .i64 Ks,.int .i64 Kt,.int .i64 KI,.int .i64 Ky,.int .i64 Kz,.int .i64 KA,.int .i64 KB,.int .i64 KC,.slice false (Ja KQ),.bool KD,.slice false (Ja KE),.int .i64 KG,.slice false (Ja w_side_p_snaps),.slice false (Ja Lo)] [.int .i64 kind,.str name] (.tup [Dat.av ((JY (VB (⟨⟨⟨KV,KT,KU,KN,KO⟩,K7,Lj,KZ,KK,⟨KM,Kx,KL⟩⟩,⟨KP,KW,Lc,⟨⟨Kq,Kr,Ks,Kt⟩,KI⟩,⟨Ky,Kz,KA,KB⟩,⟨⟨KC,KQ⟩,KD,KE⟩,⟨KG,w_side_p_snaps⟩⟩,Lo⟩:Work)) ⟨kind,name⟩).getD VH),.bool (JY (VB (⟨⟨⟨KV,KT,KU,KN,KO⟩,K7,Lj,KZ,KK,⟨KM,Kx,KL⟩⟩,⟨KP,KW,Lc,⟨⟨Kq,Kr,Ks,Kt⟩,KI⟩,⟨Ky,Kz,KA,KB⟩,⟨⟨KC,KQ⟩,KD,KE⟩,⟨KG,w_side_p_snaps⟩⟩,Lo⟩:Work)) ⟨kind,name⟩).isSome]) ([.int .i64 KV,.str KT,.str KU,.int .i64 KN,.int .i64 KO,.int .i64 K7,.int .i64 Lj,.str KZ,.str KK,.int .i64 KM,.str Kx,.int .i64 KL,.int .i64 KP,.int .i64 KW,.bool Lc,.int .i64 Kq,.int .i64 Kr,.int .i64 Ks,.int .i64 Kt,.int .i64 KI,.int .i64 Ky,.int .i64 Kz,.int .i64 KA,.int .i64 KB,.int .i64 KC,.slice false (Ja KQ),.bool KD,.slice false (Ja KE),.int .i64 KG,.slice false (Ja w_side_p_snaps),.slice false (Ja Lo)]):=by
 have w1:=Jkn KV KT KU KN KO K7 Lj KZ KK KM Kx KL KP KW Lc Kq Kr Ks Kt KI Ky Kz KA KB KC KQ KD KE KG w_side_p_snaps Lo hl
 have w2:=Jra (VB (⟨⟨⟨KV,KT,KU,KN,KO⟩,K7,Lj,KZ,KK,⟨KM,Kx,KL⟩⟩,⟨KP,KW,Lc,⟨⟨Kq,Kr,Ks,Kt⟩,KI⟩,⟨Ky,Kz,KA,KB⟩,⟨⟨KC,KQ⟩,KD,KE⟩,⟨KG,w_side_p_snaps⟩⟩,Lo⟩:Work)) kind name hs
 clear hl hs
 generalize VB (⟨⟨⟨KV,KT,KU,KN,KO⟩,K7,Lj,KZ,KK,⟨KM,Kx,KL⟩⟩,⟨KP,KW,Lc,⟨⟨Kq,Kr,Ks,Kt⟩,KI⟩,⟨Ky,Kz,KA,KB⟩,⟨⟨KC,KQ⟩,KD,KE⟩,⟨KG,w_side_p_snaps⟩⟩,Lo⟩:Work)=l at *
 generalize JY l ⟨kind,name⟩=o at *
 refine CallI.goR2 call83 func83 rfl ntmps83 T (congrArg Array.toList results83) (by decide) fun ts hn h0 hg0 ho0 h1 h2=>?_
 (repeat' (first
 | (with_reducible refine callX.io ?_ ?_ ?_ (w1);(focus(simp only[go_sem,↓reduceIte,Qa,Qh,Qb,Qc,Qd,Qe,Qf,Qg,reduceCtorEq, *,-w1,-w2];first|done|rfl));(focus(simp only[go_sem,↓reduceIte,Qa,Qh,Qb,Qc,Qd,Qe,Qf,Qg,reduceCtorEq, *,-w1,-w2];first|done|rfl)))
 | (with_reducible first|refine callX.by (w2) ?_|assumption|(refine Qw hK _ ?_;clear hK K)|refine Qw ‹_› _ ?_|refine Nx.out ‹_› ?_|refine Qi fun K hK=>?_|refine Qj T fun K hK=>?_|refine Ql fun A B hA hB=>?_|refine Qn ?_|refine Qr ?_)
 |(with_reducible first|apply Qy|apply Qz|apply QA)<;>intro hb<;>try simp only[nr] at hb
 |simp only[go_sem,↓reduceIte,Qa,Qh,Qb,Qc,Qd,Qe,Qf,Qg,reduceCtorEq, *,-w1,-w2]
 |intro(bn:Bool) hbn))
theorem Jm8(KV:Int)(KT KU:List UInt8)(KN KO:Int)(K7 Lj:Int)(KZ KK:List UInt8)(KM:Int)(Kx:List UInt8)(KL KP KW:Int)(Lc:Bool)(Kq Kr:Int)(Ks Kt:Int)(KI Ky:Int)(Kz KA:Int)(KB KC:Int)(KQ:List Res)(KD:Bool)(KE:List Res)(KG:Int)(w_side_p_snaps:List Snap)(Lo:List Frame)(hz:SzK (⟨⟨⟨KV,KT,KU,KN,KO⟩,K7,Lj,KZ,KK,⟨KM,Kx,KL⟩⟩,⟨KP,KW,Lc,⟨⟨Kq,Kr,Ks,Kt⟩,KI⟩,⟨Ky,Kz,KA,KB⟩,⟨⟨KC,KQ⟩,KD,KE⟩,⟨KG,w_side_p_snaps⟩⟩,Lo⟩:Work)):CallI prog 46 [.int .i64 KV,.str KT,.str KU,.int .i64 KN,.int .i64 KO,.int .i64 K7,.int .i64 Lj,.str KZ,.str KK,.int .i64 KM,.str Kx,.int .i64 KL,.int .i64 KP,.int .i64 KW,.bool Lc,.int .i64 Kq,.int .i64 Kr,.int .i64 Ks,.int .i64 Kt,.int .i64 KI,.int .i64 Ky,.int .i64 Kz,.int .i64 KA,.int .i64 KB,.int .i64 KC,.slice false (Ja KQ),.bool KD,.slice false (Ja KE),.int .i64 KG,.slice false (Ja w_side_p_snaps),.slice false (Ja Lo)] [] (.tup []) (wc (Jao (⟨⟨⟨KV,KT,KU,KN,KO⟩,K7,Lj,KZ,KK,⟨KM,Kx,KL⟩⟩,⟨KP,KW,Lc,⟨⟨Kq,Kr,Ks,Kt⟩,KI⟩,⟨Ky,Kz,KA,KB⟩,⟨⟨KC,KQ⟩,KD,KE⟩,⟨KG,w_side_p_snaps⟩⟩,Lo⟩:Work))):=by
 have w1:=Jm7 KP KW Lc Kq Kr Ks Kt KI Ky Kz KA KB KC KQ KD KE KG w_side_p_snaps hz.s
 have w2:=JbS KV KT KU KN KO K7 Lj KZ KK KM Kx KL KP KW Lc Kq Kr Ks Kt KI Ky Kz KA KB KC KQ KD KE KG w_side_p_snaps Lo 0 [] 0 hz
 unfold Jao
 clear hz
 simp only
 generalize Vn (Jr (⟨KP,KW,Lc,⟨⟨Kq,Kr,Ks,Kt⟩,KI⟩,⟨Ky,Kz,KA,KB⟩,⟨⟨KC,KQ⟩,KD,KE⟩,⟨KG,w_side_p_snaps⟩⟩:Side)).p=p at *
 generalize Vi (⟨KP,KW,Lc,⟨⟨Kq,Kr,Ks,Kt⟩,KI⟩,⟨Ky,Kz,KA,KB⟩,⟨⟨KC,KQ⟩,KD,KE⟩,⟨KG,w_side_p_snaps⟩⟩:Side)=b at *
 by_cases he:p.2.2=0
 rw[if_pos he]
 clear w2
 have w2:=trivial
 unfold wc
 simp only
 rotate_left
 rw[if_neg he]
 all_goals
  refine CallI.goR0 call46 func46 rfl ntmps46 T (congrArg Array.toList results46) (by decide) fun ts hn h0 hg0 ho0=>?_
  (repeat' (first
 |with_reducible refine callX.by (w1) ?_
 | (with_reducible refine callX.io ?_ ?_ ?_ (w2);(focus(simp only[go_sem,↓reduceIte,Qa,Qh,Qb,Qc,Qd,Qe,Qf,Qg,reduceCtorEq, *,-w1,-w2,Vr];first|done|rfl));(focus(simp only[go_sem,↓reduceIte,Qa,Qh,Qb,Qc,Qd,Qe,Qf,Qg,reduceCtorEq, *,-w1,-w2,Vr];first|done|rfl)))
 | (with_reducible first|assumption|(refine Qw hK _ ?_;clear hK K)|refine Qw ‹_› _ ?_|refine Nx.out ‹_› ?_|refine Qi fun K hK=>?_|refine Qj T fun K hK=>?_|refine Ql fun A B hA hB=>?_|refine Qn ?_|refine Qr ?_)
 |(with_reducible first|apply Qy|apply Qz|apply QA)<;>intro hb<;>try simp only[nr] at hb
 |simp only[go_sem,↓reduceIte,Qa,Qh,Qb,Qc,Qd,Qe,Qf,Qg,reduceCtorEq, *,-w1,-w2,Vr]
 |intro(bn:Bool) hbn))
theorem JoL(KV:Int)(KT KU:List UInt8)(KN KO:Int)(K7 Lj:Int)(KZ KK:List UInt8)(KM:Int)(Kx:List UInt8)(KL KP KW:Int)(Lc:Bool)(Kq Kr:Int)(Ks Kt:Int)(KI Ky:Int)(Kz KA:Int)(KB KC:Int)(KQ:List Res)(KD:Bool)(KE:List Res)(KG:Int)(w_side_p_snaps:List Snap)(Lo:List Frame)(hz:SzK (⟨⟨⟨KV,KT,KU,KN,KO⟩,K7,Lj,KZ,KK,⟨KM,Kx,KL⟩⟩,⟨KP,KW,Lc,⟨⟨Kq,Kr,Ks,Kt⟩,KI⟩,⟨Ky,Kz,KA,KB⟩,⟨⟨KC,KQ⟩,KD,KE⟩,⟨KG,w_side_p_snaps⟩⟩,Lo⟩:Work)):CallI prog 47 [.int .i64 KV,.str KT,.str KU,.int .i64 KN,.int .i64 KO,.int .i64 K7,.int .i64 Lj,.str KZ,.str KK,.int .i64 KM,.str Kx,.int .i64 KL,.int .i64 KP,.int .i64 KW,.bool Lc,.int .i64 Kq,.int .i64 Kr,.int .i64 Ks,.int .i64 Kt,.int .i64 KI,.int .i64 Ky,.int .i64 Kz,.int .i64 KA,.int .i64 KB,.int .i64 KC,.slice false (Ja KQ),.bool KD,.slice false (Ja KE),.int .i64 KG,.slice false (Ja w_side_p_snaps),.slice false (Ja Lo)] [] (.tup []) (wc (Jbj (⟨⟨⟨KV,KT,KU,KN,KO⟩,K7,Lj,KZ,KK,⟨KM,Kx,KL⟩⟩,⟨KP,KW,Lc,⟨⟨Kq,Kr,Ks,Kt⟩,KI⟩,⟨Ky,Kz,KA,KB⟩,⟨⟨KC,KQ⟩,KD,KE⟩,⟨KG,w_side_p_snaps⟩⟩,Lo⟩:Work))):=by
 have w1:=Jkn KV KT KU KN KO K7 Lj KZ KK KM Kx KL KP KW Lc Kq Kr Ks Kt KI Ky Kz KA KB KC KQ KD KE KG w_side_p_snaps Lo hz.s.p.n
 have w2:=JoM (VB (⟨⟨⟨KV,KT,KU,KN,KO⟩,K7,Lj,KZ,KK,⟨KM,Kx,KL⟩⟩,⟨KP,KW,Lc,⟨⟨Kq,Kr,Ks,Kt⟩,KI⟩,⟨Ky,Kz,KA,KB⟩,⟨⟨KC,KQ⟩,KD,KE⟩,⟨KG,w_side_p_snaps⟩⟩,Lo⟩:Work)) KV hz.snap.1
 have w3:=JbS KV KT KU KN KO K7 Lj KZ KK KM Kx KL KP KW Lc Kq Kr Ks Kt KI Ky Kz KA KB KC KQ KD KE KG w_side_p_snaps Lo 1 [] 0 hz
 unfold Jbj
 clear hz
 simp only
 generalize VB (⟨⟨⟨KV,KT,KU,KN,KO⟩,K7,Lj,KZ,KK,⟨KM,Kx,KL⟩⟩,⟨KP,KW,Lc,⟨⟨Kq,Kr,Ks,Kt⟩,KI⟩,⟨Ky,Kz,KA,KB⟩,⟨⟨KC,KQ⟩,KD,KE⟩,⟨KG,w_side_p_snaps⟩⟩,Lo⟩:Work)=l at *
 cases ho:JaE l KV
 rw[ho] at w2
 rotate_left
 rename_i x
 rw[ho] at w2
 clear w3
 have w3:=trivial
 simp only
 unfold wc
 simp only
 all_goals
  simp only[Option.getD_none,Option.isSome_none,Option.getD_some,Option.isSome_some] at w2
  refine CallI.goR0 call47 func47 rfl ntmps47 T (congrArg Array.toList results47) (by decide) fun ts hn h0 hg0 ho0=>?_
  (repeat' (first
 | (with_reducible refine callX.ior ?_ ?_ ?_ (w1);(focus(simp only[go_sem,↓reduceIte,Qa,Qh,Qb,Qc,Qd,Qe,Qf,Qg,reduceCtorEq, *,-w1,-w2,-w3,Vr,Option.getD_none,Option.isSome_none];first|done|rfl));(focus(simp only[go_sem,↓reduceIte,Qa,Qh,Qb,Qc,Qd,Qe,Qf,Qg,reduceCtorEq, *,-w1,-w2,-w3,Vr,Option.getD_none,Option.isSome_none];first|done|rfl)))
 |with_reducible refine callX.by (w2) ?_
 | (with_reducible refine callX.io ?_ ?_ ?_ (w3);(focus(simp only[go_sem,↓reduceIte,Qa,Qh,Qb,Qc,Qd,Qe,Qf,Qg,reduceCtorEq, *,-w1,-w2,-w3,Vr,Option.getD_none,Option.isSome_none];first|done|rfl));(focus(simp only[go_sem,↓reduceIte,Qa,Qh,Qb,Qc,Qd,Qe,Qf,Qg,reduceCtorEq, *,-w1,-w2,-w3,Vr,Option.getD_none,Option.isSome_none];first|done|rfl)))
 | (with_reducible first|assumption|(refine Qw hK _ ?_;clear hK K)|refine Qw ‹_› _ ?_|refine Nx.out ‹_› ?_|refine Qi fun K hK=>?_|refine Qj T fun K hK=>?_|refine Qk (id:=0) T mixed [([5],[7,8,9,10,11,12,4,14,15,2]),([6],[7,8,9,10,11,12,14,15,2]),([7],[5,6,10,11,12,13,4,14,15,2]),([8],[5,6,11,12,13,4,14,15,2]),([9],[5,6,12,13,4,14,15,2]),([10],[5,6,7,13,4,14,15,2]),([11],[5,6,7,8,4,14,15,2]),([12],[5,6,7,8,9,14,15,2]),([13],[7,8,9,10,2]),([4],[5,7,8,9,10,11,2]),([14],[5,6,7,8,9,10,11,12,15,2]),([15],[5,6,7,8,9,10,11,12,14,2]),([2],[5,6,7,8,9,10,11,12,13,4,14,15]),([2],[15])] (by kernel_rfl) fun K hK=>?_|refine Ql fun A B hA hB=>?_|refine Qn ?_|refine Qr ?_)
 |(with_reducible first|apply Qy|apply Qz|apply QA)<;>intro hb<;>try simp only[nr] at hb
 |simp only[go_sem,↓reduceIte,Qa,Qh,Qb,Qc,Qd,Qe,Qf,Qg,reduceCtorEq, *,-w1,-w2,-w3,Vr,Option.getD_none,Option.isSome_none]
 |intro(bn:Bool) hbn))
theorem Jky{l:List Res}(hs:∀r∈l,Jy r)(k:Key):Jc ((JY l k).getD VH).rules'.length∧(∀y∈((JY l k).getD VH).rules',VR y)∧Jc ((JY l k).getD VH).hosts.length:=by
 obtain⟨_,_,h1,h2,h3⟩:=Jrc hs k
 exact⟨h1,h2,h3⟩
theorem Jqn(l:List Res)(to' h p:List UInt8):JaP l to' h p=if(JY l ⟨1,to'⟩).isSome=true then Z8 ((JY l ⟨1,to'⟩).getD VH).rules' h p else none:=by
 unfold JaP
 cases JY l ⟨1,to'⟩<;>rfl
theorem Jq1{l:List Rule}{h p:List UInt8}(hs:∀y∈l,VR y):Jc ((Z8 l h p).getD JdE).split.length:=by
 cases e:Z8 l h p with
 |none=>simp[JdE,Jc]
 |some r=>exact(hs r (Jpw e)).2.2.1
theorem Jqj(KV:Int)(KT KU:List UInt8)(KN KO:Int)(K7 Lj:Int)(KZ KK:List UInt8)(KM:Int)(Kx:List UInt8)(KL KP KW:Int)(Lc:Bool)(Kq Kr:Int)(Ks Kt:Int)(KI Ky:Int)(Kz KA:Int)(KB KC:Int)(KQ:List Res)(KD:Bool)(KE:List Res)(KG:Int)(w_side_p_snaps:List Snap)(Lo:List Frame)(hz:SzK (⟨⟨⟨KV,KT,KU,KN,KO⟩,K7,Lj,KZ,KK,⟨KM,Kx,KL⟩⟩,⟨KP,KW,Lc,⟨⟨Kq,Kr,Ks,Kt⟩,KI⟩,⟨Ky,Kz,KA,KB⟩,⟨⟨KC,KQ⟩,KD,KE⟩,⟨KG,w_side_p_snaps⟩⟩,Lo⟩:Work)):CallI prog 48 [.int .i64 KV,.str KT,.str KU,.int .i64 KN,.int .i64 KO,.int .i64 K7,.int .i64 Lj,.str KZ,.str KK,.int .i64 KM,.str Kx,.int .i64 KL,.int .i64 KP,.int .i64 KW,.bool Lc,.int .i64 Kq,.int .i64 Kr,.int .i64 Ks,.int .i64 Kt,.int .i64 KI,.int .i64 Ky,.int .i64 Kz,.int .i64 KA,.int .i64 KB,.int .i64 KC,.slice false (Ja KQ),.bool KD,.slice false (Ja KE),.int .i64 KG,.slice false (Ja w_side_p_snaps),.slice false (Ja Lo)] [] (.tup []) (wc (Jbx (⟨⟨⟨KV,KT,KU,KN,KO⟩,K7,Lj,KZ,KK,⟨KM,Kx,KL⟩⟩,⟨KP,KW,Lc,⟨⟨Kq,Kr,Ks,Kt⟩,KI⟩,⟨Ky,Kz,KA,KB⟩,⟨⟨KC,KQ⟩,KD,KE⟩,⟨KG,w_side_p_snaps⟩⟩,Lo⟩:Work))):=by
 have w1:=JfR KV KT KU KN KO K7 Lj KZ KK KM Kx KL KP KW Lc Kq Kr Ks Kt KI Ky Kz KA KB KC KQ KD KE KG w_side_p_snaps Lo 1 KZ hz.s.p.n hz.snap.1
 obtain⟨s1,s2,_⟩:=Jky hz.snap.2 ⟨1,KZ⟩
 have w2:=Jpv _ KT KU s1 s2 hz.h
 have w3:=Jpt _ KN (Jq1 (h:=KT) (p:=KU) s2)
 have w4:=JbS KV KT KU KN KO K7 Lj KZ KK KM Kx KL KP KW Lc Kq Kr Ks Kt KI Ky Kz KA KB KC KQ KD KE KG w_side_p_snaps Lo 2 [] 0 hz
 have w5:=JbS KV KT KU KN KO K7 Lj KZ KK KM Kx KL KP KW Lc Kq Kr Ks Kt KI Ky Kz KA KB KC KQ KD KE KG w_side_p_snaps Lo 0 [] 0 hz
 unfold Jbx
 rw[Jqn]
 clear hz s1 s2
 simp only
 generalize VB (⟨⟨⟨KV,KT,KU,KN,KO⟩,K7,Lj,KZ,KK,⟨KM,Kx,KL⟩⟩,⟨KP,KW,Lc,⟨⟨Kq,Kr,Ks,Kt⟩,KI⟩,⟨Ky,Kz,KA,KB⟩,⟨⟨KC,KQ⟩,KD,KE⟩,⟨KG,w_side_p_snaps⟩⟩,Lo⟩:Work)=l at *
 generalize JY l ⟨1,KZ⟩=o at *
 generalize Z8 (o.getD VH).rules' KT KU=q at *
 cases o
 simp only[Option.isSome_none,Bool.false_eq_true,↓reduceIte]
 simp only[Option.getD_none,Option.isSome_none,Option.getD_some,Option.isSome_some] at w1 w2
 clear w3 w5
 have w3:=trivial
 have w5:=trivial
 rotate_left
 simp only[Option.isSome_some,↓reduceIte]
 simp only[Option.getD_none,Option.isSome_none,Option.getD_some,Option.isSome_some] at w1 w2
 cases q
 simp only[Option.getD_none,Option.isSome_none,Option.getD_some,Option.isSome_some] at w2
 clear w3 w5
 have w3:=trivial
 have w5:=trivial
 rotate_left
 rename_i r
 simp only[Option.getD_none,Option.isSome_none,Option.getD_some,Option.isSome_some] at w2 w3
 simp only
 generalize YV r.split KN=c at *
 cases c
 simp only[Option.getD_none,Option.isSome_none,Option.getD_some,Option.isSome_some] at w3
 clear w4
 have w4:=trivial
 rotate_left
 simp only[Option.getD_none,Option.isSome_none,Option.getD_some,Option.isSome_some] at w3
 clear w4 w5
 have w4:=trivial
 have w5:=trivial
 simp only
 unfold wc
 simp only
 all_goals
  refine CallI.goR0 call48 func48 rfl ntmps48 T (congrArg Array.toList results48) (by decide) fun ts hn h0 hg0 ho0=>?_
  (repeat' (first
 | (with_reducible refine callX.io ?_ ?_ ?_ (w1);(focus(simp only[go_sem,↓reduceIte,Qa,Qh,Qb,Qc,Qd,Qe,Qf,Qg,reduceCtorEq, *,-w1,-w2,-w3,-w4,-w5,Vr,Option.getD_none,Option.isSome_none,Option.getD_some,Option.isSome_some];first|done|rfl));(focus(simp only[go_sem,↓reduceIte,Qa,Qh,Qb,Qc,Qd,Qe,Qf,Qg,reduceCtorEq, *,-w1,-w2,-w3,-w4,-w5,Vr,Option.getD_none,Option.isSome_none,Option.getD_some,Option.isSome_some];first|done|rfl)))
 | (with_reducible first|refine callX.by (w2) ?_|refine callX.by (w3) ?_)
 | (with_reducible refine callX.io ?_ ?_ ?_ (w4);(focus(simp only[go_sem,↓reduceIte,Qa,Qh,Qb,Qc,Qd,Qe,Qf,Qg,reduceCtorEq, *,-w1,-w2,-w3,-w4,-w5,Vr,Option.getD_none,Option.isSome_none,Option.getD_some,Option.isSome_some];first|done|rfl));(focus(simp only[go_sem,↓reduceIte,Qa,Qh,Qb,Qc,Qd,Qe,Qf,Qg,reduceCtorEq, *,-w1,-w2,-w3,-w4,-w5,Vr,Option.getD_none,Option.isSome_none,Option.getD_some,Option.isSome_some];first|done|rfl)))
 | (with_reducible refine callX.io ?_ ?_ ?_ (w5);(focus(simp only[go_sem,↓reduceIte,Qa,Qh,Qb,Qc,Qd,Qe,Qf,Qg,reduceCtorEq, *,-w1,-w2,-w3,-w4,-w5,Vr,Option.getD_none,Option.isSome_none,Option.getD_some,Option.isSome_some];first|done|rfl));(focus(simp only[go_sem,↓reduceIte,Qa,Qh,Qb,Qc,Qd,Qe,Qf,Qg,reduceCtorEq, *,-w1,-w2,-w3,-w4,-w5,Vr,Option.getD_none,Option.isSome_none,Option.getD_some,Option.isSome_some];first|done|rfl)))
 | (with_reducible first|assumption|(refine Qw hK _ ?_;clear hK K)|refine Qw ‹_› _ ?_|refine Nx.out ‹_› ?_|refine Qi fun K hK=>?_|refine Qj T fun K hK=>?_|refine Qk (id:=1) T mixed [([18],[20,21,22,23,24,25,26,27,28,29,30,31,17,33,34,4]),([19],[20,21,22,23,24,25,26,27,28,29,30,31,33,34,4]),([20],[18,19,23,24,25,26,27,28,29,30,31,32,17,33,34,4]),([21],[18,19,24,25,26,27,28,29,30,31,32,17,33,34,4]),([22],[18,19,25,26,27,28,29,30,31,32,17,33,34,4]),([23],[18,19,20,26,27,28,29,30,31,32,17,33,34,4]),([24],[18,19,20,21,26,27,28,29,30,31,17,33,34,4]),([25],[18,19,20,21,22,26,27,28,29,30,31,33,34,4]),([26],[18,19,20,21,22,23,24,25,29,30,31,32,17,33,34,4]),([27],[18,19,20,21,22,23,24,25,30,31,32,17,33,34,4]),([28],[18,19,20,21,22,23,24,25,31,32,17,33,34,4]),([29],[18,19,20,21,22,23,24,25,26,32,17,33,34,4]),([30],[18,19,20,21,22,23,24,25,26,27,17,33,34,4]),([31],[18,19,20,21,22,23,24,25,26,27,28,33,34,4]),([32],[20,21,22,23,26,27,28,29,4]),([17],[18,20,21,22,23,24,26,27,28,29,30,4]),([33],[18,19,20,21,22,23,24,25,26,27,28,29,30,31,34,4]),([34],[18,19,20,21,22,23,24,25,26,27,28,29,30,31,33,4]),([4],[18,19,20,21,22,23,24,25,26,27,28,29,30,31,32,17,33,34]),([4],[34])] (by kernel_rfl) fun K hK=>?_|refine Qk (id:=4) T mixed [([45],[47,48,49,50,51,52,44,54,55]),([46],[47,48,49,50,51,52,54,55]),([47],[45,46,50,51,52,53,44,54,55]),([48],[45,46,51,52,53,44,54,55]),([49],[45,46,52,53,44,54,55]),([50],[45,46,47,53,44,54,55]),([51],[45,46,47,48,44,54,55]),([52],[45,46,47,48,49,54,55]),([53],[47,48,49,50]),([44],[45,47,48,49,50,51]),([54],[45,46,47,48,49,50,51,52,55]),([55],[45,46,47,48,49,50,51,52,54,6]),([6],[55])] (by kernel_rfl) fun K hK=>?_|refine Ql fun A B hA hB=>?_|refine Qn ?_|refine Qr ?_)
 |(with_reducible first|apply Qy|apply Qz|apply QA)<;>intro hb<;>try simp only[nr] at hb
 |simp only[go_sem,↓reduceIte,Qa,Qh,Qb,Qc,Qd,Qe,Qf,Qg,reduceCtorEq, *,-w1,-w2,-w3,-w4,-w5,Vr,Option.getD_none,Option.isSome_none,Option.getD_some,Option.isSome_some]
 |intro(bn:Bool) hbn))
theorem Jnu(l:List Res)(c:List UInt8)(n:Int):Yw (JbT l c).1 n=if(JY l ⟨2,c⟩).isSome=true∧(JY l ⟨3,((JY l ⟨2,c⟩).getD VH).to'⟩).isSome=true then Yw ((JY l ⟨3,((JY l ⟨2,c⟩).getD VH).to'⟩).getD VH).hosts n else none:=by
 unfold JbT
 cases JY l ⟨2,c⟩ with
 |none=>simp[Yw]
 |some x =>
  simp only[Option.isSome_some,Option.getD_some,true_and]
  cases JY l ⟨3,x.to'⟩ with
  |none=>simp[Yw]
  |some e=>simp
theorem Jnt(KV:Int)(KT KU:List UInt8)(KN KO:Int)(K7 Lj:Int)(KZ KK:List UInt8)(KM:Int)(Kx:List UInt8)(KL KP KW:Int)(Lc:Bool)(Kq Kr:Int)(Ks Kt:Int)(KI Ky:Int)(Kz KA:Int)(KB KC:Int)(KQ:List Res)(KD:Bool)(KE:List Res)(KG:Int)(w_side_p_snaps:List Snap)(Lo:List Frame)(hz:SzK (⟨⟨⟨KV,KT,KU,KN,KO⟩,K7,Lj,KZ,KK,⟨KM,Kx,KL⟩⟩,⟨KP,KW,Lc,⟨⟨Kq,Kr,Ks,Kt⟩,KI⟩,⟨Ky,Kz,KA,KB⟩,⟨⟨KC,KQ⟩,KD,KE⟩,⟨KG,w_side_p_snaps⟩⟩,Lo⟩:Work)):CallI prog 49 [.int .i64 KV,.str KT,.str KU,.int .i64 KN,.int .i64 KO,.int .i64 K7,.int .i64 Lj,.str KZ,.str KK,.int .i64 KM,.str Kx,.int .i64 KL,.int .i64 KP,.int .i64 KW,.bool Lc,.int .i64 Kq,.int .i64 Kr,.int .i64 Ks,.int .i64 Kt,.int .i64 KI,.int .i64 Ky,.int .i64 Kz,.int .i64 KA,.int .i64 KB,.int .i64 KC,.slice false (Ja KQ),.bool KD,.slice false (Ja KE),.int .i64 KG,.slice false (Ja w_side_p_snaps),.slice false (Ja Lo)] [] (.tup []) (wc (Ja2 (⟨⟨⟨KV,KT,KU,KN,KO⟩,K7,Lj,KZ,KK,⟨KM,Kx,KL⟩⟩,⟨KP,KW,Lc,⟨⟨Kq,Kr,Ks,Kt⟩,KI⟩,⟨Ky,Kz,KA,KB⟩,⟨⟨KC,KQ⟩,KD,KE⟩,⟨KG,w_side_p_snaps⟩⟩,Lo⟩:Work))):=by
 have w1:=JfR KV KT KU KN KO K7 Lj KZ KK KM Kx KL KP KW Lc Kq Kr Ks Kt KI Ky Kz KA KB KC KQ KD KE KG w_side_p_snaps Lo 2 KK hz.s.p.n hz.snap.1
 have w2:=JfR KV KT KU KN KO K7 Lj KZ KK KM Kx KL KP KW Lc Kq Kr Ks Kt KI Ky Kz KA KB KC KQ KD KE KG w_side_p_snaps Lo 3 ((JY (VB (⟨⟨⟨KV,KT,KU,KN,KO⟩,K7,Lj,KZ,KK,⟨KM,Kx,KL⟩⟩,⟨KP,KW,Lc,⟨⟨Kq,Kr,Ks,Kt⟩,KI⟩,⟨Ky,Kz,KA,KB⟩,⟨⟨KC,KQ⟩,KD,KE⟩,⟨KG,w_side_p_snaps⟩⟩,Lo⟩:Work)) ⟨2,KK⟩).getD VH).to' hz.s.p.n hz.snap.1
 obtain⟨_,_,s1⟩:=Jky hz.snap.2 ⟨3,((JY (VB (⟨⟨⟨KV,KT,KU,KN,KO⟩,K7,Lj,KZ,KK,⟨KM,Kx,KL⟩⟩,⟨KP,KW,Lc,⟨⟨Kq,Kr,Ks,Kt⟩,KI⟩,⟨Ky,Kz,KA,KB⟩,⟨⟨KC,KQ⟩,KD,KE⟩,⟨KG,w_side_p_snaps⟩⟩,Lo⟩:Work)) ⟨2,KK⟩).getD VH).to'⟩
 have w3:=Jpu _ KO s1
 have w4:=JbS KV KT KU KN KO K7 Lj KZ KK KM Kx KL KP KW Lc Kq Kr Ks Kt KI Ky Kz KA KB KC KQ KD KE KG w_side_p_snaps Lo 0 [] 0 hz
 unfold Ja2
 rw[Jnu]
 clear hz s1
 simp only
 generalize VB (⟨⟨⟨KV,KT,KU,KN,KO⟩,K7,Lj,KZ,KK,⟨KM,Kx,KL⟩⟩,⟨KP,KW,Lc,⟨⟨Kq,Kr,Ks,Kt⟩,KI⟩,⟨Ky,Kz,KA,KB⟩,⟨⟨KC,KQ⟩,KD,KE⟩,⟨KG,w_side_p_snaps⟩⟩,Lo⟩:Work)=l at *
 generalize JY l ⟨2,KK⟩=o at *
 generalize JY l ⟨3,(o.getD VH).to'⟩=u at *
 generalize Yw (u.getD VH).hosts KO=q at *
 by_cases hc:(o.isSome=true∧u.isSome=true)∧q.isSome=true
 obtain⟨⟨c1,c2⟩,c3⟩:=hc
 rw[if_pos ⟨c1,c2⟩]
 clear w4
 have w4:=trivial
 obtain⟨n,rfl⟩:=Option.isSome_iff_exists.1 c3
 simp only
 simp only[Option.getD_none,Option.isSome_none,Option.getD_some,Option.isSome_some] at w3
 rw[c1] at w1
 rw[c2] at w2
 clear c1 c2 c3
 unfold wc
 simp only
 rotate_left
 cases o<;>cases u<;>cases q<;>simp only[Option.getD_none,Option.isSome_none,Option.getD_some,Option.isSome_some,and_self,and_false,false_and,and_true,true_and,Bool.false_eq_true,↓reduceIte,not_true_eq_false,not_false_eq_true] at hc w1 w2 w3 ⊢
 all_goals
  refine CallI.goR0 call49 func49 rfl ntmps49 T (congrArg Array.toList results49) (by decide) fun ts hn h0 hg0 ho0=>?_
  (repeat' (first
 | (with_reducible refine callX.io ?_ ?_ ?_ (w1);(focus(simp only[go_sem,↓reduceIte,Qa,Qh,Qb,Qc,Qd,Qe,Qf,Qg,reduceCtorEq, *,-w1,-w2,-w3,-w4,Vr,Option.getD_none,Option.isSome_none,Option.getD_some,Option.isSome_some];first|done|rfl));(focus(simp only[go_sem,↓reduceIte,Qa,Qh,Qb,Qc,Qd,Qe,Qf,Qg,reduceCtorEq, *,-w1,-w2,-w3,-w4,Vr,Option.getD_none,Option.isSome_none,Option.getD_some,Option.isSome_some];first|done|rfl)))
 | (with_reducible refine callX.io ?_ ?_ ?_ (w2);(focus(simp only[go_sem,↓reduceIte,Qa,Qh,Qb,Qc,Qd,Qe,Qf,Qg,reduceCtorEq, *,-w1,-w2,-w3,-w4,Vr,Option.getD_none,Option.isSome_none,Option.getD_some,Option.isSome_some];first|done|rfl));(focus(simp only[go_sem,↓reduceIte,Qa,Qh,Qb,Qc,Qd,Qe,Qf,Qg,reduceCtorEq, *,-w1,-w2,-w3,-w4,Vr,Option.getD_none,Option.isSome_none,Option.getD_some,Option.isSome_some];first|done|rfl)))
 |with_reducible refine callX.by (w3) ?_
 | (with_reducible refine callX.io ?_ ?_ ?_ (w4);(focus(simp only[go_sem,↓reduceIte,Qa,Qh,Qb,Qc,Qd,Qe,Qf,Qg,reduceCtorEq, *,-w1,-w2,-w3,-w4,Vr,Option.getD_none,Option.isSome_none,Option.getD_some,Option.isSome_some];first|done|rfl));(focus(simp only[go_sem,↓reduceIte,Qa,Qh,Qb,Qc,Qd,Qe,Qf,Qg,reduceCtorEq, *,-w1,-w2,-w3,-w4,Vr,Option.getD_none,Option.isSome_none,Option.getD_some,Option.isSome_some];first|done|rfl)))
 | (with_reducible first|assumption|(refine Qw hK _ ?_;clear hK K)|refine Qw ‹_› _ ?_|refine Nx.out ‹_› ?_|refine Qi fun K hK=>?_|refine Qj T fun K hK=>?_|refine Qk (id:=2) T mixed [([26],[28,29,30,31,32,33,25,35,36]),([27],[28,29,30,31,32,33,35,36]),([28],[26,27,31,32,33,34,25,35,36]),([29],[26,27,32,33,34,25,35,36]),([30],[26,27,33,34,25,35,36]),([31],[26,27,28,34,25,35,36]),([32],[26,27,28,29,25,35,36]),([33],[26,27,28,29,30,35,36]),([34],[28,29,30,31]),([25],[26,28,29,30,31,32]),([35],[26,27,28,29,30,31,32,33,36]),([36],[26,27,28,29,30,31,32,33,35,6]),([6],[36])] (by kernel_rfl) fun K hK=>?_|refine Ql fun A B hA hB=>?_|refine Qn ?_|refine Qr ?_)
 |(with_reducible first|apply Qy|apply Qz|apply QA)<;>intro hb<;>try simp only[nr] at hb
 |simp only[go_sem,↓reduceIte,Qa,Qh,Qb,Qc,Qd,Qe,Qf,Qg,reduceCtorEq, *,-w1,-w2,-w3,-w4,Vr,Option.getD_none,Option.isSome_none,Option.getD_some,Option.isSome_some]
 |intro(bn:Bool) hbn))
end Go.Proofs.YthjalhfmpffbjaaGreatDoor.Lg
