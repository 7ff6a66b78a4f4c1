/- Parts of the proof, one behind the other. -/
import Derived.Test.YtihahfhagobnoaaGreatDoorG26
namespace Go.Proofs.YtihahfhagobnoaaGreatDoor.Lg
set_option maxRecDepth 100000
set_option linter.unusedVariables false
set_option linter.unusedSimpArgs false
open Go
open Nat renaming reduceEqDiff → Qa, reduceLT → Qb, reduceLeDiff → Qc, reduceAdd → Qd, reduceMul → Qe, reduceSub → Qf, reduceBEq → Qg
open String renaming reduceEq → Qh
open SpecC renaming seqW → Qi, regW → Qj, drawW → Qk, condW → Ql, block → Qm, skip → Qn, exit → Qp, ret → Qr, loopF → Qs
open NxK renaming out → Qw
open Nx renaming out → Qx
open condK renaming split → Qy
open gK renaming split_t → Qz, split_f → QA
@[go_sem] def ZG:List (List Nat×List Nat):=[([105],[107,108,109,110,104,112,113]),([106],[107,108,109,110,112,113]),([107],[105,106,108,111,104,112,113]),([108],[105,106,107,111,104,112,113]),([109],[105,106,104,112,113]),([110],[105,106,112,113]),([111],[107,108]),([104],[105,107,108,109]),([112],[105,106,107,108,109,110,113]),([113],[105,106,107,108,109,110,112,24]),([24],[113])]
instance:Dat (List Res) where
 av n:=.slice false (Ja n)
 sz:=1
 len _:=rfl
 pure n:=by simp only[AV.pure,Jnf]
 nrm n:=by simp only[AV.nrm,JmN]
 one _:=rfl
 known _:=rfl
@[go_sem] theorem Jue(n:List Res):Dat.av n=.slice false (Ja n):=rfl
@[go_sem] theorem JIu(l:List (List Res))(a:List Res):Ja l++[.slice false (Ja a)]=Ja (l++[a]):=by rw[J7];rfl
@[go_sem] theorem JKw:Dat.sz (List Res)=1:=rfl
set_option maxHeartbeats 32000000 in
theorem Job(limit begins:Int)(xs:List Frame)(hl:Jc xs.length)(hs:∀x∈xs,VG x) :
  CallR Tryz.prog 6 [.int .i64 limit,.slice false (Ja xs),.int .i64 begins] (.val (.bool true)):=by
 have w0:=Zd
 by_cases h20:20<xs.length
 ·have h20i:(20:Int)<(xs.length:Int):=by omega
  refine CallR.go3 (T:=T) Tryz.call6 Tryz.func6 rfl Tryz.ntmps6 (congrArg Array.toList Tryz.results6) (by decide) fun ts hn h0 h1 h2=>?_
  (repeat' (first
 | (with_reducible first|refine callX.by (w0) ?_|refine callX.by Zd ?_|refine callX.by (Ya _ _) ?_|refine callX.by (YM _ _ _ _ _ _ _ _ _ _ _ _ _ _ _ _ _ _ _ ?_) ?_|refine callX.by (Zi _ _ _ _ _ _ _ _ _ _ ?_) ?_|refine callX.by (Zk _ _ _ _ _ _ _ _ _ _ ?_) ?_|refine callX.by (Ze _ _ _ _ _ _ _ _ _ _ _ _ _ _ _ _ _ _ ?_) ?_|refine callX.by (YU _ _ _ _ _ _ _ _ _ _ _ _ _ _ _ _ _ _ ?_) ?_|refine callX.by awc4 ?_|refine callX.by awc6 ?_|refine callX.by (ZA _ _ _ ?_) ?_|refine callX.by (Zc _ _ ?_ ?_) ?_|refine callX.by (Zm _ ?_ ?_ ?_) ?_|refine callX.by (Zn _ ?_ ?_ ?_ ?_) ?_|refine callX.by (Zl _ ?_ ?_ ?_) ?_|refine callX.by sm8gc ?_|refine callX.by (Zs _ ?_ ?_) ?_|refine callX.by a6mc ?_|refine callX.by (Zy _ ?_ ?_) ?_|refine callX.by (Zz _ ?_ ?_ _) ?_|refine callX.by (Yf _ _ _ _ _ _ _ _ _ _ _ _ _ _ _ _ _ _ ?_) ?_|assumption|(refine Qw hK _ ?_;clear hK K)|refine Qw ‹_› _ ?_|refine Qx ‹_› ?_|refine Qi fun K hK=>?_|refine Qj T fun K hK=>?_|refine Qk (id:=28) T mixed ZG (by kernel_rfl) fun K hK=>?_|refine Ql fun A B hA hB=>?_|refine Qm ?_|refine Qn ?_|refine Qp ?_|refine Qr ?_)
 | ((with_reducible first|apply Qy|apply Qz|apply QA)<;>intro hb<;>try simp only[nr] at hb)
 |simp only[go_sem,↓reduceIte,reduceIte,Qa,Qh,Qb,Qc,Qd,Qe,Qf,Qg,reduceCtorEq, *,-hs,-w0]
 |with_reducible refine fun(bn:Bool) hbn=>?_))
 have h20i:¬(20:Int)<(xs.length:Int):=by omega
 have wn:=Ya limit 1000
 have hz:BdS (Jk limit 1000) 0:=⟨by simp[Jk],by simp[Jk],by simp[Jk],by simp[Jk],⟨by simp[Jk],by simp[Jk]⟩⟩
 have w10:=YM (Jk limit 1000).epoch (Jk limit 1000).turn (Jk limit 1000).up (Jk limit 1000).in'.last.a0 (Jk limit 1000).in'.last.a1 (Jk limit 1000).in'.last.a2 (Jk limit 1000).in'.last.a3 (Jk limit 1000).in'.max (Jk limit 1000).errs.a0 (Jk limit 1000).errs.a1 (Jk limit 1000).errs.a2 (Jk limit 1000).errs.a3 (Jk limit 1000).w.c.cap (Jk limit 1000).w.c.l (Jk limit 1000).w.ready (Jk limit 1000).w.shown (Jk limit 1000).p.next' (Jk limit 1000).p.snaps 1 (hz.sz (by decide))
 have w10:CallR Tryz.prog 17 [.agg [.int .i64 (Jk limit 1000).epoch,.int .i64 (Jk limit 1000).turn,.bool (Jk limit 1000).up,.int .i64 (Jk limit 1000).in'.last.a0,.int .i64 (Jk limit 1000).in'.last.a1,.int .i64 (Jk limit 1000).in'.last.a2,.int .i64 (Jk limit 1000).in'.last.a3,.int .i64 (Jk limit 1000).in'.max,.int .i64 (Jk limit 1000).errs.a0,.int .i64 (Jk limit 1000).errs.a1,.int .i64 (Jk limit 1000).errs.a2,.int .i64 (Jk limit 1000).errs.a3,.int .i64 (Jk limit 1000).w.c.cap,.slice false (Ja (Jk limit 1000).w.c.l),.bool (Jk limit 1000).w.ready,.slice false (Ja (Jk limit 1000).w.shown),.int .i64 (Jk limit 1000).p.next',.slice false (Ja (Jk limit 1000).p.snaps)],.int .i64 1] (.val (.tup [.agg [.int .i64 (JD (Jk limit 1000) 1).1.epoch,.int .i64 (JD (Jk limit 1000) 1).1.turn,.bool (JD (Jk limit 1000) 1).1.up,.int .i64 (JD (Jk limit 1000) 1).1.in'.last.a0,.int .i64 (JD (Jk limit 1000) 1).1.in'.last.a1,.int .i64 (JD (Jk limit 1000) 1).1.in'.last.a2,.int .i64 (JD (Jk limit 1000) 1).1.in'.last.a3,.int .i64 (JD (Jk limit 1000) 1).1.in'.max,.int .i64 (JD (Jk limit 1000) 1).1.errs.a0,.int .i64 (JD (Jk limit 1000) 1).1.errs.a1,.int .i64 (JD (Jk limit 1000) 1).1.errs.a2,.int .i64 (JD (Jk limit 1000) 1).1.errs.a3,.int .i64 (JD (Jk limit 1000) 1).1.w.c.cap,.slice false (Ja (JD (Jk limit 1000) 1).1.w.c.l),.bool (JD (Jk limit 1000) 1).1.w.ready,.slice false (Ja (JD (Jk limit 1000) 1).1.w.shown),.int .i64 (JD (Jk limit 1000) 1).1.p.next',.slice false (Ja (JD (Jk limit 1000) 1).1.p.snaps)],.slice false (Ja (JD (Jk limit 1000) 1).2.1),.int .i64 (JD (Jk limit 1000) 1).2.2])):=w10
 have hI:=Jn6 limit
 clear hz
 generalize (JD (Jk limit 1000) 1).2.2=e0 at *
 generalize (JD (Jk limit 1000) 1).2.1=l0 at *
 generalize (JD (Jk limit 1000) 1).1=s0 at *
 generalize Jk limit 1000=n0 at *
 refine CallR.go3 (T:=T) Tryz.call6 Tryz.func6 rfl Tryz.ntmps6 (congrArg Array.toList Tryz.results6) (by decide) fun ts hn h0 h1 h2=>?_
 (repeat' (first
 | (with_reducible first|refine callX.by (w0) ?_|refine callX.by (wn) ?_|refine callX.by (w10) ?_|refine callX.by Zd ?_|refine callX.by (Ya _ _) ?_|refine callX.by (YM _ _ _ _ _ _ _ _ _ _ _ _ _ _ _ _ _ _ _ ?_) ?_|refine callX.by (Zi _ _ _ _ _ _ _ _ _ _ ?_) ?_|refine callX.by (Zk _ _ _ _ _ _ _ _ _ _ ?_) ?_|refine callX.by (Ze _ _ _ _ _ _ _ _ _ _ _ _ _ _ _ _ _ _ ?_) ?_|refine callX.by (YU _ _ _ _ _ _ _ _ _ _ _ _ _ _ _ _ _ _ ?_) ?_|refine callX.by awc4 ?_|refine callX.by awc6 ?_|refine callX.by (ZA _ _ _ ?_) ?_|refine callX.by (Zc _ _ ?_ ?_) ?_|refine callX.by (Zm _ ?_ ?_ ?_) ?_|refine callX.by (Zn _ ?_ ?_ ?_ ?_) ?_|refine callX.by (Zl _ ?_ ?_ ?_) ?_|refine callX.by sm8gc ?_|refine callX.by (Zs _ ?_ ?_) ?_|refine callX.by a6mc ?_|refine callX.by (Zy _ ?_ ?_) ?_|refine callX.by (Zz _ ?_ ?_ _) ?_|refine callX.by (Yf _ _ _ _ _ _ _ _ _ _ _ _ _ _ _ _ _ _ ?_) ?_|assumption|(refine Qw hK _ ?_;clear hK K)|refine Qw ‹_› _ ?_|refine Qx ‹_› ?_|refine Qi fun K hK=>?_|refine Qj T fun K hK=>?_|refine Qk (id:=28) T mixed ZG (by kernel_rfl) fun K hK=>?_|refine Ql fun A B hA hB=>?_|refine Qm ?_|refine Qn ?_|refine Qp ?_|refine Qr ?_)
 | ((with_reducible first|apply Qy|apply Qz|apply QA)<;>intro hb<;>try simp only[nr] at hb)
 |simp only[go_sem,↓reduceIte,reduceIte,Qa,Qh,Qb,Qc,Qd,Qe,Qf,Qg,reduceCtorEq, *,-hs,-w0,-wn,-w10,-hI]
 |with_reducible refine fun(bn:Bool) hbn=>?_))
 refine SpecC.virt 11 93 1 (by decide) (by simp only[go_sem,↓reduceIte,reduceIte,Qa,Qh,Qb,Qc,Qd,Qe,Qf,Qg,reduceCtorEq, *,-hs,-w0,-wn,-w10,-hI]) ?_
 refine SpecC.virt 12 97 1 (by decide) (by simp only[go_sem,↓reduceIte,reduceIte,Qa,Qh,Qb,Qc,Qd,Qe,Qf,Qg,reduceCtorEq, *,-hs,-w0,-wn,-w10,-hI]) ?_
 refine Qs [1,2,7] (fun m ts'=>∃(i:Nat),∃(s:Side),∃(u:Nat),∃(g1:Nat),∃(g2:Nat),∃(ids:List Int),∃(was:List (List Res)),m=xs.length-i∧i≤xs.length∧ShI s ids was i i∧ts'.tmp 13=.int .i64 i∧ts'.tmp 8=.ref 8 u 0∧ts'.gen 8=u∧ts'.obj 8=.box [.int .i64 s.epoch,.int .i64 s.turn,.bool s.up,.int .i64 s.in'.last.a0,.int .i64 s.in'.last.a1,.int .i64 s.in'.last.a2,.int .i64 s.in'.last.a3,.int .i64 s.in'.max,.int .i64 s.errs.a0,.int .i64 s.errs.a1,.int .i64 s.errs.a2,.int .i64 s.errs.a3,.int .i64 s.w.c.cap,.slice false (Ja s.w.c.l),.bool s.w.ready,.slice false (Ja s.w.shown),.int .i64 s.p.next',.slice false (Ja s.p.snaps)]∧ts'.tmp 11=.os 93 g1 ids.length∧ts'.gen 93=g1∧ts'.obj 93=.arr 1 (Ja ids)∧ts'.tmp 12=.os 97 g2 was.length∧ts'.gen 97=g2∧ts'.obj 97=.arr 1 (Ja was)) xs.length ?_ ?_
 ·refine⟨0,s0,ts.gen 8+1,ts.gen 93+1,ts.gen 97+1,[],[],rfl,Nat.zero_le _,hI,?_⟩
  simp only[go_sem,↓reduceIte,reduceIte,Qa,Qh,Qb,Qc,Qd,Qe,Qf,Qg,reduceCtorEq, *,-hs,-w0,-wn,-w10,-hI,Yh,List.length_nil]
 ·clear hI wn w10
  rintro m A hM ts' hk ⟨i,s,u,g1,g2,ids,was,hm,f1,f2,s1,s2,s3,s4,s5,s6,s7,s8,s9,s10⟩
  simp only[go_sem,↓reduceIte,reduceIte,Qa,Qh,Qb,Qc,Qd,Qe,Qf,Qg,reduceCtorEq, *] at hk
  by_cases hlt:i<xs.length
  rotate_left
  ·(repeat' (first
 | (with_reducible first|refine callX.by Zd ?_|refine callX.by (Ya _ _) ?_|refine callX.by (YM _ _ _ _ _ _ _ _ _ _ _ _ _ _ _ _ _ _ _ ?_) ?_|refine callX.by (Zi _ _ _ _ _ _ _ _ _ _ ?_) ?_|refine callX.by (Zk _ _ _ _ _ _ _ _ _ _ ?_) ?_|refine callX.by (Ze _ _ _ _ _ _ _ _ _ _ _ _ _ _ _ _ _ _ ?_) ?_|refine callX.by (YU _ _ _ _ _ _ _ _ _ _ _ _ _ _ _ _ _ _ ?_) ?_|refine callX.by awc4 ?_|refine callX.by awc6 ?_|refine callX.by (ZA _ _ _ ?_) ?_|refine callX.by (Zc _ _ ?_ ?_) ?_|refine callX.by (Zm _ ?_ ?_ ?_) ?_|refine callX.by (Zn _ ?_ ?_ ?_ ?_) ?_|refine callX.by (Zl _ ?_ ?_ ?_) ?_|refine callX.by sm8gc ?_|refine callX.by (Zs _ ?_ ?_) ?_|refine callX.by a6mc ?_|refine callX.by (Zy _ ?_ ?_) ?_|refine callX.by (Zz _ ?_ ?_ _) ?_|refine callX.by (Yf _ _ _ _ _ _ _ _ _ _ _ _ _ _ _ _ _ _ ?_) ?_|assumption|(refine Qw hK _ ?_;clear hK K)|refine Qw ‹_› _ ?_|refine Qx ‹_› ?_|refine Qi fun K hK=>?_|refine Qj T fun K hK=>?_|refine Qk (id:=28) T mixed ZG (by kernel_rfl) fun K hK=>?_|refine Ql fun A B hA hB=>?_|refine Qm ?_|refine Qn ?_|refine Qp ?_|refine Qr ?_)
 | ((with_reducible first|apply Qy|apply Qz|apply QA)<;>intro hb<;>try simp only[nr] at hb)
 |simp only[go_sem,↓reduceIte,reduceIte,Qa,Qh,Qb,Qc,Qd,Qe,Qf,Qg,reduceCtorEq, *,-hs,-w0,-f2]
 |with_reducible refine fun(bn:Bool) hbn=>?_))
  have hf:=hs _ (List.getElem_mem hlt)
  have w1:=Zi xs[i].type xs[i].epoch xs[i].kind xs[i].nonce xs[i].turn xs[i].adds xs[i].gone xs[i].err xs[i].have' xs[i].held hf
  have w1:CallR Tryz.prog 9 [.agg [.int .i64 xs[i].type,.int .i64 xs[i].epoch,.int .i64 xs[i].kind,.int .i64 xs[i].nonce,.int .i64 xs[i].turn,.slice false (Ja xs[i].adds),.slice false (Ja xs[i].gone),.int .i64 xs[i].err,.slice false (Ja xs[i].have'),.slice false (Ja xs[i].held)]] (.val (.bool (JbL xs[i]))):=w1
  by_cases hfew:JbL xs[i]=true
  rotate_left
  ·have hfew:JbL xs[i]=false:=by simpa using hfew
   rw[hfew] at w1
   (repeat' (first
 | (with_reducible first|refine callX.by (w1) ?_|refine callX.by Zd ?_|refine callX.by (Ya _ _) ?_|refine callX.by (YM _ _ _ _ _ _ _ _ _ _ _ _ _ _ _ _ _ _ _ ?_) ?_|refine callX.by (Zi _ _ _ _ _ _ _ _ _ _ ?_) ?_|refine callX.by (Zk _ _ _ _ _ _ _ _ _ _ ?_) ?_|refine callX.by (Ze _ _ _ _ _ _ _ _ _ _ _ _ _ _ _ _ _ _ ?_) ?_|refine callX.by (YU _ _ _ _ _ _ _ _ _ _ _ _ _ _ _ _ _ _ ?_) ?_|refine callX.by awc4 ?_|refine callX.by awc6 ?_|refine callX.by (ZA _ _ _ ?_) ?_|refine callX.by (Zc _ _ ?_ ?_) ?_|refine callX.by (Zm _ ?_ ?_ ?_) ?_|refine callX.by (Zn _ ?_ ?_ ?_ ?_) ?_|refine callX.by (Zl _ ?_ ?_ ?_) ?_|refine callX.by sm8gc ?_|refine callX.by (Zs _ ?_ ?_) ?_|refine callX.by a6mc ?_|refine callX.by (Zy _ ?_ ?_) ?_|refine callX.by (Zz _ ?_ ?_ _) ?_|refine callX.by (Yf _ _ _ _ _ _ _ _ _ _ _ _ _ _ _ _ _ _ ?_) ?_|assumption|(refine Qw hK _ ?_;clear hK K)|refine Qw ‹_› _ ?_|refine Qx ‹_› ?_|refine Qi fun K hK=>?_|refine Qj T fun K hK=>?_|refine Qk (id:=28) T mixed ZG (by kernel_rfl) fun K hK=>?_|refine Ql fun A B hA hB=>?_|refine Qm ?_|refine Qn ?_|refine Qp ?_|refine Qr ?_)
 | ((with_reducible first|apply Qy|apply Qz|apply QA)<;>intro hb<;>try simp only[nr] at hb)
 |simp only[go_sem,↓reduceIte,reduceIte,Qa,Qh,Qb,Qc,Qd,Qe,Qf,Qg,reduceCtorEq, *,-hs,-hf,-w0,-w1,-f2]
 |with_reducible refine fun(bn:Bool) hbn=>?_))
  rw[hfew] at w1
  have ha80:xs[i].adds.length≤80:=by
   unfold JbL Ja0 at hfew
   simp only[Bool.and_eq_true,decide_eq_true_eq] at hfew
   exact hfew.2.1.1.1.2
  clear hfew
  have w2:=Zk xs[i].type xs[i].epoch xs[i].kind xs[i].nonce xs[i].turn xs[i].adds xs[i].gone xs[i].err xs[i].have' xs[i].held hf.2.2.2.2.1
  have hf1:VG ⟨xs[i].type,1,xs[i].kind,xs[i].nonce,xs[i].turn,xs[i].adds,xs[i].gone,xs[i].err,xs[i].have',xs[i].held⟩:=hf
  obtain⟨p1,p2⟩:=Jfy f2.bd (by omega) (f:=⟨xs[i].type,1,xs[i].kind,xs[i].nonce,xs[i].turn,xs[i].adds,xs[i].gone,xs[i].err,xs[i].have',xs[i].held⟩) hf.2.1 ha80
  have w3:=Jfw s.epoch s.turn s.up s.in'.last.a0 s.in'.last.a1 s.in'.last.a2 s.in'.last.a3 s.in'.max s.errs.a0 s.errs.a1 s.errs.a2 s.errs.a3 s.w.c.cap s.w.c.l s.w.ready s.w.shown s.p.next' s.p.snaps xs[i].type 1 xs[i].kind xs[i].nonce xs[i].turn xs[i].adds xs[i].gone xs[i].err xs[i].have' xs[i].held (f2.bd.sz (by omega)) hf1 p1 p2
  have w3:CallR Tryz.prog 12 [.agg [.int .i64 s.epoch,.int .i64 s.turn,.bool s.up,.int .i64 s.in'.last.a0,.int .i64 s.in'.last.a1,.int .i64 s.in'.last.a2,.int .i64 s.in'.last.a3,.int .i64 s.in'.max,.int .i64 s.errs.a0,.int .i64 s.errs.a1,.int .i64 s.errs.a2,.int .i64 s.errs.a3,.int .i64 s.w.c.cap,.slice false (Ja s.w.c.l),.bool s.w.ready,.slice false (Ja s.w.shown),.int .i64 s.p.next',.slice false (Ja s.p.snaps)],.agg [.int .i64 xs[i].type,.int .i64 1,.int .i64 xs[i].kind,.int .i64 xs[i].nonce,.int .i64 xs[i].turn,.slice false (Ja xs[i].adds),.slice false (Ja xs[i].gone),.int .i64 xs[i].err,.slice false (Ja xs[i].have'),.slice false (Ja xs[i].held)]] (.val (.tup [.agg [.int .i64 (JA s ⟨xs[i].type,1,xs[i].kind,xs[i].nonce,xs[i].turn,xs[i].adds,xs[i].gone,xs[i].err,xs[i].have',xs[i].held⟩).1.epoch,.int .i64 (JA s ⟨xs[i].type,1,xs[i].kind,xs[i].nonce,xs[i].turn,xs[i].adds,xs[i].gone,xs[i].err,xs[i].have',xs[i].held⟩).1.turn,.bool (JA s ⟨xs[i].type,1,xs[i].kind,xs[i].nonce,xs[i].turn,xs[i].adds,xs[i].gone,xs[i].err,xs[i].have',xs[i].held⟩).1.up,.int .i64 (JA s ⟨xs[i].type,1,xs[i].kind,xs[i].nonce,xs[i].turn,xs[i].adds,xs[i].gone,xs[i].err,xs[i].have',xs[i].held⟩).1.in'.last.a0,.int .i64 (JA s ⟨xs[i].type,1,xs[i].kind,xs[i].nonce,xs[i].turn,xs[i].adds,xs[i].gone,xs[i].err,xs[i].have',xs[i].held⟩).1.in'.last.a1,.int .i64 (JA s ⟨xs[i].type,1,xs[i].kind,xs[i].nonce,xs[i].turn,xs[i].adds,xs[i].gone,xs[i].err,xs[i].have',xs[i].held⟩).1.in'.last.a2,.int .i64 (JA s ⟨xs[i].type,1,xs[i].kind,xs[i].nonce,xs[i].turn,xs[i].adds,xs[i].gone,xs[i].err,xs[i].have',xs[i].held⟩).1.in'.last.a3,.int .i64 (JA s ⟨xs[i].type,1,xs[i].kind,xs[i].nonce,xs[i].turn,xs[i].adds,xs[i].gone,xs[i].err,xs[i].have',xs[i].held⟩).1.in'.max,.int .i64 (JA s ⟨xs[i].type,1,xs[i].kind,xs[i].nonce,xs[i].turn,xs[i].adds,xs[i].gone,xs[i].err,xs[i].have',xs[i].held⟩).1.errs.a0,.int .i64 (JA s ⟨xs[i].type,1,xs[i].kind,xs[i].nonce,xs[i].turn,xs[i].adds,xs[i].gone,xs[i].err,xs[i].have',xs[i].held⟩).1.errs.a1,.int .i64 (JA s ⟨xs[i].type,1,xs[i].kind,xs[i].nonce,xs[i].turn,xs[i].adds,xs[i].gone,xs[i].err,xs[i].have',xs[i].held⟩).1.errs.a2,.int .i64 (JA s ⟨xs[i].type,1,xs[i].kind,xs[i].nonce,xs[i].turn,xs[i].adds,xs[i].gone,xs[i].err,xs[i].have',xs[i].held⟩).1.errs.a3,.int .i64 (JA s ⟨xs[i].type,1,xs[i].kind,xs[i].nonce,xs[i].turn,xs[i].adds,xs[i].gone,xs[i].err,xs[i].have',xs[i].held⟩).1.w.c.cap,.slice false (Ja (JA s ⟨xs[i].type,1,xs[i].kind,xs[i].nonce,xs[i].turn,xs[i].adds,xs[i].gone,xs[i].err,xs[i].have',xs[i].held⟩).1.w.c.l),.bool (JA s ⟨xs[i].type,1,xs[i].kind,xs[i].nonce,xs[i].turn,xs[i].adds,xs[i].gone,xs[i].err,xs[i].have',xs[i].held⟩).1.w.ready,.slice false (Ja (JA s ⟨xs[i].type,1,xs[i].kind,xs[i].nonce,xs[i].turn,xs[i].adds,xs[i].gone,xs[i].err,xs[i].have',xs[i].held⟩).1.w.shown),.int .i64 (JA s ⟨xs[i].type,1,xs[i].kind,xs[i].nonce,xs[i].turn,xs[i].adds,xs[i].gone,xs[i].err,xs[i].have',xs[i].held⟩).1.p.next',.slice false (Ja (JA s ⟨xs[i].type,1,xs[i].kind,xs[i].nonce,xs[i].turn,xs[i].adds,xs[i].gone,xs[i].err,xs[i].have',xs[i].held⟩).1.p.snaps)],.slice false (Ja (JA s ⟨xs[i].type,1,xs[i].kind,xs[i].nonce,xs[i].turn,xs[i].adds,xs[i].gone,xs[i].err,xs[i].have',xs[i].held⟩).2.1),.int .i64 (JA s ⟨xs[i].type,1,xs[i].kind,xs[i].nonce,xs[i].turn,xs[i].adds,xs[i].gone,xs[i].err,xs[i].have',xs[i].held⟩).2.2])):=w3
  have h1:=f2.handle (f:=⟨xs[i].type,1,xs[i].kind,xs[i].nonce,xs[i].turn,xs[i].adds,xs[i].gone,xs[i].err,xs[i].have',xs[i].held⟩) hf.2.1
  clear p1 p2 hf1 hf ha80
  generalize (JA s ⟨xs[i].type,1,xs[i].kind,xs[i].nonce,xs[i].turn,xs[i].adds,xs[i].gone,xs[i].err,xs[i].have',xs[i].held⟩).2.2=e3 at *
  generalize (JA s ⟨xs[i].type,1,xs[i].kind,xs[i].nonce,xs[i].turn,xs[i].adds,xs[i].gone,xs[i].err,xs[i].have',xs[i].held⟩).2.1=l3 at *
  generalize (JA s ⟨xs[i].type,1,xs[i].kind,xs[i].nonce,xs[i].turn,xs[i].adds,xs[i].gone,xs[i].err,xs[i].have',xs[i].held⟩).1=t at *
  have hwi:IntKind.u64.wrap (i:Int)=(i:Int):=IntWalk.u64_in _ (by omega)
  have hi0:(0:Int)≤(i:Int):=by omega
  have hi64:(i:Int)≤((64:Nat):Int):=by omega
  have hi65:(i:Int)≤64:=by omega
  have hil:=f2.k.len
  have hie:=f2.k.eq
  have hr1:Vl (ids.length+1) 8:=ZV (by omega) (by decide)
  have hr2:Vl (was.length+1) 24:=ZV (by omega) (by decide)
  clear hil hie
  have w4:=Ze t.epoch t.turn t.up t.in'.last.a0 t.in'.last.a1 t.in'.last.a2 t.in'.last.a3 t.in'.max t.errs.a0 t.errs.a1 t.errs.a2 t.errs.a3 t.w.c.cap t.w.c.l t.w.ready t.w.shown t.p.next' t.p.snaps (h1.bd.sz (by omega))
  have w4:CallR Tryz.prog 22 [.agg [.int .i64 t.epoch,.int .i64 t.turn,.bool t.up,.int .i64 t.in'.last.a0,.int .i64 t.in'.last.a1,.int .i64 t.in'.last.a2,.int .i64 t.in'.last.a3,.int .i64 t.in'.max,.int .i64 t.errs.a0,.int .i64 t.errs.a1,.int .i64 t.errs.a2,.int .i64 t.errs.a3,.int .i64 t.w.c.cap,.slice false (Ja t.w.c.l),.bool t.w.ready,.slice false (Ja t.w.shown),.int .i64 t.p.next',.slice false (Ja t.p.snaps)]] (.val (.tup [.agg [.int .i64 (JM t).epoch,.int .i64 (JM t).turn,.bool (JM t).up,.int .i64 (JM t).in'.last.a0,.int .i64 (JM t).in'.last.a1,.int .i64 (JM t).in'.last.a2,.int .i64 (JM t).in'.last.a3,.int .i64 (JM t).in'.max,.int .i64 (JM t).errs.a0,.int .i64 (JM t).errs.a1,.int .i64 (JM t).errs.a2,.int .i64 (JM t).errs.a3,.int .i64 (JM t).w.c.cap,.slice false (Ja (JM t).w.c.l),.bool (JM t).w.ready,.slice false (Ja (JM t).w.shown),.int .i64 (JM t).p.next',.slice false (Ja (JM t).p.snaps)],.int .i64 (VC (JC t).p).2.1,.int .i64 (VC (JC t).p).2.2])):=w4
  rw[Jak h1.sane] at w4
  obtain⟨t2,id,e4,l4,b1,b2,b3,b4,b5,h2,h3⟩:∃t2 id e l,JM t=t2∧(VC t.p).2=(id,e)∧(JY t2.p).2=(l,decide (e=0))∧Vi t2=true∧BdS t2 (i+1) ∧
    (e=0→ShI t2 (ids++[id]) (was++[l]) (i+1) (i+1))∧(¬e=0→ShI t2 ids was (i+1) (i+1)):=by
   rcases h1.begin (by omega) with ⟨e1,e2,e4⟩|⟨id,l,e1,e2,h2⟩
   ·exact⟨t,0,10,(JY t.p).2.1,e1,e2,Prod.ext rfl e4,h1.sane,h1.bd,fun h=>by simp at h,fun _=>h1.mono (Nat.le_succ i)⟩
   ·exact⟨_,id,0,l,rfl,e1,e2,h2.sane,h2.bd,fun _=>h2,fun h=>absurd rfl h⟩
  have w5:=YU t2.epoch t2.turn t2.up t2.in'.last.a0 t2.in'.last.a1 t2.in'.last.a2 t2.in'.last.a3 t2.in'.max t2.errs.a0 t2.errs.a1 t2.errs.a2 t2.errs.a3 t2.w.c.cap t2.w.c.l t2.w.ready t2.w.shown t2.p.next' t2.p.snaps (b5.sz (by omega))
  have w5:CallR Tryz.prog 18 [.agg [.int .i64 t2.epoch,.int .i64 t2.turn,.bool t2.up,.int .i64 t2.in'.last.a0,.int .i64 t2.in'.last.a1,.int .i64 t2.in'.last.a2,.int .i64 t2.in'.last.a3,.int .i64 t2.in'.max,.int .i64 t2.errs.a0,.int .i64 t2.errs.a1,.int .i64 t2.errs.a2,.int .i64 t2.errs.a3,.int .i64 t2.w.c.cap,.slice false (Ja t2.w.c.l),.bool t2.w.ready,.slice false (Ja t2.w.shown),.int .i64 t2.p.next',.slice false (Ja t2.p.snaps)]] (.val (.tup [.slice false (Ja (JY (JC t2).p).2.1),.bool (JY (JC t2).p).2.2])):=w5
  rw[Jak b4,b3] at w5
  rw[b1,b2] at w4
  have h4:=h1.mono (Nat.le_succ i)
  clear b1 b2 b3 b4 b5 h1 f2
  (repeat' (first
 | (with_reducible first|refine callX.by (w1) ?_|refine callX.by (w2) ?_|refine callX.by (w3) ?_|refine callX.by (w4) ?_|refine callX.by (w5) ?_|refine SpecC.regMidW T 3 (id:=16) rfl rfl fun K hK=>?_|refine fun(K2:TS→Prop) (hK2:NxK _ K2)=>?_|refine SpecO.conv T rfl ?_|refine SpecO.shr rfl ?_|refine Qw hK2 _ ?_|refine fun(K3:TS→Prop) (hK3:NxK _ K3)=>?_|refine Qw hK3 _ ?_|refine SpecC.cutAtS 25 [0,1,2,7,13] (fun ts'=>∃(s:Side),∃(u:Nat),∃(g1:Nat),∃(g2:Nat),∃(ids:List Int),∃(was:List (List Res)),ShI s ids was (i+1) (i+1)∧ts'.tmp 8=.ref 8 u 0∧ts'.gen 8=u∧ts'.obj 8=.box [.int .i64 s.epoch,.int .i64 s.turn,.bool s.up,.int .i64 s.in'.last.a0,.int .i64 s.in'.last.a1,.int .i64 s.in'.last.a2,.int .i64 s.in'.last.a3,.int .i64 s.in'.max,.int .i64 s.errs.a0,.int .i64 s.errs.a1,.int .i64 s.errs.a2,.int .i64 s.errs.a3,.int .i64 s.w.c.cap,.slice false (Ja s.w.c.l),.bool s.w.ready,.slice false (Ja s.w.shown),.int .i64 s.p.next',.slice false (Ja s.p.snaps)]∧ts'.tmp 11=.os 93 g1 ids.length∧ts'.gen 93=g1∧ts'.obj 93=.arr 1 (Ja ids)∧ts'.tmp 12=.os 97 g2 was.length∧ts'.gen 97=g2∧ts'.obj 97=.arr 1 (Ja was)) ?_ ?_|refine callX.by Zd ?_|refine callX.by (Ya _ _) ?_|refine callX.by (YM _ _ _ _ _ _ _ _ _ _ _ _ _ _ _ _ _ _ _ ?_) ?_|refine callX.by (Zi _ _ _ _ _ _ _ _ _ _ ?_) ?_|refine callX.by (Zk _ _ _ _ _ _ _ _ _ _ ?_) ?_|refine callX.by (Ze _ _ _ _ _ _ _ _ _ _ _ _ _ _ _ _ _ _ ?_) ?_|refine callX.by (YU _ _ _ _ _ _ _ _ _ _ _ _ _ _ _ _ _ _ ?_) ?_|refine callX.by awc4 ?_|refine callX.by awc6 ?_|refine callX.by (ZA _ _ _ ?_) ?_|refine callX.by (Zc _ _ ?_ ?_) ?_|refine callX.by (Zm _ ?_ ?_ ?_) ?_|refine callX.by (Zn _ ?_ ?_ ?_ ?_) ?_|refine callX.by (Zl _ ?_ ?_ ?_) ?_|refine callX.by sm8gc ?_|refine callX.by (Zs _ ?_ ?_) ?_|refine callX.by a6mc ?_|refine callX.by (Zy _ ?_ ?_) ?_|refine callX.by (Zz _ ?_ ?_ _) ?_|refine callX.by (Yf _ _ _ _ _ _ _ _ _ _ _ _ _ _ _ _ _ _ ?_) ?_|assumption|(refine Qw hK _ ?_;clear hK K)|refine Qw ‹_› _ ?_|refine Qx ‹_› ?_|refine Qi fun K hK=>?_|refine Qj T fun K hK=>?_|refine Qk (id:=28) T mixed ZG (by kernel_rfl) fun K hK=>?_|refine Ql fun A B hA hB=>?_|refine Qm ?_|refine Qn ?_|refine Qp ?_|refine Qr ?_)
 | ((with_reducible first|apply Qy|apply Qz|apply QA)<;>intro hb<;>try simp only[nr] at hb)
 |simp only[go_sem,↓reduceIte,reduceIte,Qa,Qh,Qb,Qc,Qd,Qe,Qf,Qg,reduceCtorEq, *,-hs,-w0,-w1,-w2,-w3,-w4,-w5,-h2,-h3,-h4,List.take_length]
 |with_reducible refine fun(bn:Bool) hbn=>?_))
  any_goals (first
   | (have hx:=h2 (of_decide_eq_true hb);(repeat clear hK);(repeat clear hA);(repeat clear hB);(refine⟨_,(Ent.rfl' _),by simp only[go_sem,↓reduceIte,reduceIte,Qa,Qh,Qb,Qc,Qd,Qe,Qf,Qg,reduceCtorEq, *,-hs,-w0,-w1,-w2,-w3,-w4,-w5,-hx,-h2,-h3,-h4,List.length_append,List.length_cons,List.length_nil];done,⟨t2,u,ts'.gen 93+1,ts'.gen 97+1,ids++[id],was++[l4],hx,?_⟩⟩;simp only[go_sem,↓reduceIte,reduceIte,Qa,Qh,Qb,Qc,Qd,Qe,Qf,Qg,reduceCtorEq, *,-hs,-w0,-w1,-w2,-w3,-w4,-w5,-hx,-h2,-h3,-h4,List.length_append,List.length_cons,List.length_nil];done))
   | (have hx:=h3 (of_decide_eq_false hb);(repeat clear hK);(repeat clear hA);(repeat clear hB);(refine⟨_,(Ent.rfl' _),by simp only[go_sem,↓reduceIte,reduceIte,Qa,Qh,Qb,Qc,Qd,Qe,Qf,Qg,reduceCtorEq, *,-hs,-w0,-w1,-w2,-w3,-w4,-w5,-hx,-h2,-h3,-h4];done,⟨t2,u,g1,g2,ids,was,hx,?_⟩⟩;simp only[go_sem,↓reduceIte,reduceIte,Qa,Qh,Qb,Qc,Qd,Qe,Qf,Qg,reduceCtorEq, *,-hs,-w0,-w1,-w2,-w3,-w4,-w5,-hx,-h2,-h3,-h4];done))
   | ((repeat clear hK);(repeat clear hA);(repeat clear hB);(refine⟨_,(Ent.rfl' _),by simp only[go_sem,↓reduceIte,reduceIte,Qa,Qh,Qb,Qc,Qd,Qe,Qf,Qg,reduceCtorEq, *,-hs,-w0,-w1,-w2,-w3,-w4,-w5,-h2,-h3,-h4];done,⟨t,u,g1,g2,ids,was,h4,?_⟩⟩;simp only[go_sem,↓reduceIte,reduceIte,Qa,Qh,Qb,Qc,Qd,Qe,Qf,Qg,reduceCtorEq, *,-hs,-w0,-w1,-w2,-w3,-w4,-w5,-h2,-h3,-h4];done))
   |skip)
  clear w1 w2 w3 w4 w5 h2 h3 h4 hr1 hr2 hwi hi0 hi64 hi65 s2 s3 s4 s5 s6 s7 s8 s9 s10
  intro ts2 hk3
  rintro⟨s,u,g1,g2,ids,was,h,v1,v2,v3,v4,v5,v6,v7,v8,v9⟩
  simp only[go_sem,↓reduceIte,reduceIte,Qa,Qh,Qb,Qc,Qd,Qe,Qf,Qg,reduceCtorEq, *,-hs,-w0,-h] at hk3
  have hsi:Jc ids.length:=by have:=h.k.len;unfold Jc;omega
  (repeat' (first
 | (with_reducible first|refine callX.by Zd ?_|refine callX.by (Ya _ _) ?_|refine callX.by (YM _ _ _ _ _ _ _ _ _ _ _ _ _ _ _ _ _ _ _ ?_) ?_|refine callX.by (Zi _ _ _ _ _ _ _ _ _ _ ?_) ?_|refine callX.by (Zk _ _ _ _ _ _ _ _ _ _ ?_) ?_|refine callX.by (Ze _ _ _ _ _ _ _ _ _ _ _ _ _ _ _ _ _ _ ?_) ?_|refine callX.by (YU _ _ _ _ _ _ _ _ _ _ _ _ _ _ _ _ _ _ ?_) ?_|refine callX.by awc4 ?_|refine callX.by awc6 ?_|refine callX.by (ZA _ _ _ ?_) ?_|refine callX.by (Zc _ _ ?_ ?_) ?_|refine callX.by (Zm _ ?_ ?_ ?_) ?_|refine callX.by (Zn _ ?_ ?_ ?_ ?_) ?_|refine callX.by (Zl _ ?_ ?_ ?_) ?_|refine callX.by sm8gc ?_|refine callX.by (Zs _ ?_ ?_) ?_|refine callX.by a6mc ?_|refine callX.by (Zy _ ?_ ?_) ?_|refine callX.by (Zz _ ?_ ?_ _) ?_|refine callX.by (Yf _ _ _ _ _ _ _ _ _ _ _ _ _ _ _ _ _ _ ?_) ?_|assumption|(refine Qw hK _ ?_;clear hK K)|refine Qw ‹_› _ ?_|refine Qx ‹_› ?_|refine Qi fun K hK=>?_|refine Qj T fun K hK=>?_|refine Qk (id:=28) T mixed ZG (by kernel_rfl) fun K hK=>?_|refine Ql fun A B hA hB=>?_|refine Qm ?_|refine Qn ?_|refine Qp ?_|refine Qr ?_)
 | ((with_reducible first|apply Qy|apply Qz|apply QA)<;>intro hb<;>try simp only[nr] at hb)
 |simp only[go_sem,↓reduceIte,reduceIte,Qa,Qh,Qb,Qc,Qd,Qe,Qf,Qg,reduceCtorEq, *,-hs,-w0,-h]
 |with_reducible refine fun(bn:Bool) hbn=>?_))
  refine Qs [1,2,7,8,11,12,13] (fun m ts'=>∃(k:Nat),m=ids.length-k∧k≤ids.length∧ts'.tmp 23=.int .i64 k∧ts'.gen 8=u∧ts'.obj 8=.box [.int .i64 s.epoch,.int .i64 s.turn,.bool s.up,.int .i64 s.in'.last.a0,.int .i64 s.in'.last.a1,.int .i64 s.in'.last.a2,.int .i64 s.in'.last.a3,.int .i64 s.in'.max,.int .i64 s.errs.a0,.int .i64 s.errs.a1,.int .i64 s.errs.a2,.int .i64 s.errs.a3,.int .i64 s.w.c.cap,.slice false (Ja s.w.c.l),.bool s.w.ready,.slice false (Ja s.w.shown),.int .i64 s.p.next',.slice false (Ja s.p.snaps)]∧ts'.gen 93=g1∧ts'.obj 93=.arr 1 (Ja ids)∧ts'.gen 97=g2∧ts'.obj 97=.arr 1 (Ja was)) ids.length ?_ ?_
  ·refine⟨0,rfl,Nat.zero_le _,?_⟩
   simp only[go_sem,↓reduceIte,reduceIte,Qa,Qh,Qb,Qc,Qd,Qe,Qf,Qg,reduceCtorEq, *,-hs,-w0,-h]
  ·revert hM
   intro hM0
   rintro m A hM ts' hk ⟨k,hm,f1,s1,s2,s3,s4,s5,s6,s7⟩
   simp only[go_sem,↓reduceIte,reduceIte,Qa,Qh,Qb,Qc,Qd,Qe,Qf,Qg,reduceCtorEq, *] at hk
   by_cases hkt:k<ids.length
   ·have hkw:k<was.length:=by rw[h.k.eq];exact hkt
    have w1:=ZA s.p.next' ids[k] s.p.snaps h.k.ok.small
    rw[show JaG ⟨s.p.next',s.p.snaps⟩ ids[k]=(was[k],true) from h.k.get hkt hkw] at w1
    obtain⟨x,hx,-,-,ex⟩:=h.k.held k hkt hkw
    have hwx:=h.k.whole x hx
    rw[ex] at hwx
    have w2:=Zc was[k] was[k] (by have:=hwx.len;unfold Jc;omega) hwx.sm
    simp only[decide_true] at w2
    clear hwx hx ex
    (repeat' (first
 | (with_reducible first|refine callX.by (w1) ?_|refine callX.by (w2) ?_|refine callX.by Zd ?_|refine callX.by (Ya _ _) ?_|refine callX.by (YM _ _ _ _ _ _ _ _ _ _ _ _ _ _ _ _ _ _ _ ?_) ?_|refine callX.by (Zi _ _ _ _ _ _ _ _ _ _ ?_) ?_|refine callX.by (Zk _ _ _ _ _ _ _ _ _ _ ?_) ?_|refine callX.by (Ze _ _ _ _ _ _ _ _ _ _ _ _ _ _ _ _ _ _ ?_) ?_|refine callX.by (YU _ _ _ _ _ _ _ _ _ _ _ _ _ _ _ _ _ _ ?_) ?_|refine callX.by awc4 ?_|refine callX.by awc6 ?_|refine callX.by (ZA _ _ _ ?_) ?_|refine callX.by (Zc _ _ ?_ ?_) ?_|refine callX.by (Zm _ ?_ ?_ ?_) ?_|refine callX.by (Zn _ ?_ ?_ ?_ ?_) ?_|refine callX.by (Zl _ ?_ ?_ ?_) ?_|refine callX.by sm8gc ?_|refine callX.by (Zs _ ?_ ?_) ?_|refine callX.by a6mc ?_|refine callX.by (Zy _ ?_ ?_) ?_|refine callX.by (Zz _ ?_ ?_ _) ?_|refine callX.by (Yf _ _ _ _ _ _ _ _ _ _ _ _ _ _ _ _ _ _ ?_) ?_|assumption|(refine Qw hK _ ?_;clear hK K)|refine Qw ‹_› _ ?_|refine Qx ‹_› ?_|refine Qi fun K hK=>?_|refine Qj T fun K hK=>?_|refine Qk (id:=28) T mixed ZG (by kernel_rfl) fun K hK=>?_|refine Ql fun A B hA hB=>?_|refine Qm ?_|refine Qn ?_|refine Qp ?_|refine Qr ?_)
 | ((with_reducible first|apply Qy|apply Qz|apply QA)<;>intro hb<;>try simp only[nr] at hb)
 |simp only[go_sem,↓reduceIte,reduceIte,Qa,Qh,Qb,Qc,Qd,Qe,Qf,Qg,reduceCtorEq, *,-hs,-w0,-h,-w1,-w2]
 |with_reducible refine fun(bn:Bool) hbn=>?_))
    all_goals ((repeat clear hK);(repeat clear hA);(repeat clear hB))
    (refine hM.on (ids.length-(k+1)) (by omega) (by simp only[go_sem,↓reduceIte,reduceIte,Qa,Qh,Qb,Qc,Qd,Qe,Qf,Qg,reduceCtorEq, *,Jf hkt hsi,-hs,-w0,-h,-w1,-w2]) ⟨k+1,rfl,by omega,?_⟩;simp only[go_sem,↓reduceIte,reduceIte,Qa,Qh,Qb,Qc,Qd,Qe,Qf,Qg,reduceCtorEq, *,Jf hkt hsi,-hs,-w0,-h,-w1,-w2];done)
   ·(repeat' (first
 | (with_reducible first|refine callX.by Zd ?_|refine callX.by (Ya _ _) ?_|refine callX.by (YM _ _ _ _ _ _ _ _ _ _ _ _ _ _ _ _ _ _ _ ?_) ?_|refine callX.by (Zi _ _ _ _ _ _ _ _ _ _ ?_) ?_|refine callX.by (Zk _ _ _ _ _ _ _ _ _ _ ?_) ?_|refine callX.by (Ze _ _ _ _ _ _ _ _ _ _ _ _ _ _ _ _ _ _ ?_) ?_|refine callX.by (YU _ _ _ _ _ _ _ _ _ _ _ _ _ _ _ _ _ _ ?_) ?_|refine callX.by awc4 ?_|refine callX.by awc6 ?_|refine callX.by (ZA _ _ _ ?_) ?_|refine callX.by (Zc _ _ ?_ ?_) ?_|refine callX.by (Zm _ ?_ ?_ ?_) ?_|refine callX.by (Zn _ ?_ ?_ ?_ ?_) ?_|refine callX.by (Zl _ ?_ ?_ ?_) ?_|refine callX.by sm8gc ?_|refine callX.by (Zs _ ?_ ?_) ?_|refine callX.by a6mc ?_|refine callX.by (Zy _ ?_ ?_) ?_|refine callX.by (Zz _ ?_ ?_ _) ?_|refine callX.by (Yf _ _ _ _ _ _ _ _ _ _ _ _ _ _ _ _ _ _ ?_) ?_|assumption|(refine Qw hK _ ?_;clear hK K)|refine Qw ‹_› _ ?_|refine Qx ‹_› ?_|refine Qi fun K hK=>?_|refine Qj T fun K hK=>?_|refine Qk (id:=28) T mixed ZG (by kernel_rfl) fun K hK=>?_|refine Ql fun A B hA hB=>?_|refine Qm ?_|refine Qn ?_|refine Qp ?_|refine Qr ?_)
 | ((with_reducible first|apply Qy|apply Qz|apply QA)<;>intro hb<;>try simp only[nr] at hb)
 |simp only[go_sem,↓reduceIte,reduceIte,Qa,Qh,Qb,Qc,Qd,Qe,Qf,Qg,reduceCtorEq, *,-hs,-w0,-h]
 |with_reducible refine fun(bn:Bool) hbn=>?_))
    have hsn:Jc s.p.snaps.length:=h.k.ok.small
    refine Qs [1,2,7,8,11,12,13] (fun m ts'=>∃(k:Nat),m=s.p.snaps.length-k∧k≤s.p.snaps.length∧ts'.tmp 26=.int .i64 k∧ts'.gen 8=u∧ts'.obj 8=.box [.int .i64 s.epoch,.int .i64 s.turn,.bool s.up,.int .i64 s.in'.last.a0,.int .i64 s.in'.last.a1,.int .i64 s.in'.last.a2,.int .i64 s.in'.last.a3,.int .i64 s.in'.max,.int .i64 s.errs.a0,.int .i64 s.errs.a1,.int .i64 s.errs.a2,.int .i64 s.errs.a3,.int .i64 s.w.c.cap,.slice false (Ja s.w.c.l),.bool s.w.ready,.slice false (Ja s.w.shown),.int .i64 s.p.next',.slice false (Ja s.p.snaps)]∧ts'.gen 93=g1∧ts'.obj 93=.arr 1 (Ja ids)∧ts'.gen 97=g2∧ts'.obj 97=.arr 1 (Ja was)) s.p.snaps.length ?_ ?_
    ·refine⟨0,rfl,Nat.zero_le _,?_⟩
     simp only[go_sem,↓reduceIte,reduceIte,Qa,Qh,Qb,Qc,Qd,Qe,Qf,Qg,reduceCtorEq, *,-hs,-w0,-h]
    ·clear hM hkt f1
     revert hM0
     intro hM0
     rintro m A hM ts' hk ⟨k,hm,f1,s1,s2,s3,s4,s5,s6,s7⟩
     simp only[go_sem,↓reduceIte,reduceIte,Qa,Qh,Qb,Qc,Qd,Qe,Qf,Qg,reduceCtorEq, *] at hk
     by_cases hkt:k<s.p.snaps.length
     ·have hwx:=h.k.whole _ (List.getElem_mem hkt)
      have hln:=hwx.len
      have w1:=Zl s.p.snaps[k].l (by omega) hwx.sm fun h=>(Z6 h).nodup
      rw[hwx.good] at w1
      have w2:=Zs s.p.snaps[k].l (by omega) hwx.sm
      rw[hwx.miss] at w2
      have w3:=Zz s.p.snaps[k].l (by omega) hwx.sm hwx.nd
      rw[hwx.orph] at w3
      rw[Yh] at w2 w3
      clear hwx hln
      (repeat' (first
 | (with_reducible first|refine callX.by (w1) ?_|refine callX.by (w2) ?_|refine callX.by (w3) ?_|refine callX.by Zd ?_|refine callX.by (Ya _ _) ?_|refine callX.by (YM _ _ _ _ _ _ _ _ _ _ _ _ _ _ _ _ _ _ _ ?_) ?_|refine callX.by (Zi _ _ _ _ _ _ _ _ _ _ ?_) ?_|refine callX.by (Zk _ _ _ _ _ _ _ _ _ _ ?_) ?_|refine callX.by (Ze _ _ _ _ _ _ _ _ _ _ _ _ _ _ _ _ _ _ ?_) ?_|refine callX.by (YU _ _ _ _ _ _ _ _ _ _ _ _ _ _ _ _ _ _ ?_) ?_|refine callX.by awc4 ?_|refine callX.by awc6 ?_|refine callX.by (ZA _ _ _ ?_) ?_|refine callX.by (Zc _ _ ?_ ?_) ?_|refine callX.by (Zm _ ?_ ?_ ?_) ?_|refine callX.by (Zn _ ?_ ?_ ?_ ?_) ?_|refine callX.by (Zl _ ?_ ?_ ?_) ?_|refine callX.by sm8gc ?_|refine callX.by (Zs _ ?_ ?_) ?_|refine callX.by a6mc ?_|refine callX.by (Zy _ ?_ ?_) ?_|refine callX.by (Zz _ ?_ ?_ _) ?_|refine callX.by (Yf _ _ _ _ _ _ _ _ _ _ _ _ _ _ _ _ _ _ ?_) ?_|assumption|(refine Qw hK _ ?_;clear hK K)|refine Qw ‹_› _ ?_|refine Qx ‹_› ?_|refine Qi fun K hK=>?_|refine Qj T fun K hK=>?_|refine Qk (id:=28) T mixed ZG (by kernel_rfl) fun K hK=>?_|refine Ql fun A B hA hB=>?_|refine Qm ?_|refine Qn ?_|refine Qp ?_|refine Qr ?_)
 | ((with_reducible first|apply Qy|apply Qz|apply QA)<;>intro hb<;>try simp only[nr] at hb)
 |simp only[go_sem,↓reduceIte,reduceIte,Qa,Qh,Qb,Qc,Qd,Qe,Qf,Qg,reduceCtorEq, *,-hs,-w0,-h,-w1,-w2,-w3,List.length_nil]
 |with_reducible refine fun(bn:Bool) hbn=>?_))
      all_goals ((repeat clear hK);(repeat clear hA);(repeat clear hB))
      all_goals first|(exfalso;omega)|(refine hM.on (s.p.snaps.length-(k+1)) (by omega) (by simp only[go_sem,↓reduceIte,reduceIte,Qa,Qh,Qb,Qc,Qd,Qe,Qf,Qg,reduceCtorEq, *,Jf hkt hsn,-hs,-w0,-h,-w1,-w2,-w3]) ⟨k+1,rfl,by omega,?_⟩;simp only[go_sem,↓reduceIte,reduceIte,Qa,Qh,Qb,Qc,Qd,Qe,Qf,Qg,reduceCtorEq, *,Jf hkt hsn,-hs,-w0,-h,-w1,-w2,-w3];done)
     ·have w1:=Yf s.epoch s.turn s.up s.in'.last.a0 s.in'.last.a1 s.in'.last.a2 s.in'.last.a3 s.in'.max s.errs.a0 s.errs.a1 s.errs.a2 s.errs.a3 s.w.c.cap s.w.c.l s.w.ready s.w.shown s.p.next' s.p.snaps (h.bd.sz (by omega))
      have w1:CallR Tryz.prog 10 [.agg [.int .i64 s.epoch,.int .i64 s.turn,.bool s.up,.int .i64 s.in'.last.a0,.int .i64 s.in'.last.a1,.int .i64 s.in'.last.a2,.int .i64 s.in'.last.a3,.int .i64 s.in'.max,.int .i64 s.errs.a0,.int .i64 s.errs.a1,.int .i64 s.errs.a2,.int .i64 s.errs.a3,.int .i64 s.w.c.cap,.slice false (Ja s.w.c.l),.bool s.w.ready,.slice false (Ja s.w.shown),.int .i64 s.p.next',.slice false (Ja s.p.snaps)]] (.val (.bool (Vi s))):=w1
      rw[h.sane] at w1
      (repeat' (first
 | (with_reducible first|refine callX.by (w1) ?_|refine callX.by Zd ?_|refine callX.by (Ya _ _) ?_|refine callX.by (YM _ _ _ _ _ _ _ _ _ _ _ _ _ _ _ _ _ _ _ ?_) ?_|refine callX.by (Zi _ _ _ _ _ _ _ _ _ _ ?_) ?_|refine callX.by (Zk _ _ _ _ _ _ _ _ _ _ ?_) ?_|refine callX.by (Ze _ _ _ _ _ _ _ _ _ _ _ _ _ _ _ _ _ _ ?_) ?_|refine callX.by (YU _ _ _ _ _ _ _ _ _ _ _ _ _ _ _ _ _ _ ?_) ?_|refine callX.by awc4 ?_|refine callX.by awc6 ?_|refine callX.by (ZA _ _ _ ?_) ?_|refine callX.by (Zc _ _ ?_ ?_) ?_|refine callX.by (Zm _ ?_ ?_ ?_) ?_|refine callX.by (Zn _ ?_ ?_ ?_ ?_) ?_|refine callX.by (Zl _ ?_ ?_ ?_) ?_|refine callX.by sm8gc ?_|refine callX.by (Zs _ ?_ ?_) ?_|refine callX.by a6mc ?_|refine callX.by (Zy _ ?_ ?_) ?_|refine callX.by (Zz _ ?_ ?_ _) ?_|refine callX.by (Yf _ _ _ _ _ _ _ _ _ _ _ _ _ _ _ _ _ _ ?_) ?_|assumption|(refine Qw hK _ ?_;clear hK K)|refine Qw ‹_› _ ?_|refine Qx ‹_› ?_|refine Qi fun K hK=>?_|refine Qj T fun K hK=>?_|refine Qk (id:=28) T mixed ZG (by kernel_rfl) fun K hK=>?_|refine Ql fun A B hA hB=>?_|refine Qm ?_|refine Qn ?_|refine Qp ?_|refine Qr ?_)
 | ((with_reducible first|apply Qy|apply Qz|apply QA)<;>intro hb<;>try simp only[nr] at hb)
 |simp only[go_sem,↓reduceIte,reduceIte,Qa,Qh,Qb,Qc,Qd,Qe,Qf,Qg,reduceCtorEq, *,-hs,-w0,-h,-w1]
 |with_reducible refine fun(bn:Bool) hbn=>?_))
      all_goals ((repeat clear hK);(repeat clear hA);(repeat clear hB))
      all_goals (clear hM;revert hM0;intro hM)
      (refine hM.on (xs.length-(i+1)) (by omega) (by simp only[go_sem,↓reduceIte,reduceIte,Qa,Qh,Qb,Qc,Qd,Qe,Qf,Qg,reduceCtorEq, *,Jf hlt hl,-hs,-w0,-h,-w1]) ⟨i+1,s,u,g1,g2,ids,was,rfl,by omega,h,?_⟩;simp only[go_sem,↓reduceIte,reduceIte,Qa,Qh,Qb,Qc,Qd,Qe,Qf,Qg,reduceCtorEq, *,Jf hlt hl,-hs,-w0,-h,-w1];done)
end Go.Proofs.YtihahfhagobnoaaGreatDoor.Lg
