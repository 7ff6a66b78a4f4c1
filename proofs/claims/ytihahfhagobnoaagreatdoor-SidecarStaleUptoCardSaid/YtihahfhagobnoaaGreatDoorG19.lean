/- Parts of the proof, one behind the other. -/
import Derived.Test.YtihahfhagobnoaaGreatDoorG18
namespace Go.Proofs.YtihahfhagobnoaaGreatDoor.Lg
set_option maxRecDepth 100000
set_option linter.unusedVariables false
set_option linter.unusedSimpArgs false
open Go
open Nat renaming reduceEqDiff → Qa, reduceLT → Qb, reduceLeDiff → Qc, reduceAdd → Qd, reduceMul → Qe, reduceSub → Qf, reduceBEq → Qg
open String renaming reduceEq → Qh
open SpecC renaming seqW → Qi, regW → Qj, drawW → Qk, condW → Ql, block → Qm, skip → Qn, exit → Qp, ret → Qr, loopF → Qs
open NxK renaming out → Qw
open Nx renaming out → Qx
open condK renaming split → Qy
open gK renaming split_t → Qz, split_f → QA
open CallR renaming go1 → QD
def Jt(n most:Int):Bool:=decide (0≤n∧n≤most)
theorem JdG(n m:Int):CallR Tryz.prog 115 [.int .i64 n,.int .i64 m] (.val (.bool (Jt n m))):=by
 refine CallR.go2 (T:=T) Tryz.call115 Tryz.func115 rfl Tryz.ntmps115 (congrArg Array.toList Tryz.results115) (by decide) fun ts hn h0 h1=>?_
 (repeat' (first
 | (with_reducible first|assumption|(refine Qw hK _ ?_;clear hK K)|refine Qw ‹_› _ ?_|refine Qx ‹_› ?_|refine Qi fun K hK=>?_|refine Qj T fun K hK=>?_|refine Ql fun A B hA hB=>?_|refine Qn ?_|refine Qr ?_)
 | ((with_reducible first|apply Qy|apply Qz|apply QA)<;>intro hb<;>try simp only[nr] at hb)
 |simp only[go_sem,↓reduceIte,reduceIte,Qa,Qh,Qb,Qc,Qd,Qe,Qf,Qg,reduceCtorEq, *]
 |with_reducible refine fun(bn:Bool) hbn=>?_))
 all_goals (rw[Bool.eq_iff_iff];simp_all[Jt])
 all_goals omega
def YB(ok:Bool)(e:Int):Int:=if ok then 0 else e
theorem Jrz(ok:Bool)(e:Int):CallR Tryz.prog 114 [.bool ok,.int .i64 e] (.val (.int .i64 (YB ok e))):=by
 refine CallR.go2 (T:=T) Tryz.call114 Tryz.func114 rfl Tryz.ntmps114 (congrArg Array.toList Tryz.results114) (by decide) fun ts hn h0 h1=>?_
 (repeat' (first
 | (with_reducible first|assumption|(refine Qw hK _ ?_;clear hK K)|refine Qw ‹_› _ ?_|refine Qx ‹_› ?_|refine Qi fun K hK=>?_|refine Qj T fun K hK=>?_|refine Ql fun A B hA hB=>?_|refine Qn ?_|refine Qr ?_)
 | ((with_reducible first|apply Qy|apply Qz|apply QA)<;>intro hb<;>try simp only[nr] at hb)
 |simp only[go_sem,↓reduceIte,reduceIte,Qa,Qh,Qb,Qc,Qd,Qe,Qf,Qg,reduceCtorEq, *]
 |with_reducible refine fun(bn:Bool) hbn=>?_))
 all_goals simp_all[YB]
def YU:List Int→Int
 | []=>0
 |e :: r=>if e=0 then YU r else e
theorem Jht(xs:List Int)(hl:Jc xs.length):CallR Tryz.prog 113 [.slice false (Ja xs)] (.val (.int .i64 (YU xs))):=by
 refine QD (T:=T) Tryz.call113 Tryz.func113 rfl Tryz.ntmps113 (congrArg Array.toList Tryz.results113) (by decide) fun ts hn h0=>?_
 (repeat' (first
 | (with_reducible first|assumption|(refine Qw hK _ ?_;clear hK K)|refine Qw ‹_› _ ?_|refine Qx ‹_› ?_|refine Qi fun K hK=>?_|refine Qj T fun K hK=>?_|refine Ql fun A B hA hB=>?_|refine Qm ?_|refine Qn ?_|refine Qp ?_|refine Qr ?_)
 | ((with_reducible first|apply Qy|apply Qz|apply QA)<;>intro hb<;>try simp only[nr] at hb)
 |simp only[go_sem,↓reduceIte,reduceIte,Qa,Qh,Qb,Qc,Qd,Qe,Qf,Qg,reduceCtorEq, *]
 |with_reducible refine fun(bn:Bool) hbn=>?_))
 refine Qs [5,6] (fun m ts'=>∃(i:Nat),m=xs.length-i∧i≤xs.length∧YU xs=YU (xs.drop i)∧ts'.tmp 7=.int .i64 i) xs.length ?_ ?_
 ·refine⟨0,?_⟩
  simp only[go_sem,↓reduceIte,reduceIte,Qa,Qh,Qb,Qc,Qd,Qe,Qf,Qg,reduceCtorEq, *]
 ·rintro m A hM ts' hk ⟨i,hm,f1,f2,s1⟩
  simp only[go_sem,↓reduceIte,reduceIte,Qa,Qh,Qb,Qc,Qd,Qe,Qf,Qg,reduceCtorEq, *] at hk
  by_cases hlt:i<xs.length
  ·rw[List.drop_eq_getElem_cons hlt,YU] at f2
   (repeat' (first
 | (with_reducible first|assumption|(refine Qw hK _ ?_;clear hK K)|refine Qw ‹_› _ ?_|refine Qx ‹_› ?_|refine Qi fun K hK=>?_|refine Qj T fun K hK=>?_|refine Ql fun A B hA hB=>?_|refine Qm ?_|refine Qn ?_|refine Qp ?_|refine Qr ?_)
 | ((with_reducible first|apply Qy|apply Qz|apply QA)<;>intro hb<;>try simp only[nr] at hb)
 |simp only[go_sem,↓reduceIte,reduceIte,Qa,Qh,Qb,Qc,Qd,Qe,Qf,Qg,reduceCtorEq, *,-f2]
 |with_reducible refine fun(bn:Bool) hbn=>?_))
   all_goals ((repeat clear hK);(repeat clear hA);(repeat clear hB))
   ·rw[if_neg (by simp_all)] at f2
    simp_all
   ·rw[if_pos (by simp_all)] at f2
    (refine hM.on (xs.length-(i+1)) (by omega) (by simp only[go_sem,↓reduceIte,reduceIte,Qa,Qh,Qb,Qc,Qd,Qe,Qf,Qg,reduceCtorEq, *,Jf hlt hl,-f2]) ⟨i+1,rfl,by omega,f2,?_⟩;simp only[go_sem,↓reduceIte,reduceIte,Qa,Qh,Qb,Qc,Qd,Qe,Qf,Qg,reduceCtorEq, *,Jf hlt hl,-f2];done)
  ·rw[List.drop_eq_nil_of_le (by omega),YU] at f2
   (repeat' (first
 | (with_reducible first|assumption|(refine Qw hK _ ?_;clear hK K)|refine Qw ‹_› _ ?_|refine Qx ‹_› ?_|refine Qi fun K hK=>?_|refine Qj T fun K hK=>?_|refine Ql fun A B hA hB=>?_|refine Qm ?_|refine Qn ?_|refine Qp ?_|refine Qr ?_)
 | ((with_reducible first|apply Qy|apply Qz|apply QA)<;>intro hb<;>try simp only[nr] at hb)
 |simp only[go_sem,↓reduceIte,reduceIte,Qa,Qh,Qb,Qc,Qd,Qe,Qf,Qg,reduceCtorEq, *]
 |with_reducible refine fun(bn:Bool) hbn=>?_))
theorem Jhq(a b c d e f:Int):CallR Tryz.prog 113 [.slice false [.int .i64 a,.int .i64 b,.int .i64 c,.int .i64 d,.int .i64 e,.int .i64 f]] (.val (.int .i64 (YU [a,b,c,d,e,f]))):=Jht [a,b,c,d,e,f] (by unfold Jc;simp)
def ZA(k:Key):Bool:=Jt k.kind 3 && VG k.name
theorem Jh0(k_kind:Int)(k_name:List UInt8)(hl:Jc k_name.length):CallR Tryz.prog 187 [.agg [.int .i64 k_kind,.str k_name]] (.val (.bool (ZA (⟨k_kind,k_name⟩:Key)))):=by
 have w1:=JbJ k_name
 refine QD (T:=T) Tryz.call187 Tryz.func187 rfl Tryz.ntmps187 (congrArg Array.toList Tryz.results187) (by decide) fun ts hn h0=>?_
 (repeat' (first
 | (with_reducible first|refine callX.by (w1) ?_|refine callX.by (JdG _ _) ?_|refine callX.by (JbJ _) ?_|assumption|(refine Qw hK _ ?_;clear hK K)|refine Qw ‹_› _ ?_|refine Qx ‹_› ?_|refine Qi fun K hK=>?_|refine Qj T fun K hK=>?_|refine Ql fun A B hA hB=>?_|refine Qn ?_|refine Qr ?_)
 | ((with_reducible first|apply Qy|apply Qz|apply QA)<;>intro hb<;>try simp only[nr] at hb)
 |simp only[go_sem,↓reduceIte,reduceIte,Qa,Qh,Qb,Qc,Qd,Qe,Qf,Qg,reduceCtorEq, *,-w1]
 |with_reducible refine fun(bn:Bool) hbn=>?_))
 all_goals simp_all[ZA]
theorem Jcv(k_kind:Int)(k_name:List UInt8)(hl:Jc k_name.length):CallR Tryz.prog 161 [.agg [.int .i64 k_kind,.str k_name]] (.val (.bool (!ZA (⟨k_kind,k_name⟩:Key)))):=by
 have w1:=Jh0 k_kind k_name hl
 refine QD (T:=T) Tryz.call161 Tryz.func161 rfl Tryz.ntmps161 (congrArg Array.toList Tryz.results161) (by decide) fun ts hn h0=>?_
 (repeat' (first
 | (with_reducible first|refine callX.by (w1) ?_|refine callX.by (Jh0 _ _ ?_) ?_|assumption|(refine Qw hK _ ?_;clear hK K)|refine Qw ‹_› _ ?_|refine Qx ‹_› ?_|refine Qi fun K hK=>?_|refine Qj T fun K hK=>?_|refine Ql fun A B hA hB=>?_|refine Qn ?_|refine Qr ?_)
 | ((with_reducible first|apply Qy|apply Qz|apply QA)<;>intro hb<;>try simp only[nr] at hb)
 |simp only[go_sem,↓reduceIte,reduceIte,Qa,Qh,Qb,Qc,Qd,Qe,Qf,Qg,reduceCtorEq, *,-w1]
 |with_reducible refine fun(bn:Bool) hbn=>?_))
theorem JhD(m_k_kind:Int)(m_k_name:List UInt8)(m_ver:Int):CallR Tryz.prog 159 [.agg [.int .i64 m_k_kind,.str m_k_name,.int .i64 m_ver]] (.val (.bool (!Jt m_ver 2147483647))):=by
 refine QD (T:=T) Tryz.call159 Tryz.func159 rfl Tryz.ntmps159 (congrArg Array.toList Tryz.results159) (by decide) fun ts hn h0=>?_
 (repeat' (first
 | (with_reducible first|refine callX.by (JdG _ _) ?_|assumption|(refine Qw hK _ ?_;clear hK K)|refine Qw ‹_› _ ?_|refine Qx ‹_› ?_|refine Qi fun K hK=>?_|refine Qj T fun K hK=>?_|refine Ql fun A B hA hB=>?_|refine Qn ?_|refine Qr ?_)
 | ((with_reducible first|apply Qy|apply Qz|apply QA)<;>intro hb<;>try simp only[nr] at hb)
 |simp only[go_sem,↓reduceIte,reduceIte,Qa,Qh,Qb,Qc,Qd,Qe,Qf,Qg,reduceCtorEq, *]
 |with_reducible refine fun(bn:Bool) hbn=>?_))
theorem Jhw(m_k_kind:Int)(m_k_name:List UInt8)(m_ver:Int)(hl:Jc m_k_name.length):CallR Tryz.prog 162 [.agg [.int .i64 m_k_kind,.str m_k_name,.int .i64 m_ver]] (.val (.bool (!ZA ⟨m_k_kind,m_k_name⟩))):=by
 have w1:=Jcv m_k_kind m_k_name hl
 refine QD (T:=T) Tryz.call162 Tryz.func162 rfl Tryz.ntmps162 (congrArg Array.toList Tryz.results162) (by decide) fun ts hn h0=>?_
 (repeat' (first
 | (with_reducible first|refine callX.by (w1) ?_|refine callX.by (Jcv _ _ ?_) ?_|assumption|(refine Qw hK _ ?_;clear hK K)|refine Qw ‹_› _ ?_|refine Qx ‹_› ?_|refine Qi fun K hK=>?_|refine Qj T fun K hK=>?_|refine Ql fun A B hA hB=>?_|refine Qn ?_|refine Qr ?_)
 | ((with_reducible first|apply Qy|apply Qz|apply QA)<;>intro hb<;>try simp only[nr] at hb)
 |simp only[go_sem,↓reduceIte,reduceIte,Qa,Qh,Qb,Qc,Qd,Qe,Qf,Qg,reduceCtorEq, *,-w1]
 |with_reducible refine fun(bn:Bool) hbn=>?_))
theorem Jle(r_kind:Int)(r_name:List UInt8)(r_ver:Int)(r_port:Int)(r_to:List UInt8)(r_rules:List Rule)(r_hosts:List Int)(f_type:Int)(f_epoch:Int)(f_kind:Int)(f_nonce:Int)(f_turn:Int)(f_adds:List Res)(f_gone:List Key)(f_err:Int)(f_have:List Mark)(f_held:List Key):CallR Tryz.prog 163 [.agg [.int .i64 r_kind,.str r_name,.int .i64 r_ver,.int .i64 r_port,.str r_to,.slice false (Ja r_rules),.slice false (Ja r_hosts)],.ro [.int .i64 f_type,.int .i64 f_epoch,.int .i64 f_kind,.int .i64 f_nonce,.int .i64 f_turn,.slice false (Ja f_adds),.slice false (Ja f_gone),.int .i64 f_err,.slice false (Ja f_have),.slice false (Ja f_held)]] (.val (.bool (!decide (r_kind=f_kind)))):=by
 refine CallR.go2 (T:=T) Tryz.call163 Tryz.func163 rfl Tryz.ntmps163 (congrArg Array.toList Tryz.results163) (by decide) fun ts hn h0 h1=>?_
 (repeat' (first
 | (with_reducible first|assumption|(refine Qw hK _ ?_;clear hK K)|refine Qw ‹_› _ ?_|refine Qx ‹_› ?_|refine Qi fun K hK=>?_|refine Qj T fun K hK=>?_|refine Ql fun A B hA hB=>?_|refine Qn ?_|refine Qr ?_)
 | ((with_reducible first|apply Qy|apply Qz|apply QA)<;>intro hb<;>try simp only[nr] at hb)
 |simp only[go_sem,↓reduceIte,reduceIte,Qa,Qh,Qb,Qc,Qd,Qe,Qf,Qg,reduceCtorEq, *]
 |with_reducible refine fun(bn:Bool) hbn=>?_))
theorem Jlf(r_kind:Int)(r_name:List UInt8)(f_type:Int)(f_epoch:Int)(f_kind:Int)(f_nonce:Int)(f_turn:Int)(f_adds:List Res)(f_gone:List Key)(f_err:Int)(f_have:List Mark)(f_held:List Key):CallR Tryz.prog 164 [.agg [.int .i64 r_kind,.str r_name],.ro [.int .i64 f_type,.int .i64 f_epoch,.int .i64 f_kind,.int .i64 f_nonce,.int .i64 f_turn,.slice false (Ja f_adds),.slice false (Ja f_gone),.int .i64 f_err,.slice false (Ja f_have),.slice false (Ja f_held)]] (.val (.bool (!decide (r_kind=f_kind)))):=by
 refine CallR.go2 (T:=T) Tryz.call164 Tryz.func164 rfl Tryz.ntmps164 (congrArg Array.toList Tryz.results164) (by decide) fun ts hn h0 h1=>?_
 (repeat' (first
 | (with_reducible first|assumption|(refine Qw hK _ ?_;clear hK K)|refine Qw ‹_› _ ?_|refine Qx ‹_› ?_|refine Qi fun K hK=>?_|refine Qj T fun K hK=>?_|refine Ql fun A B hA hB=>?_|refine Qn ?_|refine Qr ?_)
 | ((with_reducible first|apply Qy|apply Qz|apply QA)<;>intro hb<;>try simp only[nr] at hb)
 |simp only[go_sem,↓reduceIte,reduceIte,Qa,Qh,Qb,Qc,Qd,Qe,Qf,Qg,reduceCtorEq, *]
 |with_reducible refine fun(bn:Bool) hbn=>?_))
theorem JgI(f_type:Int)(f_epoch:Int)(f_kind:Int)(f_nonce:Int)(f_turn:Int)(f_adds:List Res)(f_gone:List Key)(f_err:Int)(f_have:List Mark)(f_held:List Key):Caps [.ro [.int .i64 f_type,.int .i64 f_epoch,.int .i64 f_kind,.int .i64 f_nonce,.int .i64 f_turn,.slice false (Ja f_adds),.slice false (Ja f_gone),.int .i64 f_err,.slice false (Ja f_have),.slice false (Ja f_held)]]:=⟨by simp only[go_sem,Bool.and_self],by simp only[go_sem]⟩
def Jbu(f:Frame):Bool:=!decide (64<max (max (max (f.adds.length:Int) f.gone.length) f.have'.length) f.held.length) && !(f.have'.any fun m=>!Jt m.ver 2147483647) && Jt f.epoch 2147483647 && Jt f.nonce 2147483647 && Jt f.turn 2147483647 && Jt f.err 15
set_option maxHeartbeats 4000000 in
theorem JhE(f_type:Int)(f_epoch:Int)(f_kind:Int)(f_nonce:Int)(f_turn:Int)(f_adds:List Res)(f_gone:List Key)(f_err:Int)(f_have:List Mark)(f_held:List Key)(hs:VW (⟨f_type,f_epoch,f_kind,f_nonce,f_turn,f_adds,f_gone,f_err,f_have,f_held⟩:Frame)):CallR Tryz.prog 116 [.agg [.int .i64 f_type,.int .i64 f_epoch,.int .i64 f_kind,.int .i64 f_nonce,.int .i64 f_turn,.slice false (Ja f_adds),.slice false (Ja f_gone),.int .i64 f_err,.slice false (Ja f_have),.slice false (Ja f_held)]] (.val (.bool (Jbu (⟨f_type,f_epoch,f_kind,f_nonce,f_turn,f_adds,f_gone,f_err,f_have,f_held⟩:Frame)))):=by
 have hl:=hs.2.2.2.2.1
 have w1:=Jdw 159 [] Caps.nil (fun m=>!Jt m.ver 2147483647) f_have (fun x _=>JhD x.k.kind x.k.name x.ver) hl
 clear hs hl
 refine QD (T:=T) Tryz.call116 Tryz.func116 rfl Tryz.ntmps116 (congrArg Array.toList Tryz.results116) (by decide) fun ts hn h0=>?_
 (repeat' (first
 | (with_reducible first|refine callX.by (w1) ?_|refine callX.by (Jdw _ _ ?_ _ _ ?_ ?_) ?_|refine callX.by (JhD _ _ _) ?_|refine callX.by (JdG _ _) ?_|assumption|(refine Qw hK _ ?_;clear hK K)|refine Qw ‹_› _ ?_|refine Qx ‹_› ?_|refine Qi fun K hK=>?_|refine Qj T fun K hK=>?_|refine Ql fun A B hA hB=>?_|refine Qn ?_|refine Qr ?_)
 | ((with_reducible first|apply Qy|apply Qz|apply QA)<;>intro hb<;>try simp only[nr] at hb)
 |simp only[go_sem,↓reduceIte,reduceIte,Qa,Qh,Qb,Qc,Qd,Qe,Qf,Qg,reduceCtorEq, *,-w1]
 |with_reducible refine fun(bn:Bool) hbn=>?_))
 all_goals simp_all[Jbu]
 all_goals grind
def Jbr(f:Frame):Bool:=!(f.gone.any fun k=>!ZA k) && !(f.held.any fun k=>!ZA k) && !(f.have'.any fun m=>!ZA m.k)
set_option maxHeartbeats 4000000 in
theorem Jhx(f_type:Int)(f_epoch:Int)(f_kind:Int)(f_nonce:Int)(f_turn:Int)(f_adds:List Res)(f_gone:List Key)(f_err:Int)(f_have:List Mark)(f_held:List Key)(hs:VW (⟨f_type,f_epoch,f_kind,f_nonce,f_turn,f_adds,f_gone,f_err,f_have,f_held⟩:Frame)):CallR Tryz.prog 118 [.agg [.int .i64 f_type,.int .i64 f_epoch,.int .i64 f_kind,.int .i64 f_nonce,.int .i64 f_turn,.slice false (Ja f_adds),.slice false (Ja f_gone),.int .i64 f_err,.slice false (Ja f_have),.slice false (Ja f_held)]] (.val (.bool (Jbr (⟨f_type,f_epoch,f_kind,f_nonce,f_turn,f_adds,f_gone,f_err,f_have,f_held⟩:Frame)))):=by
 obtain⟨-,-,g1,g2,g3,g4,g5,g6⟩:=hs
 have w1:=ZQ 161 [] Caps.nil (fun k=>!ZA k) f_gone (fun x hx=>Jcv x.kind x.name (g2 x hx)) g1
 have w2:=ZQ 161 [] Caps.nil (fun k=>!ZA k) f_held (fun x hx=>Jcv x.kind x.name (g6 x hx)) g5
 have w3:=Jdw 162 [] Caps.nil (fun m=>!ZA m.k) f_have (fun x hx=>Jhw x.k.kind x.k.name x.ver (g4 x hx)) g3
 clear g1 g2 g3 g4 g5 g6
 refine QD (T:=T) Tryz.call118 Tryz.func118 rfl Tryz.ntmps118 (congrArg Array.toList Tryz.results118) (by decide) fun ts hn h0=>?_
 (repeat' (first
 | (with_reducible first|refine callX.by (w1) ?_|refine callX.by (w2) ?_|refine callX.by (w3) ?_|refine callX.by (ZQ _ _ ?_ _ _ ?_ ?_) ?_|refine callX.by (Jcv _ _ ?_) ?_|refine callX.by (Jdw _ _ ?_ _ _ ?_ ?_) ?_|refine callX.by (Jhw _ _ _ ?_) ?_|assumption|(refine Qw hK _ ?_;clear hK K)|refine Qw ‹_› _ ?_|refine Qx ‹_› ?_|refine Qi fun K hK=>?_|refine Qj T fun K hK=>?_|refine Ql fun A B hA hB=>?_|refine Qn ?_|refine Qr ?_)
 | ((with_reducible first|apply Qy|apply Qz|apply QA)<;>intro hb<;>try simp only[nr] at hb)
 |simp only[go_sem,↓reduceIte,reduceIte,Qa,Qh,Qb,Qc,Qd,Qe,Qf,Qg,reduceCtorEq, *,-w1,-w2,-w3]
 |with_reducible refine fun(bn:Bool) hbn=>?_))
 all_goals simp_all[Jbr]
 all_goals grind
def Jbq(f:Frame):Bool:=!(f.adds.any fun r=>!decide (r.kind=f.kind)) && !(f.gone.any fun k=>!decide (k.kind=f.kind))
set_option maxHeartbeats 4000000 in
theorem Jhu(f_type:Int)(f_epoch:Int)(f_kind:Int)(f_nonce:Int)(f_turn:Int)(f_adds:List Res)(f_gone:List Key)(f_err:Int)(f_have:List Mark)(f_held:List Key)(hs:VW (⟨f_type,f_epoch,f_kind,f_nonce,f_turn,f_adds,f_gone,f_err,f_have,f_held⟩:Frame)):CallR Tryz.prog 120 [.agg [.int .i64 f_type,.int .i64 f_epoch,.int .i64 f_kind,.int .i64 f_nonce,.int .i64 f_turn,.slice false (Ja f_adds),.slice false (Ja f_gone),.int .i64 f_err,.slice false (Ja f_have),.slice false (Ja f_held)]] (.val (.bool (Jbq (⟨f_type,f_epoch,f_kind,f_nonce,f_turn,f_adds,f_gone,f_err,f_have,f_held⟩:Frame)))):=by
 obtain⟨g1,-,g2,-⟩:=hs
 have w1:=Jbl 163 [.ro [.int .i64 f_type,.int .i64 f_epoch,.int .i64 f_kind,.int .i64 f_nonce,.int .i64 f_turn,.slice false (Ja f_adds),.slice false (Ja f_gone),.int .i64 f_err,.slice false (Ja f_have),.slice false (Ja f_held)]] (JgI f_type f_epoch f_kind f_nonce f_turn f_adds f_gone f_err f_have f_held) (fun r=>!decide (r.kind=f_kind)) f_adds (fun x _=>Jle x.kind x.name x.ver x.port x.to' x.rules' x.hosts f_type f_epoch f_kind f_nonce f_turn f_adds f_gone f_err f_have f_held) g1
 have w2:=ZQ 164 [.ro [.int .i64 f_type,.int .i64 f_epoch,.int .i64 f_kind,.int .i64 f_nonce,.int .i64 f_turn,.slice false (Ja f_adds),.slice false (Ja f_gone),.int .i64 f_err,.slice false (Ja f_have),.slice false (Ja f_held)]] (JgI f_type f_epoch f_kind f_nonce f_turn f_adds f_gone f_err f_have f_held) (fun r=>!decide (r.kind=f_kind)) f_gone (fun x _=>Jlf x.kind x.name f_type f_epoch f_kind f_nonce f_turn f_adds f_gone f_err f_have f_held) g2
 clear g1 g2
 refine QD (T:=T) Tryz.call120 Tryz.func120 rfl Tryz.ntmps120 (congrArg Array.toList Tryz.results120) (by decide) fun ts hn h0=>?_
 (repeat' (first
 | (with_reducible first|refine callX.by (w1) ?_|refine callX.by (w2) ?_|refine callX.by (Jbl _ _ ?_ _ _ ?_ ?_) ?_|refine callX.by (ZQ _ _ ?_ _ _ ?_ ?_) ?_|assumption|(refine Qw hK _ ?_;clear hK K)|refine Qw ‹_› _ ?_|refine Qx ‹_› ?_|refine Qi fun K hK=>?_|refine Qj T fun K hK=>?_|refine Ql fun A B hA hB=>?_|refine Qn ?_|refine Qr ?_)
 | ((with_reducible first|apply Qy|apply Qz|apply QA)<;>intro hb<;>try simp only[nr] at hb)
 |simp only[go_sem,↓reduceIte,reduceIte,Qa,Qh,Qb,Qc,Qd,Qe,Qf,Qg,reduceCtorEq, *,-w1,-w2]
 |with_reducible refine fun(bn:Bool) hbn=>?_))
 all_goals simp_all[Jbq]
 all_goals grind
def YD:List Res→Int
 | []=>0
 |r :: l=>if Vi r=0 then YD l else Vi r
set_option maxHeartbeats 4000000 in
theorem Jhj(f_type:Int)(f_epoch:Int)(f_kind:Int)(f_nonce:Int)(f_turn:Int)(f_adds:List Res)(f_gone:List Key)(f_err:Int)(f_have:List Mark)(f_held:List Key)(hs:VW (⟨f_type,f_epoch,f_kind,f_nonce,f_turn,f_adds,f_gone,f_err,f_have,f_held⟩:Frame)):CallR Tryz.prog 119 [.agg [.int .i64 f_type,.int .i64 f_epoch,.int .i64 f_kind,.int .i64 f_nonce,.int .i64 f_turn,.slice false (Ja f_adds),.slice false (Ja f_gone),.int .i64 f_err,.slice false (Ja f_have),.slice false (Ja f_held)]] (.val (.int .i64 (YD f_adds))):=by
 obtain⟨hl,g1,-⟩:=hs
 refine QD (T:=T) Tryz.call119 Tryz.func119 rfl Tryz.ntmps119 (congrArg Array.toList Tryz.results119) (by decide) fun ts hn h0=>?_
 (repeat' (first
 | (with_reducible first|refine callX.by (Vu _ _ _ _ _ _ _ ?_ ?_ ?_) ?_|refine callX.by VB ?_|assumption|(refine Qw hK _ ?_;clear hK K)|refine Qw ‹_› _ ?_|refine Qx ‹_› ?_|refine Qi fun K hK=>?_|refine Qj T fun K hK=>?_|refine Ql fun A B hA hB=>?_|refine Qm ?_|refine Qn ?_|refine Qp ?_|refine Qr ?_)
 | ((with_reducible first|apply Qy|apply Qz|apply QA)<;>intro hb<;>try simp only[nr] at hb)
 |simp only[go_sem,↓reduceIte,reduceIte,Qa,Qh,Qb,Qc,Qd,Qe,Qf,Qg,reduceCtorEq, *,-g1]
 |with_reducible refine fun(bn:Bool) hbn=>?_))
 refine Qs [7,8] (fun m ts'=>∃(i:Nat),m=f_adds.length-i∧i≤f_adds.length∧YD f_adds=YD (f_adds.drop i)∧ts'.tmp 9=.int .i64 i) f_adds.length ?_ ?_
 ·refine⟨0,?_⟩
  simp only[go_sem,↓reduceIte,reduceIte,Qa,Qh,Qb,Qc,Qd,Qe,Qf,Qg,reduceCtorEq, *,-g1]
 ·rintro m A hM ts' hk ⟨i,hm,f1,f2,s1⟩
  simp only[go_sem,↓reduceIte,reduceIte,Qa,Qh,Qb,Qc,Qd,Qe,Qf,Qg,reduceCtorEq, *] at hk
  by_cases hlt:i<f_adds.length
  ·rw[List.drop_eq_getElem_cons hlt,YD] at f2
   have hg:=g1 _ (List.getElem_mem hlt)
   obtain⟨k1,k2,k3,k4,k5⟩:=hg
   have w1:=Vu f_adds[i].kind f_adds[i].name f_adds[i].ver f_adds[i].port f_adds[i].to' f_adds[i].rules' f_adds[i].hosts
   (repeat' (first
 | (with_reducible first|refine callX.by (Vu _ _ _ _ _ _ _ ?_ ?_ ?_) ?_|refine callX.by VB ?_|assumption|(refine Qw hK _ ?_;clear hK K)|refine Qw ‹_› _ ?_|refine Qx ‹_› ?_|refine Qi fun K hK=>?_|refine Qj T fun K hK=>?_|refine Ql fun A B hA hB=>?_|refine Qm ?_|refine Qn ?_|refine Qp ?_|refine Qr ?_)
 | ((with_reducible first|apply Qy|apply Qz|apply QA)<;>intro hb<;>try simp only[nr] at hb)
 |simp only[go_sem,↓reduceIte,reduceIte,Qa,Qh,Qb,Qc,Qd,Qe,Qf,Qg,reduceCtorEq, *,-f2,-g1,-k4]
 |with_reducible refine fun(bn:Bool) hbn=>?_))
   all_goals ((repeat clear hK);(repeat clear hA);(repeat clear hB))
   all_goals first
    | (rw[if_neg (by simpa using hb)] at f2;exact f2.symm)
    | (rw[if_pos (by simpa using hb)] at f2;(refine hM.on (f_adds.length-(i+1)) (by omega) (by simp only[go_sem,↓reduceIte,reduceIte,Qa,Qh,Qb,Qc,Qd,Qe,Qf,Qg,reduceCtorEq, *,Jf hlt hl,-f2,-g1,-k4]) ⟨i+1,rfl,by omega,f2,?_⟩;simp only[go_sem,↓reduceIte,reduceIte,Qa,Qh,Qb,Qc,Qd,Qe,Qf,Qg,reduceCtorEq, *,Jf hlt hl,-f2,-g1,-k4];done))
  ·rw[List.drop_eq_nil_of_le (by omega),YD] at f2
   (repeat' (first
 | (with_reducible first|refine callX.by (Vu _ _ _ _ _ _ _ ?_ ?_ ?_) ?_|refine callX.by VB ?_|assumption|(refine Qw hK _ ?_;clear hK K)|refine Qw ‹_› _ ?_|refine Qx ‹_› ?_|refine Qi fun K hK=>?_|refine Qj T fun K hK=>?_|refine Ql fun A B hA hB=>?_|refine Qm ?_|refine Qn ?_|refine Qp ?_|refine Qr ?_)
 | ((with_reducible first|apply Qy|apply Qz|apply QA)<;>intro hb<;>try simp only[nr] at hb)
 |simp only[go_sem,↓reduceIte,reduceIte,Qa,Qh,Qb,Qc,Qd,Qe,Qf,Qg,reduceCtorEq, *,-g1]
 |with_reducible refine fun(bn:Bool) hbn=>?_))
def JaD(f:Frame):Frame :=
 if f.type=0 then { f with epoch:=0,have':=[] }
 else if f.type=1 then { f with epoch:=0,kind:=0,nonce:=0,adds:=[],gone:=[] }
 else if f.type=2 then { f with epoch:=0,kind:=0,nonce:=0,err:=0,turn:=0,held:=[] }
 else if f.type=3 then { f with epoch:=0,turn:=0,held:=[] }
 else { f with epoch:=0 }
theorem Jn0(f:Frame)(h:VW f):VW (JaD f):=by
 unfold JaD
 obtain⟨g1,g2,g3,g4,g5,g6,g7,g8⟩:=h
 repeat' split
 all_goals (refine⟨?_,?_,?_,?_,?_,?_,?_,?_⟩<;>first|assumption|(unfold Jc;simp;done)|simp)
set_option maxHeartbeats 4000000 in
theorem Jhk(f_type:Int)(f_epoch:Int)(f_kind:Int)(f_nonce:Int)(f_turn:Int)(f_adds:List Res)(f_gone:List Key)(f_err:Int)(f_have:List Mark)(f_held:List Key):CallR Tryz.prog 160 [.agg [.int .i64 f_type,.int .i64 f_epoch,.int .i64 f_kind,.int .i64 f_nonce,.int .i64 f_turn,.slice false (Ja f_adds),.slice false (Ja f_gone),.int .i64 f_err,.slice false (Ja f_have),.slice false (Ja f_held)]] (.val (Dat.av (JaD (⟨f_type,f_epoch,f_kind,f_nonce,f_turn,f_adds,f_gone,f_err,f_have,f_held⟩:Frame)))):=by
 refine QD (T:=T) Tryz.call160 Tryz.func160 rfl Tryz.ntmps160 (congrArg Array.toList Tryz.results160) (by decide) fun ts hn h0=>?_
 (repeat' (first
 | (with_reducible first|assumption|(refine Qw hK _ ?_;clear hK K)|refine Qw ‹_› _ ?_|refine Qx ‹_› ?_|refine Qi fun K hK=>?_|refine Qj T fun K hK=>?_|refine Ql fun A B hA hB=>?_|refine Qm ?_|refine Qn ?_|refine Qr ?_)
 | ((with_reducible first|apply Qy|apply Qz|apply QA)<;>intro hb<;>try simp only[nr] at hb)
 |simp only[go_sem,↓reduceIte,reduceIte,Qa,Qh,Qb,Qc,Qd,Qe,Qf,Qg,reduceCtorEq, *]
 |with_reducible refine fun(bn:Bool) hbn=>?_))
 all_goals ((repeat clear hK);(repeat clear hA);(repeat clear hB))
 all_goals simp_all[JaD,YF]
set_option maxHeartbeats 4000000 in
theorem JaJ(f_type:Int)(f_epoch:Int)(f_kind:Int)(f_nonce:Int)(f_turn:Int)(f_adds:List Res)(f_gone:List Key)(f_err:Int)(f_have:List Mark)(f_held:List Key)(h_type:Int)(h_epoch:Int)(h_kind:Int)(h_nonce:Int)(h_turn:Int)(h_adds:List Res)(h_gone:List Key)(h_err:Int)(h_have:List Mark)(h_held:List Key)(hs:VW (⟨f_type,f_epoch,f_kind,f_nonce,f_turn,f_adds,f_gone,f_err,f_have,f_held⟩:Frame)):CallR Tryz.prog 16 [.agg [.int .i64 f_type,.int .i64 f_epoch,.int .i64 f_kind,.int .i64 f_nonce,.int .i64 f_turn,.slice false (Ja f_adds),.slice false (Ja f_gone),.int .i64 f_err,.slice false (Ja f_have),.slice false (Ja f_held)],.agg [.int .i64 h_type,.int .i64 h_epoch,.int .i64 h_kind,.int .i64 h_nonce,.int .i64 h_turn,.slice false (Ja h_adds),.slice false (Ja h_gone),.int .i64 h_err,.slice false (Ja h_have),.slice false (Ja h_held)]] (.val (.bool (decide ((⟨f_type,f_epoch,f_kind,f_nonce,f_turn,f_adds,f_gone,f_err,f_have,f_held⟩:Frame)=(⟨h_type,h_epoch,h_kind,h_nonce,h_turn,h_adds,h_gone,h_err,h_have,h_held⟩:Frame))))):=by
 obtain⟨g1,g2,g3,g4,g5,g6,g7,g8⟩:=hs
 have w1:=JdA 50 [] Caps.nil f_adds h_adds (fun x hx y=>JcX x.kind x.name x.ver x.port x.to' x.rules' x.hosts y.kind y.name y.ver y.port y.to' y.rules' y.hosts (g2 x hx).2.2.2.2 (g2 x hx).2.2.1 (g2 x hx).2.2.2.1) g1
 have w2:=JeY f_gone h_gone g3
 have w3:=Jhe f_have h_have g5
 have w4:=JeY f_held h_held g7
 clear g1 g2 g3 g4 g5 g6 g7 g8
 refine CallR.go2 (T:=T) Tryz.call16 Tryz.func16 rfl Tryz.ntmps16 (congrArg Array.toList Tryz.results16) (by decide) fun ts hn h0 h1=>?_
 (repeat' (first
 | (with_reducible first|refine callX.by (w1) ?_|refine callX.by (w2) ?_|refine callX.by (w3) ?_|refine callX.by (w4) ?_|refine callX.by (JdA _ _ ?_ _ _ ?_ ?_) ?_|refine callX.by (JcX _ _ _ _ _ _ _ _ _ _ _ _ _ _ ?_ ?_ ?_) ?_|refine callX.by JgE ?_|refine callX.by (JeY _ _ ?_) ?_|refine callX.by (Jhe _ _ ?_) ?_|assumption|(refine Qw hK _ ?_;clear hK K)|refine Qw ‹_› _ ?_|refine Qx ‹_› ?_|refine Qi fun K hK=>?_|refine Qj T fun K hK=>?_|refine Ql fun A B hA hB=>?_|refine Qn ?_|refine Qr ?_)
 | ((with_reducible first|apply Qy|apply Qz|apply QA)<;>intro hb<;>try simp only[nr] at hb)
 |simp only[go_sem,↓reduceIte,reduceIte,Qa,Qh,Qb,Qc,Qd,Qe,Qf,Qg,reduceCtorEq, *,-w1,-w2,-w3,-w4]
 |with_reducible refine fun(bn:Bool) hbn=>?_))
 all_goals ((repeat clear hK);(repeat clear hA);(repeat clear hB))
 all_goals (rw[Bool.eq_iff_iff];simp_all[Jlb])
def Je7(t:Int):Frame:=⟨t,0,0,0,0,[],[],0,[],[]⟩
def Jbt(f:Frame):Bool:=decide (JaD f=Je7 f.type)
set_option maxHeartbeats 4000000 in
theorem JhC(f_type:Int)(f_epoch:Int)(f_kind:Int)(f_nonce:Int)(f_turn:Int)(f_adds:List Res)(f_gone:List Key)(f_err:Int)(f_have:List Mark)(f_held:List Key)(hs:VW (⟨f_type,f_epoch,f_kind,f_nonce,f_turn,f_adds,f_gone,f_err,f_have,f_held⟩:Frame)):CallR Tryz.prog 117 [.agg [.int .i64 f_type,.int .i64 f_epoch,.int .i64 f_kind,.int .i64 f_nonce,.int .i64 f_turn,.slice false (Ja f_adds),.slice false (Ja f_gone),.int .i64 f_err,.slice false (Ja f_have),.slice false (Ja f_held)]] (.val (.bool (Jbt (⟨f_type,f_epoch,f_kind,f_nonce,f_turn,f_adds,f_gone,f_err,f_have,f_held⟩:Frame)))):=by
 have w1:=Jhk f_type f_epoch f_kind f_nonce f_turn f_adds f_gone f_err f_have f_held
 have hb:=Jn0 (⟨f_type,f_epoch,f_kind,f_nonce,f_turn,f_adds,f_gone,f_err,f_have,f_held⟩:Frame) hs
 have e:Jbt (⟨f_type,f_epoch,f_kind,f_nonce,f_turn,f_adds,f_gone,f_err,f_have,f_held⟩:Frame)=decide (JaD (⟨f_type,f_epoch,f_kind,f_nonce,f_turn,f_adds,f_gone,f_err,f_have,f_held⟩:Frame)=Je7 f_type):=rfl
 generalize JaD (⟨f_type,f_epoch,f_kind,f_nonce,f_turn,f_adds,f_gone,f_err,f_have,f_held⟩:Frame)=b at w1 hb e
 have w2:=JaJ b.type b.epoch b.kind b.nonce b.turn b.adds b.gone b.err b.have' b.held f_type 0 0 0 0 [] [] 0 [] [] hb
 have w2:CallR Tryz.prog 16 [.agg [.int .i64 b.type,.int .i64 b.epoch,.int .i64 b.kind,.int .i64 b.nonce,.int .i64 b.turn,.slice false (Ja b.adds),.slice false (Ja b.gone),.int .i64 b.err,.slice false (Ja b.have'),.slice false (Ja b.held)],.agg [.int .i64 f_type,.int .i64 0,.int .i64 0,.int .i64 0,.int .i64 0,.slice false [],.slice false [],.int .i64 0,.slice false [],.slice false []]] (.val (.bool (decide (b=Je7 f_type)))):=w2
 clear hb hs
 refine QD (T:=T) Tryz.call117 Tryz.func117 rfl Tryz.ntmps117 (congrArg Array.toList Tryz.results117) (by decide) fun ts hn h0=>?_
 (repeat' (first
 | (with_reducible first|refine callX.by (w1) ?_|refine callX.by (w2) ?_|refine callX.by (Jhk _ _ _ _ _ _ _ _ _ _) ?_|refine callX.by (JaJ _ _ _ _ _ _ _ _ _ _ _ _ _ _ _ _ _ _ _ _ ?_) ?_|assumption|(refine Qw hK _ ?_;clear hK K)|refine Qw ‹_› _ ?_|refine Qx ‹_› ?_|refine Qi fun K hK=>?_|refine Qj T fun K hK=>?_|refine Qk (id:=1) T mixed JeL (by kernel_rfl) fun K hK=>?_|refine Ql fun A B hA hB=>?_|refine Qn ?_|refine Qr ?_)
 | ((with_reducible first|apply Qy|apply Qz|apply QA)<;>intro hb<;>try simp only[nr] at hb)
 |simp only[go_sem,↓reduceIte,reduceIte,Qa,Qh,Qb,Qc,Qd,Qe,Qf,Qg,reduceCtorEq, *,-w1,-w2]
 |with_reducible refine fun(bn:Bool) hbn=>?_))
def V6(f:Frame):Int:=YU [YB (Jt f.type 3 && Jt f.kind 3) 4,YB (Jbu f) 3,YB (Jbt f) 2,YB (Jbr f) 5,YD f.adds,YB (Jbq f) 2]
set_option maxHeartbeats 4000000 in
theorem JdH(f_type:Int)(f_epoch:Int)(f_kind:Int)(f_nonce:Int)(f_turn:Int)(f_adds:List Res)(f_gone:List Key)(f_err:Int)(f_have:List Mark)(f_held:List Key)(hs:VW (⟨f_type,f_epoch,f_kind,f_nonce,f_turn,f_adds,f_gone,f_err,f_have,f_held⟩:Frame)):CallR Tryz.prog 81 [.agg [.int .i64 f_type,.int .i64 f_epoch,.int .i64 f_kind,.int .i64 f_nonce,.int .i64 f_turn,.slice false (Ja f_adds),.slice false (Ja f_gone),.int .i64 f_err,.slice false (Ja f_have),.slice false (Ja f_held)]] (.val (.int .i64 (V6 (⟨f_type,f_epoch,f_kind,f_nonce,f_turn,f_adds,f_gone,f_err,f_have,f_held⟩:Frame)))):=by
 have w1:=JhE f_type f_epoch f_kind f_nonce f_turn f_adds f_gone f_err f_have f_held hs
 have w2:=JhC f_type f_epoch f_kind f_nonce f_turn f_adds f_gone f_err f_have f_held hs
 have w3:=Jhx f_type f_epoch f_kind f_nonce f_turn f_adds f_gone f_err f_have f_held hs
 have w4:=Jhj f_type f_epoch f_kind f_nonce f_turn f_adds f_gone f_err f_have f_held hs
 have w5:=Jhu f_type f_epoch f_kind f_nonce f_turn f_adds f_gone f_err f_have f_held hs
 have w6:=fun a=>Jhq a (YB (Jbu (⟨f_type,f_epoch,f_kind,f_nonce,f_turn,f_adds,f_gone,f_err,f_have,f_held⟩:Frame)) 3) (YB (Jbt (⟨f_type,f_epoch,f_kind,f_nonce,f_turn,f_adds,f_gone,f_err,f_have,f_held⟩:Frame)) 2) (YB (Jbr (⟨f_type,f_epoch,f_kind,f_nonce,f_turn,f_adds,f_gone,f_err,f_have,f_held⟩:Frame)) 5) (YD f_adds) (YB (Jbq (⟨f_type,f_epoch,f_kind,f_nonce,f_turn,f_adds,f_gone,f_err,f_have,f_held⟩:Frame)) 2)
 clear hs
 refine QD (T:=T.withF [26]) Tryz.call81 Tryz.func81 rfl Tryz.ntmps81 (congrArg Array.toList Tryz.results81) (by decide) fun ts hn h0=>?_
 (repeat' (first
 | (with_reducible first|refine callX.by (w1) ?_|refine callX.by (w2) ?_|refine callX.by (w3) ?_|refine callX.by (w4) ?_|refine callX.by (w5) ?_|refine callX.by (w6) ?_|refine callX.by (JdG _ _) ?_|refine callX.by (Jrz _ _) ?_|refine callX.by (JhE _ _ _ _ _ _ _ _ _ _ ?_) ?_|refine callX.by (JhC _ _ _ _ _ _ _ _ _ _ ?_) ?_|refine callX.by (Jhx _ _ _ _ _ _ _ _ _ _ ?_) ?_|refine callX.by (Jhj _ _ _ _ _ _ _ _ _ _ ?_) ?_|refine callX.by (Jhu _ _ _ _ _ _ _ _ _ _ ?_) ?_|refine callX.by (Jht _ ?_) ?_|refine callX.by (Jhq _ _ _ _ _ _) ?_|assumption|(refine Qw hK _ ?_;clear hK K)|refine Qw ‹_› _ ?_|refine Qx ‹_› ?_|refine Qi fun K hK=>?_|refine Qj (T.withF [26]) fun K hK=>?_|refine Qk (id:=1) (T.withF [26]) mixed [([3],[6,7,8,9,10,11,12,13,14,15,16,17,18,19,20,21,22,23,24,25,26,27]),([4],[7,8,9,10,11,12,13,14,15,16,17,18,19,20,21,22,23,24,25,26,27]),([5],[11,12,13,14,15,16,17,18,19,20,21,22,23,24,25,26,27]),([6],[3,12,13,14,15,16,17,18,19,20,21,22,23,24,25,26,27]),([7],[3,4,10,11,12,13,14,15,16,17,18,19,20,21,22,23,24,25,26,27]),([8],[3,4,12,13,14,15,16,17,18,19,20,21,22,23,24,25,26,27]),([9],[3,4,12,14,15,16,17,18,19,20,21,22,23,24,25,27]),([10],[3,4,7,12,14,15,16,17,18,19,20,21,22,23,24,25,27]),([11],[3,4,5,7,12,15,16,17,18,19,20,21,22,23,24,25]),([12],[3,4,5,6,7,8,9,10,11,15,16,17,18,19,20,21,22,23,24,25,26,27]),([13],[3,4,5,6,7,8,15,17,18,19,20,21,22,23,24,25,27]),([14],[3,4,5,6,7,8,9,10,15,18,19,20,21,22,23,24,25]),([15],[3,4,5,6,7,8,9,10,11,12,13,14,18,19,20,21,22,23,24,25,26,27]),([16],[3,4,5,6,7,8,9,10,11,12,18,20,21,22,23,24,25,27]),([17],[3,4,5,6,7,8,9,10,11,12,13,18,21,22,23,24,25]),([18],[3,4,5,6,7,8,9,10,11,12,13,14,15,16,17,21,22,23,24,25,26,27]),([19],[3,4,5,6,7,8,9,10,11,12,13,14,15,21,23,24,25,27]),([20],[3,4,5,6,7,8,9,10,11,12,13,14,15,16,21,23,25]),([21],[3,4,5,6,7,8,9,10,11,12,13,14,15,16,17,18,19,20,23,25,27]),([22],[3,4,5,6,7,8,9,10,11,12,13,14,15,16,17,18,23]),([23],[3,4,5,6,7,8,9,10,11,12,13,14,15,16,17,18,19,20,21,22,26,27]),([24],[3,4,5,6,7,8,9,10,11,12,13,14,15,16,17,18,19]),([25],[3,4,5,6,7,8,9,10,11,12,13,14,15,16,17,18,19,20,21]),([26],[3,4,5,6,7,8,12,15,18,23]),([27],[3,4,5,6,7,8,9,10,12,13,15,16,18,19,21,23])] (by kernel_rfl) fun K hK=>?_|refine Ql fun A B hA hB=>?_|refine Qn ?_|refine Qr ?_)
 | ((with_reducible first|apply Qy|apply Qz|apply QA)<;>intro hb<;>try simp only[nr] at hb)
 |simp only[go_sem,↓reduceIte,reduceIte,Qa,Qh,Qb,Qc,Qd,Qe,Qf,Qg,reduceCtorEq, *,-w1,-w2,-w3,-w4,-w5,-w6]
 |with_reducible refine fun(bn:Bool) hbn=>?_))
 all_goals simp only[V6,hb,Bool.true_and,Bool.false_and]
theorem JhW:∀l:List Key,(Vb l).length≤l.length-1
 | []=>by simp[Vb]
 | [a]=>by simp[Vb]
 |a :: b :: l=>by
  have:=JhW (b :: l)
  unfold Vb
  split<;>simp only[List.length_cons] at *<;>omega
end Go.Proofs.YtihahfhagobnoaaGreatDoor.Lg
namespace Go.Proofs.YtihahfhagobnoaaGreatDoor.Lg
set_option maxRecDepth 100000
set_option linter.unusedVariables false
set_option linter.unusedSimpArgs false
open Go
section
variable {l:List Res} (hc:Conf l) (hv:Yz l=0)
include hc
include hv
end
end Go.Proofs.YtihahfhagobnoaaGreatDoor.Lg
namespace Go.Proofs.YtihahfhagobnoaaGreatDoor.Lg
set_option maxRecDepth 100000
set_option linter.unusedVariables false
set_option linter.unusedSimpArgs false
open Go
open Nat renaming reduceEqDiff → Qa, reduceLT → Qb, reduceLeDiff → Qc, reduceAdd → Qd, reduceMul → Qe, reduceSub → Qf, reduceBEq → Qg
open String renaming reduceEq → Qh
open SpecC renaming seqW → Qi, regW → Qj, drawW → Qk, condW → Ql, skip → Qn, ret → Qr
open NxK renaming out → Qw
open condK renaming split → Qy
open gK renaming split_t → Qz, split_f → QA
theorem Jid{cap:Int}{l:List Res}:JV cap l=0↔J2 l=0∧(l.length:Int)≤cap∧Yz l=0:=by
 unfold JV
 by_cases h1:J2 l=0
 ·by_cases h2:(l.length:Int)≤cap
  ·simp[h1,h2]
  ·simp[h1,h2]
 ·simp[h1]
theorem saneC_iff{c:Cache}:Vy c=true↔c.cap=VL c.cap∧J2 c.l=0∧(c.l.length:Int)≤c.cap∧Yz c.l=0:=by
 unfold Vy
 simp only[Bool.and_eq_true,decide_eq_true_eq,Jid]
theorem Jox{l:List Res}(h:J2 l=0):l.length≤64:=by
 unfold J2 at h
 split at h
 ·cases h
 ·omega
theorem Jkk{c:Cache}(h:Vy c=true)(adds:List Res)(gone:List Key) :
  JY c adds gone=if JV c.cap (Yk c.l adds gone)=0 then (⟨c.cap,Yk c.l adds gone⟩,0) else (c,JV c.cap (Yk c.l adds gone)):=by
 have hof:Vl c=c:=by unfold Vl;rw[if_pos h]
 unfold JY
 rw[hof]
theorem Jgw{c:Cache}(h:Vy c=true)(adds:List Res)(gone:List Key):Vy (JY c adds gone).1=true:=by
 rw[Jkk h]
 split
 ·rename_i hm
  rw[Jid] at hm
  rw[saneC_iff] at h ⊢
  exact⟨h.1,hm⟩
 ·exact h
theorem JkG(n:Int):0≤VL n∧VL n≤64:=by unfold VL;omega
theorem JkF(n:Int):VL (VL n)=VL n:=by unfold VL;omega
theorem Jik(n:Int):Vy ⟨VL n,[]⟩=true:=by
 rw[saneC_iff]
 have h1:J2 []=0:=by decide
 have h2:Yz []=0:=by decide
 exact⟨(JkF n).symm,h1,by simp[(JkG n).1],h2⟩
def JbW(a b:Cache):Bool:=decide (a.cap=b.cap) && decide (a.l=b.l)
theorem Jep(a_cap:Int)(a_l:List Res)(b_cap:Int)(b_l:List Res)(hl:Jc a_l.length)(hs:∀r∈a_l,Jv r):CallR Tryz.prog 87 [.agg [.int .i64 a_cap,.slice false (Ja a_l)],.agg [.int .i64 b_cap,.slice false (Ja b_l)]] (.val (.bool (JbW (⟨a_cap,a_l⟩:Cache) (⟨b_cap,b_l⟩:Cache)))):=by
 have w1:=Y3 a_l b_l hl hs
 by_cases h:a_cap=b_cap
 ·refine CallR.go2 (T:=T) Tryz.call87 Tryz.func87 rfl Tryz.ntmps87 (congrArg Array.toList Tryz.results87) (by decide) fun ts hn h0 h1=>?_
  (repeat' (first
 | (with_reducible first|refine callX.by (w1) ?_|refine callX.by (Y3 _ _ ?_ ?_) ?_|assumption|(refine Qw hK _ ?_;clear hK K)|refine Qw ‹_› _ ?_|refine Nx.out ‹_› ?_|refine Qi fun K hK=>?_|refine Qj T fun K hK=>?_|refine Ql fun A B hA hB=>?_|refine Qn ?_|refine Qr ?_)
 | ((with_reducible first|apply Qy|apply Qz|apply QA)<;>intro hb<;>try simp only[nr] at hb)
 |simp only[go_sem,↓reduceIte,reduceIte,Qa,Qh,Qb,Qc,Qd,Qe,Qf,Qg,reduceCtorEq, *,-hs,-w1]
 |with_reducible refine fun(bn:Bool) hbn=>?_))
  all_goals simp[JbW,h]
 ·refine CallR.go2 (T:=T) Tryz.call87 Tryz.func87 rfl Tryz.ntmps87 (congrArg Array.toList Tryz.results87) (by decide) fun ts hn h0 h1=>?_
  (repeat' (first
 | (with_reducible first|refine callX.by (w1) ?_|refine callX.by (Y3 _ _ ?_ ?_) ?_|assumption|(refine Qw hK _ ?_;clear hK K)|refine Qw ‹_› _ ?_|refine Nx.out ‹_› ?_|refine Qi fun K hK=>?_|refine Qj T fun K hK=>?_|refine Ql fun A B hA hB=>?_|refine Qn ?_|refine Qr ?_)
 | ((with_reducible first|apply Qy|apply Qz|apply QA)<;>intro hb<;>try simp only[nr] at hb)
 |simp only[go_sem,↓reduceIte,reduceIte,Qa,Qh,Qb,Qc,Qd,Qe,Qf,Qg,reduceCtorEq, *,-hs,-w1]
 |with_reducible refine fun(bn:Bool) hbn=>?_))
  all_goals simp[JbW,h]
structure CInv(n:Int)(c:Cache):Prop where
 sane:Vy c=true
 cap:c.cap=VL n
 sm:∀r∈c.l,Jv r
theorem Jkj(c:Cache)(adds:List Res)(gone:List Key):(JY c adds gone).1.l.length≤c.l.length+adds.length:=by
 have h1:=Jet c
 have h2:=JiJ (Vl c).l adds gone
 unfold JY
 simp only
 split
 ·simp only;omega
 ·simp only;omega
theorem Jgx{c:Cache}{adds:List Res}{gone:List Key}{x:Res}(h:x∈(JY c adds gone).1.l):x∈c.l∨x∈adds:=by
 unfold JY at h
 simp only at h
 split at h
 ·exact(JiK h).imp JcZ id
 ·exact .inl (JcZ h)
@[go_sem] def JeM:List (List Nat×List Nat):=[([31],[33,34]),([32],[33,34]),([33],[31,32,6]),([34],[31,32,6]),([6],[33,34])]
def Jey(c:Cache)(ready:Bool)(shown:List Res)(ch:Bool):List AV :=
 if VJ c=shown then [.int .i64 c.cap,.slice false (Ja c.l),.bool ready,.slice false (Ja shown),.bool ch] else [.int .i64 c.cap,.slice false (Ja c.l),.bool true,.slice false (Ja (VJ c)),.bool true]
theorem JnQ(c:Cache):(VJ c).length≤c.l.length:=Nat.le_trans (JfE _) (Jet c)
theorem JnR{c:Cache}{r:Res}(h:r∈VJ c):r∈c.l:=JcZ ((JiY _).subset h)
theorem Jok(cap0:Int)(l0:List Res)(ready:Bool)(shown:List Res)(ch:Bool)(c_cap:Int)(c_l:List Res)(hl:c_l.length≤65536)(hs:∀r∈c_l,Jv r) :
  CallI Tryz.prog 123 [.int .i64 cap0,.slice false (Ja l0),.bool ready,.slice false (Ja shown),.bool ch] [.agg [.int .i64 c_cap,.slice false (Ja c_l)]] (.tup []) (Jey (⟨c_cap,c_l⟩:Cache) ready shown ch):=by
 have w1:=(Jau c_cap c_l hl hs).frz
 have hsl:=JnQ (⟨c_cap,c_l⟩:Cache)
 have w2:=ZM (VJ (⟨c_cap,c_l⟩:Cache)) shown (by simp only at hsl;unfold Jc;omega) fun x hx=>hs x (JnR hx)
 unfold Jey
 generalize VJ (⟨c_cap,c_l⟩:Cache)=s at *
 clear hs hl hsl
 by_cases he:s=shown
 ·rw[decide_eq_true he] at w2
  rw[if_pos he]
  refine CallI.go1 Tryz.call123 Tryz.func123 rfl Tryz.ntmps123 T (congrArg Array.toList Tryz.results123) (by decide) fun ts hn h0 hg0 ho0 h1=>?_
  (repeat' (first
 | (with_reducible first|refine callX.by (w1) ?_|refine callX.by (w2) ?_|refine callX.by (Jau _ _ ?_ ?_) ?_|refine callX.by (ZM _ _ ?_ ?_) ?_|assumption|(refine Qw hK _ ?_;clear hK K)|refine Qw ‹_› _ ?_|refine Nx.out ‹_› ?_|refine Qi fun K hK=>?_|refine Qj T fun K hK=>?_|refine Ql fun A B hA hB=>?_|refine Qn ?_|refine Qr ?_)
 | ((with_reducible first|apply Qy|apply Qz|apply QA)<;>intro hb<;>try simp only[nr] at hb)
 |simp only[go_sem,↓reduceIte,reduceIte,Qa,Qh,Qb,Qc,Qd,Qe,Qf,Qg,reduceCtorEq, *,-w1,-w2,-he]
 |with_reducible refine fun(bn:Bool) hbn=>?_))
  all_goals trace_state
 ·rw[decide_eq_false he] at w2
  rw[if_neg he]
  refine CallI.go1 Tryz.call123 Tryz.func123 rfl Tryz.ntmps123 T (congrArg Array.toList Tryz.results123) (by decide) fun ts hn h0 hg0 ho0 h1=>?_
  (repeat' (first
 | (with_reducible first|refine callX.by (w1) ?_|refine callX.by (w2) ?_|refine callX.by (Jau _ _ ?_ ?_) ?_|refine callX.by (ZM _ _ ?_ ?_) ?_|assumption|(refine Qw hK _ ?_;clear hK K)|refine Qw ‹_› _ ?_|refine Nx.out ‹_› ?_|refine Qi fun K hK=>?_|refine Qj T fun K hK=>?_|refine Ql fun A B hA hB=>?_|refine Qn ?_|refine Qr ?_)
 | ((with_reducible first|apply Qy|apply Qz|apply QA)<;>intro hb<;>try simp only[nr] at hb)
 |simp only[go_sem,↓reduceIte,reduceIte,Qa,Qh,Qb,Qc,Qd,Qe,Qf,Qg,reduceCtorEq, *,-w1,-w2,-he]
 |with_reducible refine fun(bn:Bool) hbn=>?_))
  all_goals trace_state
def JQ(w:Warm)(adds:List Res)(gone:List Key):Warm×Bool×Int :=
 let m:=Yn w
 let a:=JY m.c adds gone
 if a.2=0 then (if VJ a.1=m.shown then (⟨a.1,m.ready,m.shown⟩,false,0) else (⟨a.1,true,VJ a.1⟩,true,0)) else (m,false,a.2)
theorem JnD(w:Warm):(Yn w).c.l.length≤w.c.l.length:=by unfold Yn;split<;>simp
theorem JnE{w:Warm}{r:Res}(h:r∈(Yn w).c.l):r∈w.c.l:=by unfold Yn at h;split at h<;>simp_all
theorem Joe(w_c_cap:Int)(w_c_l:List Res)(w_ready:Bool)(w_shown:List Res)(adds:List Res)(gone:List Key)(hl:w_c_l.length+adds.length≤65536)(hs:∀r∈w_c_l,Jv r)(hl2:Jc w_shown.length)(hs2:∀r∈w_shown,Jv r)(hg:Jc gone.length)(ha:∀r∈adds,Jv r) :
  CallR Tryz.prog 85 [.agg [.int .i64 w_c_cap,.slice false (Ja w_c_l),.bool w_ready,.slice false (Ja w_shown)],.slice false (Ja adds),.slice false (Ja gone)]
   (.val (.tup [.agg [.int .i64 (JQ (⟨⟨w_c_cap,w_c_l⟩,w_ready,w_shown⟩:Warm) adds gone).1.c.cap,.slice false (Ja (JQ (⟨⟨w_c_cap,w_c_l⟩,w_ready,w_shown⟩:Warm) adds gone).1.c.l),.bool (JQ (⟨⟨w_c_cap,w_c_l⟩,w_ready,w_shown⟩:Warm) adds gone).1.ready,.slice false (Ja (JQ (⟨⟨w_c_cap,w_c_l⟩,w_ready,w_shown⟩:Warm) adds gone).1.shown)],.bool (JQ (⟨⟨w_c_cap,w_c_l⟩,w_ready,w_shown⟩:Warm) adds gone).2.1,.int .i64 (JQ (⟨⟨w_c_cap,w_c_l⟩,w_ready,w_shown⟩:Warm) adds gone).2.2])):=by
 have w1:=Jes w_c_cap w_c_l w_ready w_shown (by omega) hs hl2 hs2
 have hml:=JnD (⟨⟨w_c_cap,w_c_l⟩,w_ready,w_shown⟩:Warm)
 have hms:∀r∈(Yn (⟨⟨w_c_cap,w_c_l⟩,w_ready,w_shown⟩:Warm)).c.l,Jv r:=fun r hr=>hs r (JnE hr)
 unfold JQ
 generalize Yn (⟨⟨w_c_cap,w_c_l⟩,w_ready,w_shown⟩:Warm)=m at *
 simp only at hml ⊢
 have w2:=Jkh m.c.cap m.c.l adds gone (by omega) hg hms ha
 have w2:CallR Tryz.prog 122 [.agg [.int .i64 m.c.cap,.slice false (Ja m.c.l)],.slice false (Ja adds),.slice false (Ja gone)] (.val (.tup [.agg [.int .i64 (JY m.c adds gone).1.cap,.slice false (Ja (JY m.c adds gone).1.l)],.int .i64 (JY m.c adds gone).2])):=w2
 have hal:=Jkj m.c adds gone
 have hac:∀r∈(JY m.c adds gone).1.l,Jv r:=fun r hr=>(Jgx hr).elim (hms r) (ha r)
 generalize (JY m.c adds gone).2=e at *
 generalize (JY m.c adds gone).1=d at *
 have w3:=Jok m.c.cap m.c.l m.ready m.shown false d.cap d.l (by omega) hac
 have w3:CallI Tryz.prog 123 [.int .i64 m.c.cap,.slice false (Ja m.c.l),.bool m.ready,.slice false (Ja m.shown),.bool false] [.agg [.int .i64 d.cap,.slice false (Ja d.l)]] (.tup []) (Jey d m.ready m.shown false):=w3
 unfold Jey at w3
 clear hs hs2 ha hms hac hal hml hl hl2 hg
 by_cases he:e=0
 ·subst he
  simp only[if_true]
  by_cases hsh:VJ d=m.shown
  ·rw[if_pos hsh] at w3 ⊢
   simp only
   refine CallR.go3 (T:=T) Tryz.call85 Tryz.func85 rfl Tryz.ntmps85 (congrArg Array.toList Tryz.results85) (by decide) fun ts hn h0 h1 h2=>?_
   (repeat' (first
 | (with_reducible first|refine callX.by (w1) ?_|refine callX.by (w2) ?_)
 | (with_reducible refine callX.io ?_ ?_ ?_ (w3);(focus(simp only[go_sem,↓reduceIte,reduceIte,Qa,Qh,Qb,Qc,Qd,Qe,Qf,Qg,reduceCtorEq, *,-w1,-w2,-w3,-hsh];first|done|rfl));(focus(simp only[go_sem,↓reduceIte,reduceIte,Qa,Qh,Qb,Qc,Qd,Qe,Qf,Qg,reduceCtorEq, *,-w1,-w2,-w3,-hsh];first|done|rfl)))
 | (with_reducible first|refine callX.by (Jes _ _ _ _ ?_ ?_ ?_ ?_) ?_|assumption|(refine Qw hK _ ?_;clear hK K)|refine Qw ‹_› _ ?_|refine Nx.out ‹_› ?_|refine Qi fun K hK=>?_|refine Qj T fun K hK=>?_|refine Qk (id:=6) T mixed JeM (by kernel_rfl) fun K hK=>?_|refine Ql fun A B hA hB=>?_|refine Qn ?_|refine Qr ?_)
 | ((with_reducible first|apply Qy|apply Qz|apply QA)<;>intro hb<;>try simp only[nr] at hb)
 |simp only[go_sem,↓reduceIte,reduceIte,Qa,Qh,Qb,Qc,Qd,Qe,Qf,Qg,reduceCtorEq, *,-w1,-w2,-w3,-hsh]
 |with_reducible refine fun(bn:Bool) hbn=>?_))
   all_goals trace_state
  ·rw[if_neg hsh] at w3 ⊢
   simp only
   refine CallR.go3 (T:=T) Tryz.call85 Tryz.func85 rfl Tryz.ntmps85 (congrArg Array.toList Tryz.results85) (by decide) fun ts hn h0 h1 h2=>?_
   (repeat' (first
 | (with_reducible first|refine callX.by (w1) ?_|refine callX.by (w2) ?_)
 | (with_reducible refine callX.io ?_ ?_ ?_ (w3);(focus(simp only[go_sem,↓reduceIte,reduceIte,Qa,Qh,Qb,Qc,Qd,Qe,Qf,Qg,reduceCtorEq, *,-w1,-w2,-w3,-hsh];first|done|rfl));(focus(simp only[go_sem,↓reduceIte,reduceIte,Qa,Qh,Qb,Qc,Qd,Qe,Qf,Qg,reduceCtorEq, *,-w1,-w2,-w3,-hsh];first|done|rfl)))
 | (with_reducible first|refine callX.by (Jes _ _ _ _ ?_ ?_ ?_ ?_) ?_|assumption|(refine Qw hK _ ?_;clear hK K)|refine Qw ‹_› _ ?_|refine Nx.out ‹_› ?_|refine Qi fun K hK=>?_|refine Qj T fun K hK=>?_|refine Qk (id:=6) T mixed JeM (by kernel_rfl) fun K hK=>?_|refine Ql fun A B hA hB=>?_|refine Qn ?_|refine Qr ?_)
 | ((with_reducible first|apply Qy|apply Qz|apply QA)<;>intro hb<;>try simp only[nr] at hb)
 |simp only[go_sem,↓reduceIte,reduceIte,Qa,Qh,Qb,Qc,Qd,Qe,Qf,Qg,reduceCtorEq, *,-w1,-w2,-w3,-hsh]
 |with_reducible refine fun(bn:Bool) hbn=>?_))
   all_goals trace_state
 ·rw[if_neg he]
  simp only
  clear w3
  refine CallR.go3 (T:=T) Tryz.call85 Tryz.func85 rfl Tryz.ntmps85 (congrArg Array.toList Tryz.results85) (by decide) fun ts hn h0 h1 h2=>?_
  (repeat' (first
 | (with_reducible first|refine callX.by (w1) ?_|refine callX.by (w2) ?_|refine callX.by (Jes _ _ _ _ ?_ ?_ ?_ ?_) ?_|assumption|(refine Qw hK _ ?_;clear hK K)|refine Qw ‹_› _ ?_|refine Nx.out ‹_› ?_|refine Qi fun K hK=>?_|refine Qj T fun K hK=>?_|refine Qk (id:=6) T mixed JeM (by kernel_rfl) fun K hK=>?_|refine Ql fun A B hA hB=>?_|refine Qn ?_|refine Qr ?_)
 | ((with_reducible first|apply Qy|apply Qz|apply QA)<;>intro hb<;>try simp only[nr] at hb)
 |simp only[go_sem,↓reduceIte,reduceIte,Qa,Qh,Qb,Qc,Qd,Qe,Qf,Qg,reduceCtorEq, *,-w1,-w2]
 |with_reducible refine fun(bn:Bool) hbn=>?_))
  all_goals trace_state
end Go.Proofs.YtihahfhagobnoaaGreatDoor.Lg
