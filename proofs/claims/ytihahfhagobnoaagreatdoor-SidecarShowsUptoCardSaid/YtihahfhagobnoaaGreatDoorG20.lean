/- Parts of the proof, one behind the other. -/
import Derived.Test.YtihahfhagobnoaaGreatDoorG19
namespace Go.Proofs.YtihahfhagobnoaaGreatDoor.Lg
set_option maxRecDepth 100000
set_option linter.unusedVariables false
set_option linter.unusedSimpArgs false
open Go
open Nat renaming reduceEqDiff → Qa, reduceLT → Qb, reduceLeDiff → Qc, reduceAdd → Qd, reduceMul → Qe, reduceSub → Qf, reduceBEq → Qg
open String renaming reduceEq → Qh
open SpecC renaming seqW → Qi, regW → Qj, drawW → Qk, condW → Ql, block → Qm, skip → Qn, exit → Qp, ret → Qr, loopF → Qs
open NxK renaming out → Qw
open Nx renaming out → Qx
open condK renaming split → Qy
open gK renaming split_t → Qz, split_f → QA
open CallR renaming go1 → QD
def Jw(n most:Int):Bool:=decide (0≤n∧n≤most)
theorem JdU(n m:Int):CallR Tryz.prog 115 [.int .i64 n,.int .i64 m] (.val (.bool (Jw n m))):=by
 refine CallR.go2 (T:=T) Tryz.call115 Tryz.func115 rfl Tryz.ntmps115 (congrArg Array.toList Tryz.results115) (by decide) fun ts hn h0 h1=>?_
 (repeat' (first
 | (with_reducible first|assumption|(refine Qw hK _ ?_;clear hK K)|refine Qw ‹_› _ ?_|refine Qx ‹_› ?_|refine Qi fun K hK=>?_|refine Qj T fun K hK=>?_|refine Ql fun A B hA hB=>?_|refine Qn ?_|refine Qr ?_)
 | ((with_reducible first|apply Qy|apply Qz|apply QA)<;>intro hb<;>try simp only[nr] at hb)
 |simp only[go_sem,↓reduceIte,reduceIte,Qa,Qh,Qb,Qc,Qd,Qe,Qf,Qg,reduceCtorEq, *]
 |with_reducible refine fun(bn:Bool) hbn=>?_))
 all_goals (rw[Bool.eq_iff_iff];simp_all[Jw])
 all_goals omega
def Y9(ok:Bool)(e:Int):Int:=if ok then 0 else e
theorem JrV(ok:Bool)(e:Int):CallR Tryz.prog 114 [.bool ok,.int .i64 e] (.val (.int .i64 (Y9 ok e))):=by
 refine CallR.go2 (T:=T) Tryz.call114 Tryz.func114 rfl Tryz.ntmps114 (congrArg Array.toList Tryz.results114) (by decide) fun ts hn h0 h1=>?_
 (repeat' (first
 | (with_reducible first|assumption|(refine Qw hK _ ?_;clear hK K)|refine Qw ‹_› _ ?_|refine Qx ‹_› ?_|refine Qi fun K hK=>?_|refine Qj T fun K hK=>?_|refine Ql fun A B hA hB=>?_|refine Qn ?_|refine Qr ?_)
 | ((with_reducible first|apply Qy|apply Qz|apply QA)<;>intro hb<;>try simp only[nr] at hb)
 |simp only[go_sem,↓reduceIte,reduceIte,Qa,Qh,Qb,Qc,Qd,Qe,Qf,Qg,reduceCtorEq, *]
 |with_reducible refine fun(bn:Bool) hbn=>?_))
 all_goals simp_all[Y9]
def Z9:List Int→Int
 | []=>0
 |e :: r=>if e=0 then Z9 r else e
theorem JhO(xs:List Int)(hl:Jc xs.length):CallR Tryz.prog 113 [.slice false (Ja xs)] (.val (.int .i64 (Z9 xs))):=by
 refine QD (T:=T) Tryz.call113 Tryz.func113 rfl Tryz.ntmps113 (congrArg Array.toList Tryz.results113) (by decide) fun ts hn h0=>?_
 (repeat' (first
 | (with_reducible first|assumption|(refine Qw hK _ ?_;clear hK K)|refine Qw ‹_› _ ?_|refine Qx ‹_› ?_|refine Qi fun K hK=>?_|refine Qj T fun K hK=>?_|refine Ql fun A B hA hB=>?_|refine Qm ?_|refine Qn ?_|refine Qp ?_|refine Qr ?_)
 | ((with_reducible first|apply Qy|apply Qz|apply QA)<;>intro hb<;>try simp only[nr] at hb)
 |simp only[go_sem,↓reduceIte,reduceIte,Qa,Qh,Qb,Qc,Qd,Qe,Qf,Qg,reduceCtorEq, *]
 |with_reducible refine fun(bn:Bool) hbn=>?_))
 refine Qs [5,6] (fun m ts'=>∃(i:Nat),m=xs.length-i∧i≤xs.length∧Z9 xs=Z9 (xs.drop i)∧ts'.tmp 7=.int .i64 i) xs.length ?_ ?_
 ·refine⟨0,?_⟩
  simp only[go_sem,↓reduceIte,reduceIte,Qa,Qh,Qb,Qc,Qd,Qe,Qf,Qg,reduceCtorEq, *]
 ·rintro m A hM ts' hk ⟨i,hm,f1,f2,s1⟩
  simp only[go_sem,↓reduceIte,reduceIte,Qa,Qh,Qb,Qc,Qd,Qe,Qf,Qg,reduceCtorEq, *] at hk
  by_cases hlt:i<xs.length
  ·rw[List.drop_eq_getElem_cons hlt,Z9] at f2
   (repeat' (first
 | (with_reducible first|assumption|(refine Qw hK _ ?_;clear hK K)|refine Qw ‹_› _ ?_|refine Qx ‹_› ?_|refine Qi fun K hK=>?_|refine Qj T fun K hK=>?_|refine Ql fun A B hA hB=>?_|refine Qm ?_|refine Qn ?_|refine Qp ?_|refine Qr ?_)
 | ((with_reducible first|apply Qy|apply Qz|apply QA)<;>intro hb<;>try simp only[nr] at hb)
 |simp only[go_sem,↓reduceIte,reduceIte,Qa,Qh,Qb,Qc,Qd,Qe,Qf,Qg,reduceCtorEq, *,-f2]
 |with_reducible refine fun(bn:Bool) hbn=>?_))
   all_goals ((repeat clear hK);(repeat clear hA);(repeat clear hB))
   ·rw[if_neg (by simp_all)] at f2
    simp_all
   ·rw[if_pos (by simp_all)] at f2
    (refine hM.on (xs.length-(i+1)) (by omega) (by simp only[go_sem,↓reduceIte,reduceIte,Qa,Qh,Qb,Qc,Qd,Qe,Qf,Qg,reduceCtorEq, *,Jf hlt hl,-f2]) ⟨i+1,rfl,by omega,f2,?_⟩;simp only[go_sem,↓reduceIte,reduceIte,Qa,Qh,Qb,Qc,Qd,Qe,Qf,Qg,reduceCtorEq, *,Jf hlt hl,-f2];done)
  ·rw[List.drop_eq_nil_of_le (by omega),Z9] at f2
   (repeat' (first
 | (with_reducible first|assumption|(refine Qw hK _ ?_;clear hK K)|refine Qw ‹_› _ ?_|refine Qx ‹_› ?_|refine Qi fun K hK=>?_|refine Qj T fun K hK=>?_|refine Ql fun A B hA hB=>?_|refine Qm ?_|refine Qn ?_|refine Qp ?_|refine Qr ?_)
 | ((with_reducible first|apply Qy|apply Qz|apply QA)<;>intro hb<;>try simp only[nr] at hb)
 |simp only[go_sem,↓reduceIte,reduceIte,Qa,Qh,Qb,Qc,Qd,Qe,Qf,Qg,reduceCtorEq, *]
 |with_reducible refine fun(bn:Bool) hbn=>?_))
theorem JhM(a b c d e f:Int):CallR Tryz.prog 113 [.slice false [.int .i64 a,.int .i64 b,.int .i64 c,.int .i64 d,.int .i64 e,.int .i64 f]] (.val (.int .i64 (Z9 [a,b,c,d,e,f]))):=JhO [a,b,c,d,e,f] (by unfold Jc;simp)
def ZM(k:Key):Bool:=Jw k.kind 3 && VN k.name
theorem Jil(k_kind:Int)(k_name:List UInt8)(hl:Jc k_name.length):CallR Tryz.prog 187 [.agg [.int .i64 k_kind,.str k_name]] (.val (.bool (ZM (⟨k_kind,k_name⟩:Key)))):=by
 have w1:=Jb8 k_name
 refine QD (T:=T) Tryz.call187 Tryz.func187 rfl Tryz.ntmps187 (congrArg Array.toList Tryz.results187) (by decide) fun ts hn h0=>?_
 (repeat' (first
 | (with_reducible first|refine callX.by (w1) ?_|refine callX.by (JdU _ _) ?_|refine callX.by (Jb8 _) ?_|assumption|(refine Qw hK _ ?_;clear hK K)|refine Qw ‹_› _ ?_|refine Qx ‹_› ?_|refine Qi fun K hK=>?_|refine Qj T fun K hK=>?_|refine Ql fun A B hA hB=>?_|refine Qn ?_|refine Qr ?_)
 | ((with_reducible first|apply Qy|apply Qz|apply QA)<;>intro hb<;>try simp only[nr] at hb)
 |simp only[go_sem,↓reduceIte,reduceIte,Qa,Qh,Qb,Qc,Qd,Qe,Qf,Qg,reduceCtorEq, *,-w1]
 |with_reducible refine fun(bn:Bool) hbn=>?_))
 all_goals simp_all[ZM]
theorem JcR(k_kind:Int)(k_name:List UInt8)(hl:Jc k_name.length):CallR Tryz.prog 161 [.agg [.int .i64 k_kind,.str k_name]] (.val (.bool (!ZM (⟨k_kind,k_name⟩:Key)))):=by
 have w1:=Jil k_kind k_name hl
 refine QD (T:=T) Tryz.call161 Tryz.func161 rfl Tryz.ntmps161 (congrArg Array.toList Tryz.results161) (by decide) fun ts hn h0=>?_
 (repeat' (first
 | (with_reducible first|refine callX.by (w1) ?_|refine callX.by (Jil _ _ ?_) ?_|assumption|(refine Qw hK _ ?_;clear hK K)|refine Qw ‹_› _ ?_|refine Qx ‹_› ?_|refine Qi fun K hK=>?_|refine Qj T fun K hK=>?_|refine Ql fun A B hA hB=>?_|refine Qn ?_|refine Qr ?_)
 | ((with_reducible first|apply Qy|apply Qz|apply QA)<;>intro hb<;>try simp only[nr] at hb)
 |simp only[go_sem,↓reduceIte,reduceIte,Qa,Qh,Qb,Qc,Qd,Qe,Qf,Qg,reduceCtorEq, *,-w1]
 |with_reducible refine fun(bn:Bool) hbn=>?_))
theorem JhZ(m_k_kind:Int)(m_k_name:List UInt8)(m_ver:Int):CallR Tryz.prog 159 [.agg [.int .i64 m_k_kind,.str m_k_name,.int .i64 m_ver]] (.val (.bool (!Jw m_ver 2147483647))):=by
 refine QD (T:=T) Tryz.call159 Tryz.func159 rfl Tryz.ntmps159 (congrArg Array.toList Tryz.results159) (by decide) fun ts hn h0=>?_
 (repeat' (first
 | (with_reducible first|refine callX.by (JdU _ _) ?_|assumption|(refine Qw hK _ ?_;clear hK K)|refine Qw ‹_› _ ?_|refine Qx ‹_› ?_|refine Qi fun K hK=>?_|refine Qj T fun K hK=>?_|refine Ql fun A B hA hB=>?_|refine Qn ?_|refine Qr ?_)
 | ((with_reducible first|apply Qy|apply Qz|apply QA)<;>intro hb<;>try simp only[nr] at hb)
 |simp only[go_sem,↓reduceIte,reduceIte,Qa,Qh,Qb,Qc,Qd,Qe,Qf,Qg,reduceCtorEq, *]
 |with_reducible refine fun(bn:Bool) hbn=>?_))
theorem JhR(m_k_kind:Int)(m_k_name:List UInt8)(m_ver:Int)(hl:Jc m_k_name.length):CallR Tryz.prog 162 [.agg [.int .i64 m_k_kind,.str m_k_name,.int .i64 m_ver]] (.val (.bool (!ZM ⟨m_k_kind,m_k_name⟩))):=by
 have w1:=JcR m_k_kind m_k_name hl
 refine QD (T:=T) Tryz.call162 Tryz.func162 rfl Tryz.ntmps162 (congrArg Array.toList Tryz.results162) (by decide) fun ts hn h0=>?_
 (repeat' (first
 | (with_reducible first|refine callX.by (w1) ?_|refine callX.by (JcR _ _ ?_) ?_|assumption|(refine Qw hK _ ?_;clear hK K)|refine Qw ‹_› _ ?_|refine Qx ‹_› ?_|refine Qi fun K hK=>?_|refine Qj T fun K hK=>?_|refine Ql fun A B hA hB=>?_|refine Qn ?_|refine Qr ?_)
 | ((with_reducible first|apply Qy|apply Qz|apply QA)<;>intro hb<;>try simp only[nr] at hb)
 |simp only[go_sem,↓reduceIte,reduceIte,Qa,Qh,Qb,Qc,Qd,Qe,Qf,Qg,reduceCtorEq, *,-w1]
 |with_reducible refine fun(bn:Bool) hbn=>?_))
theorem Jls(r_kind:Int)(r_name:List UInt8)(r_ver:Int)(r_port:Int)(r_to:List UInt8)(r_rules:List Rule)(r_hosts:List Int)(f_type:Int)(f_epoch:Int)(f_kind:Int)(f_nonce:Int)(f_turn:Int)(f_adds:List Res)(f_gone:List Key)(f_err:Int)(f_have:List Mark)(f_held:List Key):CallR Tryz.prog 163 [.agg [.int .i64 r_kind,.str r_name,.int .i64 r_ver,.int .i64 r_port,.str r_to,.slice false (Ja r_rules),.slice false (Ja r_hosts)],.ro [.int .i64 f_type,.int .i64 f_epoch,.int .i64 f_kind,.int .i64 f_nonce,.int .i64 f_turn,.slice false (Ja f_adds),.slice false (Ja f_gone),.int .i64 f_err,.slice false (Ja f_have),.slice false (Ja f_held)]] (.val (.bool (!decide (r_kind=f_kind)))):=by
 refine CallR.go2 (T:=T) Tryz.call163 Tryz.func163 rfl Tryz.ntmps163 (congrArg Array.toList Tryz.results163) (by decide) fun ts hn h0 h1=>?_
 (repeat' (first
 | (with_reducible first|assumption|(refine Qw hK _ ?_;clear hK K)|refine Qw ‹_› _ ?_|refine Qx ‹_› ?_|refine Qi fun K hK=>?_|refine Qj T fun K hK=>?_|refine Ql fun A B hA hB=>?_|refine Qn ?_|refine Qr ?_)
 | ((with_reducible first|apply Qy|apply Qz|apply QA)<;>intro hb<;>try simp only[nr] at hb)
 |simp only[go_sem,↓reduceIte,reduceIte,Qa,Qh,Qb,Qc,Qd,Qe,Qf,Qg,reduceCtorEq, *]
 |with_reducible refine fun(bn:Bool) hbn=>?_))
theorem Jlt(r_kind:Int)(r_name:List UInt8)(f_type:Int)(f_epoch:Int)(f_kind:Int)(f_nonce:Int)(f_turn:Int)(f_adds:List Res)(f_gone:List Key)(f_err:Int)(f_have:List Mark)(f_held:List Key):CallR Tryz.prog 164 [.agg [.int .i64 r_kind,.str r_name],.ro [.int .i64 f_type,.int .i64 f_epoch,.int .i64 f_kind,.int .i64 f_nonce,.int .i64 f_turn,.slice false (Ja f_adds),.slice false (Ja f_gone),.int .i64 f_err,.slice false (Ja f_have),.slice false (Ja f_held)]] (.val (.bool (!decide (r_kind=f_kind)))):=by
 refine CallR.go2 (T:=T) Tryz.call164 Tryz.func164 rfl Tryz.ntmps164 (congrArg Array.toList Tryz.results164) (by decide) fun ts hn h0 h1=>?_
 (repeat' (first
 | (with_reducible first|assumption|(refine Qw hK _ ?_;clear hK K)|refine Qw ‹_› _ ?_|refine Qx ‹_› ?_|refine Qi fun K hK=>?_|refine Qj T fun K hK=>?_|refine Ql fun A B hA hB=>?_|refine Qn ?_|refine Qr ?_)
 | ((with_reducible first|apply Qy|apply Qz|apply QA)<;>intro hb<;>try simp only[nr] at hb)
 |simp only[go_sem,↓reduceIte,reduceIte,Qa,Qh,Qb,Qc,Qd,Qe,Qf,Qg,reduceCtorEq, *]
 |with_reducible refine fun(bn:Bool) hbn=>?_))
theorem Jg4(f_type:Int)(f_epoch:Int)(f_kind:Int)(f_nonce:Int)(f_turn:Int)(f_adds:List Res)(f_gone:List Key)(f_err:Int)(f_have:List Mark)(f_held:List Key):Caps [.ro [.int .i64 f_type,.int .i64 f_epoch,.int .i64 f_kind,.int .i64 f_nonce,.int .i64 f_turn,.slice false (Ja f_adds),.slice false (Ja f_gone),.int .i64 f_err,.slice false (Ja f_have),.slice false (Ja f_held)]]:=⟨by simp only[go_sem,Bool.and_self],by simp only[go_sem]⟩
def JbR(f:Frame):Bool:=!decide (64<max (max (max (f.adds.length:Int) f.gone.length) f.have'.length) f.held.length) && !(f.have'.any fun m=>!Jw m.ver 2147483647) && Jw f.epoch 2147483647 && Jw f.nonce 2147483647 && Jw f.turn 2147483647 && Jw f.err 15
set_option maxHeartbeats 4000000 in
theorem Jh0(f_type:Int)(f_epoch:Int)(f_kind:Int)(f_nonce:Int)(f_turn:Int)(f_adds:List Res)(f_gone:List Key)(f_err:Int)(f_have:List Mark)(f_held:List Key)(hs:VG (⟨f_type,f_epoch,f_kind,f_nonce,f_turn,f_adds,f_gone,f_err,f_have,f_held⟩:Frame)):CallR Tryz.prog 116 [.agg [.int .i64 f_type,.int .i64 f_epoch,.int .i64 f_kind,.int .i64 f_nonce,.int .i64 f_turn,.slice false (Ja f_adds),.slice false (Ja f_gone),.int .i64 f_err,.slice false (Ja f_have),.slice false (Ja f_held)]] (.val (.bool (JbR (⟨f_type,f_epoch,f_kind,f_nonce,f_turn,f_adds,f_gone,f_err,f_have,f_held⟩:Frame)))):=by
 have hl:=hs.2.2.2.2.1
 have w1:=JdK 159 [] Caps.nil (fun m=>!Jw m.ver 2147483647) f_have (fun x _=>JhZ x.k.kind x.k.name x.ver) hl
 clear hs hl
 refine QD (T:=T) Tryz.call116 Tryz.func116 rfl Tryz.ntmps116 (congrArg Array.toList Tryz.results116) (by decide) fun ts hn h0=>?_
 (repeat' (first
 | (with_reducible first|refine callX.by (w1) ?_|refine callX.by (JdK _ _ ?_ _ _ ?_ ?_) ?_|refine callX.by (JhZ _ _ _) ?_|refine callX.by (JdU _ _) ?_|assumption|(refine Qw hK _ ?_;clear hK K)|refine Qw ‹_› _ ?_|refine Qx ‹_› ?_|refine Qi fun K hK=>?_|refine Qj T fun K hK=>?_|refine Ql fun A B hA hB=>?_|refine Qn ?_|refine Qr ?_)
 | ((with_reducible first|apply Qy|apply Qz|apply QA)<;>intro hb<;>try simp only[nr] at hb)
 |simp only[go_sem,↓reduceIte,reduceIte,Qa,Qh,Qb,Qc,Qd,Qe,Qf,Qg,reduceCtorEq, *,-w1]
 |with_reducible refine fun(bn:Bool) hbn=>?_))
 all_goals simp_all[JbR]
 all_goals grind
def JbO(f:Frame):Bool:=!(f.gone.any fun k=>!ZM k) && !(f.held.any fun k=>!ZM k) && !(f.have'.any fun m=>!ZM m.k)
set_option maxHeartbeats 4000000 in
theorem JhS(f_type:Int)(f_epoch:Int)(f_kind:Int)(f_nonce:Int)(f_turn:Int)(f_adds:List Res)(f_gone:List Key)(f_err:Int)(f_have:List Mark)(f_held:List Key)(hs:VG (⟨f_type,f_epoch,f_kind,f_nonce,f_turn,f_adds,f_gone,f_err,f_have,f_held⟩:Frame)):CallR Tryz.prog 118 [.agg [.int .i64 f_type,.int .i64 f_epoch,.int .i64 f_kind,.int .i64 f_nonce,.int .i64 f_turn,.slice false (Ja f_adds),.slice false (Ja f_gone),.int .i64 f_err,.slice false (Ja f_have),.slice false (Ja f_held)]] (.val (.bool (JbO (⟨f_type,f_epoch,f_kind,f_nonce,f_turn,f_adds,f_gone,f_err,f_have,f_held⟩:Frame)))):=by
 obtain⟨-,-,g1,g2,g3,g4,g5,g6⟩:=hs
 have w1:=Z5 161 [] Caps.nil (fun k=>!ZM k) f_gone (fun x hx=>JcR x.kind x.name (g2 x hx)) g1
 have w2:=Z5 161 [] Caps.nil (fun k=>!ZM k) f_held (fun x hx=>JcR x.kind x.name (g6 x hx)) g5
 have w3:=JdK 162 [] Caps.nil (fun m=>!ZM m.k) f_have (fun x hx=>JhR x.k.kind x.k.name x.ver (g4 x hx)) g3
 clear g1 g2 g3 g4 g5 g6
 refine QD (T:=T) Tryz.call118 Tryz.func118 rfl Tryz.ntmps118 (congrArg Array.toList Tryz.results118) (by decide) fun ts hn h0=>?_
 (repeat' (first
 | (with_reducible first|refine callX.by (w1) ?_|refine callX.by (w2) ?_|refine callX.by (w3) ?_|refine callX.by (Z5 _ _ ?_ _ _ ?_ ?_) ?_|refine callX.by (JcR _ _ ?_) ?_|refine callX.by (JdK _ _ ?_ _ _ ?_ ?_) ?_|refine callX.by (JhR _ _ _ ?_) ?_|assumption|(refine Qw hK _ ?_;clear hK K)|refine Qw ‹_› _ ?_|refine Qx ‹_› ?_|refine Qi fun K hK=>?_|refine Qj T fun K hK=>?_|refine Ql fun A B hA hB=>?_|refine Qn ?_|refine Qr ?_)
 | ((with_reducible first|apply Qy|apply Qz|apply QA)<;>intro hb<;>try simp only[nr] at hb)
 |simp only[go_sem,↓reduceIte,reduceIte,Qa,Qh,Qb,Qc,Qd,Qe,Qf,Qg,reduceCtorEq, *,-w1,-w2,-w3]
 |with_reducible refine fun(bn:Bool) hbn=>?_))
 all_goals simp_all[JbO]
 all_goals grind
def JbN(f:Frame):Bool:=!(f.adds.any fun r=>!decide (r.kind=f.kind)) && !(f.gone.any fun k=>!decide (k.kind=f.kind))
set_option maxHeartbeats 4000000 in
theorem JhP(f_type:Int)(f_epoch:Int)(f_kind:Int)(f_nonce:Int)(f_turn:Int)(f_adds:List Res)(f_gone:List Key)(f_err:Int)(f_have:List Mark)(f_held:List Key)(hs:VG (⟨f_type,f_epoch,f_kind,f_nonce,f_turn,f_adds,f_gone,f_err,f_have,f_held⟩:Frame)):CallR Tryz.prog 120 [.agg [.int .i64 f_type,.int .i64 f_epoch,.int .i64 f_kind,.int .i64 f_nonce,.int .i64 f_turn,.slice false (Ja f_adds),.slice false (Ja f_gone),.int .i64 f_err,.slice false (Ja f_have),.slice false (Ja f_held)]] (.val (.bool (JbN (⟨f_type,f_epoch,f_kind,f_nonce,f_turn,f_adds,f_gone,f_err,f_have,f_held⟩:Frame)))):=by
 obtain⟨g1,-,g2,-⟩:=hs
 have w1:=JbI 163 [.ro [.int .i64 f_type,.int .i64 f_epoch,.int .i64 f_kind,.int .i64 f_nonce,.int .i64 f_turn,.slice false (Ja f_adds),.slice false (Ja f_gone),.int .i64 f_err,.slice false (Ja f_have),.slice false (Ja f_held)]] (Jg4 f_type f_epoch f_kind f_nonce f_turn f_adds f_gone f_err f_have f_held) (fun r=>!decide (r.kind=f_kind)) f_adds (fun x _=>Jls x.kind x.name x.ver x.port x.to' x.rules' x.hosts f_type f_epoch f_kind f_nonce f_turn f_adds f_gone f_err f_have f_held) g1
 have w2:=Z5 164 [.ro [.int .i64 f_type,.int .i64 f_epoch,.int .i64 f_kind,.int .i64 f_nonce,.int .i64 f_turn,.slice false (Ja f_adds),.slice false (Ja f_gone),.int .i64 f_err,.slice false (Ja f_have),.slice false (Ja f_held)]] (Jg4 f_type f_epoch f_kind f_nonce f_turn f_adds f_gone f_err f_have f_held) (fun r=>!decide (r.kind=f_kind)) f_gone (fun x _=>Jlt x.kind x.name f_type f_epoch f_kind f_nonce f_turn f_adds f_gone f_err f_have f_held) g2
 clear g1 g2
 refine QD (T:=T) Tryz.call120 Tryz.func120 rfl Tryz.ntmps120 (congrArg Array.toList Tryz.results120) (by decide) fun ts hn h0=>?_
 (repeat' (first
 | (with_reducible first|refine callX.by (w1) ?_|refine callX.by (w2) ?_|refine callX.by (JbI _ _ ?_ _ _ ?_ ?_) ?_|refine callX.by (Z5 _ _ ?_ _ _ ?_ ?_) ?_|assumption|(refine Qw hK _ ?_;clear hK K)|refine Qw ‹_› _ ?_|refine Qx ‹_› ?_|refine Qi fun K hK=>?_|refine Qj T fun K hK=>?_|refine Ql fun A B hA hB=>?_|refine Qn ?_|refine Qr ?_)
 | ((with_reducible first|apply Qy|apply Qz|apply QA)<;>intro hb<;>try simp only[nr] at hb)
 |simp only[go_sem,↓reduceIte,reduceIte,Qa,Qh,Qb,Qc,Qd,Qe,Qf,Qg,reduceCtorEq, *,-w1,-w2]
 |with_reducible refine fun(bn:Bool) hbn=>?_))
 all_goals simp_all[JbN]
 all_goals grind
def ZH:List Res→Int
 | []=>0
 |r :: l=>if Vc r=0 then ZH l else Vc r
set_option maxHeartbeats 4000000 in
theorem JhF(f_type:Int)(f_epoch:Int)(f_kind:Int)(f_nonce:Int)(f_turn:Int)(f_adds:List Res)(f_gone:List Key)(f_err:Int)(f_have:List Mark)(f_held:List Key)(hs:VG (⟨f_type,f_epoch,f_kind,f_nonce,f_turn,f_adds,f_gone,f_err,f_have,f_held⟩:Frame)):CallR Tryz.prog 119 [.agg [.int .i64 f_type,.int .i64 f_epoch,.int .i64 f_kind,.int .i64 f_nonce,.int .i64 f_turn,.slice false (Ja f_adds),.slice false (Ja f_gone),.int .i64 f_err,.slice false (Ja f_have),.slice false (Ja f_held)]] (.val (.int .i64 (ZH f_adds))):=by
 obtain⟨hl,g1,-⟩:=hs
 refine QD (T:=T) Tryz.call119 Tryz.func119 rfl Tryz.ntmps119 (congrArg Array.toList Tryz.results119) (by decide) fun ts hn h0=>?_
 (repeat' (first
 | (with_reducible first|refine callX.by (Vx _ _ _ _ _ _ _ ?_ ?_ ?_) ?_|refine callX.by VH ?_|assumption|(refine Qw hK _ ?_;clear hK K)|refine Qw ‹_› _ ?_|refine Qx ‹_› ?_|refine Qi fun K hK=>?_|refine Qj T fun K hK=>?_|refine Ql fun A B hA hB=>?_|refine Qm ?_|refine Qn ?_|refine Qp ?_|refine Qr ?_)
 | ((with_reducible first|apply Qy|apply Qz|apply QA)<;>intro hb<;>try simp only[nr] at hb)
 |simp only[go_sem,↓reduceIte,reduceIte,Qa,Qh,Qb,Qc,Qd,Qe,Qf,Qg,reduceCtorEq, *,-g1]
 |with_reducible refine fun(bn:Bool) hbn=>?_))
 refine Qs [7,8] (fun m ts'=>∃(i:Nat),m=f_adds.length-i∧i≤f_adds.length∧ZH f_adds=ZH (f_adds.drop i)∧ts'.tmp 9=.int .i64 i) f_adds.length ?_ ?_
 ·refine⟨0,?_⟩
  simp only[go_sem,↓reduceIte,reduceIte,Qa,Qh,Qb,Qc,Qd,Qe,Qf,Qg,reduceCtorEq, *,-g1]
 ·rintro m A hM ts' hk ⟨i,hm,f1,f2,s1⟩
  simp only[go_sem,↓reduceIte,reduceIte,Qa,Qh,Qb,Qc,Qd,Qe,Qf,Qg,reduceCtorEq, *] at hk
  by_cases hlt:i<f_adds.length
  ·rw[List.drop_eq_getElem_cons hlt,ZH] at f2
   have hg:=g1 _ (List.getElem_mem hlt)
   obtain⟨k1,k2,k3,k4,k5⟩:=hg
   have w1:=Vx f_adds[i].kind f_adds[i].name f_adds[i].ver f_adds[i].port f_adds[i].to' f_adds[i].rules' f_adds[i].hosts
   (repeat' (first
 | (with_reducible first|refine callX.by (Vx _ _ _ _ _ _ _ ?_ ?_ ?_) ?_|refine callX.by VH ?_|assumption|(refine Qw hK _ ?_;clear hK K)|refine Qw ‹_› _ ?_|refine Qx ‹_› ?_|refine Qi fun K hK=>?_|refine Qj T fun K hK=>?_|refine Ql fun A B hA hB=>?_|refine Qm ?_|refine Qn ?_|refine Qp ?_|refine Qr ?_)
 | ((with_reducible first|apply Qy|apply Qz|apply QA)<;>intro hb<;>try simp only[nr] at hb)
 |simp only[go_sem,↓reduceIte,reduceIte,Qa,Qh,Qb,Qc,Qd,Qe,Qf,Qg,reduceCtorEq, *,-f2,-g1,-k4]
 |with_reducible refine fun(bn:Bool) hbn=>?_))
   all_goals ((repeat clear hK);(repeat clear hA);(repeat clear hB))
   all_goals first
    | (rw[if_neg (by simpa using hb)] at f2;exact f2.symm)
    | (rw[if_pos (by simpa using hb)] at f2;(refine hM.on (f_adds.length-(i+1)) (by omega) (by simp only[go_sem,↓reduceIte,reduceIte,Qa,Qh,Qb,Qc,Qd,Qe,Qf,Qg,reduceCtorEq, *,Jf hlt hl,-f2,-g1,-k4]) ⟨i+1,rfl,by omega,f2,?_⟩;simp only[go_sem,↓reduceIte,reduceIte,Qa,Qh,Qb,Qc,Qd,Qe,Qf,Qg,reduceCtorEq, *,Jf hlt hl,-f2,-g1,-k4];done))
  ·rw[List.drop_eq_nil_of_le (by omega),ZH] at f2
   (repeat' (first
 | (with_reducible first|refine callX.by (Vx _ _ _ _ _ _ _ ?_ ?_ ?_) ?_|refine callX.by VH ?_|assumption|(refine Qw hK _ ?_;clear hK K)|refine Qw ‹_› _ ?_|refine Qx ‹_› ?_|refine Qi fun K hK=>?_|refine Qj T fun K hK=>?_|refine Ql fun A B hA hB=>?_|refine Qm ?_|refine Qn ?_|refine Qp ?_|refine Qr ?_)
 | ((with_reducible first|apply Qy|apply Qz|apply QA)<;>intro hb<;>try simp only[nr] at hb)
 |simp only[go_sem,↓reduceIte,reduceIte,Qa,Qh,Qb,Qc,Qd,Qe,Qf,Qg,reduceCtorEq, *,-g1]
 |with_reducible refine fun(bn:Bool) hbn=>?_))
def JaX(f:Frame):Frame :=
 if f.type=0 then { f with epoch:=0,have':=[] }
 else if f.type=1 then { f with epoch:=0,kind:=0,nonce:=0,adds:=[],gone:=[] }
 else if f.type=2 then { f with epoch:=0,kind:=0,nonce:=0,err:=0,turn:=0,held:=[] }
 else if f.type=3 then { f with epoch:=0,turn:=0,held:=[] }
 else { f with epoch:=0 }
theorem Joh(f:Frame)(h:VG f):VG (JaX f):=by
 unfold JaX
 obtain⟨g1,g2,g3,g4,g5,g6,g7,g8⟩:=h
 repeat' split
 all_goals (refine⟨?_,?_,?_,?_,?_,?_,?_,?_⟩<;>first|assumption|(unfold Jc;simp;done)|simp)
set_option maxHeartbeats 4000000 in
theorem JhG(f_type:Int)(f_epoch:Int)(f_kind:Int)(f_nonce:Int)(f_turn:Int)(f_adds:List Res)(f_gone:List Key)(f_err:Int)(f_have:List Mark)(f_held:List Key):CallR Tryz.prog 160 [.agg [.int .i64 f_type,.int .i64 f_epoch,.int .i64 f_kind,.int .i64 f_nonce,.int .i64 f_turn,.slice false (Ja f_adds),.slice false (Ja f_gone),.int .i64 f_err,.slice false (Ja f_have),.slice false (Ja f_held)]] (.val (Dat.av (JaX (⟨f_type,f_epoch,f_kind,f_nonce,f_turn,f_adds,f_gone,f_err,f_have,f_held⟩:Frame)))):=by
 refine QD (T:=T) Tryz.call160 Tryz.func160 rfl Tryz.ntmps160 (congrArg Array.toList Tryz.results160) (by decide) fun ts hn h0=>?_
 (repeat' (first
 | (with_reducible first|assumption|(refine Qw hK _ ?_;clear hK K)|refine Qw ‹_› _ ?_|refine Qx ‹_› ?_|refine Qi fun K hK=>?_|refine Qj T fun K hK=>?_|refine Ql fun A B hA hB=>?_|refine Qm ?_|refine Qn ?_|refine Qr ?_)
 | ((with_reducible first|apply Qy|apply Qz|apply QA)<;>intro hb<;>try simp only[nr] at hb)
 |simp only[go_sem,↓reduceIte,reduceIte,Qa,Qh,Qb,Qc,Qd,Qe,Qf,Qg,reduceCtorEq, *]
 |with_reducible refine fun(bn:Bool) hbn=>?_))
 all_goals ((repeat clear hK);(repeat clear hA);(repeat clear hB))
 all_goals simp_all[JaX,Yh]
set_option maxHeartbeats 4000000 in
theorem JhX(f_type:Int)(f_epoch:Int)(f_kind:Int)(f_nonce:Int)(f_turn:Int)(f_adds:List Res)(f_gone:List Key)(f_err:Int)(f_have:List Mark)(f_held:List Key)(h_type:Int)(h_epoch:Int)(h_kind:Int)(h_nonce:Int)(h_turn:Int)(h_adds:List Res)(h_gone:List Key)(h_err:Int)(h_have:List Mark)(h_held:List Key)(hs:VG (⟨f_type,f_epoch,f_kind,f_nonce,f_turn,f_adds,f_gone,f_err,f_have,f_held⟩:Frame)):CallR Tryz.prog 16 [.agg [.int .i64 f_type,.int .i64 f_epoch,.int .i64 f_kind,.int .i64 f_nonce,.int .i64 f_turn,.slice false (Ja f_adds),.slice false (Ja f_gone),.int .i64 f_err,.slice false (Ja f_have),.slice false (Ja f_held)],.agg [.int .i64 h_type,.int .i64 h_epoch,.int .i64 h_kind,.int .i64 h_nonce,.int .i64 h_turn,.slice false (Ja h_adds),.slice false (Ja h_gone),.int .i64 h_err,.slice false (Ja h_have),.slice false (Ja h_held)]] (.val (.bool (decide ((⟨f_type,f_epoch,f_kind,f_nonce,f_turn,f_adds,f_gone,f_err,f_have,f_held⟩:Frame)=(⟨h_type,h_epoch,h_kind,h_nonce,h_turn,h_adds,h_gone,h_err,h_have,h_held⟩:Frame))))):=by
 obtain⟨g1,g2,g3,g4,g5,g6,g7,g8⟩:=hs
 have w1:=JdO 50 [] Caps.nil f_adds h_adds (fun x hx y=>Jdf x.kind x.name x.ver x.port x.to' x.rules' x.hosts y.kind y.name y.ver y.port y.to' y.rules' y.hosts (g2 x hx).2.2.2.2 (g2 x hx).2.2.1 (g2 x hx).2.2.2.1) g1
 have w2:=Jfk f_gone h_gone g3
 have w3:=JhB f_have h_have g5
 have w4:=Jfk f_held h_held g7
 clear g1 g2 g3 g4 g5 g6 g7 g8
 refine CallR.go2 (T:=T) Tryz.call16 Tryz.func16 rfl Tryz.ntmps16 (congrArg Array.toList Tryz.results16) (by decide) fun ts hn h0 h1=>?_
 (repeat' (first
 | (with_reducible first|refine callX.by (w1) ?_|refine callX.by (w2) ?_|refine callX.by (w3) ?_|refine callX.by (w4) ?_|refine callX.by (JdO _ _ ?_ _ _ ?_ ?_) ?_|refine callX.by (Jdf _ _ _ _ _ _ _ _ _ _ _ _ _ _ ?_ ?_ ?_) ?_|refine callX.by Jg0 ?_|refine callX.by (Jfk _ _ ?_) ?_|refine callX.by (JhB _ _ ?_) ?_|assumption|(refine Qw hK _ ?_;clear hK K)|refine Qw ‹_› _ ?_|refine Qx ‹_› ?_|refine Qi fun K hK=>?_|refine Qj T fun K hK=>?_|refine Ql fun A B hA hB=>?_|refine Qn ?_|refine Qr ?_)
 | ((with_reducible first|apply Qy|apply Qz|apply QA)<;>intro hb<;>try simp only[nr] at hb)
 |simp only[go_sem,↓reduceIte,reduceIte,Qa,Qh,Qb,Qc,Qd,Qe,Qf,Qg,reduceCtorEq, *,-w1,-w2,-w3,-w4]
 |with_reducible refine fun(bn:Bool) hbn=>?_))
 all_goals ((repeat clear hK);(repeat clear hA);(repeat clear hB))
 all_goals (rw[Bool.eq_iff_iff];simp_all[Jlo])
def Jfs(t:Int):Frame:=⟨t,0,0,0,0,[],[],0,[],[]⟩
def JbQ(f:Frame):Bool:=decide (JaX f=Jfs f.type)
set_option maxHeartbeats 4000000 in
theorem JhY(f_type:Int)(f_epoch:Int)(f_kind:Int)(f_nonce:Int)(f_turn:Int)(f_adds:List Res)(f_gone:List Key)(f_err:Int)(f_have:List Mark)(f_held:List Key)(hs:VG (⟨f_type,f_epoch,f_kind,f_nonce,f_turn,f_adds,f_gone,f_err,f_have,f_held⟩:Frame)):CallR Tryz.prog 117 [.agg [.int .i64 f_type,.int .i64 f_epoch,.int .i64 f_kind,.int .i64 f_nonce,.int .i64 f_turn,.slice false (Ja f_adds),.slice false (Ja f_gone),.int .i64 f_err,.slice false (Ja f_have),.slice false (Ja f_held)]] (.val (.bool (JbQ (⟨f_type,f_epoch,f_kind,f_nonce,f_turn,f_adds,f_gone,f_err,f_have,f_held⟩:Frame)))):=by
 have w1:=JhG f_type f_epoch f_kind f_nonce f_turn f_adds f_gone f_err f_have f_held
 have hb:=Joh (⟨f_type,f_epoch,f_kind,f_nonce,f_turn,f_adds,f_gone,f_err,f_have,f_held⟩:Frame) hs
 have e:JbQ (⟨f_type,f_epoch,f_kind,f_nonce,f_turn,f_adds,f_gone,f_err,f_have,f_held⟩:Frame)=decide (JaX (⟨f_type,f_epoch,f_kind,f_nonce,f_turn,f_adds,f_gone,f_err,f_have,f_held⟩:Frame)=Jfs f_type):=rfl
 generalize JaX (⟨f_type,f_epoch,f_kind,f_nonce,f_turn,f_adds,f_gone,f_err,f_have,f_held⟩:Frame)=b at w1 hb e
 have w2:=JhX b.type b.epoch b.kind b.nonce b.turn b.adds b.gone b.err b.have' b.held f_type 0 0 0 0 [] [] 0 [] [] hb
 have w2:CallR Tryz.prog 16 [.agg [.int .i64 b.type,.int .i64 b.epoch,.int .i64 b.kind,.int .i64 b.nonce,.int .i64 b.turn,.slice false (Ja b.adds),.slice false (Ja b.gone),.int .i64 b.err,.slice false (Ja b.have'),.slice false (Ja b.held)],.agg [.int .i64 f_type,.int .i64 0,.int .i64 0,.int .i64 0,.int .i64 0,.slice false [],.slice false [],.int .i64 0,.slice false [],.slice false []]] (.val (.bool (decide (b=Jfs f_type)))):=w2
 clear hb hs
 refine QD (T:=T) Tryz.call117 Tryz.func117 rfl Tryz.ntmps117 (congrArg Array.toList Tryz.results117) (by decide) fun ts hn h0=>?_
 (repeat' (first
 | (with_reducible first|refine callX.by (w1) ?_|refine callX.by (w2) ?_|refine callX.by (JhG _ _ _ _ _ _ _ _ _ _) ?_|refine callX.by (JhX _ _ _ _ _ _ _ _ _ _ _ _ _ _ _ _ _ _ _ _ ?_) ?_|assumption|(refine Qw hK _ ?_;clear hK K)|refine Qw ‹_› _ ?_|refine Qx ‹_› ?_|refine Qi fun K hK=>?_|refine Qj T fun K hK=>?_|refine Qk (id:=1) T mixed Je5 (by kernel_rfl) fun K hK=>?_|refine Ql fun A B hA hB=>?_|refine Qn ?_|refine Qr ?_)
 | ((with_reducible first|apply Qy|apply Qz|apply QA)<;>intro hb<;>try simp only[nr] at hb)
 |simp only[go_sem,↓reduceIte,reduceIte,Qa,Qh,Qb,Qc,Qd,Qe,Qf,Qg,reduceCtorEq, *,-w1,-w2]
 |with_reducible refine fun(bn:Bool) hbn=>?_))
def Yz(f:Frame):Int:=Z9 [Y9 (Jw f.type 3 && Jw f.kind 3) 4,Y9 (JbR f) 3,Y9 (JbQ f) 2,Y9 (JbO f) 5,ZH f.adds,Y9 (JbN f) 2]
set_option maxHeartbeats 4000000 in
theorem JdV(f_type:Int)(f_epoch:Int)(f_kind:Int)(f_nonce:Int)(f_turn:Int)(f_adds:List Res)(f_gone:List Key)(f_err:Int)(f_have:List Mark)(f_held:List Key)(hs:VG (⟨f_type,f_epoch,f_kind,f_nonce,f_turn,f_adds,f_gone,f_err,f_have,f_held⟩:Frame)):CallR Tryz.prog 81 [.agg [.int .i64 f_type,.int .i64 f_epoch,.int .i64 f_kind,.int .i64 f_nonce,.int .i64 f_turn,.slice false (Ja f_adds),.slice false (Ja f_gone),.int .i64 f_err,.slice false (Ja f_have),.slice false (Ja f_held)]] (.val (.int .i64 (Yz (⟨f_type,f_epoch,f_kind,f_nonce,f_turn,f_adds,f_gone,f_err,f_have,f_held⟩:Frame)))):=by
 have w1:=Jh0 f_type f_epoch f_kind f_nonce f_turn f_adds f_gone f_err f_have f_held hs
 have w2:=JhY f_type f_epoch f_kind f_nonce f_turn f_adds f_gone f_err f_have f_held hs
 have w3:=JhS f_type f_epoch f_kind f_nonce f_turn f_adds f_gone f_err f_have f_held hs
 have w4:=JhF f_type f_epoch f_kind f_nonce f_turn f_adds f_gone f_err f_have f_held hs
 have w5:=JhP f_type f_epoch f_kind f_nonce f_turn f_adds f_gone f_err f_have f_held hs
 have w6:=fun a=>JhM a (Y9 (JbR (⟨f_type,f_epoch,f_kind,f_nonce,f_turn,f_adds,f_gone,f_err,f_have,f_held⟩:Frame)) 3) (Y9 (JbQ (⟨f_type,f_epoch,f_kind,f_nonce,f_turn,f_adds,f_gone,f_err,f_have,f_held⟩:Frame)) 2) (Y9 (JbO (⟨f_type,f_epoch,f_kind,f_nonce,f_turn,f_adds,f_gone,f_err,f_have,f_held⟩:Frame)) 5) (ZH f_adds) (Y9 (JbN (⟨f_type,f_epoch,f_kind,f_nonce,f_turn,f_adds,f_gone,f_err,f_have,f_held⟩:Frame)) 2)
 clear hs
 refine QD (T:=T.withF [26]) Tryz.call81 Tryz.func81 rfl Tryz.ntmps81 (congrArg Array.toList Tryz.results81) (by decide) fun ts hn h0=>?_
 (repeat' (first
 | (with_reducible first|refine callX.by (w1) ?_|refine callX.by (w2) ?_|refine callX.by (w3) ?_|refine callX.by (w4) ?_|refine callX.by (w5) ?_|refine callX.by (w6) ?_|refine callX.by (JdU _ _) ?_|refine callX.by (JrV _ _) ?_|refine callX.by (Jh0 _ _ _ _ _ _ _ _ _ _ ?_) ?_|refine callX.by (JhY _ _ _ _ _ _ _ _ _ _ ?_) ?_|refine callX.by (JhS _ _ _ _ _ _ _ _ _ _ ?_) ?_|refine callX.by (JhF _ _ _ _ _ _ _ _ _ _ ?_) ?_|refine callX.by (JhP _ _ _ _ _ _ _ _ _ _ ?_) ?_|refine callX.by (JhO _ ?_) ?_|refine callX.by (JhM _ _ _ _ _ _) ?_|assumption|(refine Qw hK _ ?_;clear hK K)|refine Qw ‹_› _ ?_|refine Qx ‹_› ?_|refine Qi fun K hK=>?_|refine Qj (T.withF [26]) fun K hK=>?_|refine Qk (id:=1) (T.withF [26]) mixed [([3],[6,7,8,9,10,11,12,13,14,15,16,17,18,19,20,21,22,23,24,25,26,27]),([4],[7,8,9,10,11,12,13,14,15,16,17,18,19,20,21,22,23,24,25,26,27]),([5],[11,12,13,14,15,16,17,18,19,20,21,22,23,24,25,26,27]),([6],[3,12,13,14,15,16,17,18,19,20,21,22,23,24,25,26,27]),([7],[3,4,10,11,12,13,14,15,16,17,18,19,20,21,22,23,24,25,26,27]),([8],[3,4,12,13,14,15,16,17,18,19,20,21,22,23,24,25,26,27]),([9],[3,4,12,14,15,16,17,18,19,20,21,22,23,24,25,27]),([10],[3,4,7,12,14,15,16,17,18,19,20,21,22,23,24,25,27]),([11],[3,4,5,7,12,15,16,17,18,19,20,21,22,23,24,25]),([12],[3,4,5,6,7,8,9,10,11,15,16,17,18,19,20,21,22,23,24,25,26,27]),([13],[3,4,5,6,7,8,15,17,18,19,20,21,22,23,24,25,27]),([14],[3,4,5,6,7,8,9,10,15,18,19,20,21,22,23,24,25]),([15],[3,4,5,6,7,8,9,10,11,12,13,14,18,19,20,21,22,23,24,25,26,27]),([16],[3,4,5,6,7,8,9,10,11,12,18,20,21,22,23,24,25,27]),([17],[3,4,5,6,7,8,9,10,11,12,13,18,21,22,23,24,25]),([18],[3,4,5,6,7,8,9,10,11,12,13,14,15,16,17,21,22,23,24,25,26,27]),([19],[3,4,5,6,7,8,9,10,11,12,13,14,15,21,23,24,25,27]),([20],[3,4,5,6,7,8,9,10,11,12,13,14,15,16,21,23,25]),([21],[3,4,5,6,7,8,9,10,11,12,13,14,15,16,17,18,19,20,23,25,27]),([22],[3,4,5,6,7,8,9,10,11,12,13,14,15,16,17,18,23]),([23],[3,4,5,6,7,8,9,10,11,12,13,14,15,16,17,18,19,20,21,22,26,27]),([24],[3,4,5,6,7,8,9,10,11,12,13,14,15,16,17,18,19]),([25],[3,4,5,6,7,8,9,10,11,12,13,14,15,16,17,18,19,20,21]),([26],[3,4,5,6,7,8,12,15,18,23]),([27],[3,4,5,6,7,8,9,10,12,13,15,16,18,19,21,23])] (by kernel_rfl) fun K hK=>?_|refine Ql fun A B hA hB=>?_|refine Qn ?_|refine Qr ?_)
 | ((with_reducible first|apply Qy|apply Qz|apply QA)<;>intro hb<;>try simp only[nr] at hb)
 |simp only[go_sem,↓reduceIte,reduceIte,Qa,Qh,Qb,Qc,Qd,Qe,Qf,Qg,reduceCtorEq, *,-w1,-w2,-w3,-w4,-w5,-w6]
 |with_reducible refine fun(bn:Bool) hbn=>?_))
 all_goals simp only[Yz,hb,Bool.true_and,Bool.false_and]
def Ja4(l:List Res):Bool:=decide (JN l=0) && decide (Vq l=0)
theorem Zm(xs:List Res)(hl:xs.length≤65536)(hs:∀r∈xs,Ju r)(hn:¬JN xs=0):CallR Tryz.prog 24 [.slice false (Ja xs)] (.val (.bool false)):=by
 have hl2:=ZE hl
 refine QD (T:=T) Tryz.call24 Tryz.func24 rfl Tryz.ntmps24 (congrArg Array.toList Tryz.results24) (by decide) fun ts hn h0=>?_
 (repeat' (first
 | (with_reducible first|refine callX.by (JaS _ ?_ ?_) ?_|refine callX.by (Jbp _ ?_ ?_) ?_|refine callX.by (JaP _ ?_ ?_ _) ?_|refine callX.by a6sc ?_|assumption|(refine Qw hK _ ?_;clear hK K)|refine Qw ‹_› _ ?_|refine Qx ‹_› ?_|refine Qi fun K hK=>?_|refine Qj T fun K hK=>?_|refine Ql fun A B hA hB=>?_|refine Qn ?_|refine Qr ?_)
 | ((with_reducible first|apply Qy|apply Qz|apply QA)<;>intro hb<;>try simp only[nr] at hb)
 |simp only[go_sem,↓reduceIte,reduceIte,Qa,Qh,Qb,Qc,Qd,Qe,Qf,Qg,reduceCtorEq, *,-hs]
 |with_reducible refine fun(bn:Bool) hbn=>?_))
theorem Zn(xs:List Res)(hl:xs.length≤65536)(hs:∀r∈xs,Ju r)(hn:JN xs=0)(hnd:(xs.map Jg).Nodup):CallR Tryz.prog 24 [.slice false (Ja xs)] (.val (.bool (decide (Vq xs=0)))):=by
 have hl2:=ZE hl
 refine QD (T:=T) Tryz.call24 Tryz.func24 rfl Tryz.ntmps24 (congrArg Array.toList Tryz.results24) (by decide) fun ts hn h0=>?_
 (repeat' (first
 | (with_reducible first|refine callX.by (JaS _ ?_ ?_) ?_|refine callX.by (Jbp _ ?_ ?_) ?_|refine callX.by (JaP _ ?_ ?_ _) ?_|refine callX.by a6sc ?_|assumption|(refine Qw hK _ ?_;clear hK K)|refine Qw ‹_› _ ?_|refine Qx ‹_› ?_|refine Qi fun K hK=>?_|refine Qj T fun K hK=>?_|refine Ql fun A B hA hB=>?_|refine Qn ?_|refine Qr ?_)
 | ((with_reducible first|apply Qy|apply Qz|apply QA)<;>intro hb<;>try simp only[nr] at hb)
 |simp only[go_sem,↓reduceIte,reduceIte,Qa,Qh,Qb,Qc,Qd,Qe,Qf,Qg,reduceCtorEq, *,-hs,-hnd]
 |with_reducible refine fun(bn:Bool) hbn=>?_))
theorem Zl(xs:List Res)(hl:xs.length≤65536)(hs:∀r∈xs,Ju r)(hnd:JN xs=0→(xs.map Jg).Nodup):CallR Tryz.prog 24 [.slice false (Ja xs)] (.val (.bool (Ja4 xs))):=by
 by_cases h:JN xs=0
 ·have:=Zn xs hl hs h (hnd h)
  unfold Ja4
  rw[decide_eq_true h,Bool.true_and]
  exact this
 ·have:=Zm xs hl hs h
  unfold Ja4
  rw[decide_eq_false h,Bool.false_and]
  exact this
theorem Jmm(l:List Res)(x:Key):x∈Jb3 l↔(∃r∈l,x∈JH r)∧¬x∈l.map Jg:=by
 unfold Jb3
 rw[(JfC (JfE _)).2,JfF]
 unfold Yo Jac
 rw[List.mem_flatMap]
 have hi:∀k,(JB (Vj l []) k).getD false=decide (k∈l.map Jg):=fun k=>JbV l k
 constructor
 ·rintro⟨r,hr,hx⟩
  obtain⟨h1,h2⟩:=List.mem_filter.1 hx
  rw[hi] at h2
  exact⟨⟨r,hr,h1⟩,by simpa using h2⟩
 ·rintro⟨⟨r,hr,h1⟩,h2⟩
  refine⟨r,hr,List.mem_filter.2 ⟨h1,?_⟩⟩
  rw[hi,decide_eq_false h2];rfl
theorem Jii:∀l:List Key,(Ve l).length≤l.length-1
 | []=>by simp[Ve]
 | [a]=>by simp[Ve]
 |a :: b :: l=>by
  have:=Jii (b :: l)
  unfold Ve
  split<;>simp only[List.length_cons] at *<;>omega
theorem Jio(l:List Res)(r:Res):ZN (Vj l []) r=true↔∃k∈JH r,¬k∈l.map Jg:=by
 unfold ZN
 rw[List.any_eq_true]
 constructor
 ·rintro⟨k,hk,h⟩
  rw[JbV] at h
  exact⟨k,hk,by simpa using h⟩
 ·rintro⟨k,hk,h⟩
  refine⟨k,hk,?_⟩
  rw[JbV,decide_eq_false h];rfl
theorem served_ok{l:List Res}:Vq l=0↔(∀r∈JL l,∀k∈JH r,k∈l.map Jg)∧∀r∈JL l,JaW r=false:=by
 unfold Vq
 by_cases h1:(JL l).any (ZN (Vj l []))=true
 ·rw[if_pos h1]
  obtain⟨r,hr,hl⟩:=List.any_eq_true.1 h1
  obtain⟨k,hk,hn⟩:=(Jio l r).1 hl
  exact⟨fun h=>absurd h (by decide),fun h=>absurd (h.1 r hr k hk) hn⟩
 ·rw[if_neg h1]
  have h1':∀r∈JL l,∀k∈JH r,k∈l.map Jg:=fun r hr k hk=>by
   by_cases hn:k∈l.map Jg
   ·exact hn
   ·exact absurd (List.any_eq_true.2 ⟨r,hr,(Jio l r).2 ⟨k,hk,hn⟩⟩) h1
  by_cases h2:(JL l).any JaW=true
  ·rw[if_pos h2]
   obtain⟨r,hr,hb⟩:=List.any_eq_true.1 h2
   exact⟨fun h=>absurd h (by decide),fun h=>by rw[h.2 r hr] at hb;cases hb⟩
  ·rw[if_neg h2]
   exact⟨fun _=>⟨h1',fun r hr=>by simpa using fun hb=>h2 (List.any_eq_true.2 ⟨r,hr,hb⟩)⟩,fun _=>rfl⟩
end Go.Proofs.YtihahfhagobnoaaGreatDoor.Lg
namespace Go.Proofs.YtihahfhagobnoaaGreatDoor.Lg
set_option maxRecDepth 100000
set_option linter.unusedVariables false
set_option linter.unusedSimpArgs false
open Go
section
variable {l:List Res} (hc:Conf l) (hv:Vq l=0)
include hc
include hv
end
end Go.Proofs.YtihahfhagobnoaaGreatDoor.Lg
namespace Go.Proofs.YtihahfhagobnoaaGreatDoor.Lg
set_option maxRecDepth 100000
set_option linter.unusedVariables false
set_option linter.unusedSimpArgs false
open Go
open Nat renaming reduceEqDiff → Qa, reduceLT → Qb, reduceLeDiff → Qc, reduceAdd → Qd, reduceMul → Qe, reduceSub → Qf, reduceBEq → Qg
open String renaming reduceEq → Qh
open SpecC renaming seqW → Qi, regW → Qj, drawW → Qk, condW → Ql, skip → Qn, ret → Qr
open NxK renaming out → Qw
open condK renaming split → Qy
open gK renaming split_t → Qz, split_f → QA
theorem JoE{l:List Res}(h:(l.map Jg).Nodup):V0 (JL l) 0=V0 l 0:=by
 unfold V0 JL
 rw[List.filter_filter]
 refine List.filter_congr fun r hr=>?_
 by_cases hk:r.kind=0
 ·rw[(Jet h (Jg r)).2 (.base r hr hk)];simp
 ·simp[hk]
theorem JoM{l:List Res}(h:JN l=0):Jag (V0 l 0) []=true:=by
 unfold JN at h
 split at h
 ·cases h
 ·split at h
  ·rename_i h2;exact absurd h h2
  ·split at h
   ·cases h
   ·split at h
    ·cases h
    ·rename_i h4;simpa using h4
theorem JoL{l:List Res}(h1:l.length≤64)(h2:∀r∈l,Vc r=0)(h3:Up (l.map Jg))(h4:Jag (V0 l 0) []=true):JN l=0:=by
 unfold JN
 rw[if_neg (by omega),if_neg (by rw[Jlq h2];simp),if_neg (by rw[(Jgw l).2 h3];simp),if_neg (by rw[h4];simp)]
theorem JoN{l:List Res}(h:JN l=0):JN (JL l)=0:=by
 have hc:=Z6 h
 refine JoL (Nat.le_trans (Jer l) hc.len) (fun r hr=>hc.sane r ((JaJ l).subset hr)) (hc.up.sublist ((JaJ l).map _)) ?_
 rw[JoE hc.nodup]
 exact JoM h
theorem JlL{l:List Res}(h:JN l=0)(hv:Vq l=0):Ja4 (JL l)=true:=by
 unfold Ja4
 rw[JoN h,Jn1 (Z6 h).nodup,hv];rfl
theorem Jiy{cap:Int}{l:List Res}:J0 cap l=0↔JN l=0∧(l.length:Int)≤cap∧Vq l=0:=by
 unfold J0
 by_cases h1:JN l=0
 ·by_cases h2:(l.length:Int)≤cap
  ·simp[h1,h2]
  ·simp[h1,h2]
 ·simp[h1]
theorem saneC_iff{c:Cache}:VD c=true↔c.cap=VI c.cap∧JN c.l=0∧(c.l.length:Int)≤c.cap∧Vq c.l=0:=by
 unfold VD
 simp only[Bool.and_eq_true,decide_eq_true_eq,Jiy]
theorem JoK{l:List Res}(h:JN l=0):l.length≤64:=by
 unfold JN at h
 split at h
 ·cases h
 ·omega
theorem Jky{c:Cache}(h:VD c=true)(adds:List Res)(gone:List Key) :
  J4 c adds gone=if J0 c.cap (Yq c.l adds gone)=0 then (⟨c.cap,Yq c.l adds gone⟩,0) else (c,J0 c.cap (Yq c.l adds gone)):=by
 have hof:Vo c=c:=by unfold Vo;rw[if_pos h]
 unfold J4
 rw[hof]
theorem JgS{c:Cache}(h:VD c=true)(adds:List Res)(gone:List Key):VD (J4 c adds gone).1=true:=by
 rw[Jky h]
 split
 ·rename_i hm
  rw[Jiy] at hm
  rw[saneC_iff] at h ⊢
  exact⟨h.1,hm⟩
 ·exact h
theorem JkU(n:Int):0≤VI n∧VI n≤64:=by unfold VI;omega
theorem JkT(n:Int):VI (VI n)=VI n:=by unfold VI;omega
theorem JiF(n:Int):VD ⟨VI n,[]⟩=true:=by
 rw[saneC_iff]
 have h1:JN []=0:=by decide
 have h2:Vq []=0:=by decide
 exact⟨(JkT n).symm,h1,by simp[(JkU n).1],h2⟩
theorem Jmu{l:List Res}(hc:(l.map Jg).Nodup)(hv:Vq l=0):Jb3 (JL l)=[]:=by
 rw[List.eq_nil_iff_forall_not_mem]
 intro k hk
 obtain⟨⟨r,hr,hkr⟩,hn⟩:=(Jmm _ _).1 hk
 refine hn ?_
 have hr':=(Ja9 hc r).1 hr
 have hin:=(served_ok.1 hv).1 r hr k hkr
 exact Jf8 hc (.step r k hr'.1 hr'.2 hkr hin)
structure CInv(n:Int)(c:Cache):Prop where
 sane:VD c=true
 cap:c.cap=VI n
 sm:∀r∈c.l,Ju r
theorem Jkx(c:Cache)(adds:List Res)(gone:List Key):(J4 c adds gone).1.l.length≤c.l.length+adds.length:=by
 have h1:=JeJ c
 have h2:=Ji4 (Vo c).l adds gone
 unfold J4
 simp only
 split
 ·simp only;omega
 ·simp only;omega
theorem JgT{c:Cache}{adds:List Res}{gone:List Key}{x:Res}(h:x∈(J4 c adds gone).1.l):x∈c.l∨x∈adds:=by
 unfold J4 at h
 simp only at h
 split at h
 ·exact(Ji5 h).imp Jdh id
 ·exact .inl (Jdh h)
@[go_sem] def Je6:List (List Nat×List Nat):=[([31],[33,34]),([32],[33,34]),([33],[31,32,6]),([34],[31,32,6]),([6],[33,34])]
def JeO(c:Cache)(ready:Bool)(shown:List Res)(ch:Bool):List AV :=
 if VP c=shown then [.int .i64 c.cap,.slice false (Ja c.l),.bool ready,.slice false (Ja shown),.bool ch] else [.int .i64 c.cap,.slice false (Ja c.l),.bool true,.slice false (Ja (VP c)),.bool true]
theorem Jn8(c:Cache):(VP c).length≤c.l.length:=Nat.le_trans (Jer _) (JeJ c)
theorem Jn9{c:Cache}{r:Res}(h:r∈VP c):r∈c.l:=Jdh ((JaJ _).subset h)
theorem Jow(cap0:Int)(l0:List Res)(ready:Bool)(shown:List Res)(ch:Bool)(c_cap:Int)(c_l:List Res)(hl:c_l.length≤65536)(hs:∀r∈c_l,Ju r) :
  CallI Tryz.prog 123 [.int .i64 cap0,.slice false (Ja l0),.bool ready,.slice false (Ja shown),.bool ch] [.agg [.int .i64 c_cap,.slice false (Ja c_l)]] (.tup []) (JeO (⟨c_cap,c_l⟩:Cache) ready shown ch):=by
 have w1:=(JaQ c_cap c_l hl hs).frz
 have hsl:=Jn8 (⟨c_cap,c_l⟩:Cache)
 have w2:=Z0 (VP (⟨c_cap,c_l⟩:Cache)) shown (by simp only at hsl;unfold Jc;omega) fun x hx=>hs x (Jn9 hx)
 unfold JeO
 generalize VP (⟨c_cap,c_l⟩:Cache)=s at *
 clear hs hl hsl
 by_cases he:s=shown
 ·rw[decide_eq_true he] at w2
  rw[if_pos he]
  refine CallI.go1 Tryz.call123 Tryz.func123 rfl Tryz.ntmps123 T (congrArg Array.toList Tryz.results123) (by decide) fun ts hn h0 hg0 ho0 h1=>?_
  (repeat' (first
 | (with_reducible first|refine callX.by (w1) ?_|refine callX.by (w2) ?_|refine callX.by (JaQ _ _ ?_ ?_) ?_|refine callX.by (Z0 _ _ ?_ ?_) ?_|assumption|(refine Qw hK _ ?_;clear hK K)|refine Qw ‹_› _ ?_|refine Nx.out ‹_› ?_|refine Qi fun K hK=>?_|refine Qj T fun K hK=>?_|refine Ql fun A B hA hB=>?_|refine Qn ?_|refine Qr ?_)
 | ((with_reducible first|apply Qy|apply Qz|apply QA)<;>intro hb<;>try simp only[nr] at hb)
 |simp only[go_sem,↓reduceIte,reduceIte,Qa,Qh,Qb,Qc,Qd,Qe,Qf,Qg,reduceCtorEq, *,-w1,-w2,-he]
 |with_reducible refine fun(bn:Bool) hbn=>?_))
  all_goals trace_state
 ·rw[decide_eq_false he] at w2
  rw[if_neg he]
  refine CallI.go1 Tryz.call123 Tryz.func123 rfl Tryz.ntmps123 T (congrArg Array.toList Tryz.results123) (by decide) fun ts hn h0 hg0 ho0 h1=>?_
  (repeat' (first
 | (with_reducible first|refine callX.by (w1) ?_|refine callX.by (w2) ?_|refine callX.by (JaQ _ _ ?_ ?_) ?_|refine callX.by (Z0 _ _ ?_ ?_) ?_|assumption|(refine Qw hK _ ?_;clear hK K)|refine Qw ‹_› _ ?_|refine Nx.out ‹_› ?_|refine Qi fun K hK=>?_|refine Qj T fun K hK=>?_|refine Ql fun A B hA hB=>?_|refine Qn ?_|refine Qr ?_)
 | ((with_reducible first|apply Qy|apply Qz|apply QA)<;>intro hb<;>try simp only[nr] at hb)
 |simp only[go_sem,↓reduceIte,reduceIte,Qa,Qh,Qb,Qc,Qd,Qe,Qf,Qg,reduceCtorEq, *,-w1,-w2,-he]
 |with_reducible refine fun(bn:Bool) hbn=>?_))
  all_goals trace_state
def JW(w:Warm)(adds:List Res)(gone:List Key):Warm×Bool×Int :=
 let m:=Yt w
 let a:=J4 m.c adds gone
 if a.2=0 then (if VP a.1=m.shown then (⟨a.1,m.ready,m.shown⟩,false,0) else (⟨a.1,true,VP a.1⟩,true,0)) else (m,false,a.2)
theorem JnS(w:Warm):(Yt w).c.l.length≤w.c.l.length:=by unfold Yt;split<;>simp
theorem JnT{w:Warm}{r:Res}(h:r∈(Yt w).c.l):r∈w.c.l:=by unfold Yt at h;split at h<;>simp_all
theorem Joq(w_c_cap:Int)(w_c_l:List Res)(w_ready:Bool)(w_shown:List Res)(adds:List Res)(gone:List Key)(hl:w_c_l.length+adds.length≤65536)(hs:∀r∈w_c_l,Ju r)(hl2:Jc w_shown.length)(hs2:∀r∈w_shown,Ju r)(hg:Jc gone.length)(ha:∀r∈adds,Ju r) :
  CallR Tryz.prog 85 [.agg [.int .i64 w_c_cap,.slice false (Ja w_c_l),.bool w_ready,.slice false (Ja w_shown)],.slice false (Ja adds),.slice false (Ja gone)]
   (.val (.tup [.agg [.int .i64 (JW (⟨⟨w_c_cap,w_c_l⟩,w_ready,w_shown⟩:Warm) adds gone).1.c.cap,.slice false (Ja (JW (⟨⟨w_c_cap,w_c_l⟩,w_ready,w_shown⟩:Warm) adds gone).1.c.l),.bool (JW (⟨⟨w_c_cap,w_c_l⟩,w_ready,w_shown⟩:Warm) adds gone).1.ready,.slice false (Ja (JW (⟨⟨w_c_cap,w_c_l⟩,w_ready,w_shown⟩:Warm) adds gone).1.shown)],.bool (JW (⟨⟨w_c_cap,w_c_l⟩,w_ready,w_shown⟩:Warm) adds gone).2.1,.int .i64 (JW (⟨⟨w_c_cap,w_c_l⟩,w_ready,w_shown⟩:Warm) adds gone).2.2])):=by
 have w1:=JeI w_c_cap w_c_l w_ready w_shown (by omega) hs hl2 hs2
 have hml:=JnS (⟨⟨w_c_cap,w_c_l⟩,w_ready,w_shown⟩:Warm)
 have hms:∀r∈(Yt (⟨⟨w_c_cap,w_c_l⟩,w_ready,w_shown⟩:Warm)).c.l,Ju r:=fun r hr=>hs r (JnT hr)
 unfold JW
 generalize Yt (⟨⟨w_c_cap,w_c_l⟩,w_ready,w_shown⟩:Warm)=m at *
 simp only at hml ⊢
 have w2:=Jkv m.c.cap m.c.l adds gone (by omega) hg hms ha
 have w2:CallR Tryz.prog 122 [.agg [.int .i64 m.c.cap,.slice false (Ja m.c.l)],.slice false (Ja adds),.slice false (Ja gone)] (.val (.tup [.agg [.int .i64 (J4 m.c adds gone).1.cap,.slice false (Ja (J4 m.c adds gone).1.l)],.int .i64 (J4 m.c adds gone).2])):=w2
 have hal:=Jkx m.c adds gone
 have hac:∀r∈(J4 m.c adds gone).1.l,Ju r:=fun r hr=>(JgT hr).elim (hms r) (ha r)
 generalize (J4 m.c adds gone).2=e at *
 generalize (J4 m.c adds gone).1=d at *
 have w3:=Jow m.c.cap m.c.l m.ready m.shown false d.cap d.l (by omega) hac
 have w3:CallI Tryz.prog 123 [.int .i64 m.c.cap,.slice false (Ja m.c.l),.bool m.ready,.slice false (Ja m.shown),.bool false] [.agg [.int .i64 d.cap,.slice false (Ja d.l)]] (.tup []) (JeO d m.ready m.shown false):=w3
 unfold JeO at w3
 clear hs hs2 ha hms hac hal hml hl hl2 hg
 by_cases he:e=0
 ·subst he
  simp only[if_true]
  by_cases hsh:VP d=m.shown
  ·rw[if_pos hsh] at w3 ⊢
   simp only
   refine CallR.go3 (T:=T) Tryz.call85 Tryz.func85 rfl Tryz.ntmps85 (congrArg Array.toList Tryz.results85) (by decide) fun ts hn h0 h1 h2=>?_
   (repeat' (first
 | (with_reducible first|refine callX.by (w1) ?_|refine callX.by (w2) ?_)
 | (with_reducible refine callX.io ?_ ?_ ?_ (w3);(focus(simp only[go_sem,↓reduceIte,reduceIte,Qa,Qh,Qb,Qc,Qd,Qe,Qf,Qg,reduceCtorEq, *,-w1,-w2,-w3,-hsh];first|done|rfl));(focus(simp only[go_sem,↓reduceIte,reduceIte,Qa,Qh,Qb,Qc,Qd,Qe,Qf,Qg,reduceCtorEq, *,-w1,-w2,-w3,-hsh];first|done|rfl)))
 | (with_reducible first|refine callX.by (JeI _ _ _ _ ?_ ?_ ?_ ?_) ?_|assumption|(refine Qw hK _ ?_;clear hK K)|refine Qw ‹_› _ ?_|refine Nx.out ‹_› ?_|refine Qi fun K hK=>?_|refine Qj T fun K hK=>?_|refine Qk (id:=6) T mixed Je6 (by kernel_rfl) fun K hK=>?_|refine Ql fun A B hA hB=>?_|refine Qn ?_|refine Qr ?_)
 | ((with_reducible first|apply Qy|apply Qz|apply QA)<;>intro hb<;>try simp only[nr] at hb)
 |simp only[go_sem,↓reduceIte,reduceIte,Qa,Qh,Qb,Qc,Qd,Qe,Qf,Qg,reduceCtorEq, *,-w1,-w2,-w3,-hsh]
 |with_reducible refine fun(bn:Bool) hbn=>?_))
   all_goals trace_state
  ·rw[if_neg hsh] at w3 ⊢
   simp only
   refine CallR.go3 (T:=T) Tryz.call85 Tryz.func85 rfl Tryz.ntmps85 (congrArg Array.toList Tryz.results85) (by decide) fun ts hn h0 h1 h2=>?_
   (repeat' (first
 | (with_reducible first|refine callX.by (w1) ?_|refine callX.by (w2) ?_)
 | (with_reducible refine callX.io ?_ ?_ ?_ (w3);(focus(simp only[go_sem,↓reduceIte,reduceIte,Qa,Qh,Qb,Qc,Qd,Qe,Qf,Qg,reduceCtorEq, *,-w1,-w2,-w3,-hsh];first|done|rfl));(focus(simp only[go_sem,↓reduceIte,reduceIte,Qa,Qh,Qb,Qc,Qd,Qe,Qf,Qg,reduceCtorEq, *,-w1,-w2,-w3,-hsh];first|done|rfl)))
 | (with_reducible first|refine callX.by (JeI _ _ _ _ ?_ ?_ ?_ ?_) ?_|assumption|(refine Qw hK _ ?_;clear hK K)|refine Qw ‹_› _ ?_|refine Nx.out ‹_› ?_|refine Qi fun K hK=>?_|refine Qj T fun K hK=>?_|refine Qk (id:=6) T mixed Je6 (by kernel_rfl) fun K hK=>?_|refine Ql fun A B hA hB=>?_|refine Qn ?_|refine Qr ?_)
 | ((with_reducible first|apply Qy|apply Qz|apply QA)<;>intro hb<;>try simp only[nr] at hb)
 |simp only[go_sem,↓reduceIte,reduceIte,Qa,Qh,Qb,Qc,Qd,Qe,Qf,Qg,reduceCtorEq, *,-w1,-w2,-w3,-hsh]
 |with_reducible refine fun(bn:Bool) hbn=>?_))
   all_goals trace_state
 ·rw[if_neg he]
  simp only
  clear w3
  refine CallR.go3 (T:=T) Tryz.call85 Tryz.func85 rfl Tryz.ntmps85 (congrArg Array.toList Tryz.results85) (by decide) fun ts hn h0 h1 h2=>?_
  (repeat' (first
 | (with_reducible first|refine callX.by (w1) ?_|refine callX.by (w2) ?_|refine callX.by (JeI _ _ _ _ ?_ ?_ ?_ ?_) ?_|assumption|(refine Qw hK _ ?_;clear hK K)|refine Qw ‹_› _ ?_|refine Nx.out ‹_› ?_|refine Qi fun K hK=>?_|refine Qj T fun K hK=>?_|refine Qk (id:=6) T mixed Je6 (by kernel_rfl) fun K hK=>?_|refine Ql fun A B hA hB=>?_|refine Qn ?_|refine Qr ?_)
 | ((with_reducible first|apply Qy|apply Qz|apply QA)<;>intro hb<;>try simp only[nr] at hb)
 |simp only[go_sem,↓reduceIte,reduceIte,Qa,Qh,Qb,Qc,Qd,Qe,Qf,Qg,reduceCtorEq, *,-w1,-w2]
 |with_reducible refine fun(bn:Bool) hbn=>?_))
  all_goals trace_state
end Go.Proofs.YtihahfhagobnoaaGreatDoor.Lg
