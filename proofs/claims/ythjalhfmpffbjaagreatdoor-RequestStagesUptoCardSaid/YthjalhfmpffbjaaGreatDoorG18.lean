/- Parts of the proof, one behind the other. -/
import Derived.Test.YthjalhfmpffbjaaGreatDoorG17
namespace Go.Proofs.YthjalhfmpffbjaaGreatDoor.Lg
set_option maxRecDepth 100000
set_option linter.unusedVariables false
set_option linter.unusedSimpArgs false
open Go
open Nat renaming reduceEqDiff → Qa, reduceLT → Qb, reduceLeDiff → Qc, reduceAdd → Qd, reduceMul → Qe, reduceSub → Qf, reduceBEq → Qg
open String renaming reduceEq → Qh
open SpecC renaming seqW → Qi, regW → Qj, drawW → Qk, condW → Ql, block → Qm, skip → Qn, exit → Qp, ret → Qr, loopF → Qs
open NxK renaming out → Qw
open Nx renaming out → Qx
open condK renaming split → Qy
open gK renaming split_t → Qz, split_f → QA
open CallR renaming go1 → QD
def fin(n most:Int):Bool:=decide (0≤n∧n≤most)
theorem Jdn(n m:Int):CallR Tryz.prog 112 [.int .i64 n,.int .i64 m] (.val (.bool (fin n m))):=by
 refine CallR.go2 (T:=T) Tryz.call112 Tryz.func112 rfl Tryz.ntmps112 (congrArg Array.toList Tryz.results112) (by decide) fun ts hn h0 h1=>?_
 (repeat' (first
 | (with_reducible first|assumption|(refine Qw hK _ ?_;clear hK K)|refine Qw ‹_› _ ?_|refine Qx ‹_› ?_|refine Qi fun K hK=>?_|refine Qj T fun K hK=>?_|refine Ql fun A B hA hB=>?_|refine Qn ?_|refine Qr ?_)
 | ((with_reducible first|apply Qy|apply Qz|apply QA)<;>intro hb<;>try simp only[nr] at hb)
 |simp only[go_sem,↓reduceIte,reduceIte,Qa,Qh,Qb,Qc,Qd,Qe,Qf,Qg,reduceCtorEq, *]
 |with_reducible refine fun(bn:Bool) hbn=>?_))
 all_goals (rw[Bool.eq_iff_iff];simp_all[fin])
 all_goals omega
def Za(ok:Bool)(e:Int):Int:=if ok then 0 else e
theorem Jrl(ok:Bool)(e:Int):CallR Tryz.prog 111 [.bool ok,.int .i64 e] (.val (.int .i64 (Za ok e))):=by
 refine CallR.go2 (T:=T) Tryz.call111 Tryz.func111 rfl Tryz.ntmps111 (congrArg Array.toList Tryz.results111) (by decide) fun ts hn h0 h1=>?_
 (repeat' (first
 | (with_reducible first|assumption|(refine Qw hK _ ?_;clear hK K)|refine Qw ‹_› _ ?_|refine Qx ‹_› ?_|refine Qi fun K hK=>?_|refine Qj T fun K hK=>?_|refine Ql fun A B hA hB=>?_|refine Qn ?_|refine Qr ?_)
 | ((with_reducible first|apply Qy|apply Qz|apply QA)<;>intro hb<;>try simp only[nr] at hb)
 |simp only[go_sem,↓reduceIte,reduceIte,Qa,Qh,Qb,Qc,Qd,Qe,Qf,Qg,reduceCtorEq, *]
 |with_reducible refine fun(bn:Bool) hbn=>?_))
 all_goals simp_all[Za]
def Z5:List Int→Int
 | []=>0
 |e :: r=>if e=0 then Z5 r else e
theorem Jg2(xs:List Int)(hl:Jc xs.length):CallR Tryz.prog 110 [.slice false (Ja xs)] (.val (.int .i64 (Z5 xs))):=by
 refine QD (T:=T) Tryz.call110 Tryz.func110 rfl Tryz.ntmps110 (congrArg Array.toList Tryz.results110) (by decide) fun ts hn h0=>?_
 (repeat' (first
 | (with_reducible first|assumption|(refine Qw hK _ ?_;clear hK K)|refine Qw ‹_› _ ?_|refine Qx ‹_› ?_|refine Qi fun K hK=>?_|refine Qj T fun K hK=>?_|refine Ql fun A B hA hB=>?_|refine Qm ?_|refine Qn ?_|refine Qp ?_|refine Qr ?_)
 | ((with_reducible first|apply Qy|apply Qz|apply QA)<;>intro hb<;>try simp only[nr] at hb)
 |simp only[go_sem,↓reduceIte,reduceIte,Qa,Qh,Qb,Qc,Qd,Qe,Qf,Qg,reduceCtorEq, *]
 |with_reducible refine fun(bn:Bool) hbn=>?_))
 refine Qs [5,6] (fun m ts'=>∃(i:Nat),m=xs.length-i∧i≤xs.length∧Z5 xs=Z5 (xs.drop i)∧ts'.tmp 7=.int .i64 i) xs.length ?_ ?_
 ·refine⟨0,?_⟩
  simp only[go_sem,↓reduceIte,reduceIte,Qa,Qh,Qb,Qc,Qd,Qe,Qf,Qg,reduceCtorEq, *]
 ·rintro m A hM ts' hk ⟨i,hm,f1,f2,s1⟩
  simp only[go_sem,↓reduceIte,reduceIte,Qa,Qh,Qb,Qc,Qd,Qe,Qf,Qg,reduceCtorEq, *] at hk
  by_cases hlt:i<xs.length
  ·rw[List.drop_eq_getElem_cons hlt,Z5] at f2
   (repeat' (first
 | (with_reducible first|assumption|(refine Qw hK _ ?_;clear hK K)|refine Qw ‹_› _ ?_|refine Qx ‹_› ?_|refine Qi fun K hK=>?_|refine Qj T fun K hK=>?_|refine Ql fun A B hA hB=>?_|refine Qm ?_|refine Qn ?_|refine Qp ?_|refine Qr ?_)
 | ((with_reducible first|apply Qy|apply Qz|apply QA)<;>intro hb<;>try simp only[nr] at hb)
 |simp only[go_sem,↓reduceIte,reduceIte,Qa,Qh,Qb,Qc,Qd,Qe,Qf,Qg,reduceCtorEq, *,-f2]
 |with_reducible refine fun(bn:Bool) hbn=>?_))
   all_goals ((repeat clear hK);(repeat clear hA);(repeat clear hB))
   ·rw[if_neg (by simp_all)] at f2
    simp_all
   ·rw[if_pos (by simp_all)] at f2
    (refine hM.on (xs.length-(i+1)) (by omega) (by simp only[go_sem,↓reduceIte,reduceIte,Qa,Qh,Qb,Qc,Qd,Qe,Qf,Qg,reduceCtorEq, *,Ji hlt hl,-f2]) ⟨i+1,rfl,by omega,f2,?_⟩;simp only[go_sem,↓reduceIte,reduceIte,Qa,Qh,Qb,Qc,Qd,Qe,Qf,Qg,reduceCtorEq, *,Ji hlt hl,-f2];done)
  ·rw[List.drop_eq_nil_of_le (by omega),Z5] at f2
   (repeat' (first
 | (with_reducible first|assumption|(refine Qw hK _ ?_;clear hK K)|refine Qw ‹_› _ ?_|refine Qx ‹_› ?_|refine Qi fun K hK=>?_|refine Qj T fun K hK=>?_|refine Ql fun A B hA hB=>?_|refine Qm ?_|refine Qn ?_|refine Qp ?_|refine Qr ?_)
 | ((with_reducible first|apply Qy|apply Qz|apply QA)<;>intro hb<;>try simp only[nr] at hb)
 |simp only[go_sem,↓reduceIte,reduceIte,Qa,Qh,Qb,Qc,Qd,Qe,Qf,Qg,reduceCtorEq, *]
 |with_reducible refine fun(bn:Bool) hbn=>?_))
theorem Jg1(a b c d e f:Int):CallR Tryz.prog 110 [.slice false [.int .i64 a,.int .i64 b,.int .i64 c,.int .i64 d,.int .i64 e,.int .i64 f]] (.val (.int .i64 (Z5 [a,b,c,d,e,f]))):=Jg2 [a,b,c,d,e,f] (by unfold Jc;simp)
def Zj(k:Key):Bool:=fin k.kind 3 && Yg k.name
theorem JhA(k_kind:Int)(k_name:List UInt8)(hl:Jc k_name.length):CallR Tryz.prog 191 [.agg [.int .i64 k_kind,.str k_name]] (.val (.bool (Zj (⟨k_kind,k_name⟩:Key)))):=by
 have w1:=JbA k_name
 refine QD (T:=T) Tryz.call191 Tryz.func191 rfl Tryz.ntmps191 (congrArg Array.toList Tryz.results191) (by decide) fun ts hn h0=>?_
 (repeat' (first
 | (with_reducible first|refine callX.by (w1) ?_|refine callX.by (Jdn _ _) ?_|refine callX.by (JbA _) ?_|assumption|(refine Qw hK _ ?_;clear hK K)|refine Qw ‹_› _ ?_|refine Qx ‹_› ?_|refine Qi fun K hK=>?_|refine Qj T fun K hK=>?_|refine Ql fun A B hA hB=>?_|refine Qn ?_|refine Qr ?_)
 | ((with_reducible first|apply Qy|apply Qz|apply QA)<;>intro hb<;>try simp only[nr] at hb)
 |simp only[go_sem,↓reduceIte,reduceIte,Qa,Qh,Qb,Qc,Qd,Qe,Qf,Qg,reduceCtorEq, *,-w1]
 |with_reducible refine fun(bn:Bool) hbn=>?_))
 all_goals simp_all[Zj]
theorem JdD(k_kind:Int)(k_name:List UInt8)(hl:Jc k_name.length):CallR Tryz.prog 155 [.agg [.int .i64 k_kind,.str k_name]] (.val (.bool (!Zj (⟨k_kind,k_name⟩:Key)))):=by
 have w1:=JhA k_kind k_name hl
 refine QD (T:=T) Tryz.call155 Tryz.func155 rfl Tryz.ntmps155 (congrArg Array.toList Tryz.results155) (by decide) fun ts hn h0=>?_
 (repeat' (first
 | (with_reducible first|refine callX.by (w1) ?_|refine callX.by (JhA _ _ ?_) ?_|assumption|(refine Qw hK _ ?_;clear hK K)|refine Qw ‹_› _ ?_|refine Qx ‹_› ?_|refine Qi fun K hK=>?_|refine Qj T fun K hK=>?_|refine Ql fun A B hA hB=>?_|refine Qn ?_|refine Qr ?_)
 | ((with_reducible first|apply Qy|apply Qz|apply QA)<;>intro hb<;>try simp only[nr] at hb)
 |simp only[go_sem,↓reduceIte,reduceIte,Qa,Qh,Qb,Qc,Qd,Qe,Qf,Qg,reduceCtorEq, *,-w1]
 |with_reducible refine fun(bn:Bool) hbn=>?_))
theorem Jhb(m_k_kind:Int)(m_k_name:List UInt8)(m_ver:Int):CallR Tryz.prog 151 [.agg [.int .i64 m_k_kind,.str m_k_name,.int .i64 m_ver]] (.val (.bool (!fin m_ver 2147483647))):=by
 refine QD (T:=T) Tryz.call151 Tryz.func151 rfl Tryz.ntmps151 (congrArg Array.toList Tryz.results151) (by decide) fun ts hn h0=>?_
 (repeat' (first
 | (with_reducible first|refine callX.by (Jdn _ _) ?_|assumption|(refine Qw hK _ ?_;clear hK K)|refine Qw ‹_› _ ?_|refine Qx ‹_› ?_|refine Qi fun K hK=>?_|refine Qj T fun K hK=>?_|refine Ql fun A B hA hB=>?_|refine Qn ?_|refine Qr ?_)
 | ((with_reducible first|apply Qy|apply Qz|apply QA)<;>intro hb<;>try simp only[nr] at hb)
 |simp only[go_sem,↓reduceIte,reduceIte,Qa,Qh,Qb,Qc,Qd,Qe,Qf,Qg,reduceCtorEq, *]
 |with_reducible refine fun(bn:Bool) hbn=>?_))
theorem Jg5(m_k_kind:Int)(m_k_name:List UInt8)(m_ver:Int)(hl:Jc m_k_name.length):CallR Tryz.prog 156 [.agg [.int .i64 m_k_kind,.str m_k_name,.int .i64 m_ver]] (.val (.bool (!Zj ⟨m_k_kind,m_k_name⟩))):=by
 have w1:=JdD m_k_kind m_k_name hl
 refine QD (T:=T) Tryz.call156 Tryz.func156 rfl Tryz.ntmps156 (congrArg Array.toList Tryz.results156) (by decide) fun ts hn h0=>?_
 (repeat' (first
 | (with_reducible first|refine callX.by (w1) ?_|assumption|(refine Qw hK _ ?_;clear hK K)|refine Qw ‹_› _ ?_|refine Qx ‹_› ?_|refine Qi fun K hK=>?_|refine Qj T fun K hK=>?_|refine Ql fun A B hA hB=>?_|refine Qn ?_|refine Qr ?_)
 | ((with_reducible first|apply Qy|apply Qz|apply QA)<;>intro hb<;>try simp only[nr] at hb)
 |simp only[go_sem,↓reduceIte,reduceIte,Qa,Qh,Qb,Qc,Qd,Qe,Qf,Qg,reduceCtorEq, *,-w1]
 |with_reducible refine fun(bn:Bool) hbn=>?_))
theorem JkO(r_kind:Int)(r_name:List UInt8)(r_ver:Int)(r_port:Int)(r_to:List UInt8)(r_rules:List Rule)(r_hosts:List Int)(f_type:Int)(f_epoch:Int)(f_kind:Int)(f_nonce:Int)(f_turn:Int)(f_adds:List Res)(f_gone:List Key)(f_err:Int)(f_have:List Mark)(f_held:List Key):CallR Tryz.prog 159 [.agg [.int .i64 r_kind,.str r_name,.int .i64 r_ver,.int .i64 r_port,.str r_to,.slice false (Ja r_rules),.slice false (Ja r_hosts)],.ro [.int .i64 f_type,.int .i64 f_epoch,.int .i64 f_kind,.int .i64 f_nonce,.int .i64 f_turn,.slice false (Ja f_adds),.slice false (Ja f_gone),.int .i64 f_err,.slice false (Ja f_have),.slice false (Ja f_held)]] (.val (.bool (!decide (r_kind=f_kind)))):=by
 refine CallR.go2 (T:=T) Tryz.call159 Tryz.func159 rfl Tryz.ntmps159 (congrArg Array.toList Tryz.results159) (by decide) fun ts hn h0 h1=>?_
 (repeat' (first
 | (with_reducible first|assumption|(refine Qw hK _ ?_;clear hK K)|refine Qw ‹_› _ ?_|refine Qx ‹_› ?_|refine Qi fun K hK=>?_|refine Qj T fun K hK=>?_|refine Ql fun A B hA hB=>?_|refine Qn ?_|refine Qr ?_)
 | ((with_reducible first|apply Qy|apply Qz|apply QA)<;>intro hb<;>try simp only[nr] at hb)
 |simp only[go_sem,↓reduceIte,reduceIte,Qa,Qh,Qb,Qc,Qd,Qe,Qf,Qg,reduceCtorEq, *]
 |with_reducible refine fun(bn:Bool) hbn=>?_))
theorem JkP(r_kind:Int)(r_name:List UInt8)(f_type:Int)(f_epoch:Int)(f_kind:Int)(f_nonce:Int)(f_turn:Int)(f_adds:List Res)(f_gone:List Key)(f_err:Int)(f_have:List Mark)(f_held:List Key):CallR Tryz.prog 160 [.agg [.int .i64 r_kind,.str r_name],.ro [.int .i64 f_type,.int .i64 f_epoch,.int .i64 f_kind,.int .i64 f_nonce,.int .i64 f_turn,.slice false (Ja f_adds),.slice false (Ja f_gone),.int .i64 f_err,.slice false (Ja f_have),.slice false (Ja f_held)]] (.val (.bool (!decide (r_kind=f_kind)))):=by
 refine CallR.go2 (T:=T) Tryz.call160 Tryz.func160 rfl Tryz.ntmps160 (congrArg Array.toList Tryz.results160) (by decide) fun ts hn h0 h1=>?_
 (repeat' (first
 | (with_reducible first|assumption|(refine Qw hK _ ?_;clear hK K)|refine Qw ‹_› _ ?_|refine Qx ‹_› ?_|refine Qi fun K hK=>?_|refine Qj T fun K hK=>?_|refine Ql fun A B hA hB=>?_|refine Qn ?_|refine Qr ?_)
 | ((with_reducible first|apply Qy|apply Qz|apply QA)<;>intro hb<;>try simp only[nr] at hb)
 |simp only[go_sem,↓reduceIte,reduceIte,Qa,Qh,Qb,Qc,Qd,Qe,Qf,Qg,reduceCtorEq, *]
 |with_reducible refine fun(bn:Bool) hbn=>?_))
theorem Jgt(f_type:Int)(f_epoch:Int)(f_kind:Int)(f_nonce:Int)(f_turn:Int)(f_adds:List Res)(f_gone:List Key)(f_err:Int)(f_have:List Mark)(f_held:List Key):Caps [.ro [.int .i64 f_type,.int .i64 f_epoch,.int .i64 f_kind,.int .i64 f_nonce,.int .i64 f_turn,.slice false (Ja f_adds),.slice false (Ja f_gone),.int .i64 f_err,.slice false (Ja f_have),.slice false (Ja f_held)]]:=⟨by simp only[go_sem,Bool.and_self],by simp only[go_sem]⟩
def Jds(f:Frame):Bool:=!decide (64<max (max (max (f.adds.length:Int) f.gone.length) f.have'.length) f.held.length) && !(f.have'.any fun m=>!fin m.ver 2147483647) && fin f.epoch 2147483647 && fin f.nonce 2147483647 && fin f.turn 2147483647 && fin f.err 15
set_option maxHeartbeats 4000000 in
theorem Jhc(f_type:Int)(f_epoch:Int)(f_kind:Int)(f_nonce:Int)(f_turn:Int)(f_adds:List Res)(f_gone:List Key)(f_err:Int)(f_have:List Mark)(f_held:List Key)(hs:Zw (⟨f_type,f_epoch,f_kind,f_nonce,f_turn,f_adds,f_gone,f_err,f_have,f_held⟩:Frame)):CallR Tryz.prog 113 [.agg [.int .i64 f_type,.int .i64 f_epoch,.int .i64 f_kind,.int .i64 f_nonce,.int .i64 f_turn,.slice false (Ja f_adds),.slice false (Ja f_gone),.int .i64 f_err,.slice false (Ja f_have),.slice false (Ja f_held)]] (.val (.bool (Jds (⟨f_type,f_epoch,f_kind,f_nonce,f_turn,f_adds,f_gone,f_err,f_have,f_held⟩:Frame)))):=by
 have hl:=hs.2.2.2.2.1
 have w1:=Jdh 151 [] Caps.nil (fun m=>!fin m.ver 2147483647) f_have (fun x _=>Jhb x.k.kind x.k.name x.ver) hl
 clear hs hl
 refine QD (T:=T) Tryz.call113 Tryz.func113 rfl Tryz.ntmps113 (congrArg Array.toList Tryz.results113) (by decide) fun ts hn h0=>?_
 (repeat' (first
 | (with_reducible first|refine callX.by (w1) ?_|refine callX.by (Jdh _ _ ?_ _ _ ?_ ?_) ?_|refine callX.by (Jhb _ _ _) ?_|refine callX.by (Jdn _ _) ?_|assumption|(refine Qw hK _ ?_;clear hK K)|refine Qw ‹_› _ ?_|refine Qx ‹_› ?_|refine Qi fun K hK=>?_|refine Qj T fun K hK=>?_|refine Ql fun A B hA hB=>?_|refine Qn ?_|refine Qr ?_)
 | ((with_reducible first|apply Qy|apply Qz|apply QA)<;>intro hb<;>try simp only[nr] at hb)
 |simp only[go_sem,↓reduceIte,reduceIte,Qa,Qh,Qb,Qc,Qd,Qe,Qf,Qg,reduceCtorEq, *,-w1]
 |with_reducible refine fun(bn:Bool) hbn=>?_))
 all_goals simp_all[Jds]
 all_goals grind
def Jdp(f:Frame):Bool:=!(f.gone.any fun k=>!Zj k) && !(f.held.any fun k=>!Zj k) && !(f.have'.any fun m=>!Zj m.k)
set_option maxHeartbeats 4000000 in
theorem Jg6(f_type:Int)(f_epoch:Int)(f_kind:Int)(f_nonce:Int)(f_turn:Int)(f_adds:List Res)(f_gone:List Key)(f_err:Int)(f_have:List Mark)(f_held:List Key)(hs:Zw (⟨f_type,f_epoch,f_kind,f_nonce,f_turn,f_adds,f_gone,f_err,f_have,f_held⟩:Frame)):CallR Tryz.prog 115 [.agg [.int .i64 f_type,.int .i64 f_epoch,.int .i64 f_kind,.int .i64 f_nonce,.int .i64 f_turn,.slice false (Ja f_adds),.slice false (Ja f_gone),.int .i64 f_err,.slice false (Ja f_have),.slice false (Ja f_held)]] (.val (.bool (Jdp (⟨f_type,f_epoch,f_kind,f_nonce,f_turn,f_adds,f_gone,f_err,f_have,f_held⟩:Frame)))):=by
 obtain⟨-,-,g1,g2,g3,g4,g5,g6⟩:=hs
 have w1:=Z2 155 [] Caps.nil (fun k=>!Zj k) f_gone (fun x hx=>JdD x.kind x.name (g2 x hx)) g1
 have w2:=Z2 155 [] Caps.nil (fun k=>!Zj k) f_held (fun x hx=>JdD x.kind x.name (g6 x hx)) g5
 have w3:=Jdh 156 [] Caps.nil (fun m=>!Zj m.k) f_have (fun x hx=>Jg5 x.k.kind x.k.name x.ver (g4 x hx)) g3
 clear g1 g2 g3 g4 g5 g6
 refine QD (T:=T) Tryz.call115 Tryz.func115 rfl Tryz.ntmps115 (congrArg Array.toList Tryz.results115) (by decide) fun ts hn h0=>?_
 (repeat' (first
 | (with_reducible first|refine callX.by (w1) ?_|refine callX.by (w2) ?_|refine callX.by (w3) ?_|refine callX.by (Z2 _ _ ?_ _ _ ?_ ?_) ?_|refine callX.by (JdD _ _ ?_) ?_|refine callX.by (Jdh _ _ ?_ _ _ ?_ ?_) ?_|refine callX.by (Jg5 _ _ _ ?_) ?_|assumption|(refine Qw hK _ ?_;clear hK K)|refine Qw ‹_› _ ?_|refine Qx ‹_› ?_|refine Qi fun K hK=>?_|refine Qj T fun K hK=>?_|refine Ql fun A B hA hB=>?_|refine Qn ?_|refine Qr ?_)
 | ((with_reducible first|apply Qy|apply Qz|apply QA)<;>intro hb<;>try simp only[nr] at hb)
 |simp only[go_sem,↓reduceIte,reduceIte,Qa,Qh,Qb,Qc,Qd,Qe,Qf,Qg,reduceCtorEq, *,-w1,-w2,-w3]
 |with_reducible refine fun(bn:Bool) hbn=>?_))
 all_goals simp_all[Jdp]
 all_goals grind
def Jdo(f:Frame):Bool:=!(f.adds.any fun r=>!decide (r.kind=f.kind)) && !(f.gone.any fun k=>!decide (k.kind=f.kind))
set_option maxHeartbeats 4000000 in
theorem Jg3(f_type:Int)(f_epoch:Int)(f_kind:Int)(f_nonce:Int)(f_turn:Int)(f_adds:List Res)(f_gone:List Key)(f_err:Int)(f_have:List Mark)(f_held:List Key)(hs:Zw (⟨f_type,f_epoch,f_kind,f_nonce,f_turn,f_adds,f_gone,f_err,f_have,f_held⟩:Frame)):CallR Tryz.prog 117 [.agg [.int .i64 f_type,.int .i64 f_epoch,.int .i64 f_kind,.int .i64 f_nonce,.int .i64 f_turn,.slice false (Ja f_adds),.slice false (Ja f_gone),.int .i64 f_err,.slice false (Ja f_have),.slice false (Ja f_held)]] (.val (.bool (Jdo (⟨f_type,f_epoch,f_kind,f_nonce,f_turn,f_adds,f_gone,f_err,f_have,f_held⟩:Frame)))):=by
 obtain⟨g1,-,g2,-⟩:=hs
 have w1:=Jb1 159 [.ro [.int .i64 f_type,.int .i64 f_epoch,.int .i64 f_kind,.int .i64 f_nonce,.int .i64 f_turn,.slice false (Ja f_adds),.slice false (Ja f_gone),.int .i64 f_err,.slice false (Ja f_have),.slice false (Ja f_held)]] (Jgt f_type f_epoch f_kind f_nonce f_turn f_adds f_gone f_err f_have f_held) (fun r=>!decide (r.kind=f_kind)) f_adds (fun x _=>JkO x.kind x.name x.ver x.port x.to' x.rules' x.hosts f_type f_epoch f_kind f_nonce f_turn f_adds f_gone f_err f_have f_held) g1
 have w2:=Z2 160 [.ro [.int .i64 f_type,.int .i64 f_epoch,.int .i64 f_kind,.int .i64 f_nonce,.int .i64 f_turn,.slice false (Ja f_adds),.slice false (Ja f_gone),.int .i64 f_err,.slice false (Ja f_have),.slice false (Ja f_held)]] (Jgt f_type f_epoch f_kind f_nonce f_turn f_adds f_gone f_err f_have f_held) (fun r=>!decide (r.kind=f_kind)) f_gone (fun x _=>JkP x.kind x.name f_type f_epoch f_kind f_nonce f_turn f_adds f_gone f_err f_have f_held) g2
 clear g1 g2
 refine QD (T:=T) Tryz.call117 Tryz.func117 rfl Tryz.ntmps117 (congrArg Array.toList Tryz.results117) (by decide) fun ts hn h0=>?_
 (repeat' (first
 | (with_reducible first|refine callX.by (w1) ?_|refine callX.by (w2) ?_|assumption|(refine Qw hK _ ?_;clear hK K)|refine Qw ‹_› _ ?_|refine Qx ‹_› ?_|refine Qi fun K hK=>?_|refine Qj T fun K hK=>?_|refine Ql fun A B hA hB=>?_|refine Qn ?_|refine Qr ?_)
 | ((with_reducible first|apply Qy|apply Qz|apply QA)<;>intro hb<;>try simp only[nr] at hb)
 |simp only[go_sem,↓reduceIte,reduceIte,Qa,Qh,Qb,Qc,Qd,Qe,Qf,Qg,reduceCtorEq, *,-w1,-w2]
 |with_reducible refine fun(bn:Bool) hbn=>?_))
 all_goals simp_all[Jdo]
 all_goals grind
def ZX:List Res→Int
 | []=>0
 |r :: l=>if Yb r=0 then ZX l else Yb r
set_option maxHeartbeats 4000000 in
theorem JgW(f_type:Int)(f_epoch:Int)(f_kind:Int)(f_nonce:Int)(f_turn:Int)(f_adds:List Res)(f_gone:List Key)(f_err:Int)(f_have:List Mark)(f_held:List Key)(hs:Zw (⟨f_type,f_epoch,f_kind,f_nonce,f_turn,f_adds,f_gone,f_err,f_have,f_held⟩:Frame)):CallR Tryz.prog 116 [.agg [.int .i64 f_type,.int .i64 f_epoch,.int .i64 f_kind,.int .i64 f_nonce,.int .i64 f_turn,.slice false (Ja f_adds),.slice false (Ja f_gone),.int .i64 f_err,.slice false (Ja f_have),.slice false (Ja f_held)]] (.val (.int .i64 (ZX f_adds))):=by
 obtain⟨hl,g1,-⟩:=hs
 refine QD (T:=T) Tryz.call116 Tryz.func116 rfl Tryz.ntmps116 (congrArg Array.toList Tryz.results116) (by decide) fun ts hn h0=>?_
 (repeat' (first
 | (with_reducible first|refine callX.by (Vn _ _ _ _ _ _ _ ?_ ?_ ?_) ?_|refine callX.by Vv ?_|assumption|(refine Qw hK _ ?_;clear hK K)|refine Qw ‹_› _ ?_|refine Qx ‹_› ?_|refine Qi fun K hK=>?_|refine Qj T fun K hK=>?_|refine Ql fun A B hA hB=>?_|refine Qm ?_|refine Qn ?_|refine Qp ?_|refine Qr ?_)
 | ((with_reducible first|apply Qy|apply Qz|apply QA)<;>intro hb<;>try simp only[nr] at hb)
 |simp only[go_sem,↓reduceIte,reduceIte,Qa,Qh,Qb,Qc,Qd,Qe,Qf,Qg,reduceCtorEq, *,-g1]
 |with_reducible refine fun(bn:Bool) hbn=>?_))
 refine Qs [7,8] (fun m ts'=>∃(i:Nat),m=f_adds.length-i∧i≤f_adds.length∧ZX f_adds=ZX (f_adds.drop i)∧ts'.tmp 9=.int .i64 i) f_adds.length ?_ ?_
 ·refine⟨0,?_⟩
  simp only[go_sem,↓reduceIte,reduceIte,Qa,Qh,Qb,Qc,Qd,Qe,Qf,Qg,reduceCtorEq, *,-g1]
 ·rintro m A hM ts' hk ⟨i,hm,f1,f2,s1⟩
  simp only[go_sem,↓reduceIte,reduceIte,Qa,Qh,Qb,Qc,Qd,Qe,Qf,Qg,reduceCtorEq, *] at hk
  by_cases hlt:i<f_adds.length
  ·rw[List.drop_eq_getElem_cons hlt,ZX] at f2
   have hg:=g1 _ (List.getElem_mem hlt)
   obtain⟨k1,k2,k3,k4,k5⟩:=hg
   have w1:=Vn f_adds[i].kind f_adds[i].name f_adds[i].ver f_adds[i].port f_adds[i].to' f_adds[i].rules' f_adds[i].hosts
   (repeat' (first
 | (with_reducible first|refine callX.by (Vn _ _ _ _ _ _ _ ?_ ?_ ?_) ?_|refine callX.by Vv ?_|assumption|(refine Qw hK _ ?_;clear hK K)|refine Qw ‹_› _ ?_|refine Qx ‹_› ?_|refine Qi fun K hK=>?_|refine Qj T fun K hK=>?_|refine Ql fun A B hA hB=>?_|refine Qm ?_|refine Qn ?_|refine Qp ?_|refine Qr ?_)
 | ((with_reducible first|apply Qy|apply Qz|apply QA)<;>intro hb<;>try simp only[nr] at hb)
 |simp only[go_sem,↓reduceIte,reduceIte,Qa,Qh,Qb,Qc,Qd,Qe,Qf,Qg,reduceCtorEq, *,-f2,-g1,-k4]
 |with_reducible refine fun(bn:Bool) hbn=>?_))
   all_goals ((repeat clear hK);(repeat clear hA);(repeat clear hB))
   all_goals first
    | (rw[if_neg (by simpa using hb)] at f2;exact f2.symm)
    | (rw[if_pos (by simpa using hb)] at f2;(refine hM.on (f_adds.length-(i+1)) (by omega) (by simp only[go_sem,↓reduceIte,reduceIte,Qa,Qh,Qb,Qc,Qd,Qe,Qf,Qg,reduceCtorEq, *,Ji hlt hl,-f2,-g1,-k4]) ⟨i+1,rfl,by omega,f2,?_⟩;simp only[go_sem,↓reduceIte,reduceIte,Qa,Qh,Qb,Qc,Qd,Qe,Qf,Qg,reduceCtorEq, *,Ji hlt hl,-f2,-g1,-k4];done))
  ·rw[List.drop_eq_nil_of_le (by omega),ZX] at f2
   (repeat' (first
 | (with_reducible first|refine callX.by (Vn _ _ _ _ _ _ _ ?_ ?_ ?_) ?_|refine callX.by Vv ?_|assumption|(refine Qw hK _ ?_;clear hK K)|refine Qw ‹_› _ ?_|refine Qx ‹_› ?_|refine Qi fun K hK=>?_|refine Qj T fun K hK=>?_|refine Ql fun A B hA hB=>?_|refine Qm ?_|refine Qn ?_|refine Qp ?_|refine Qr ?_)
 | ((with_reducible first|apply Qy|apply Qz|apply QA)<;>intro hb<;>try simp only[nr] at hb)
 |simp only[go_sem,↓reduceIte,reduceIte,Qa,Qh,Qb,Qc,Qd,Qe,Qf,Qg,reduceCtorEq, *,-g1]
 |with_reducible refine fun(bn:Bool) hbn=>?_))
def Jaz(f:Frame):Frame :=
 if f.type=0 then { f with epoch:=0,have':=[] }
 else if f.type=1 then { f with epoch:=0,kind:=0,nonce:=0,adds:=[],gone:=[] }
 else if f.type=2 then { f with epoch:=0,kind:=0,nonce:=0,err:=0,turn:=0,held:=[] }
 else if f.type=3 then { f with epoch:=0,turn:=0,held:=[] }
 else { f with epoch:=0 }
theorem JnL(f:Frame)(h:Zw f):Zw (Jaz f):=by
 unfold Jaz
 obtain⟨g1,g2,g3,g4,g5,g6,g7,g8⟩:=h
 repeat' split
 all_goals (refine⟨?_,?_,?_,?_,?_,?_,?_,?_⟩<;>first|assumption|(unfold Jc;simp;done)|simp)
set_option maxHeartbeats 4000000 in
theorem JkF(f_type:Int)(f_epoch:Int)(f_kind:Int)(f_nonce:Int)(f_turn:Int)(f_adds:List Res)(f_gone:List Key)(f_err:Int)(f_have:List Mark)(f_held:List Key):CallR Tryz.prog 153 [.agg [.int .i64 f_type,.int .i64 f_epoch,.int .i64 f_kind,.int .i64 f_nonce,.int .i64 f_turn,.slice false (Ja f_adds),.slice false (Ja f_gone),.int .i64 f_err,.slice false (Ja f_have),.slice false (Ja f_held)]] (.val (Dat.av (Jaz (⟨f_type,f_epoch,f_kind,f_nonce,f_turn,f_adds,f_gone,f_err,f_have,f_held⟩:Frame)))):=by
 refine QD (T:=T) Tryz.call153 Tryz.func153 rfl Tryz.ntmps153 (congrArg Array.toList Tryz.results153) (by decide) fun ts hn h0=>?_
 (repeat' (first
 | (with_reducible first|assumption|(refine Qw hK _ ?_;clear hK K)|refine Qw ‹_› _ ?_|refine Qx ‹_› ?_|refine Qi fun K hK=>?_|refine Qj T fun K hK=>?_|refine Ql fun A B hA hB=>?_|refine Qm ?_|refine Qn ?_|refine Qr ?_)
 | ((with_reducible first|apply Qy|apply Qz|apply QA)<;>intro hb<;>try simp only[nr] at hb)
 |simp only[go_sem,↓reduceIte,reduceIte,Qa,Qh,Qb,Qc,Qd,Qe,Qf,Qg,reduceCtorEq, *]
 |with_reducible refine fun(bn:Bool) hbn=>?_))
 all_goals ((repeat clear hK);(repeat clear hA);(repeat clear hB))
 all_goals simp_all[Jaz,Vc]
set_option maxHeartbeats 4000000 in
theorem Jla(f_type:Int)(f_epoch:Int)(f_kind:Int)(f_nonce:Int)(f_turn:Int)(f_adds:List Res)(f_gone:List Key)(f_err:Int)(f_have:List Mark)(f_held:List Key)(h_type:Int)(h_epoch:Int)(h_kind:Int)(h_nonce:Int)(h_turn:Int)(h_adds:List Res)(h_gone:List Key)(h_err:Int)(h_have:List Mark)(h_held:List Key)(hs:Zw (⟨f_type,f_epoch,f_kind,f_nonce,f_turn,f_adds,f_gone,f_err,f_have,f_held⟩:Frame)):CallR Tryz.prog 152 [.agg [.int .i64 f_type,.int .i64 f_epoch,.int .i64 f_kind,.int .i64 f_nonce,.int .i64 f_turn,.slice false (Ja f_adds),.slice false (Ja f_gone),.int .i64 f_err,.slice false (Ja f_have),.slice false (Ja f_held)],.agg [.int .i64 h_type,.int .i64 h_epoch,.int .i64 h_kind,.int .i64 h_nonce,.int .i64 h_turn,.slice false (Ja h_adds),.slice false (Ja h_gone),.int .i64 h_err,.slice false (Ja h_have),.slice false (Ja h_held)]] (.val (.bool (decide ((⟨f_type,f_epoch,f_kind,f_nonce,f_turn,f_adds,f_gone,f_err,f_have,f_held⟩:Frame)=(⟨h_type,h_epoch,h_kind,h_nonce,h_turn,h_adds,h_gone,h_err,h_have,h_held⟩:Frame))))):=by
 obtain⟨g1,g2,g3,g4,g5,g6,g7,g8⟩:=hs
 have w1:=JeO 107 [] Caps.nil f_adds h_adds (fun x hx y=>Jed x.kind x.name x.ver x.port x.to' x.rules' x.hosts y.kind y.name y.ver y.port y.to' y.rules' y.hosts (g2 x hx).2.2.2.2 (g2 x hx).2.2.1 (g2 x hx).2.2.2.1) g1
 have w2:=JaF f_gone h_gone g3
 have w3:=JkB f_have h_have g5
 have w4:=JaF f_held h_held g7
 clear g1 g2 g3 g4 g5 g6 g7 g8
 refine CallR.go2 (T:=T) Tryz.call152 Tryz.func152 rfl Tryz.ntmps152 (congrArg Array.toList Tryz.results152) (by decide) fun ts hn h0 h1=>?_
 (repeat' (first
 | (with_reducible first|refine callX.by (w1) ?_|refine callX.by (w2) ?_|refine callX.by (w3) ?_|refine callX.by (w4) ?_|assumption|(refine Qw hK _ ?_;clear hK K)|refine Qw ‹_› _ ?_|refine Qx ‹_› ?_|refine Qi fun K hK=>?_|refine Qj T fun K hK=>?_|refine Ql fun A B hA hB=>?_|refine Qn ?_|refine Qr ?_)
 | ((with_reducible first|apply Qy|apply Qz|apply QA)<;>intro hb<;>try simp only[nr] at hb)
 |simp only[go_sem,↓reduceIte,reduceIte,Qa,Qh,Qb,Qc,Qd,Qe,Qf,Qg,reduceCtorEq, *,-w1,-w2,-w3,-w4]
 |with_reducible refine fun(bn:Bool) hbn=>?_))
 all_goals ((repeat clear hK);(repeat clear hA);(repeat clear hB))
 all_goals (rw[Bool.eq_iff_iff];simp_all[JkE])
def JeW(t:Int):Frame:=⟨t,0,0,0,0,[],[],0,[],[]⟩
def Jdr(f:Frame):Bool:=decide (Jaz f=JeW f.type)
set_option maxHeartbeats 4000000 in
theorem Jha(f_type:Int)(f_epoch:Int)(f_kind:Int)(f_nonce:Int)(f_turn:Int)(f_adds:List Res)(f_gone:List Key)(f_err:Int)(f_have:List Mark)(f_held:List Key)(hs:Zw (⟨f_type,f_epoch,f_kind,f_nonce,f_turn,f_adds,f_gone,f_err,f_have,f_held⟩:Frame)):CallR Tryz.prog 114 [.agg [.int .i64 f_type,.int .i64 f_epoch,.int .i64 f_kind,.int .i64 f_nonce,.int .i64 f_turn,.slice false (Ja f_adds),.slice false (Ja f_gone),.int .i64 f_err,.slice false (Ja f_have),.slice false (Ja f_held)]] (.val (.bool (Jdr (⟨f_type,f_epoch,f_kind,f_nonce,f_turn,f_adds,f_gone,f_err,f_have,f_held⟩:Frame)))):=by
 have w1:=JkF f_type f_epoch f_kind f_nonce f_turn f_adds f_gone f_err f_have f_held
 have hb:=JnL (⟨f_type,f_epoch,f_kind,f_nonce,f_turn,f_adds,f_gone,f_err,f_have,f_held⟩:Frame) hs
 have e:Jdr (⟨f_type,f_epoch,f_kind,f_nonce,f_turn,f_adds,f_gone,f_err,f_have,f_held⟩:Frame)=decide (Jaz (⟨f_type,f_epoch,f_kind,f_nonce,f_turn,f_adds,f_gone,f_err,f_have,f_held⟩:Frame)=JeW f_type):=rfl
 generalize Jaz (⟨f_type,f_epoch,f_kind,f_nonce,f_turn,f_adds,f_gone,f_err,f_have,f_held⟩:Frame)=b at w1 hb e
 have w2:=Jla b.type b.epoch b.kind b.nonce b.turn b.adds b.gone b.err b.have' b.held f_type 0 0 0 0 [] [] 0 [] [] hb
 have w2:CallR Tryz.prog 152 [.agg [.int .i64 b.type,.int .i64 b.epoch,.int .i64 b.kind,.int .i64 b.nonce,.int .i64 b.turn,.slice false (Ja b.adds),.slice false (Ja b.gone),.int .i64 b.err,.slice false (Ja b.have'),.slice false (Ja b.held)],.agg [.int .i64 f_type,.int .i64 0,.int .i64 0,.int .i64 0,.int .i64 0,.slice false [],.slice false [],.int .i64 0,.slice false [],.slice false []]] (.val (.bool (decide (b=JeW f_type)))):=w2
 clear hb hs
 refine QD (T:=T) Tryz.call114 Tryz.func114 rfl Tryz.ntmps114 (congrArg Array.toList Tryz.results114) (by decide) fun ts hn h0=>?_
 (repeat' (first
 | (with_reducible first|refine callX.by (w1) ?_|refine callX.by (w2) ?_|assumption|(refine Qw hK _ ?_;clear hK K)|refine Qw ‹_› _ ?_|refine Qx ‹_› ?_|refine Qi fun K hK=>?_|refine Qj T fun K hK=>?_|refine Qk (id:=1) T mixed JeA (by kernel_rfl) fun K hK=>?_|refine Ql fun A B hA hB=>?_|refine Qn ?_|refine Qr ?_)
 | ((with_reducible first|apply Qy|apply Qz|apply QA)<;>intro hb<;>try simp only[nr] at hb)
 |simp only[go_sem,↓reduceIte,reduceIte,Qa,Qh,Qb,Qc,Qd,Qe,Qf,Qg,reduceCtorEq, *,-w1,-w2]
 |with_reducible refine fun(bn:Bool) hbn=>?_))
def Jdq(f:Frame):Int:=Z5 [Za (fin f.type 3 && fin f.kind 3) 4,Za (Jds f) 3,Za (Jdr f) 2,Za (Jdp f) 5,ZX f.adds,Za (Jdo f) 2]
set_option maxHeartbeats 4000000 in
theorem Jk6(f_type:Int)(f_epoch:Int)(f_kind:Int)(f_nonce:Int)(f_turn:Int)(f_adds:List Res)(f_gone:List Key)(f_err:Int)(f_have:List Mark)(f_held:List Key)(hs:Zw (⟨f_type,f_epoch,f_kind,f_nonce,f_turn,f_adds,f_gone,f_err,f_have,f_held⟩:Frame)):CallR Tryz.prog 79 [.agg [.int .i64 f_type,.int .i64 f_epoch,.int .i64 f_kind,.int .i64 f_nonce,.int .i64 f_turn,.slice false (Ja f_adds),.slice false (Ja f_gone),.int .i64 f_err,.slice false (Ja f_have),.slice false (Ja f_held)]] (.val (.int .i64 (Jdq (⟨f_type,f_epoch,f_kind,f_nonce,f_turn,f_adds,f_gone,f_err,f_have,f_held⟩:Frame)))):=by
 have w1:=Jhc f_type f_epoch f_kind f_nonce f_turn f_adds f_gone f_err f_have f_held hs
 have w2:=Jha f_type f_epoch f_kind f_nonce f_turn f_adds f_gone f_err f_have f_held hs
 have w3:=Jg6 f_type f_epoch f_kind f_nonce f_turn f_adds f_gone f_err f_have f_held hs
 have w4:=JgW f_type f_epoch f_kind f_nonce f_turn f_adds f_gone f_err f_have f_held hs
 have w5:=Jg3 f_type f_epoch f_kind f_nonce f_turn f_adds f_gone f_err f_have f_held hs
 have w6:=fun a=>Jg1 a (Za (Jds (⟨f_type,f_epoch,f_kind,f_nonce,f_turn,f_adds,f_gone,f_err,f_have,f_held⟩:Frame)) 3) (Za (Jdr (⟨f_type,f_epoch,f_kind,f_nonce,f_turn,f_adds,f_gone,f_err,f_have,f_held⟩:Frame)) 2) (Za (Jdp (⟨f_type,f_epoch,f_kind,f_nonce,f_turn,f_adds,f_gone,f_err,f_have,f_held⟩:Frame)) 5) (ZX f_adds) (Za (Jdo (⟨f_type,f_epoch,f_kind,f_nonce,f_turn,f_adds,f_gone,f_err,f_have,f_held⟩:Frame)) 2)
 clear hs
 refine QD (T:=T.withF [26]) Tryz.call79 Tryz.func79 rfl Tryz.ntmps79 (congrArg Array.toList Tryz.results79) (by decide) fun ts hn h0=>?_
 (repeat' (first
 | (with_reducible first|refine callX.by (w1) ?_|refine callX.by (w2) ?_|refine callX.by (w3) ?_|refine callX.by (w4) ?_|refine callX.by (w5) ?_|refine callX.by (w6) ?_|refine callX.by (Jdn _ _) ?_|refine callX.by (Jrl _ _) ?_|refine callX.by (Jhc _ _ _ _ _ _ _ _ _ _ ?_) ?_|refine callX.by (Jha _ _ _ _ _ _ _ _ _ _ ?_) ?_|refine callX.by (Jg6 _ _ _ _ _ _ _ _ _ _ ?_) ?_|refine callX.by (JgW _ _ _ _ _ _ _ _ _ _ ?_) ?_|refine callX.by (Jg3 _ _ _ _ _ _ _ _ _ _ ?_) ?_|refine callX.by (Jg2 _ ?_) ?_|refine callX.by (Jg1 _ _ _ _ _ _) ?_|assumption|(refine Qw hK _ ?_;clear hK K)|refine Qw ‹_› _ ?_|refine Qx ‹_› ?_|refine Qi fun K hK=>?_|refine Qj (T.withF [26]) fun K hK=>?_|refine Qk (id:=1) (T.withF [26]) mixed [([3],[6,7,8,9,10,11,12,13,14,15,16,17,18,19,20,21,22,23,24,25,26,27]),([4],[7,8,9,10,11,12,13,14,15,16,17,18,19,20,21,22,23,24,25,26,27]),([5],[11,12,13,14,15,16,17,18,19,20,21,22,23,24,25,26,27]),([6],[3,12,13,14,15,16,17,18,19,20,21,22,23,24,25,26,27]),([7],[3,4,10,11,12,13,14,15,16,17,18,19,20,21,22,23,24,25,26,27]),([8],[3,4,12,13,14,15,16,17,18,19,20,21,22,23,24,25,26,27]),([9],[3,4,12,14,15,16,17,18,19,20,21,22,23,24,25,27]),([10],[3,4,7,12,14,15,16,17,18,19,20,21,22,23,24,25,27]),([11],[3,4,5,7,12,15,16,17,18,19,20,21,22,23,24,25]),([12],[3,4,5,6,7,8,9,10,11,15,16,17,18,19,20,21,22,23,24,25,26,27]),([13],[3,4,5,6,7,8,15,17,18,19,20,21,22,23,24,25,27]),([14],[3,4,5,6,7,8,9,10,15,18,19,20,21,22,23,24,25]),([15],[3,4,5,6,7,8,9,10,11,12,13,14,18,19,20,21,22,23,24,25,26,27]),([16],[3,4,5,6,7,8,9,10,11,12,18,20,21,22,23,24,25,27]),([17],[3,4,5,6,7,8,9,10,11,12,13,18,21,22,23,24,25]),([18],[3,4,5,6,7,8,9,10,11,12,13,14,15,16,17,21,22,23,24,25,26,27]),([19],[3,4,5,6,7,8,9,10,11,12,13,14,15,21,23,24,25,27]),([20],[3,4,5,6,7,8,9,10,11,12,13,14,15,16,21,23,25]),([21],[3,4,5,6,7,8,9,10,11,12,13,14,15,16,17,18,19,20,23,25,27]),([22],[3,4,5,6,7,8,9,10,11,12,13,14,15,16,17,18,23]),([23],[3,4,5,6,7,8,9,10,11,12,13,14,15,16,17,18,19,20,21,22,26,27]),([24],[3,4,5,6,7,8,9,10,11,12,13,14,15,16,17,18,19]),([25],[3,4,5,6,7,8,9,10,11,12,13,14,15,16,17,18,19,20,21]),([26],[3,4,5,6,7,8,12,15,18,23]),([27],[3,4,5,6,7,8,9,10,12,13,15,16,18,19,21,23])] (by kernel_rfl) fun K hK=>?_|refine Ql fun A B hA hB=>?_|refine Qn ?_|refine Qr ?_)
 | ((with_reducible first|apply Qy|apply Qz|apply QA)<;>intro hb<;>try simp only[nr] at hb)
 |simp only[go_sem,↓reduceIte,reduceIte,Qa,Qh,Qb,Qc,Qd,Qe,Qf,Qg,reduceCtorEq, *,-w1,-w2,-w3,-w4,-w5,-w6]
 |with_reducible refine fun(bn:Bool) hbn=>?_))
 all_goals simp only[Jdq,hb,Bool.true_and,Bool.false_and]
theorem Jkq(s p:List UInt8):CallR Tryz.prog 214 [.str s,.str p] (.val (.tup [.str (Yj s p),.bool (Vy s p)])):=by
 by_cases hp:Vy s p=true
 ·have hle:p.length≤s.length:=by
   have:=hp
   simp only[Vy,Bool.and_eq_true,decide_eq_true_eq] at this
   exact this.1
  have ht:(s.drop p.length).take (s.length-p.length)=s.drop p.length:=List.take_of_length_le (by simp)
  refine CallR.go2 (T:=T) Tryz.call214 Tryz.func214 rfl Tryz.ntmps214 (congrArg Array.toList Tryz.results214) (by decide) fun ts hn h0 h1=>?_
  (repeat' (first
 | (with_reducible first|refine callX.by (Jca _ _) ?_|assumption|(refine Qw hK _ ?_;clear hK K)|refine Qw ‹_› _ ?_|refine Qx ‹_› ?_|refine Qi fun K hK=>?_|refine Qj T fun K hK=>?_|refine Ql fun A B hA hB=>?_|refine Qn ?_|refine Qr ?_)
 | ((with_reducible first|apply Qy|apply Qz|apply QA)<;>intro hb<;>try simp only[nr] at hb)
 |simp only[go_sem,↓reduceIte,reduceIte,Qa,Qh,Qb,Qc,Qd,Qe,Qf,Qg,reduceCtorEq, *]
 |with_reducible refine fun(bn:Bool) hbn=>?_))
  all_goals ((repeat clear hK);(repeat clear hA);(repeat clear hB))
  all_goals simp[Yj,hp]
 ·have hp':Vy s p=false:=by simpa using hp
  refine CallR.go2 (T:=T) Tryz.call214 Tryz.func214 rfl Tryz.ntmps214 (congrArg Array.toList Tryz.results214) (by decide) fun ts hn h0 h1=>?_
  (repeat' (first
 | (with_reducible first|refine callX.by (Jca _ _) ?_|assumption|(refine Qw hK _ ?_;clear hK K)|refine Qw ‹_› _ ?_|refine Qx ‹_› ?_|refine Qi fun K hK=>?_|refine Qj T fun K hK=>?_|refine Ql fun A B hA hB=>?_|refine Qn ?_|refine Qr ?_)
 | ((with_reducible first|apply Qy|apply Qz|apply QA)<;>intro hb<;>try simp only[nr] at hb)
 |simp only[go_sem,↓reduceIte,reduceIte,Qa,Qh,Qb,Qc,Qd,Qe,Qf,Qg,reduceCtorEq, *]
 |with_reducible refine fun(bn:Bool) hbn=>?_))
  all_goals ((repeat clear hK);(repeat clear hA);(repeat clear hB))
  all_goals simp[Yj,hp']
theorem JgI(s p:List UInt8):CallR Tryz.prog 169 [.str s,.str p] (.val (.tup [.str (Yj s p),.bool (Vy s p)])):=by
 refine CallR.go2 (T:=T) Tryz.call169 Tryz.func169 rfl Tryz.ntmps169 (congrArg Array.toList Tryz.results169) (by decide) fun ts hn h0 h1=>?_
 (repeat' (first
 | (with_reducible first|refine callX.by (Jkq _ _) ?_|assumption|(refine Qw hK _ ?_;clear hK K)|refine Qw ‹_› _ ?_|refine Qx ‹_› ?_|refine Qi fun K hK=>?_|refine Qj T fun K hK=>?_|refine Ql fun A B hA hB=>?_|refine Qn ?_|refine Qr ?_)
 | ((with_reducible first|apply Qy|apply Qz|apply QA)<;>intro hb<;>try simp only[nr] at hb)
 |simp only[go_sem,↓reduceIte,reduceIte,Qa,Qh,Qb,Qc,Qd,Qe,Qf,Qg,reduceCtorEq, *]
 |with_reducible refine fun(bn:Bool) hbn=>?_))
def Jbo(s p:List UInt8):Bool:=decide (p.length≤s.length) && decide (s.drop (s.length-p.length)=p)
theorem Jld(s p:List UInt8)(hl:Jc s.length):CallR Tryz.prog 215 [.str s,.str p] (.val (.bool (Jbo s p))):=by
 by_cases hle:p.length≤s.length
 ·have hw:IntKind.i64.wrap ((s.length:Int)-(p.length:Int))=((s.length-p.length:Nat):Int):=by
   rw[show(s.length:Int)-(p.length:Int)=((s.length-p.length:Nat):Int) by omega];exact IntWalk.i64_in _ (by unfold Jc at hl;omega)
  have ht:(s.drop (s.length-p.length)).take (s.length-(s.length-p.length))=s.drop (s.length-p.length):=List.take_of_length_le (by simp)
  have h1:s.length-p.length≤s.length:=by omega
  refine CallR.go2 (T:=T) Tryz.call215 Tryz.func215 rfl Tryz.ntmps215 (congrArg Array.toList Tryz.results215) (by decide) fun ts hn h0 h1=>?_
  (repeat' (first
 | (with_reducible first|assumption|(refine Qw hK _ ?_;clear hK K)|refine Qw ‹_› _ ?_|refine Qx ‹_› ?_|refine Qi fun K hK=>?_|refine Qj T fun K hK=>?_|refine Ql fun A B hA hB=>?_|refine Qn ?_|refine Qr ?_)
 | ((with_reducible first|apply Qy|apply Qz|apply QA)<;>intro hb<;>try simp only[nr] at hb)
 |simp only[go_sem,↓reduceIte,reduceIte,Qa,Qh,Qb,Qc,Qd,Qe,Qf,Qg,reduceCtorEq, *]
 |with_reducible refine fun(bn:Bool) hbn=>?_))
  all_goals ((repeat clear hK);(repeat clear hA);(repeat clear hB))
  all_goals simp[Jbo,hle]
 ·refine CallR.go2 (T:=T) Tryz.call215 Tryz.func215 rfl Tryz.ntmps215 (congrArg Array.toList Tryz.results215) (by decide) fun ts hn h0 h1=>?_
  (repeat' (first
 | (with_reducible first|assumption|(refine Qw hK _ ?_;clear hK K)|refine Qw ‹_› _ ?_|refine Qx ‹_› ?_|refine Qi fun K hK=>?_|refine Qj T fun K hK=>?_|refine Ql fun A B hA hB=>?_|refine Qn ?_|refine Qr ?_)
 | ((with_reducible first|apply Qy|apply Qz|apply QA)<;>intro hb<;>try simp only[nr] at hb)
 |simp only[go_sem,↓reduceIte,reduceIte,Qa,Qh,Qb,Qc,Qd,Qe,Qf,Qg,reduceCtorEq, *]
 |with_reducible refine fun(bn:Bool) hbn=>?_))
  all_goals ((repeat clear hK);(repeat clear hA);(repeat clear hB))
  all_goals simp[Jbo,hle]
theorem Jhe(s p:List UInt8)(hl:Jc s.length):CallR Tryz.prog 170 [.str s,.str p] (.val (.bool (Jbo s p))):=by
 refine CallR.go2 (T:=T) Tryz.call170 Tryz.func170 rfl Tryz.ntmps170 (congrArg Array.toList Tryz.results170) (by decide) fun ts hn h0 h1=>?_
 (repeat' (first
 | (with_reducible first|refine callX.by (Jld _ _ ?_) ?_|assumption|(refine Qw hK _ ?_;clear hK K)|refine Qw ‹_› _ ?_|refine Qx ‹_› ?_|refine Qi fun K hK=>?_|refine Qj T fun K hK=>?_|refine Ql fun A B hA hB=>?_|refine Qn ?_|refine Qr ?_)
 | ((with_reducible first|apply Qy|apply Qz|apply QA)<;>intro hb<;>try simp only[nr] at hb)
 |simp only[go_sem,↓reduceIte,reduceIte,Qa,Qh,Qb,Qc,Qd,Qe,Qf,Qg,reduceCtorEq, *]
 |with_reducible refine fun(bn:Bool) hbn=>?_))
def Jav(s:List UInt8):Int:=if s=[42] then 0 else if Vy s [42,46]=true then s.length else 9223372036854775807
theorem Jrs(s:List UInt8):CallR Tryz.prog 217 [.str s] (.val (.int .i64 (Jav s))):=by
 refine QD (T:=T) Tryz.call217 Tryz.func217 rfl Tryz.ntmps217 (congrArg Array.toList Tryz.results217) (by decide) fun ts hn h0=>?_
 (repeat' (first
 | (with_reducible first|refine callX.by (JaK _ _) ?_|assumption|(refine Qw hK _ ?_;clear hK K)|refine Qw ‹_› _ ?_|refine Qx ‹_› ?_|refine Qi fun K hK=>?_|refine Qj T fun K hK=>?_|refine Ql fun A B hA hB=>?_|refine Qm ?_|refine Qn ?_|refine Qr ?_)
 | ((with_reducible first|apply Qy|apply Qz|apply QA)<;>intro hb<;>try simp only[nr] at hb)
 |simp only[go_sem,↓reduceIte,reduceIte,Qa,Qh,Qb,Qc,Qd,Qe,Qf,Qg,reduceCtorEq, *]
 |with_reducible refine fun(bn:Bool) hbn=>?_))
 all_goals ((repeat clear hK);(repeat clear hA);(repeat clear hB))
 all_goals simp_all[Jav]
theorem Jl6(a b:List UInt8):CallR Tryz.prog 172 [.str a,.str b] (.val (.int .i64 (Z7 (Jav a) (Jav b)))):=by
 refine CallR.go2 (T:=T) Tryz.call172 Tryz.func172 rfl Tryz.ntmps172 (congrArg Array.toList Tryz.results172) (by decide) fun ts hn h0 h1=>?_
 (repeat' (first
 | (with_reducible first|refine callX.by (Jrs _) ?_|refine callX.by (Jhi _ _) ?_|assumption|(refine Qw hK _ ?_;clear hK K)|refine Qw ‹_› _ ?_|refine Qx ‹_› ?_|refine Qi fun K hK=>?_|refine Qj T fun K hK=>?_|refine Ql fun A B hA hB=>?_|refine Qn ?_|refine Qr ?_)
 | ((with_reducible first|apply Qy|apply Qz|apply QA)<;>intro hb<;>try simp only[nr] at hb)
 |simp only[go_sem,↓reduceIte,reduceIte,Qa,Qh,Qb,Qc,Qd,Qe,Qf,Qg,reduceCtorEq, *]
 |with_reducible refine fun(bn:Bool) hbn=>?_))
def Je5(p h:List UInt8):Bool:=(Jcc p && (Jcc h && !Vy h [42])) && ((decide (p=[42]) || decide (p=h)) || (Vy p [42] && (decide ((Yj p [42]).length<h.length) && Jbo h (Yj p [42]))))
theorem JlO(p h:List UInt8)(hp:Jc p.length)(hh:Jc h.length):CallR Tryz.prog 126 [.str p,.str h] (.val (.bool (Je5 p h))):=by
 refine CallR.go2 (T:=T) Tryz.call126 Tryz.func126 rfl Tryz.ntmps126 (congrArg Array.toList Tryz.results126) (by decide) fun ts hn h0 h1=>?_
 (repeat' (first
 | (with_reducible first|refine callX.by (Jhh _ ?_) ?_|refine callX.by (JaK _ _) ?_|refine callX.by (JgI _ _) ?_|refine callX.by (Jhe _ _ ?_) ?_|assumption|(refine Qw hK _ ?_;clear hK K)|refine Qw ‹_› _ ?_|refine Qx ‹_› ?_|refine Qi fun K hK=>?_|refine Qj T fun K hK=>?_|refine Ql fun A B hA hB=>?_|refine Qm ?_|refine Qn ?_|refine Qr ?_)
 | ((with_reducible first|apply Qy|apply Qz|apply QA)<;>intro hb<;>try simp only[nr] at hb)
 |simp only[go_sem,↓reduceIte,reduceIte,Qa,Qh,Qb,Qc,Qd,Qe,Qf,Qg,reduceCtorEq, *]
 |with_reducible refine fun(bn:Bool) hbn=>?_))
 all_goals ((repeat clear hK);(repeat clear hA);(repeat clear hB))
 all_goals (simp_all[Je5];try(intro h9;omega))
def JfT(p s:List UInt8):Bool:=(Vy s p && (Jaj p && Jaj s)) && (decide (Yj s p=[]) || (Jbo p [47] || Vy (Yj s p) [47]))
theorem Jrk(p s:List UInt8)(hp:Jc p.length):CallR Tryz.prog 127 [.str p,.str s] (.val (.bool (JfT p s))):=by
 refine CallR.go2 (T:=T) Tryz.call127 Tryz.func127 rfl Tryz.ntmps127 (congrArg Array.toList Tryz.results127) (by decide) fun ts hn h0 h1=>?_
 (repeat' (first
 | (with_reducible first|refine callX.by (JgI _ _) ?_|refine callX.by (Jif _) ?_|refine callX.by (Jhe _ _ ?_) ?_|refine callX.by (JaK _ _) ?_|assumption|(refine Qw hK _ ?_;clear hK K)|refine Qw ‹_› _ ?_|refine Qx ‹_› ?_|refine Qi fun K hK=>?_|refine Qj T fun K hK=>?_|refine Ql fun A B hA hB=>?_|refine Qn ?_|refine Qr ?_)
 | ((with_reducible first|apply Qy|apply Qz|apply QA)<;>intro hb<;>try simp only[nr] at hb)
 |simp only[go_sem,↓reduceIte,reduceIte,Qa,Qh,Qb,Qc,Qd,Qe,Qf,Qg,reduceCtorEq, *]
 |with_reducible refine fun(bn:Bool) hbn=>?_))
 all_goals ((repeat clear hK);(repeat clear hA);(repeat clear hB))
 all_goals simp_all[JfT]
end Go.Proofs.YthjalhfmpffbjaaGreatDoor.Lg
