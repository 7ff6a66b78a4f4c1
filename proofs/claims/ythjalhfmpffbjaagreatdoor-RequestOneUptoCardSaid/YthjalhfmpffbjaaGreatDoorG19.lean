/- Parts of the proof, one behind the other. -/
import Derived.Test.YthjalhfmpffbjaaGreatDoorG18
namespace Go.Proofs.YthjalhfmpffbjaaGreatDoor.Lg
set_option maxRecDepth 100000
set_option maxHeartbeats 64000000
set_option linter.unusedVariables false
set_option linter.unusedSimpArgs false
open Go
open Nat renaming reduceEqDiff → Qa, reduceLT → Qb, reduceLeDiff → Qc, reduceAdd → Qd, reduceMul → Qe, reduceSub → Qf, reduceBEq → Qg
open String renaming reduceEq → Qh
open SpecC renaming seqW → Qi, regW → Qj, drawW → Qk, condW → Ql, block → Qm, skip → Qn, exit → Qp, ret → Qr, loopF → Qs
open NxK renaming out → Qw
open Nx renaming out → Qx
open condK renaming split → Qy
open gK renaming split_t → Qz, split_f → QA
def fin(n most:Int):Bool:=decide (0≤n∧n≤most)
theorem Jd7(n m:Int):CallR Tryz.prog 112 [.int .i64 n,.int .i64 m] (.val (.bool (fin n m))):=by
 refine Jm Tryz.call112 Tryz.func112 rfl Tryz.ntmps112 Tryz.results112 fun ts hn h0 h1=>?_
 (repeat' (first
 | (with_reducible first|assumption|(refine Qw hK _ ?_;clear hK K)|refine Qw ‹_› _ ?_|refine Qx ‹_› ?_|refine Qi fun K hK=>?_|refine Qj T fun K hK=>?_|refine Ql fun A B hA hB=>?_|refine Qn ?_|refine Qr ?_)
 |(with_reducible first|apply Qy|apply Qz|apply QA)<;>intro hb<;>try simp only[nr] at hb
 |simp only[go_sem,↓reduceIte,Qa,Qh,Qb,Qc,Qd,Qe,Qf,Qg,reduceCtorEq, *]
 |intro(bn:Bool) hbn))
 all_goals (rw[Bool.eq_iff_iff];simp_all[fin])
 all_goals omega
def Zg(ok:Bool)(e:Int):Int:=if ok then 0 else e
theorem Jri(ok:Bool)(e:Int):CallR Tryz.prog 111 [.bool ok,.int .i64 e] (.val (.int .i64 (Zg ok e))):=by
 refine Jm Tryz.call111 Tryz.func111 rfl Tryz.ntmps111 Tryz.results111 fun ts hn h0 h1=>?_
 (repeat' (first
 | (with_reducible first|assumption|(refine Qw hK _ ?_;clear hK K)|refine Qw ‹_› _ ?_|refine Qx ‹_› ?_|refine Qi fun K hK=>?_|refine Qj T fun K hK=>?_|refine Ql fun A B hA hB=>?_|refine Qn ?_|refine Qr ?_)
 |(with_reducible first|apply Qy|apply Qz|apply QA)<;>intro hb<;>try simp only[nr] at hb
 |simp only[go_sem,↓reduceIte,Qa,Qh,Qb,Qc,Qd,Qe,Qf,Qg,reduceCtorEq, *]
 |intro(bn:Bool) hbn))
 all_goals simp_all[Zg]
def Z8:List Int→Int
 | []=>0
 |e :: r=>if e=0 then Z8 r else e
theorem Jia(xs:List Int)(hl:Jc xs.length):CallR Tryz.prog 110 [.slice false (Ja xs)] (.val (.int .i64 (Z8 xs))):=by
 refine Jl Tryz.call110 Tryz.func110 rfl Tryz.ntmps110 Tryz.results110 fun ts hn h0=>?_
 (repeat' (first
 | (with_reducible first|assumption|(refine Qw hK _ ?_;clear hK K)|refine Qw ‹_› _ ?_|refine Qx ‹_› ?_|refine Qi fun K hK=>?_|refine Qj T fun K hK=>?_|refine Ql fun A B hA hB=>?_|refine Qm ?_|refine Qn ?_|refine Qp ?_|refine Qr ?_)
 |(with_reducible first|apply Qy|apply Qz|apply QA)<;>intro hb<;>try simp only[nr] at hb
 |simp only[go_sem,↓reduceIte,Qa,Qh,Qb,Qc,Qd,Qe,Qf,Qg,reduceCtorEq, *]
 |intro(bn:Bool) hbn))
 refine Qs [5,6] (fun m ts'=>∃(i:Nat),m=xs.length-i∧i≤xs.length∧Z8 xs=Z8 (xs.drop i)∧ts'.tmp 7=.int .i64 i) xs.length ?_ ?_
 ·refine⟨0,?_⟩
  simp only[go_sem,↓reduceIte,Qa,Qh,Qb,Qc,Qd,Qe,Qf,Qg,reduceCtorEq, *]
 ·rintro m A hM ts' hk ⟨i,hm,f1,f2,s1⟩
  simp only[go_sem,↓reduceIte,Qa,Qh,Qb,Qc,Qd,Qe,Qf,Qg,reduceCtorEq, *] at hk
  by_cases hlt:i<xs.length
  ·rw[List.drop_eq_getElem_cons hlt,Z8] at f2
   (repeat' (first
 | (with_reducible first|assumption|(refine Qw hK _ ?_;clear hK K)|refine Qw ‹_› _ ?_|refine Qx ‹_› ?_|refine Qi fun K hK=>?_|refine Qj T fun K hK=>?_|refine Ql fun A B hA hB=>?_|refine Qm ?_|refine Qn ?_|refine Qp ?_|refine Qr ?_)
 |(with_reducible first|apply Qy|apply Qz|apply QA)<;>intro hb<;>try simp only[nr] at hb
 |simp only[go_sem,↓reduceIte,Qa,Qh,Qb,Qc,Qd,Qe,Qf,Qg,reduceCtorEq, *,-f2]
 |intro(bn:Bool) hbn))
   all_goals ((repeat clear hK);(repeat clear hA);(repeat clear hB))
   ·rw[if_neg (by simp_all)] at f2
    simp_all
   ·rw[if_pos (by simp_all)] at f2
    (refine hM.on (xs.length-(i+1)) (by omega) (by simp only[go_sem,↓reduceIte,Qa,Qh,Qb,Qc,Qd,Qe,Qf,Qg,reduceCtorEq, *,Jh hlt hl,-f2]) ⟨i+1,rfl,by omega,f2,?_⟩;simp only[go_sem,↓reduceIte,Qa,Qh,Qb,Qc,Qd,Qe,Qf,Qg,reduceCtorEq, *,Jh hlt hl,-f2];done)
  ·rw[List.drop_eq_nil_of_le (by omega),Z8] at f2
   (repeat' (first
 | (with_reducible first|assumption|(refine Qw hK _ ?_;clear hK K)|refine Qw ‹_› _ ?_|refine Qx ‹_› ?_|refine Qi fun K hK=>?_|refine Qj T fun K hK=>?_|refine Ql fun A B hA hB=>?_|refine Qm ?_|refine Qn ?_|refine Qp ?_|refine Qr ?_)
 |(with_reducible first|apply Qy|apply Qz|apply QA)<;>intro hb<;>try simp only[nr] at hb
 |simp only[go_sem,↓reduceIte,Qa,Qh,Qb,Qc,Qd,Qe,Qf,Qg,reduceCtorEq, *]
 |intro(bn:Bool) hbn))
theorem Jh8(a b c d e f:Int):CallR Tryz.prog 110 [.slice false [.int .i64 a,.int .i64 b,.int .i64 c,.int .i64 d,.int .i64 e,.int .i64 f]] (.val (.int .i64 (Z8 [a,b,c,d,e,f]))):=Jia [a,b,c,d,e,f] (by unfold Jc;simp)
def ZK(k:Key):Bool:=fin k.kind 3 && Yy k.name
theorem JiG(Lm:Int)(k_name:List UInt8)(hl:Jc k_name.length):CallR Tryz.prog 191 [.agg [.int .i64 Lm,.str k_name]] (.val (.bool (ZK (⟨Lm,k_name⟩:Key)))):=by
 have w1:=Jcj k_name
 refine Jl Tryz.call191 Tryz.func191 rfl Tryz.ntmps191 Tryz.results191 fun ts hn h0=>?_
 (repeat' (first
 | (with_reducible first|refine callX.by (w1) ?_|refine callX.by (Jd7 _ _) ?_|refine callX.by (Jcj _) ?_|assumption|(refine Qw hK _ ?_;clear hK K)|refine Qw ‹_› _ ?_|refine Qx ‹_› ?_|refine Qi fun K hK=>?_|refine Qj T fun K hK=>?_|refine Ql fun A B hA hB=>?_|refine Qn ?_|refine Qr ?_)
 |(with_reducible first|apply Qy|apply Qz|apply QA)<;>intro hb<;>try simp only[nr] at hb
 |simp only[go_sem,↓reduceIte,Qa,Qh,Qb,Qc,Qd,Qe,Qf,Qg,reduceCtorEq, *,-w1]
 |intro(bn:Bool) hbn))
 all_goals simp_all[ZK]
theorem Jeh(Lm:Int)(k_name:List UInt8)(hl:Jc k_name.length):CallR Tryz.prog 155 [.agg [.int .i64 Lm,.str k_name]] (.val (.bool (!ZK (⟨Lm,k_name⟩:Key)))):=by
 have w1:=JiG Lm k_name hl
 refine Jl Tryz.call155 Tryz.func155 rfl Tryz.ntmps155 Tryz.results155 fun ts hn h0=>?_
 (repeat' (first
 | (with_reducible first|refine callX.by (w1) ?_|refine callX.by (JiG _ _ ?_) ?_|assumption|(refine Qw hK _ ?_;clear hK K)|refine Qw ‹_› _ ?_|refine Qx ‹_› ?_|refine Qi fun K hK=>?_|refine Qj T fun K hK=>?_|refine Ql fun A B hA hB=>?_|refine Qn ?_|refine Qr ?_)
 |(with_reducible first|apply Qy|apply Qz|apply QA)<;>intro hb<;>try simp only[nr] at hb
 |simp only[go_sem,↓reduceIte,Qa,Qh,Qb,Qc,Qd,Qe,Qf,Qg,reduceCtorEq, *,-w1]
 |intro(bn:Bool) hbn))
theorem Jik(LE:Int)(m_k_name:List UInt8)(L5:Int):CallR Tryz.prog 151 [.agg [.int .i64 LE,.str m_k_name,.int .i64 L5]] (.val (.bool (!fin L5 2147483647))):=by
 refine Jl Tryz.call151 Tryz.func151 rfl Tryz.ntmps151 Tryz.results151 fun ts hn h0=>?_
 (repeat' (first
 | (with_reducible first|refine callX.by (Jd7 _ _) ?_|assumption|(refine Qw hK _ ?_;clear hK K)|refine Qw ‹_› _ ?_|refine Qx ‹_› ?_|refine Qi fun K hK=>?_|refine Qj T fun K hK=>?_|refine Ql fun A B hA hB=>?_|refine Qn ?_|refine Qr ?_)
 |(with_reducible first|apply Qy|apply Qz|apply QA)<;>intro hb<;>try simp only[nr] at hb
 |simp only[go_sem,↓reduceIte,Qa,Qh,Qb,Qc,Qd,Qe,Qf,Qg,reduceCtorEq, *]
 |intro(bn:Bool) hbn))
theorem Jid(LE:Int)(m_k_name:List UInt8)(L5:Int)(hl:Jc m_k_name.length):CallR Tryz.prog 156 [.agg [.int .i64 LE,.str m_k_name,.int .i64 L5]] (.val (.bool (!ZK ⟨LE,m_k_name⟩))):=by
 have w1:=Jeh LE m_k_name hl
 refine Jl Tryz.call156 Tryz.func156 rfl Tryz.ntmps156 Tryz.results156 fun ts hn h0=>?_
 (repeat' (first
 | (with_reducible first|refine callX.by (w1) ?_|assumption|(refine Qw hK _ ?_;clear hK K)|refine Qw ‹_› _ ?_|refine Qx ‹_› ?_|refine Qi fun K hK=>?_|refine Qj T fun K hK=>?_|refine Ql fun A B hA hB=>?_|refine Qn ?_|refine Qr ?_)
 |(with_reducible first|apply Qy|apply Qz|apply QA)<;>intro hb<;>try simp only[nr] at hb
 |simp only[go_sem,↓reduceIte,Qa,Qh,Qb,Qc,Qd,Qe,Qf,Qg,reduceCtorEq, *,-w1]
 |intro(bn:Bool) hbn))
theorem JnN(Ln:Int)(Lp:List UInt8)(Lx Lq:Int)(LA:List UInt8)(r_rules:List Rule)(r_hosts:List Int)(KH Kv:Int)(Kw Ku KJ:Int)(f_adds:List Res)(f_gone:List Key)(K6:Int)(f_have:List Mark)(f_held:List Key):CallR Tryz.prog 159 [.agg [.int .i64 Ln,.str Lp,.int .i64 Lx,.int .i64 Lq,.str LA,.slice false (Ja r_rules),.slice false (Ja r_hosts)],.ro [.int .i64 KH,.int .i64 Kv,.int .i64 Kw,.int .i64 Ku,.int .i64 KJ,.slice false (Ja f_adds),.slice false (Ja f_gone),.int .i64 K6,.slice false (Ja f_have),.slice false (Ja f_held)]] (.val (.bool (!decide (Ln=Kw)))):=by
 refine Jm Tryz.call159 Tryz.func159 rfl Tryz.ntmps159 Tryz.results159 fun ts hn h0 h1=>?_
 (repeat' (first
 | (with_reducible first|assumption|(refine Qw hK _ ?_;clear hK K)|refine Qw ‹_› _ ?_|refine Qx ‹_› ?_|refine Qi fun K hK=>?_|refine Qj T fun K hK=>?_|refine Ql fun A B hA hB=>?_|refine Qn ?_|refine Qr ?_)
 |(with_reducible first|apply Qy|apply Qz|apply QA)<;>intro hb<;>try simp only[nr] at hb
 |simp only[go_sem,↓reduceIte,Qa,Qh,Qb,Qc,Qd,Qe,Qf,Qg,reduceCtorEq, *]
 |intro(bn:Bool) hbn))
theorem JnO(Ln:Int)(Lp:List UInt8)(KH Kv:Int)(Kw Ku KJ:Int)(f_adds:List Res)(f_gone:List Key)(K6:Int)(f_have:List Mark)(f_held:List Key):CallR Tryz.prog 160 [.agg [.int .i64 Ln,.str Lp],.ro [.int .i64 KH,.int .i64 Kv,.int .i64 Kw,.int .i64 Ku,.int .i64 KJ,.slice false (Ja f_adds),.slice false (Ja f_gone),.int .i64 K6,.slice false (Ja f_have),.slice false (Ja f_held)]] (.val (.bool (!decide (Ln=Kw)))):=by
 refine Jm Tryz.call160 Tryz.func160 rfl Tryz.ntmps160 Tryz.results160 fun ts hn h0 h1=>?_
 (repeat' (first
 | (with_reducible first|assumption|(refine Qw hK _ ?_;clear hK K)|refine Qw ‹_› _ ?_|refine Qx ‹_› ?_|refine Qi fun K hK=>?_|refine Qj T fun K hK=>?_|refine Ql fun A B hA hB=>?_|refine Qn ?_|refine Qr ?_)
 |(with_reducible first|apply Qy|apply Qz|apply QA)<;>intro hb<;>try simp only[nr] at hb
 |simp only[go_sem,↓reduceIte,Qa,Qh,Qb,Qc,Qd,Qe,Qf,Qg,reduceCtorEq, *]
 |intro(bn:Bool) hbn))
theorem Jhq(KH Kv:Int)(Kw Ku KJ:Int)(f_adds:List Res)(f_gone:List Key)(K6:Int)(f_have:List Mark)(f_held:List Key):Caps [.ro [.int .i64 KH,.int .i64 Kv,.int .i64 Kw,.int .i64 Ku,.int .i64 KJ,.slice false (Ja f_adds),.slice false (Ja f_gone),.int .i64 K6,.slice false (Ja f_have),.slice false (Ja f_held)]]:=⟨by simp only[go_sem,Bool.and_self],by simp only[go_sem]⟩
def Jbb(f:Frame):Bool:=!decide (64<max (max (max (f.adds.length:Int) f.gone.length) f.have'.length) f.held.length) && !(f.have'.any fun m=>!fin m.ver 2147483647) && fin f.epoch 2147483647 && fin f.nonce 2147483647 && fin f.turn 2147483647 && fin f.err 15
theorem Jil(KH Kv:Int)(Kw Ku KJ:Int)(f_adds:List Res)(f_gone:List Key)(K6:Int)(f_have:List Mark)(f_held:List Key)(hs:V5 (⟨KH,Kv,Kw,Ku,KJ,f_adds,f_gone,K6,f_have,f_held⟩:Frame)):CallR Tryz.prog 113 [.agg [.int .i64 KH,.int .i64 Kv,.int .i64 Kw,.int .i64 Ku,.int .i64 KJ,.slice false (Ja f_adds),.slice false (Ja f_gone),.int .i64 K6,.slice false (Ja f_have),.slice false (Ja f_held)]] (.val (.bool (Jbb (⟨KH,Kv,Kw,Ku,KJ,f_adds,f_gone,K6,f_have,f_held⟩:Frame)))):=by
 have hl:=hs.2.2.2.2.1
 have w1:=Jd1 151 [] Caps.nil (fun m=>!fin m.ver 2147483647) f_have (fun x _=>Jik x.k.kind x.k.name x.ver) hl
 clear hs hl
 refine Jl Tryz.call113 Tryz.func113 rfl Tryz.ntmps113 Tryz.results113 fun ts hn h0=>?_
 (repeat' (first
 | (with_reducible first|refine callX.by (w1) ?_|refine callX.by (Jd1 _ _ ?_ _ _ ?_ ?_) ?_|refine callX.by (Jik _ _ _) ?_|refine callX.by (Jd7 _ _) ?_|assumption|(refine Qw hK _ ?_;clear hK K)|refine Qw ‹_› _ ?_|refine Qx ‹_› ?_|refine Qi fun K hK=>?_|refine Qj T fun K hK=>?_|refine Ql fun A B hA hB=>?_|refine Qn ?_|refine Qr ?_)
 |(with_reducible first|apply Qy|apply Qz|apply QA)<;>intro hb<;>try simp only[nr] at hb
 |simp only[go_sem,↓reduceIte,Qa,Qh,Qb,Qc,Qd,Qe,Qf,Qg,reduceCtorEq, *,-w1]
 |intro(bn:Bool) hbn))
 all_goals simp_all[Jbb]
 all_goals grind
def Jba(f:Frame):Bool:=!(f.gone.any fun k=>!ZK k) && !(f.held.any fun k=>!ZK k) && !(f.have'.any fun m=>!ZK m.k)
theorem Jie(KH Kv:Int)(Kw Ku KJ:Int)(f_adds:List Res)(f_gone:List Key)(K6:Int)(f_have:List Mark)(f_held:List Key)(hs:V5 (⟨KH,Kv,Kw,Ku,KJ,f_adds,f_gone,K6,f_have,f_held⟩:Frame)):CallR Tryz.prog 115 [.agg [.int .i64 KH,.int .i64 Kv,.int .i64 Kw,.int .i64 Ku,.int .i64 KJ,.slice false (Ja f_adds),.slice false (Ja f_gone),.int .i64 K6,.slice false (Ja f_have),.slice false (Ja f_held)]] (.val (.bool (Jba (⟨KH,Kv,Kw,Ku,KJ,f_adds,f_gone,K6,f_have,f_held⟩:Frame)))):=by
 obtain⟨-,-,g1,g2,g3,g4,g5,g6⟩:=hs
 have w1:=Jas 155 [] Caps.nil (fun k=>!ZK k) f_gone (fun x hx=>Jeh x.kind x.name (g2 x hx)) g1
 have w2:=Jas 155 [] Caps.nil (fun k=>!ZK k) f_held (fun x hx=>Jeh x.kind x.name (g6 x hx)) g5
 have w3:=Jd1 156 [] Caps.nil (fun m=>!ZK m.k) f_have (fun x hx=>Jid x.k.kind x.k.name x.ver (g4 x hx)) g3
 clear g1 g2 g3 g4 g5 g6
 refine Jl Tryz.call115 Tryz.func115 rfl Tryz.ntmps115 Tryz.results115 fun ts hn h0=>?_
 (repeat' (first
 | (with_reducible first|refine callX.by (w1) ?_|refine callX.by (w2) ?_|refine callX.by (w3) ?_|refine callX.by (Jas _ _ ?_ _ _ ?_ ?_) ?_|refine callX.by (Jeh _ _ ?_) ?_|refine callX.by (Jd1 _ _ ?_ _ _ ?_ ?_) ?_|refine callX.by (Jid _ _ _ ?_) ?_|assumption|(refine Qw hK _ ?_;clear hK K)|refine Qw ‹_› _ ?_|refine Qx ‹_› ?_|refine Qi fun K hK=>?_|refine Qj T fun K hK=>?_|refine Ql fun A B hA hB=>?_|refine Qn ?_|refine Qr ?_)
 |(with_reducible first|apply Qy|apply Qz|apply QA)<;>intro hb<;>try simp only[nr] at hb
 |simp only[go_sem,↓reduceIte,Qa,Qh,Qb,Qc,Qd,Qe,Qf,Qg,reduceCtorEq, *,-w1,-w2,-w3]
 |intro(bn:Bool) hbn))
 all_goals simp_all[Jba]
 all_goals grind
def Jb3(f:Frame):Bool:=!(f.adds.any fun r=>!decide (r.kind=f.kind)) && !(f.gone.any fun k=>!decide (k.kind=f.kind))
theorem Jib(KH Kv:Int)(Kw Ku KJ:Int)(f_adds:List Res)(f_gone:List Key)(K6:Int)(f_have:List Mark)(f_held:List Key)(hs:V5 (⟨KH,Kv,Kw,Ku,KJ,f_adds,f_gone,K6,f_have,f_held⟩:Frame)):CallR Tryz.prog 117 [.agg [.int .i64 KH,.int .i64 Kv,.int .i64 Kw,.int .i64 Ku,.int .i64 KJ,.slice false (Ja f_adds),.slice false (Ja f_gone),.int .i64 K6,.slice false (Ja f_have),.slice false (Ja f_held)]] (.val (.bool (Jb3 (⟨KH,Kv,Kw,Ku,KJ,f_adds,f_gone,K6,f_have,f_held⟩:Frame)))):=by
 obtain⟨g1,-,g2,-⟩:=hs
 have w1:=JcM 159 [.ro [.int .i64 KH,.int .i64 Kv,.int .i64 Kw,.int .i64 Ku,.int .i64 KJ,.slice false (Ja f_adds),.slice false (Ja f_gone),.int .i64 K6,.slice false (Ja f_have),.slice false (Ja f_held)]] (Jhq KH Kv Kw Ku KJ f_adds f_gone K6 f_have f_held) (fun r=>!decide (r.kind=Kw)) f_adds (fun x _=>JnN x.kind x.name x.ver x.port x.to' x.rules' x.hosts KH Kv Kw Ku KJ f_adds f_gone K6 f_have f_held) g1
 have w2:=Jas 160 [.ro [.int .i64 KH,.int .i64 Kv,.int .i64 Kw,.int .i64 Ku,.int .i64 KJ,.slice false (Ja f_adds),.slice false (Ja f_gone),.int .i64 K6,.slice false (Ja f_have),.slice false (Ja f_held)]] (Jhq KH Kv Kw Ku KJ f_adds f_gone K6 f_have f_held) (fun r=>!decide (r.kind=Kw)) f_gone (fun x _=>JnO x.kind x.name KH Kv Kw Ku KJ f_adds f_gone K6 f_have f_held) g2
 clear g1 g2
 refine Jl Tryz.call117 Tryz.func117 rfl Tryz.ntmps117 Tryz.results117 fun ts hn h0=>?_
 (repeat' (first
 | (with_reducible first|refine callX.by (w1) ?_|refine callX.by (w2) ?_|assumption|(refine Qw hK _ ?_;clear hK K)|refine Qw ‹_› _ ?_|refine Qx ‹_› ?_|refine Qi fun K hK=>?_|refine Qj T fun K hK=>?_|refine Ql fun A B hA hB=>?_|refine Qn ?_|refine Qr ?_)
 |(with_reducible first|apply Qy|apply Qz|apply QA)<;>intro hb<;>try simp only[nr] at hb
 |simp only[go_sem,↓reduceIte,Qa,Qh,Qb,Qc,Qd,Qe,Qf,Qg,reduceCtorEq, *,-w1,-w2]
 |intro(bn:Bool) hbn))
 all_goals simp_all[Jb3]
 all_goals grind
def ZE:List Res→Int
 | []=>0
 |r :: l=>if V2 r=0 then ZE l else V2 r
theorem Jh1(KH Kv:Int)(Kw Ku KJ:Int)(f_adds:List Res)(f_gone:List Key)(K6:Int)(f_have:List Mark)(f_held:List Key)(hs:V5 (⟨KH,Kv,Kw,Ku,KJ,f_adds,f_gone,K6,f_have,f_held⟩:Frame)):CallR Tryz.prog 116 [.agg [.int .i64 KH,.int .i64 Kv,.int .i64 Kw,.int .i64 Ku,.int .i64 KJ,.slice false (Ja f_adds),.slice false (Ja f_gone),.int .i64 K6,.slice false (Ja f_have),.slice false (Ja f_held)]] (.val (.int .i64 (ZE f_adds))):=by
 obtain⟨hl,g1,-⟩:=hs
 refine Jl Tryz.call116 Tryz.func116 rfl Tryz.ntmps116 Tryz.results116 fun ts hn h0=>?_
 (repeat' (first
 | (with_reducible first|refine callX.by (Vz _ _ _ _ _ _ _ ?_ ?_ ?_) ?_|refine callX.by VJ ?_|assumption|(refine Qw hK _ ?_;clear hK K)|refine Qw ‹_› _ ?_|refine Qx ‹_› ?_|refine Qi fun K hK=>?_|refine Qj T fun K hK=>?_|refine Ql fun A B hA hB=>?_|refine Qm ?_|refine Qn ?_|refine Qp ?_|refine Qr ?_)
 |(with_reducible first|apply Qy|apply Qz|apply QA)<;>intro hb<;>try simp only[nr] at hb
 |simp only[go_sem,↓reduceIte,Qa,Qh,Qb,Qc,Qd,Qe,Qf,Qg,reduceCtorEq, *,-g1]
 |intro(bn:Bool) hbn))
 refine Qs [7,8] (fun m ts'=>∃(i:Nat),m=f_adds.length-i∧i≤f_adds.length∧ZE f_adds=ZE (f_adds.drop i)∧ts'.tmp 9=.int .i64 i) f_adds.length ?_ ?_
 ·refine⟨0,?_⟩
  simp only[go_sem,↓reduceIte,Qa,Qh,Qb,Qc,Qd,Qe,Qf,Qg,reduceCtorEq, *,-g1]
 ·rintro m A hM ts' hk ⟨i,hm,f1,f2,s1⟩
  simp only[go_sem,↓reduceIte,Qa,Qh,Qb,Qc,Qd,Qe,Qf,Qg,reduceCtorEq, *] at hk
  by_cases hlt:i<f_adds.length
  ·rw[List.drop_eq_getElem_cons hlt,ZE] at f2
   have hg:=g1 _ (List.getElem_mem hlt)
   obtain⟨k1,k2,k3,k4,k5⟩:=hg
   have w1:=Vz f_adds[i].kind f_adds[i].name f_adds[i].ver f_adds[i].port f_adds[i].to' f_adds[i].rules' f_adds[i].hosts
   (repeat' (first
 | (with_reducible first|refine callX.by (Vz _ _ _ _ _ _ _ ?_ ?_ ?_) ?_|refine callX.by VJ ?_|assumption|(refine Qw hK _ ?_;clear hK K)|refine Qw ‹_› _ ?_|refine Qx ‹_› ?_|refine Qi fun K hK=>?_|refine Qj T fun K hK=>?_|refine Ql fun A B hA hB=>?_|refine Qm ?_|refine Qn ?_|refine Qp ?_|refine Qr ?_)
 |(with_reducible first|apply Qy|apply Qz|apply QA)<;>intro hb<;>try simp only[nr] at hb
 |simp only[go_sem,↓reduceIte,Qa,Qh,Qb,Qc,Qd,Qe,Qf,Qg,reduceCtorEq, *,-f2,-g1,-k4]
 |intro(bn:Bool) hbn))
   all_goals ((repeat clear hK);(repeat clear hA);(repeat clear hB))
   all_goals first
    | (rw[if_neg (by simpa using hb)] at f2;exact f2.symm)
    | (rw[if_pos (by simpa using hb)] at f2;(refine hM.on (f_adds.length-(i+1)) (by omega) (by simp only[go_sem,↓reduceIte,Qa,Qh,Qb,Qc,Qd,Qe,Qf,Qg,reduceCtorEq, *,Jh hlt hl,-f2,-g1,-k4]) ⟨i+1,rfl,by omega,f2,?_⟩;simp only[go_sem,↓reduceIte,Qa,Qh,Qb,Qc,Qd,Qe,Qf,Qg,reduceCtorEq, *,Jh hlt hl,-f2,-g1,-k4];done))
  ·rw[List.drop_eq_nil_of_le (by omega),ZE] at f2
   (repeat' (first
 | (with_reducible first|refine callX.by (Vz _ _ _ _ _ _ _ ?_ ?_ ?_) ?_|refine callX.by VJ ?_|assumption|(refine Qw hK _ ?_;clear hK K)|refine Qw ‹_› _ ?_|refine Qx ‹_› ?_|refine Qi fun K hK=>?_|refine Qj T fun K hK=>?_|refine Ql fun A B hA hB=>?_|refine Qm ?_|refine Qn ?_|refine Qp ?_|refine Qr ?_)
 |(with_reducible first|apply Qy|apply Qz|apply QA)<;>intro hb<;>try simp only[nr] at hb
 |simp only[go_sem,↓reduceIte,Qa,Qh,Qb,Qc,Qd,Qe,Qf,Qg,reduceCtorEq, *,-g1]
 |intro(bn:Bool) hbn))
def JaY(f:Frame):Frame :=
 if f.type=0 then { f with epoch:=0,have':=[] }
 else if f.type=1 then { f with epoch:=0,kind:=0,nonce:=0,adds:=[],gone:=[] }
 else if f.type=2 then { f with epoch:=0,kind:=0,nonce:=0,err:=0,turn:=0,held:=[] }
 else if f.type=3 then { f with epoch:=0,turn:=0,held:=[] }
 else { f with epoch:=0 }
theorem JqL(f:Frame)(h:V5 f):V5 (JaY f):=by
 unfold JaY
 obtain⟨g1,g2,g3,g4,g5,g6,g7,g8⟩:=h
 repeat' split
 all_goals (refine⟨?_,?_,?_,?_,?_,?_,?_,?_⟩<;>first|assumption|(unfold Jc;simp;done)|simp)
theorem JnG(KH Kv:Int)(Kw Ku KJ:Int)(f_adds:List Res)(f_gone:List Key)(K6:Int)(f_have:List Mark)(f_held:List Key):CallR Tryz.prog 153 [.agg [.int .i64 KH,.int .i64 Kv,.int .i64 Kw,.int .i64 Ku,.int .i64 KJ,.slice false (Ja f_adds),.slice false (Ja f_gone),.int .i64 K6,.slice false (Ja f_have),.slice false (Ja f_held)]] (.val (Dat.av (JaY (⟨KH,Kv,Kw,Ku,KJ,f_adds,f_gone,K6,f_have,f_held⟩:Frame)))):=by
 refine Jl Tryz.call153 Tryz.func153 rfl Tryz.ntmps153 Tryz.results153 fun ts hn h0=>?_
 (repeat' (first
 | (with_reducible first|assumption|(refine Qw hK _ ?_;clear hK K)|refine Qw ‹_› _ ?_|refine Qx ‹_› ?_|refine Qi fun K hK=>?_|refine Qj T fun K hK=>?_|refine Ql fun A B hA hB=>?_|refine Qm ?_|refine Qn ?_|refine Qr ?_)
 |(with_reducible first|apply Qy|apply Qz|apply QA)<;>intro hb<;>try simp only[nr] at hb
 |simp only[go_sem,↓reduceIte,Qa,Qh,Qb,Qc,Qd,Qe,Qf,Qg,reduceCtorEq, *]
 |intro(bn:Bool) hbn))
 all_goals ((repeat clear hK);(repeat clear hA);(repeat clear hB))
 all_goals simp_all[JaY,J8]
theorem JnY(KH Kv:Int)(Kw Ku KJ:Int)(f_adds:List Res)(f_gone:List Key)(K6:Int)(f_have:List Mark)(f_held:List Key)(Mb L3:Int)(L9 L4 Ma:Int)(LX:List Res)(LY:List Key)(Me:Int)(LZ:List Mark)(L0:List Key)(hs:V5 (⟨KH,Kv,Kw,Ku,KJ,f_adds,f_gone,K6,f_have,f_held⟩:Frame)):CallR Tryz.prog 152 [.agg [.int .i64 KH,.int .i64 Kv,.int .i64 Kw,.int .i64 Ku,.int .i64 KJ,.slice false (Ja f_adds),.slice false (Ja f_gone),.int .i64 K6,.slice false (Ja f_have),.slice false (Ja f_held)],.agg [.int .i64 Mb,.int .i64 L3,.int .i64 L9,.int .i64 L4,.int .i64 Ma,.slice false (Ja LX),.slice false (Ja LY),.int .i64 Me,.slice false (Ja LZ),.slice false (Ja L0)]] (.val (.bool (decide ((⟨KH,Kv,Kw,Ku,KJ,f_adds,f_gone,K6,f_have,f_held⟩:Frame)=(⟨Mb,L3,L9,L4,Ma,LX,LY,Me,LZ,L0⟩:Frame))))):=by
 obtain⟨g1,g2,g3,g4,g5,g6,g7,g8⟩:=hs
 have w1:=JhX 107 [] Caps.nil f_adds LX (fun x hx y=>Jj7 x.kind x.name x.ver x.port x.to' x.rules' x.hosts y.kind y.name y.ver y.port y.to' y.rules' y.hosts (g2 x hx).2.2.2.2 (g2 x hx).2.2.1 (g2 x hx).2.2.2.1) g1
 have w2:=Ja4 f_gone LY g3
 have w3:=JnC f_have LZ g5
 have w4:=Ja4 f_held L0 g7
 clear g1 g2 g3 g4 g5 g6 g7 g8
 refine Jm Tryz.call152 Tryz.func152 rfl Tryz.ntmps152 Tryz.results152 fun ts hn h0 h1=>?_
 (repeat' (first
 | (with_reducible first|refine callX.by (w1) ?_|refine callX.by (w2) ?_|refine callX.by (w3) ?_|refine callX.by (w4) ?_|assumption|(refine Qw hK _ ?_;clear hK K)|refine Qw ‹_› _ ?_|refine Qx ‹_› ?_|refine Qi fun K hK=>?_|refine Qj T fun K hK=>?_|refine Ql fun A B hA hB=>?_|refine Qn ?_|refine Qr ?_)
 |(with_reducible first|apply Qy|apply Qz|apply QA)<;>intro hb<;>try simp only[nr] at hb
 |simp only[go_sem,↓reduceIte,Qa,Qh,Qb,Qc,Qd,Qe,Qf,Qg,reduceCtorEq, *,-w1,-w2,-w3,-w4]
 |intro(bn:Bool) hbn))
 all_goals ((repeat clear hK);(repeat clear hA);(repeat clear hB))
 all_goals (rw[Bool.eq_iff_iff];simp_all[JnF])
def JfD(t:Int):Frame:=⟨t,0,0,0,0,[],[],0,[],[]⟩
def Jb4(f:Frame):Bool:=decide (JaY f=JfD f.type)
theorem Jij(KH Kv:Int)(Kw Ku KJ:Int)(f_adds:List Res)(f_gone:List Key)(K6:Int)(f_have:List Mark)(f_held:List Key)(hs:V5 (⟨KH,Kv,Kw,Ku,KJ,f_adds,f_gone,K6,f_have,f_held⟩:Frame)):CallR Tryz.prog 114 [.agg [.int .i64 KH,.int .i64 Kv,.int .i64 Kw,.int .i64 Ku,.int .i64 KJ,.slice false (Ja f_adds),.slice false (Ja f_gone),.int .i64 K6,.slice false (Ja f_have),.slice false (Ja f_held)]] (.val (.bool (Jb4 (⟨KH,Kv,Kw,Ku,KJ,f_adds,f_gone,K6,f_have,f_held⟩:Frame)))):=by
 have w1:=JnG KH Kv Kw Ku KJ f_adds f_gone K6 f_have f_held
 have hb:=JqL (⟨KH,Kv,Kw,Ku,KJ,f_adds,f_gone,K6,f_have,f_held⟩:Frame) hs
 have e:Jb4 (⟨KH,Kv,Kw,Ku,KJ,f_adds,f_gone,K6,f_have,f_held⟩:Frame)=decide (JaY (⟨KH,Kv,Kw,Ku,KJ,f_adds,f_gone,K6,f_have,f_held⟩:Frame)=JfD KH):=rfl
 generalize JaY (⟨KH,Kv,Kw,Ku,KJ,f_adds,f_gone,K6,f_have,f_held⟩:Frame)=b at w1 hb e
 have w2:=JnY b.type b.epoch b.kind b.nonce b.turn b.adds b.gone b.err b.have' b.held KH 0 0 0 0 [] [] 0 [] [] hb
 have w2:CallR Tryz.prog 152 [.agg [.int .i64 b.type,.int .i64 b.epoch,.int .i64 b.kind,.int .i64 b.nonce,.int .i64 b.turn,.slice false (Ja b.adds),.slice false (Ja b.gone),.int .i64 b.err,.slice false (Ja b.have'),.slice false (Ja b.held)],.agg [.int .i64 KH,.int .i64 0,.int .i64 0,.int .i64 0,.int .i64 0,.slice false [],.slice false [],.int .i64 0,.slice false [],.slice false []]] (.val (.bool (decide (b=JfD KH)))):=w2
 clear hb hs
 refine Jl Tryz.call114 Tryz.func114 rfl Tryz.ntmps114 Tryz.results114 fun ts hn h0=>?_
 (repeat' (first
 | (with_reducible first|refine callX.by (w1) ?_|refine callX.by (w2) ?_|assumption|(refine Qw hK _ ?_;clear hK K)|refine Qw ‹_› _ ?_|refine Qx ‹_› ?_|refine Qi fun K hK=>?_|refine Qj T fun K hK=>?_|refine Qk (id:=1) T mixed Wd9 (by kernel_rfl) fun K hK=>?_|refine Ql fun A B hA hB=>?_|refine Qn ?_|refine Qr ?_)
 |(with_reducible first|apply Qy|apply Qz|apply QA)<;>intro hb<;>try simp only[nr] at hb
 |simp only[go_sem,↓reduceIte,Qa,Qh,Qb,Qc,Qd,Qe,Qf,Qg,reduceCtorEq, *,-w1,-w2]
 |intro(bn:Bool) hbn))
def YU(f:Frame):Int:=Z8 [Zg (fin f.type 3 && fin f.kind 3) 4,Zg (Jbb f) 3,Zg (Jb4 f) 2,Zg (Jba f) 5,ZE f.adds,Zg (Jb3 f) 2]
theorem Jih(KH Kv:Int)(Kw Ku KJ:Int)(f_adds:List Res)(f_gone:List Key)(K6:Int)(f_have:List Mark)(f_held:List Key)(hs:V5 (⟨KH,Kv,Kw,Ku,KJ,f_adds,f_gone,K6,f_have,f_held⟩:Frame)):CallR Tryz.prog 79 [.agg [.int .i64 KH,.int .i64 Kv,.int .i64 Kw,.int .i64 Ku,.int .i64 KJ,.slice false (Ja f_adds),.slice false (Ja f_gone),.int .i64 K6,.slice false (Ja f_have),.slice false (Ja f_held)]] (.val (.int .i64 (YU (⟨KH,Kv,Kw,Ku,KJ,f_adds,f_gone,K6,f_have,f_held⟩:Frame)))):=by
 have w1:=Jil KH Kv Kw Ku KJ f_adds f_gone K6 f_have f_held hs
 have w2:=Jij KH Kv Kw Ku KJ f_adds f_gone K6 f_have f_held hs
 have w3:=Jie KH Kv Kw Ku KJ f_adds f_gone K6 f_have f_held hs
 have w4:=Jh1 KH Kv Kw Ku KJ f_adds f_gone K6 f_have f_held hs
 have w5:=Jib KH Kv Kw Ku KJ f_adds f_gone K6 f_have f_held hs
 have w6:=fun a=>Jh8 a (Zg (Jbb (⟨KH,Kv,Kw,Ku,KJ,f_adds,f_gone,K6,f_have,f_held⟩:Frame)) 3) (Zg (Jb4 (⟨KH,Kv,Kw,Ku,KJ,f_adds,f_gone,K6,f_have,f_held⟩:Frame)) 2) (Zg (Jba (⟨KH,Kv,Kw,Ku,KJ,f_adds,f_gone,K6,f_have,f_held⟩:Frame)) 5) (ZE f_adds) (Zg (Jb3 (⟨KH,Kv,Kw,Ku,KJ,f_adds,f_gone,K6,f_have,f_held⟩:Frame)) 2)
 clear hs
 refine CallR.go1 (T:=T.withF [26]) Tryz.call79 Tryz.func79 rfl Tryz.ntmps79 (congrArg Array.toList Tryz.results79) (by decide) fun ts hn h0=>?_
 (repeat' (first
 | (with_reducible first|refine callX.by (w1) ?_|refine callX.by (w2) ?_|refine callX.by (w3) ?_|refine callX.by (w4) ?_|refine callX.by (w5) ?_|refine callX.by (w6) ?_|refine callX.by (Jd7 _ _) ?_|refine callX.by (Jri _ _) ?_|refine callX.by (Jil _ _ _ _ _ _ _ _ _ _ ?_) ?_|refine callX.by (Jij _ _ _ _ _ _ _ _ _ _ ?_) ?_|refine callX.by (Jie _ _ _ _ _ _ _ _ _ _ ?_) ?_|refine callX.by (Jh1 _ _ _ _ _ _ _ _ _ _ ?_) ?_|refine callX.by (Jib _ _ _ _ _ _ _ _ _ _ ?_) ?_|refine callX.by (Jia _ ?_) ?_|refine callX.by (Jh8 _ _ _ _ _ _) ?_|assumption|(refine Qw hK _ ?_;clear hK K)|refine Qw ‹_› _ ?_|refine Qx ‹_› ?_|refine Qi fun K hK=>?_|refine Qj (T.withF [26]) fun K hK=>?_|refine Qk (id:=1) (T.withF [26]) mixed [([3],[6,7,8,9,10,11,12,13,14,15,16,17,18,19,20,21,22,23,24,25,26,27]),([4],[7,8,9,10,11,12,13,14,15,16,17,18,19,20,21,22,23,24,25,26,27]),([5],[11,12,13,14,15,16,17,18,19,20,21,22,23,24,25,26,27]),([6],[3,12,13,14,15,16,17,18,19,20,21,22,23,24,25,26,27]),([7],[3,4,10,11,12,13,14,15,16,17,18,19,20,21,22,23,24,25,26,27]),([8],[3,4,12,13,14,15,16,17,18,19,20,21,22,23,24,25,26,27]),([9],[3,4,12,14,15,16,17,18,19,20,21,22,23,24,25,27]),([10],[3,4,7,12,14,15,16,17,18,19,20,21,22,23,24,25,27]),([11],[3,4,5,7,12,15,16,17,18,19,20,21,22,23,24,25]),([12],[3,4,5,6,7,8,9,10,11,15,16,17,18,19,20,21,22,23,24,25,26,27]),([13],[3,4,5,6,7,8,15,17,18,19,20,21,22,23,24,25,27]),([14],[3,4,5,6,7,8,9,10,15,18,19,20,21,22,23,24,25]),([15],[3,4,5,6,7,8,9,10,11,12,13,14,18,19,20,21,22,23,24,25,26,27]),([16],[3,4,5,6,7,8,9,10,11,12,18,20,21,22,23,24,25,27]),([17],[3,4,5,6,7,8,9,10,11,12,13,18,21,22,23,24,25]),([18],[3,4,5,6,7,8,9,10,11,12,13,14,15,16,17,21,22,23,24,25,26,27]),([19],[3,4,5,6,7,8,9,10,11,12,13,14,15,21,23,24,25,27]),([20],[3,4,5,6,7,8,9,10,11,12,13,14,15,16,21,23,25]),([21],[3,4,5,6,7,8,9,10,11,12,13,14,15,16,17,18,19,20,23,25,27]),([22],[3,4,5,6,7,8,9,10,11,12,13,14,15,16,17,18,23]),([23],[3,4,5,6,7,8,9,10,11,12,13,14,15,16,17,18,19,20,21,22,26,27]),([24],[3,4,5,6,7,8,9,10,11,12,13,14,15,16,17,18,19]),([25],[3,4,5,6,7,8,9,10,11,12,13,14,15,16,17,18,19,20,21]),([26],[3,4,5,6,7,8,12,15,18,23]),([27],[3,4,5,6,7,8,9,10,12,13,15,16,18,19,21,23])] (by kernel_rfl) fun K hK=>?_|refine Ql fun A B hA hB=>?_|refine Qn ?_|refine Qr ?_)
 |(with_reducible first|apply Qy|apply Qz|apply QA)<;>intro hb<;>try simp only[nr] at hb
 |simp only[go_sem,↓reduceIte,Qa,Qh,Qb,Qc,Qd,Qe,Qf,Qg,reduceCtorEq, *,-w1,-w2,-w3,-w4,-w5,-w6]
 |intro(bn:Bool) hbn))
 all_goals simp only[YU,hb,Bool.true_and,Bool.false_and]
theorem Jnu(s p:List UInt8):CallR Tryz.prog 214 [.str s,.str p] (.val (.tup [.str (YD s p),.bool (VM s p)])):=by
 by_cases hp:VM s p=true
 ·have hle:p.length≤s.length:=by
   have:=hp
   simp only[VM,Bool.and_eq_true,decide_eq_true_eq] at this
   exact this.1
  have ht:(s.drop p.length).take (s.length-p.length)=s.drop p.length:=List.take_of_length_le (by simp)
  refine Jm Tryz.call214 Tryz.func214 rfl Tryz.ntmps214 Tryz.results214 fun ts hn h0 h1=>?_
  (repeat' (first
 | (with_reducible first|refine callX.by (JcV _ _) ?_|assumption|(refine Qw hK _ ?_;clear hK K)|refine Qw ‹_› _ ?_|refine Qx ‹_› ?_|refine Qi fun K hK=>?_|refine Qj T fun K hK=>?_|refine Ql fun A B hA hB=>?_|refine Qn ?_|refine Qr ?_)
 |(with_reducible first|apply Qy|apply Qz|apply QA)<;>intro hb<;>try simp only[nr] at hb
 |simp only[go_sem,↓reduceIte,Qa,Qh,Qb,Qc,Qd,Qe,Qf,Qg,reduceCtorEq, *]
 |intro(bn:Bool) hbn))
  all_goals ((repeat clear hK);(repeat clear hA);(repeat clear hB))
  all_goals simp[YD,hp]
 ·have hp':VM s p=false:=by simpa using hp
  refine Jm Tryz.call214 Tryz.func214 rfl Tryz.ntmps214 Tryz.results214 fun ts hn h0 h1=>?_
  (repeat' (first
 | (with_reducible first|refine callX.by (JcV _ _) ?_|assumption|(refine Qw hK _ ?_;clear hK K)|refine Qw ‹_› _ ?_|refine Qx ‹_› ?_|refine Qi fun K hK=>?_|refine Qj T fun K hK=>?_|refine Ql fun A B hA hB=>?_|refine Qn ?_|refine Qr ?_)
 |(with_reducible first|apply Qy|apply Qz|apply QA)<;>intro hb<;>try simp only[nr] at hb
 |simp only[go_sem,↓reduceIte,Qa,Qh,Qb,Qc,Qd,Qe,Qf,Qg,reduceCtorEq, *]
 |intro(bn:Bool) hbn))
  all_goals ((repeat clear hK);(repeat clear hA);(repeat clear hB))
  all_goals simp[YD,hp']
theorem JhK(s p:List UInt8):CallR Tryz.prog 169 [.str s,.str p] (.val (.tup [.str (YD s p),.bool (VM s p)])):=by
 refine Jm Tryz.call169 Tryz.func169 rfl Tryz.ntmps169 Tryz.results169 fun ts hn h0 h1=>?_
 (repeat' (first
 | (with_reducible first|refine callX.by (Jnu _ _) ?_|assumption|(refine Qw hK _ ?_;clear hK K)|refine Qw ‹_› _ ?_|refine Qx ‹_› ?_|refine Qi fun K hK=>?_|refine Qj T fun K hK=>?_|refine Ql fun A B hA hB=>?_|refine Qn ?_|refine Qr ?_)
 |(with_reducible first|apply Qy|apply Qz|apply QA)<;>intro hb<;>try simp only[nr] at hb
 |simp only[go_sem,↓reduceIte,Qa,Qh,Qb,Qc,Qd,Qe,Qf,Qg,reduceCtorEq, *]
 |intro(bn:Bool) hbn))
def Jb7(s p:List UInt8):Bool:=decide (p.length≤s.length) && decide (s.drop (s.length-p.length)=p)
theorem Jn4(s p:List UInt8)(hl:Jc s.length):CallR Tryz.prog 215 [.str s,.str p] (.val (.bool (Jb7 s p))):=by
 by_cases hle:p.length≤s.length
 ·have hw:IntKind.i64.wrap ((s.length:Int)-(p.length:Int))=((s.length-p.length:Nat):Int):=by
   rw[show(s.length:Int)-(p.length:Int)=((s.length-p.length:Nat):Int) by omega];exact IntWalk.i64_in _ (by unfold Jc at hl;omega)
  have ht:(s.drop (s.length-p.length)).take (s.length-(s.length-p.length))=s.drop (s.length-p.length):=List.take_of_length_le (by simp)
  have h1:s.length-p.length≤s.length:=by omega
  refine Jm Tryz.call215 Tryz.func215 rfl Tryz.ntmps215 Tryz.results215 fun ts hn h0 h1=>?_
  (repeat' (first
 | (with_reducible first|assumption|(refine Qw hK _ ?_;clear hK K)|refine Qw ‹_› _ ?_|refine Qx ‹_› ?_|refine Qi fun K hK=>?_|refine Qj T fun K hK=>?_|refine Ql fun A B hA hB=>?_|refine Qn ?_|refine Qr ?_)
 |(with_reducible first|apply Qy|apply Qz|apply QA)<;>intro hb<;>try simp only[nr] at hb
 |simp only[go_sem,↓reduceIte,Qa,Qh,Qb,Qc,Qd,Qe,Qf,Qg,reduceCtorEq, *]
 |intro(bn:Bool) hbn))
  all_goals ((repeat clear hK);(repeat clear hA);(repeat clear hB))
  all_goals simp[Jb7,hle]
 ·refine Jm Tryz.call215 Tryz.func215 rfl Tryz.ntmps215 Tryz.results215 fun ts hn h0 h1=>?_
  (repeat' (first
 | (with_reducible first|assumption|(refine Qw hK _ ?_;clear hK K)|refine Qw ‹_› _ ?_|refine Qx ‹_› ?_|refine Qi fun K hK=>?_|refine Qj T fun K hK=>?_|refine Ql fun A B hA hB=>?_|refine Qn ?_|refine Qr ?_)
 |(with_reducible first|apply Qy|apply Qz|apply QA)<;>intro hb<;>try simp only[nr] at hb
 |simp only[go_sem,↓reduceIte,Qa,Qh,Qb,Qc,Qd,Qe,Qf,Qg,reduceCtorEq, *]
 |intro(bn:Bool) hbn))
  all_goals ((repeat clear hK);(repeat clear hA);(repeat clear hB))
  all_goals simp[Jb7,hle]
theorem Jio(s p:List UInt8)(hl:Jc s.length):CallR Tryz.prog 170 [.str s,.str p] (.val (.bool (Jb7 s p))):=by
 refine Jm Tryz.call170 Tryz.func170 rfl Tryz.ntmps170 Tryz.results170 fun ts hn h0 h1=>?_
 (repeat' (first
 | (with_reducible first|refine callX.by (Jn4 _ _ ?_) ?_|assumption|(refine Qw hK _ ?_;clear hK K)|refine Qw ‹_› _ ?_|refine Qx ‹_› ?_|refine Qi fun K hK=>?_|refine Qj T fun K hK=>?_|refine Ql fun A B hA hB=>?_|refine Qn ?_|refine Qr ?_)
 |(with_reducible first|apply Qy|apply Qz|apply QA)<;>intro hb<;>try simp only[nr] at hb
 |simp only[go_sem,↓reduceIte,Qa,Qh,Qb,Qc,Qd,Qe,Qf,Qg,reduceCtorEq, *]
 |intro(bn:Bool) hbn))
def JaT(s:List UInt8):Int:=if s=[42] then 0 else if VM s [42,46]=true then s.length else 9223372036854775807
theorem Jrq(s:List UInt8):CallR Tryz.prog 217 [.str s] (.val (.int .i64 (JaT s))):=by
 refine Jl Tryz.call217 Tryz.func217 rfl Tryz.ntmps217 Tryz.results217 fun ts hn h0=>?_
 (repeat' (first
 | (with_reducible first|refine callX.by (Jbd _ _) ?_|assumption|(refine Qw hK _ ?_;clear hK K)|refine Qw ‹_› _ ?_|refine Qx ‹_› ?_|refine Qi fun K hK=>?_|refine Qj T fun K hK=>?_|refine Ql fun A B hA hB=>?_|refine Qm ?_|refine Qn ?_|refine Qr ?_)
 |(with_reducible first|apply Qy|apply Qz|apply QA)<;>intro hb<;>try simp only[nr] at hb
 |simp only[go_sem,↓reduceIte,Qa,Qh,Qb,Qc,Qd,Qe,Qf,Qg,reduceCtorEq, *]
 |intro(bn:Bool) hbn))
 all_goals ((repeat clear hK);(repeat clear hA);(repeat clear hB))
 all_goals simp_all[JaT]
theorem Jo3(a b:List UInt8):CallR Tryz.prog 172 [.str a,.str b] (.val (.int .i64 (Jay (JaT a) (JaT b)))):=by
 refine Jm Tryz.call172 Tryz.func172 rfl Tryz.ntmps172 Tryz.results172 fun ts hn h0 h1=>?_
 (repeat' (first
 | (with_reducible first|refine callX.by (Jrq _) ?_|refine callX.by (Jiu _ _) ?_|assumption|(refine Qw hK _ ?_;clear hK K)|refine Qw ‹_› _ ?_|refine Qx ‹_› ?_|refine Qi fun K hK=>?_|refine Qj T fun K hK=>?_|refine Ql fun A B hA hB=>?_|refine Qn ?_|refine Qr ?_)
 |(with_reducible first|apply Qy|apply Qz|apply QA)<;>intro hb<;>try simp only[nr] at hb
 |simp only[go_sem,↓reduceIte,Qa,Qh,Qb,Qc,Qd,Qe,Qf,Qg,reduceCtorEq, *]
 |intro(bn:Bool) hbn))
def JfN(p h:List UInt8):Bool:=(JcX p && (JcX h && !VM h [42])) && ((decide (p=[42]) || decide (p=h)) || (VM p [42] && (decide ((YD p [42]).length<h.length) && Jb7 h (YD p [42]))))
theorem JoL(p h:List UInt8)(hp:Jc p.length)(hh:Jc h.length):CallR Tryz.prog 126 [.str p,.str h] (.val (.bool (JfN p h))):=by
 refine Jm Tryz.call126 Tryz.func126 rfl Tryz.ntmps126 Tryz.results126 fun ts hn h0 h1=>?_
 (repeat' (first
 | (with_reducible first|refine callX.by (Jit _ ?_) ?_|refine callX.by (Jbd _ _) ?_|refine callX.by (JhK _ _) ?_|refine callX.by (Jio _ _ ?_) ?_|assumption|(refine Qw hK _ ?_;clear hK K)|refine Qw ‹_› _ ?_|refine Qx ‹_› ?_|refine Qi fun K hK=>?_|refine Qj T fun K hK=>?_|refine Ql fun A B hA hB=>?_|refine Qm ?_|refine Qn ?_|refine Qr ?_)
 |(with_reducible first|apply Qy|apply Qz|apply QA)<;>intro hb<;>try simp only[nr] at hb
 |simp only[go_sem,↓reduceIte,Qa,Qh,Qb,Qc,Qd,Qe,Qf,Qg,reduceCtorEq, *]
 |intro(bn:Bool) hbn))
 all_goals ((repeat clear hK);(repeat clear hA);(repeat clear hB))
 all_goals (simp_all[JfN];try(intro h9;omega))
def JgR(p s:List UInt8):Bool:=(VM s p && (JaJ p && JaJ s)) && (decide (YD s p=[]) || (Jb7 p [47] || VM (YD s p) [47]))
theorem Jrh(p s:List UInt8)(hp:Jc p.length):CallR Tryz.prog 127 [.str p,.str s] (.val (.bool (JgR p s))):=by
 refine Jm Tryz.call127 Tryz.func127 rfl Tryz.ntmps127 Tryz.results127 fun ts hn h0 h1=>?_
 (repeat' (first
 | (with_reducible first|refine callX.by (JhK _ _) ?_|refine callX.by (Jjs _) ?_|refine callX.by (Jio _ _ ?_) ?_|refine callX.by (Jbd _ _) ?_|assumption|(refine Qw hK _ ?_;clear hK K)|refine Qw ‹_› _ ?_|refine Qx ‹_› ?_|refine Qi fun K hK=>?_|refine Qj T fun K hK=>?_|refine Ql fun A B hA hB=>?_|refine Qn ?_|refine Qr ?_)
 |(with_reducible first|apply Qy|apply Qz|apply QA)<;>intro hb<;>try simp only[nr] at hb
 |simp only[go_sem,↓reduceIte,Qa,Qh,Qb,Qc,Qd,Qe,Qf,Qg,reduceCtorEq, *]
 |intro(bn:Bool) hbn))
 all_goals ((repeat clear hK);(repeat clear hA);(repeat clear hB))
 all_goals simp_all[JgR]
def cw(y:Weight):Int:=max 0 (min y.w 100)
theorem Jfu(y:Weight):0≤cw y∧cw y≤100:=by unfold cw;omega
theorem JaS(LS:List UInt8)(Mg:Int):CallR Tryz.prog 92 [.agg [.str LS,.int .i64 Mg]] (.val (.int .i64 (cw (⟨LS,Mg⟩:Weight)))):=by
 refine Jl Tryz.call92 Tryz.func92 rfl Tryz.ntmps92 Tryz.results92 fun ts hn h0=>?_
 (repeat' (first
 | (with_reducible first|assumption|(refine Qw hK _ ?_;clear hK K)|refine Qw ‹_› _ ?_|refine Qx ‹_› ?_|refine Qi fun K hK=>?_|refine Qj T fun K hK=>?_|refine Ql fun A B hA hB=>?_|refine Qn ?_|refine Qr ?_)
 |(with_reducible first|apply Qy|apply Qz|apply QA)<;>intro hb<;>try simp only[nr] at hb
 |simp only[go_sem,↓reduceIte,Qa,Qh,Qb,Qc,Qd,Qe,Qf,Qg,reduceCtorEq, *]
 |intro(bn:Bool) hbn))
 all_goals rfl
def VQ(l:List Weight):Int:=(l.map cw).sum
theorem Jkx(y:Weight)(l:List Weight):VQ (y :: l)=cw y+VQ l:=by simp[VQ]
theorem Je3:∀l:List Weight,0≤VQ l∧VQ l≤100*l.length
 | []=>by simp[VQ]
 |y :: l=>by have h:=Je3 l;have h2:=Jfu y;rw[Jkx,List.length_cons];omega
theorem JdF(xs:List Weight)(hl:Jc xs.length):CallR Tryz.prog 91 [.slice false (Ja xs)] (.val (.int .i64 (VQ xs))):=by
 have htr:=Je3 xs
 refine Jl Tryz.call91 Tryz.func91 rfl Tryz.ntmps91 Tryz.results91 fun ts hn h0=>?_
 (repeat' (first
 | (with_reducible first|refine callX.by (JaS _ _) ?_|assumption|(refine Qw hK _ ?_;clear hK K)|refine Qw ‹_› _ ?_|refine Qx ‹_› ?_|refine Qi fun K hK=>?_|refine Qj T fun K hK=>?_|refine Ql fun A B hA hB=>?_|refine Qm ?_|refine Qn ?_|refine Qp ?_|refine Qr ?_)
 |(with_reducible first|apply Qy|apply Qz|apply QA)<;>intro hb<;>try simp only[nr] at hb
 |simp only[go_sem,↓reduceIte,Qa,Qh,Qb,Qc,Qd,Qe,Qf,Qg,reduceCtorEq, *,-htr]
 |intro(bn:Bool) hbn))
 refine Qs [6,7] (fun m ts'=>∃(i:Nat),∃(n:Int),m=xs.length-i∧i≤xs.length∧VQ xs=n+VQ (xs.drop i)∧0≤n∧ts'.tmp 3=.int .i64 n∧ts'.tmp 8=.int .i64 i) xs.length ?_ ?_
 ·refine⟨0,0,rfl,Nat.zero_le _,by simp,by omega,?_⟩
  simp only[go_sem,↓reduceIte,Qa,Qh,Qb,Qc,Qd,Qe,Qf,Qg,reduceCtorEq, *,-htr]
 ·rintro m A hM ts' hk ⟨i,n,hm,f1,f2,f3,s1,s2⟩
  simp only[go_sem,↓reduceIte,Qa,Qh,Qb,Qc,Qd,Qe,Qf,Qg,reduceCtorEq, *] at hk
  by_cases hlt:i<xs.length
  ·rw[List.drop_eq_getElem_cons hlt,Jkx] at f2
   have hc:=Jfu xs[i]
   have ht2:=Je3 (xs.drop (i+1))
   have hw:IntKind.i64.wrap (n+cw xs[i])=n+cw xs[i]:=IntWalk.i64_in _ (by unfold Jc at hl;omega)
   (repeat' (first
 | (with_reducible first|refine callX.by (JaS _ _) ?_|assumption|(refine Qw hK _ ?_;clear hK K)|refine Qw ‹_› _ ?_|refine Qx ‹_› ?_|refine Qi fun K hK=>?_|refine Qj T fun K hK=>?_|refine Ql fun A B hA hB=>?_|refine Qm ?_|refine Qn ?_|refine Qp ?_|refine Qr ?_)
 |(with_reducible first|apply Qy|apply Qz|apply QA)<;>intro hb<;>try simp only[nr] at hb
 |simp only[go_sem,↓reduceIte,Qa,Qh,Qb,Qc,Qd,Qe,Qf,Qg,reduceCtorEq, *,-htr,-f2,-hc,-ht2]
 |intro(bn:Bool) hbn))
   all_goals ((repeat clear hK);(repeat clear hA);(repeat clear hB))
   (refine hM.on (xs.length-(i+1)) (by omega) (by simp only[go_sem,↓reduceIte,Qa,Qh,Qb,Qc,Qd,Qe,Qf,Qg,reduceCtorEq, *,Jh hlt hl,-htr,-f2,-hc,-ht2]) ⟨i+1,n+cw xs[i],rfl,by omega,by omega,by omega,?_⟩;simp only[go_sem,↓reduceIte,Qa,Qh,Qb,Qc,Qd,Qe,Qf,Qg,reduceCtorEq, *,Jh hlt hl,-htr,-f2,-hc,-ht2];done)
  ·rw[List.drop_eq_nil_of_le (by omega)] at f2
   have e:n=VQ xs:=by rw[f2];simp[VQ]
   subst e
   (repeat' (first
 | (with_reducible first|refine callX.by (JaS _ _) ?_|assumption|(refine Qw hK _ ?_;clear hK K)|refine Qw ‹_› _ ?_|refine Qx ‹_› ?_|refine Qi fun K hK=>?_|refine Qj T fun K hK=>?_|refine Ql fun A B hA hB=>?_|refine Qm ?_|refine Qn ?_|refine Qp ?_|refine Qr ?_)
 |(with_reducible first|apply Qy|apply Qz|apply QA)<;>intro hb<;>try simp only[nr] at hb
 |simp only[go_sem,↓reduceIte,Qa,Qh,Qb,Qc,Qd,Qe,Qf,Qg,reduceCtorEq, *,-htr,-f2]
 |intro(bn:Bool) hbn))
def Ja1:List Weight→Int→Option (List UInt8)
 | [],_=>none
 |y :: l,n=>if n-cw y<0 then some y.cluster else Ja1 l (n-cw y)
def Yz(l:List Weight)(draw:Int):Option (List UInt8):=if VQ l=0 then none else Ja1 l ((max 0 draw).tmod (VQ l))
theorem Jbq(xs:List Weight)(draw:Int)(hl:Jc xs.length):CallR Tryz.prog 59 [.slice false (Ja xs),.int .i64 draw] (.val (.tup [.str ((Yz xs draw).getD []),.bool (Yz xs draw).isSome])):=by
 have htr:=Je3 xs
 by_cases h0:VQ xs=0
 ·have e:Yz xs draw=none:=by unfold Yz;rw[if_pos h0]
  rw[e]
  refine Jm Tryz.call59 Tryz.func59 rfl Tryz.ntmps59 Tryz.results59 fun ts hn h0 h1=>?_
  (repeat' (first
 | (with_reducible first|refine callX.by (JdF _ ?_) ?_|refine callX.by (JaS _ _) ?_|assumption|(refine Qw hK _ ?_;clear hK K)|refine Qw ‹_› _ ?_|refine Qx ‹_› ?_|refine Qi fun K hK=>?_|refine Qj T fun K hK=>?_|refine Ql fun A B hA hB=>?_|refine Qm ?_|refine Qn ?_|refine Qp ?_|refine Qr ?_)
 |(with_reducible first|apply Qy|apply Qz|apply QA)<;>intro hb<;>try simp only[nr] at hb
 |simp only[go_sem,↓reduceIte,Qa,Qh,Qb,Qc,Qd,Qe,Qf,Qg,reduceCtorEq, *,-htr,Option.getD_none,Option.isSome_none]
 |intro(bn:Bool) hbn))
 ·have e:Yz xs draw=Ja1 xs ((max 0 draw).tmod (VQ xs)):=by unfold Yz;rw[if_neg h0]
  rw[e]
  have hm1:0≤(max 0 draw).tmod (VQ xs):=Int.tmod_nonneg _ (by omega)
  have hm2:(max 0 draw).tmod (VQ xs)≤VQ xs:=Int.le_of_lt (Int.tmod_lt_of_pos _ (by omega))
  clear e
  obtain⟨q0,hq⟩:∃q0,(max 0 draw).tmod (VQ xs)=q0:=⟨_,rfl⟩
  rw[hq] at hm1 hm2 ⊢
  refine Jm Tryz.call59 Tryz.func59 rfl Tryz.ntmps59 Tryz.results59 fun ts hn h0 h1=>?_
  (repeat' (first
 | (with_reducible first|refine callX.by (JdF _ ?_) ?_|refine callX.by (JaS _ _) ?_|assumption|(refine Qw hK _ ?_;clear hK K)|refine Qw ‹_› _ ?_|refine Qx ‹_› ?_|refine Qi fun K hK=>?_|refine Qj T fun K hK=>?_|refine Ql fun A B hA hB=>?_|refine Qm ?_|refine Qn ?_|refine Qp ?_|refine Qr ?_)
 |(with_reducible first|apply Qy|apply Qz|apply QA)<;>intro hb<;>try simp only[nr] at hb
 |simp only[go_sem,↓reduceIte,Qa,Qh,Qb,Qc,Qd,Qe,Qf,Qg,reduceCtorEq, *,-htr,-hm1,-hm2]
 |intro(bn:Bool) hbn))
  refine Qs [18,19] (fun m ts'=>∃(i:Nat),∃(n:Int),m=xs.length-i∧i≤xs.length∧Ja1 xs q0=Ja1 (xs.drop i) n∧0≤n∧n≤q0∧ts'.tmp 7=.int .i64 n∧ts'.tmp 20=.int .i64 i) xs.length ?_ ?_
  ·refine⟨0,q0,rfl,Nat.zero_le _,rfl,by omega,by omega,?_⟩
   simp only[go_sem,↓reduceIte,Qa,Qh,Qb,Qc,Qd,Qe,Qf,Qg,reduceCtorEq, *,-htr,-hm1,-hm2]
  ·rintro m A hM ts' hk ⟨i,n,hm,f1,f2,f3,f4,s1,s2⟩
   simp only[go_sem,↓reduceIte,Qa,Qh,Qb,Qc,Qd,Qe,Qf,Qg,reduceCtorEq, *] at hk
   by_cases hlt:i<xs.length
   ·rw[List.drop_eq_getElem_cons hlt,Ja1] at f2
    have hc:=Jfu xs[i]
    have hw:IntKind.i64.wrap (n-cw xs[i])=n-cw xs[i]:=IntWalk.i64_in _ (by unfold Jc at hl;omega)
    by_cases hn:n-cw xs[i]<0
    ·rw[if_pos hn] at f2
     rw[f2]
     (repeat' (first
 | (with_reducible first|refine callX.by (JdF _ ?_) ?_|refine callX.by (JaS _ _) ?_|assumption|(refine Qw hK _ ?_;clear hK K)|refine Qw ‹_› _ ?_|refine Qx ‹_› ?_|refine Qi fun K hK=>?_|refine Qj T fun K hK=>?_|refine Ql fun A B hA hB=>?_|refine Qm ?_|refine Qn ?_|refine Qp ?_|refine Qr ?_)
 |(with_reducible first|apply Qy|apply Qz|apply QA)<;>intro hb<;>try simp only[nr] at hb
 |simp only[go_sem,↓reduceIte,Qa,Qh,Qb,Qc,Qd,Qe,Qf,Qg,reduceCtorEq, *,-htr,-hm1,-hm2,-hc,Option.getD_some,Option.isSome_some]
 |intro(bn:Bool) hbn))
    ·rw[if_neg hn] at f2
     (repeat' (first
 | (with_reducible first|refine callX.by (JdF _ ?_) ?_|refine callX.by (JaS _ _) ?_|assumption|(refine Qw hK _ ?_;clear hK K)|refine Qw ‹_› _ ?_|refine Qx ‹_› ?_|refine Qi fun K hK=>?_|refine Qj T fun K hK=>?_|refine Ql fun A B hA hB=>?_|refine Qm ?_|refine Qn ?_|refine Qp ?_|refine Qr ?_)
 |(with_reducible first|apply Qy|apply Qz|apply QA)<;>intro hb<;>try simp only[nr] at hb
 |simp only[go_sem,↓reduceIte,Qa,Qh,Qb,Qc,Qd,Qe,Qf,Qg,reduceCtorEq, *,-htr,-hm1,-hm2,-f2,-hc]
 |intro(bn:Bool) hbn))
     all_goals ((repeat clear hK);(repeat clear hA);(repeat clear hB))
     (refine hM.on (xs.length-(i+1)) (by omega) (by simp only[go_sem,↓reduceIte,Qa,Qh,Qb,Qc,Qd,Qe,Qf,Qg,reduceCtorEq, *,Jh hlt hl,-htr,-hm1,-hm2,-f2,-hc]) ⟨i+1,n-cw xs[i],rfl,by omega,f2,by omega,by omega,?_⟩;simp only[go_sem,↓reduceIte,Qa,Qh,Qb,Qc,Qd,Qe,Qf,Qg,reduceCtorEq, *,Jh hlt hl,-htr,-hm1,-hm2,-f2,-hc];done)
   ·rw[List.drop_eq_nil_of_le (by omega),Ja1] at f2
    rw[f2]
    (repeat' (first
 | (with_reducible first|refine callX.by (JdF _ ?_) ?_|refine callX.by (JaS _ _) ?_|assumption|(refine Qw hK _ ?_;clear hK K)|refine Qw ‹_› _ ?_|refine Qx ‹_› ?_|refine Qi fun K hK=>?_|refine Qj T fun K hK=>?_|refine Ql fun A B hA hB=>?_|refine Qm ?_|refine Qn ?_|refine Qp ?_|refine Qr ?_)
 |(with_reducible first|apply Qy|apply Qz|apply QA)<;>intro hb<;>try simp only[nr] at hb
 |simp only[go_sem,↓reduceIte,Qa,Qh,Qb,Qc,Qd,Qe,Qf,Qg,reduceCtorEq, *,-htr,-hm1,-hm2,Option.getD_none,Option.isSome_none]
 |intro(bn:Bool) hbn))
def Yc(l:List Int)(draw:Int):Option Int:=l[((max 0 draw).tmod l.length).toNat]?
theorem Jbr(xs:List Int)(draw:Int)(hl:Jc xs.length):CallR Tryz.prog 61 [.slice false (Ja xs),.int .i64 draw] (.val (.tup [.int .i64 ((Yc xs draw).getD 0),.bool (Yc xs draw).isSome])):=by
 by_cases h0:xs.length=0
 ·have e:Yc xs draw=none:=by
   have:=List.length_eq_zero_iff.1 h0
   subst this
   simp[Yc]
  rw[e]
  refine Jm Tryz.call61 Tryz.func61 rfl Tryz.ntmps61 Tryz.results61 fun ts hn h0 h1=>?_
  (repeat' (first
 | (with_reducible first|assumption|(refine Qw hK _ ?_;clear hK K)|refine Qw ‹_› _ ?_|refine Qx ‹_› ?_|refine Qi fun K hK=>?_|refine Qj T fun K hK=>?_|refine Ql fun A B hA hB=>?_|refine Qn ?_|refine Qr ?_)
 |(with_reducible first|apply Qy|apply Qz|apply QA)<;>intro hb<;>try simp only[nr] at hb
 |simp only[go_sem,↓reduceIte,Qa,Qh,Qb,Qc,Qd,Qe,Qf,Qg,reduceCtorEq, *,Option.getD_none,Option.isSome_none]
 |intro(bn:Bool) hbn))
 ·have hm1:0≤(max 0 draw).tmod (xs.length:Int):=Int.tmod_nonneg _ (by omega)
  have hm2:(max 0 draw).tmod (xs.length:Int)<xs.length:=Int.tmod_lt_of_pos _ (by omega)
  obtain⟨m,hm⟩:=Int.eq_ofNat_of_zero_le hm1
  have hm3:m<xs.length:=by omega
  have e:Yc xs draw=some xs[m]:=by
   unfold Yc
   rw[hm,Int.toNat_natCast,List.getElem?_eq_getElem hm3]
  rw[e]
  clear e hm1 hm2
  have hn0:¬(xs.length:Int)=0:=by omega
  refine Jm Tryz.call61 Tryz.func61 rfl Tryz.ntmps61 Tryz.results61 fun ts hn h0 h1=>?_
  (repeat' (first
 | (with_reducible first|assumption|(refine Qw hK _ ?_;clear hK K)|refine Qw ‹_› _ ?_|refine Qx ‹_› ?_|refine Qi fun K hK=>?_|refine Qj T fun K hK=>?_|refine Ql fun A B hA hB=>?_|refine Qn ?_|refine Qr ?_)
 |(with_reducible first|apply Qy|apply Qz|apply QA)<;>intro hb<;>try simp only[nr] at hb
 |simp only[go_sem,↓reduceIte,Qa,Qh,Qb,Qc,Qd,Qe,Qf,Qg,reduceCtorEq, *,Option.getD_some,Option.isSome_some]
 |intro(bn:Bool) hbn))
def JbS(a b:Rule):Bool:=if 0<Jay (JaT a.host) (JaT b.host) then true else if Jay (JaT a.host) (JaT b.host)<0 then false else decide (b.pfx.length<a.pfx.length)
theorem Jm2(a_host Mc:List UInt8)(L1:List Weight)(L7 Md:List UInt8)(L2:List Weight):CallR Tryz.prog 128 [.agg [.str a_host,.str Mc,.slice false (Ja L1)],.agg [.str L7,.str Md,.slice false (Ja L2)]] (.val (.bool (JbS (⟨a_host,Mc,L1⟩:Rule) (⟨L7,Md,L2⟩:Rule)))):=by
 refine Jm Tryz.call128 Tryz.func128 rfl Tryz.ntmps128 Tryz.results128 fun ts hn h0 h1=>?_
 (repeat' (first
 | (with_reducible first|refine callX.by (Jo3 _ _) ?_|assumption|(refine Qw hK _ ?_;clear hK K)|refine Qw ‹_› _ ?_|refine Qx ‹_› ?_|refine Qi fun K hK=>?_|refine Qj T fun K hK=>?_|refine Ql fun A B hA hB=>?_|refine Qm ?_|refine Qn ?_|refine Qr ?_)
 |(with_reducible first|apply Qy|apply Qz|apply QA)<;>intro hb<;>try simp only[nr] at hb
 |simp only[go_sem,↓reduceIte,Qa,Qh,Qb,Qc,Qd,Qe,Qf,Qg,reduceCtorEq, *]
 |intro(bn:Bool) hbn))
 all_goals ((repeat clear hK);(repeat clear hA);(repeat clear hB))
 all_goals (unfold JbS;split<;>first|rfl|omega|(simp_all;done)|(split<;>first|rfl|omega|(simp_all;done)))
end Go.Proofs.YthjalhfmpffbjaaGreatDoor.Lg
