/- Parts of the proof, one behind the other. -/
import Derived.Test.YthjalhfmpffbjaaGreatDoorG19
set_option linter.unusedVariables false
set_option linter.unusedSimpArgs false
set_option maxRecDepth 100000
set_option maxHeartbeats 64000000
namespace Go.Proofs.YthjalhfmpffbjaaGreatDoor.Lg
open Go
open Tryz
open Nat renaming reduceEqDiff → Qa, reduceLT → Qb, reduceLeDiff → Qc, reduceAdd → Qd, reduceMul → Qe, reduceSub → Qf, reduceBEq → Qg
open String renaming reduceEq → Qh
open SpecC renaming seqW → Qi, regW → Qj, drawW → Qk, condW → Ql, block → Qm, skip → Qn, exit → Qp, ret → Qr, loopF → Qs
open NxK renaming out → Qw
open Nx renaming out → Qx
open condK renaming split → Qy
open gK renaming split_t → Qz, split_f → QA
def fin(n most:Int):Bool:=decide (0≤n∧n≤most)
theorem Jd7(n m:Int):CallR prog 112 [.int .i64 n,.int .i64 m] (.val (.bool (fin n m))):=by
 refine Jn call112 func112 rfl ntmps112 results112 fun ts hn h0 h1=>?_
 (repeat' (first
 | (with_reducible first|assumption|(refine Qw hK _ ?_;clear hK K)|refine Qw ‹_› _ ?_|refine Qx ‹_› ?_|refine Qi fun K hK=>?_|refine Qj T fun K hK=>?_|refine Ql fun A B hA hB=>?_|refine Qn ?_|refine Qr ?_)
 |(with_reducible first|apply Qy|apply Qz|apply QA)<;>intro hb<;>try simp only[nr] at hb
 |simp only[go_sem,↓reduceIte,Qa,Qh,Qb,Qc,Qd,Qe,Qf,Qg,reduceCtorEq, *]
 |intro(bn:Bool) hbn))
 all_goals (rw[Bool.eq_iff_iff];simp_all[fin])
 all_goals omega
def Zd(ok:Bool)(e:Int):Int:=if ok then 0 else e
theorem Jrq(ok:Bool)(e:Int):CallR prog 111 [.bool ok,.int .i64 e] (.val (.int .i64 (Zd ok e))):=by
 refine Jn call111 func111 rfl ntmps111 results111 fun ts hn h0 h1=>?_
 (repeat' (first
 | (with_reducible first|assumption|(refine Qw hK _ ?_;clear hK K)|refine Qw ‹_› _ ?_|refine Qx ‹_› ?_|refine Qi fun K hK=>?_|refine Qj T fun K hK=>?_|refine Ql fun A B hA hB=>?_|refine Qn ?_|refine Qr ?_)
 |(with_reducible first|apply Qy|apply Qz|apply QA)<;>intro hb<;>try simp only[nr] at hb
 |simp only[go_sem,↓reduceIte,Qa,Qh,Qb,Qc,Qd,Qe,Qf,Qg,reduceCtorEq, *]
 |intro(bn:Bool) hbn))
 all_goals simp_all[Zd]
def Z5:List Int→Int
 | []=>0
 |e :: r=>if e=0 then Z5 r else e
theorem Jii(xs:List Int)(hl:Jc xs.length):CallR prog 110 [.slice false (Ja xs)] (.val (.int .i64 (Z5 xs))):=by
 refine Jl call110 func110 rfl ntmps110 results110 fun ts hn h0=>?_
 (repeat' (first
 | (with_reducible first|assumption|(refine Qw hK _ ?_;clear hK K)|refine Qw ‹_› _ ?_|refine Qx ‹_› ?_|refine Qi fun K hK=>?_|refine Qj T fun K hK=>?_|refine Ql fun A B hA hB=>?_|refine Qm ?_|refine Qn ?_|refine Qp ?_|refine Qr ?_)
 |(with_reducible first|apply Qy|apply Qz|apply QA)<;>intro hb<;>try simp only[nr] at hb
 |simp only[go_sem,↓reduceIte,Qa,Qh,Qb,Qc,Qd,Qe,Qf,Qg,reduceCtorEq, *]
 |intro(bn:Bool) hbn))
 refine Qs [5,6] (fun m ts'=>∃(i:Nat),m=xs.length-i∧i≤xs.length∧Z5 xs=Z5 (xs.drop i)∧ts'.tmp 7=.int .i64 i) xs.length ?_ ?_
 ·refine⟨0,?_⟩
  simp only[go_sem,↓reduceIte,Qa,Qh,Qb,Qc,Qd,Qe,Qf,Qg,reduceCtorEq, *]
 ·rintro m A hM ts' hk ⟨i,hm,f1,f2,s1⟩
  simp only[go_sem,↓reduceIte,Qa,Qh,Qb,Qc,Qd,Qe,Qf,Qg,reduceCtorEq, *] at hk
  by_cases hlt:i<xs.length
  ·rw[List.drop_eq_getElem_cons hlt,Z5] at f2
   (repeat' (first
 | (with_reducible first|assumption|(refine Qw hK _ ?_;clear hK K)|refine Qw ‹_› _ ?_|refine Qx ‹_› ?_|refine Qi fun K hK=>?_|refine Qj T fun K hK=>?_|refine Ql fun A B hA hB=>?_|refine Qm ?_|refine Qn ?_|refine Qp ?_|refine Qr ?_)
 |(with_reducible first|apply Qy|apply Qz|apply QA)<;>intro hb<;>try simp only[nr] at hb
 |simp only[go_sem,↓reduceIte,Qa,Qh,Qb,Qc,Qd,Qe,Qf,Qg,reduceCtorEq, *,-f2]
 |intro(bn:Bool) hbn))
   all_goals ((repeat clear hK);(repeat clear hA);(repeat clear hB))
   ·rw[if_neg (by simp_all)] at f2
    simp_all
   ·rw[if_pos (by simp_all)] at f2
    (refine hM.on (xs.length-(i+1)) (by omega) (by simp only[go_sem,↓reduceIte,Qa,Qh,Qb,Qc,Qd,Qe,Qf,Qg,reduceCtorEq, *,Jg hlt hl,-f2]) ⟨i+1,rfl,by omega,f2,?_⟩;simp only[go_sem,↓reduceIte,Qa,Qh,Qb,Qc,Qd,Qe,Qf,Qg,reduceCtorEq, *,Jg hlt hl,-f2];done)
  ·rw[List.drop_eq_nil_of_le (by omega),Z5] at f2
   (repeat' (first
 | (with_reducible first|assumption|(refine Qw hK _ ?_;clear hK K)|refine Qw ‹_› _ ?_|refine Qx ‹_› ?_|refine Qi fun K hK=>?_|refine Qj T fun K hK=>?_|refine Ql fun A B hA hB=>?_|refine Qm ?_|refine Qn ?_|refine Qp ?_|refine Qr ?_)
 |(with_reducible first|apply Qy|apply Qz|apply QA)<;>intro hb<;>try simp only[nr] at hb
 |simp only[go_sem,↓reduceIte,Qa,Qh,Qb,Qc,Qd,Qe,Qf,Qg,reduceCtorEq, *]
 |intro(bn:Bool) hbn))
theorem Jig(a b c d e f:Int):CallR prog 110 [.slice false [.int .i64 a,.int .i64 b,.int .i64 c,.int .i64 d,.int .i64 e,.int .i64 f]] (.val (.int .i64 (Z5 [a,b,c,d,e,f]))):=Jii [a,b,c,d,e,f] (by unfold Jc;simp)
def ZH(k:Key):Bool:=fin k.kind 3 && Yv k.name
theorem JiP(Lm:Int)(k_name:List UInt8)(hl:Jc k_name.length):CallR prog 191 [.agg [.int .i64 Lm,.str k_name]] (.val (.bool (ZH (⟨Lm,k_name⟩:Key)))):=by
 have w1:=Jcg k_name
 refine Jl call191 func191 rfl ntmps191 results191 fun ts hn h0=>?_
 (repeat' (first
 | (with_reducible first|refine callX.by (w1) ?_|refine callX.by (Jd7 _ _) ?_|refine callX.by (Jcg _) ?_|assumption|(refine Qw hK _ ?_;clear hK K)|refine Qw ‹_› _ ?_|refine Qx ‹_› ?_|refine Qi fun K hK=>?_|refine Qj T fun K hK=>?_|refine Ql fun A B hA hB=>?_|refine Qn ?_|refine Qr ?_)
 |(with_reducible first|apply Qy|apply Qz|apply QA)<;>intro hb<;>try simp only[nr] at hb
 |simp only[go_sem,↓reduceIte,Qa,Qh,Qb,Qc,Qd,Qe,Qf,Qg,reduceCtorEq, *,-w1]
 |intro(bn:Bool) hbn))
 all_goals simp_all[ZH]
theorem Jeh(Lm:Int)(k_name:List UInt8)(hl:Jc k_name.length):CallR prog 155 [.agg [.int .i64 Lm,.str k_name]] (.val (.bool (!ZH (⟨Lm,k_name⟩:Key)))):=by
 have w1:=JiP Lm k_name hl
 refine Jl call155 func155 rfl ntmps155 results155 fun ts hn h0=>?_
 (repeat' (first
 | (with_reducible first|refine callX.by (w1) ?_|refine callX.by (JiP _ _ ?_) ?_|assumption|(refine Qw hK _ ?_;clear hK K)|refine Qw ‹_› _ ?_|refine Qx ‹_› ?_|refine Qi fun K hK=>?_|refine Qj T fun K hK=>?_|refine Ql fun A B hA hB=>?_|refine Qn ?_|refine Qr ?_)
 |(with_reducible first|apply Qy|apply Qz|apply QA)<;>intro hb<;>try simp only[nr] at hb
 |simp only[go_sem,↓reduceIte,Qa,Qh,Qb,Qc,Qd,Qe,Qf,Qg,reduceCtorEq, *,-w1]
 |intro(bn:Bool) hbn))
theorem Jis(LM:Int)(m_k_name:List UInt8)(L4:Int):CallR prog 151 [.agg [.int .i64 LM,.str m_k_name,.int .i64 L4]] (.val (.bool (!fin L4 2147483647))):=by
 refine Jl call151 func151 rfl ntmps151 results151 fun ts hn h0=>?_
 (repeat' (first
 | (with_reducible first|refine callX.by (Jd7 _ _) ?_|assumption|(refine Qw hK _ ?_;clear hK K)|refine Qw ‹_› _ ?_|refine Qx ‹_› ?_|refine Qi fun K hK=>?_|refine Qj T fun K hK=>?_|refine Ql fun A B hA hB=>?_|refine Qn ?_|refine Qr ?_)
 |(with_reducible first|apply Qy|apply Qz|apply QA)<;>intro hb<;>try simp only[nr] at hb
 |simp only[go_sem,↓reduceIte,Qa,Qh,Qb,Qc,Qd,Qe,Qf,Qg,reduceCtorEq, *]
 |intro(bn:Bool) hbn))
theorem Jil(LM:Int)(m_k_name:List UInt8)(L4:Int)(hl:Jc m_k_name.length):CallR prog 156 [.agg [.int .i64 LM,.str m_k_name,.int .i64 L4]] (.val (.bool (!ZH ⟨LM,m_k_name⟩))):=by
 have w1:=Jeh LM m_k_name hl
 refine Jl call156 func156 rfl ntmps156 results156 fun ts hn h0=>?_
 (repeat' (first
 | (with_reducible first|refine callX.by (w1) ?_|assumption|(refine Qw hK _ ?_;clear hK K)|refine Qw ‹_› _ ?_|refine Qx ‹_› ?_|refine Qi fun K hK=>?_|refine Qj T fun K hK=>?_|refine Ql fun A B hA hB=>?_|refine Qn ?_|refine Qr ?_)
 |(with_reducible first|apply Qy|apply Qz|apply QA)<;>intro hb<;>try simp only[nr] at hb
 |simp only[go_sem,↓reduceIte,Qa,Qh,Qb,Qc,Qd,Qe,Qf,Qg,reduceCtorEq, *,-w1]
 |intro(bn:Bool) hbn))
theorem JnS(Ln:Int)(Lp:List UInt8)(Lx Lq:Int)(LA:List UInt8)(r_rules:List Rule)(r_hosts:List Int)(KH Kv:Int)(Kw Ku KJ:Int)(f_adds:List Res)(f_gone:List Key)(K4:Int)(f_have:List Mark)(f_held:List Key):CallR prog 159 [.agg [.int .i64 Ln,.str Lp,.int .i64 Lx,.int .i64 Lq,.str LA,.slice false (Ja r_rules),.slice false (Ja r_hosts)],.ro [.int .i64 KH,.int .i64 Kv,.int .i64 Kw,.int .i64 Ku,.int .i64 KJ,.slice false (Ja f_adds),.slice false (Ja f_gone),.int .i64 K4,.slice false (Ja f_have),.slice false (Ja f_held)]] (.val (.bool (!decide (Ln=Kw)))):=by
 refine Jn call159 func159 rfl ntmps159 results159 fun ts hn h0 h1=>?_
 (repeat' (first
 | (with_reducible first|assumption|(refine Qw hK _ ?_;clear hK K)|refine Qw ‹_› _ ?_|refine Qx ‹_› ?_|refine Qi fun K hK=>?_|refine Qj T fun K hK=>?_|refine Ql fun A B hA hB=>?_|refine Qn ?_|refine Qr ?_)
 |(with_reducible first|apply Qy|apply Qz|apply QA)<;>intro hb<;>try simp only[nr] at hb
 |simp only[go_sem,↓reduceIte,Qa,Qh,Qb,Qc,Qd,Qe,Qf,Qg,reduceCtorEq, *]
 |intro(bn:Bool) hbn))
theorem JnT(Ln:Int)(Lp:List UInt8)(KH Kv:Int)(Kw Ku KJ:Int)(f_adds:List Res)(f_gone:List Key)(K4:Int)(f_have:List Mark)(f_held:List Key):CallR prog 160 [.agg [.int .i64 Ln,.str Lp],.ro [.int .i64 KH,.int .i64 Kv,.int .i64 Kw,.int .i64 Ku,.int .i64 KJ,.slice false (Ja f_adds),.slice false (Ja f_gone),.int .i64 K4,.slice false (Ja f_have),.slice false (Ja f_held)]] (.val (.bool (!decide (Ln=Kw)))):=by
 refine Jn call160 func160 rfl ntmps160 results160 fun ts hn h0 h1=>?_
 (repeat' (first
 | (with_reducible first|assumption|(refine Qw hK _ ?_;clear hK K)|refine Qw ‹_› _ ?_|refine Qx ‹_› ?_|refine Qi fun K hK=>?_|refine Qj T fun K hK=>?_|refine Ql fun A B hA hB=>?_|refine Qn ?_|refine Qr ?_)
 |(with_reducible first|apply Qy|apply Qz|apply QA)<;>intro hb<;>try simp only[nr] at hb
 |simp only[go_sem,↓reduceIte,Qa,Qh,Qb,Qc,Qd,Qe,Qf,Qg,reduceCtorEq, *]
 |intro(bn:Bool) hbn))
theorem Jhy(KH Kv:Int)(Kw Ku KJ:Int)(f_adds:List Res)(f_gone:List Key)(K4:Int)(f_have:List Mark)(f_held:List Key):Caps [.ro [.int .i64 KH,.int .i64 Kv,.int .i64 Kw,.int .i64 Ku,.int .i64 KJ,.slice false (Ja f_adds),.slice false (Ja f_gone),.int .i64 K4,.slice false (Ja f_have),.slice false (Ja f_held)]]:=⟨by simp only[go_sem,Bool.and_self],by simp only[go_sem]⟩
def Jbd(f:Frame):Bool:=!decide (64<max (max (max (f.adds.length:Int) f.gone.length) f.have'.length) f.held.length) && !(f.have'.any fun m=>!fin m.ver 2147483647) && fin f.epoch 2147483647 && fin f.nonce 2147483647 && fin f.turn 2147483647 && fin f.err 15
theorem Jit(KH Kv:Int)(Kw Ku KJ:Int)(f_adds:List Res)(f_gone:List Key)(K4:Int)(f_have:List Mark)(f_held:List Key)(hs:V4 (⟨KH,Kv,Kw,Ku,KJ,f_adds,f_gone,K4,f_have,f_held⟩:Frame)):CallR prog 113 [.agg [.int .i64 KH,.int .i64 Kv,.int .i64 Kw,.int .i64 Ku,.int .i64 KJ,.slice false (Ja f_adds),.slice false (Ja f_gone),.int .i64 K4,.slice false (Ja f_have),.slice false (Ja f_held)]] (.val (.bool (Jbd (⟨KH,Kv,Kw,Ku,KJ,f_adds,f_gone,K4,f_have,f_held⟩:Frame)))):=by
 have hl:=hs.2.2.2.2.1
 have w1:=Jd0 151 [] Caps.nil (fun m=>!fin m.ver 2147483647) f_have (fun x _=>Jis x.k.kind x.k.name x.ver) hl
 clear hs hl
 refine Jl call113 func113 rfl ntmps113 results113 fun ts hn h0=>?_
 (repeat' (first
 | (with_reducible first|refine callX.by (w1) ?_|refine callX.by (Jd0 _ _ ?_ _ _ ?_ ?_) ?_|refine callX.by (Jis _ _ _) ?_|refine callX.by (Jd7 _ _) ?_|assumption|(refine Qw hK _ ?_;clear hK K)|refine Qw ‹_› _ ?_|refine Qx ‹_› ?_|refine Qi fun K hK=>?_|refine Qj T fun K hK=>?_|refine Ql fun A B hA hB=>?_|refine Qn ?_|refine Qr ?_)
 |(with_reducible first|apply Qy|apply Qz|apply QA)<;>intro hb<;>try simp only[nr] at hb
 |simp only[go_sem,↓reduceIte,Qa,Qh,Qb,Qc,Qd,Qe,Qf,Qg,reduceCtorEq, *,-w1]
 |intro(bn:Bool) hbn))
 all_goals simp_all[Jbd]
 all_goals grind
def Jbc(f:Frame):Bool:=!(f.gone.any fun k=>!ZH k) && !(f.held.any fun k=>!ZH k) && !(f.have'.any fun m=>!ZH m.k)
theorem Jim(KH Kv:Int)(Kw Ku KJ:Int)(f_adds:List Res)(f_gone:List Key)(K4:Int)(f_have:List Mark)(f_held:List Key)(hs:V4 (⟨KH,Kv,Kw,Ku,KJ,f_adds,f_gone,K4,f_have,f_held⟩:Frame)):CallR prog 115 [.agg [.int .i64 KH,.int .i64 Kv,.int .i64 Kw,.int .i64 Ku,.int .i64 KJ,.slice false (Ja f_adds),.slice false (Ja f_gone),.int .i64 K4,.slice false (Ja f_have),.slice false (Ja f_held)]] (.val (.bool (Jbc (⟨KH,Kv,Kw,Ku,KJ,f_adds,f_gone,K4,f_have,f_held⟩:Frame)))):=by
 obtain⟨-,-,g1,g2,g3,g4,g5,g6⟩:=hs
 have w1:=Jas 155 [] Caps.nil (fun k=>!ZH k) f_gone (fun x hx=>Jeh x.kind x.name (g2 x hx)) g1
 have w2:=Jas 155 [] Caps.nil (fun k=>!ZH k) f_held (fun x hx=>Jeh x.kind x.name (g6 x hx)) g5
 have w3:=Jd0 156 [] Caps.nil (fun m=>!ZH m.k) f_have (fun x hx=>Jil x.k.kind x.k.name x.ver (g4 x hx)) g3
 clear g1 g2 g3 g4 g5 g6
 refine Jl call115 func115 rfl ntmps115 results115 fun ts hn h0=>?_
 (repeat' (first
 | (with_reducible first|refine callX.by (w1) ?_|refine callX.by (w2) ?_|refine callX.by (w3) ?_|refine callX.by (Jas _ _ ?_ _ _ ?_ ?_) ?_|refine callX.by (Jeh _ _ ?_) ?_|refine callX.by (Jd0 _ _ ?_ _ _ ?_ ?_) ?_|refine callX.by (Jil _ _ _ ?_) ?_|assumption|(refine Qw hK _ ?_;clear hK K)|refine Qw ‹_› _ ?_|refine Qx ‹_› ?_|refine Qi fun K hK=>?_|refine Qj T fun K hK=>?_|refine Ql fun A B hA hB=>?_|refine Qn ?_|refine Qr ?_)
 |(with_reducible first|apply Qy|apply Qz|apply QA)<;>intro hb<;>try simp only[nr] at hb
 |simp only[go_sem,↓reduceIte,Qa,Qh,Qb,Qc,Qd,Qe,Qf,Qg,reduceCtorEq, *,-w1,-w2,-w3]
 |intro(bn:Bool) hbn))
 all_goals simp_all[Jbc]
 all_goals grind
def Jb0(f:Frame):Bool:=!(f.adds.any fun r=>!decide (r.kind=f.kind)) && !(f.gone.any fun k=>!decide (k.kind=f.kind))
theorem Jij(KH Kv:Int)(Kw Ku KJ:Int)(f_adds:List Res)(f_gone:List Key)(K4:Int)(f_have:List Mark)(f_held:List Key)(hs:V4 (⟨KH,Kv,Kw,Ku,KJ,f_adds,f_gone,K4,f_have,f_held⟩:Frame)):CallR prog 117 [.agg [.int .i64 KH,.int .i64 Kv,.int .i64 Kw,.int .i64 Ku,.int .i64 KJ,.slice false (Ja f_adds),.slice false (Ja f_gone),.int .i64 K4,.slice false (Ja f_have),.slice false (Ja f_held)]] (.val (.bool (Jb0 (⟨KH,Kv,Kw,Ku,KJ,f_adds,f_gone,K4,f_have,f_held⟩:Frame)))):=by
 obtain⟨g1,-,g2,-⟩:=hs
 have w1:=JcH 159 [.ro [.int .i64 KH,.int .i64 Kv,.int .i64 Kw,.int .i64 Ku,.int .i64 KJ,.slice false (Ja f_adds),.slice false (Ja f_gone),.int .i64 K4,.slice false (Ja f_have),.slice false (Ja f_held)]] (Jhy KH Kv Kw Ku KJ f_adds f_gone K4 f_have f_held) (fun r=>!decide (r.kind=Kw)) f_adds (fun x _=>JnS x.kind x.name x.ver x.port x.to' x.rules' x.hosts KH Kv Kw Ku KJ f_adds f_gone K4 f_have f_held) g1
 have w2:=Jas 160 [.ro [.int .i64 KH,.int .i64 Kv,.int .i64 Kw,.int .i64 Ku,.int .i64 KJ,.slice false (Ja f_adds),.slice false (Ja f_gone),.int .i64 K4,.slice false (Ja f_have),.slice false (Ja f_held)]] (Jhy KH Kv Kw Ku KJ f_adds f_gone K4 f_have f_held) (fun r=>!decide (r.kind=Kw)) f_gone (fun x _=>JnT x.kind x.name KH Kv Kw Ku KJ f_adds f_gone K4 f_have f_held) g2
 clear g1 g2
 refine Jl call117 func117 rfl ntmps117 results117 fun ts hn h0=>?_
 (repeat' (first
 | (with_reducible first|refine callX.by (w1) ?_|refine callX.by (w2) ?_|assumption|(refine Qw hK _ ?_;clear hK K)|refine Qw ‹_› _ ?_|refine Qx ‹_› ?_|refine Qi fun K hK=>?_|refine Qj T fun K hK=>?_|refine Ql fun A B hA hB=>?_|refine Qn ?_|refine Qr ?_)
 |(with_reducible first|apply Qy|apply Qz|apply QA)<;>intro hb<;>try simp only[nr] at hb
 |simp only[go_sem,↓reduceIte,Qa,Qh,Qb,Qc,Qd,Qe,Qf,Qg,reduceCtorEq, *,-w1,-w2]
 |intro(bn:Bool) hbn))
 all_goals simp_all[Jb0]
 all_goals grind
def ZC:List Res→Int
 | []=>0
 |r :: l=>if V1 r=0 then ZC l else V1 r
theorem Jh8(KH Kv:Int)(Kw Ku KJ:Int)(f_adds:List Res)(f_gone:List Key)(K4:Int)(f_have:List Mark)(f_held:List Key)(hs:V4 (⟨KH,Kv,Kw,Ku,KJ,f_adds,f_gone,K4,f_have,f_held⟩:Frame)):CallR prog 116 [.agg [.int .i64 KH,.int .i64 Kv,.int .i64 Kw,.int .i64 Ku,.int .i64 KJ,.slice false (Ja f_adds),.slice false (Ja f_gone),.int .i64 K4,.slice false (Ja f_have),.slice false (Ja f_held)]] (.val (.int .i64 (ZC f_adds))):=by
 obtain⟨hl,g1,-⟩:=hs
 refine Jl call116 func116 rfl ntmps116 results116 fun ts hn h0=>?_
 (repeat' (first
 | (with_reducible first|refine callX.by (Vz _ _ _ _ _ _ _ ?_ ?_ ?_) ?_|refine callX.by VI ?_|assumption|(refine Qw hK _ ?_;clear hK K)|refine Qw ‹_› _ ?_|refine Qx ‹_› ?_|refine Qi fun K hK=>?_|refine Qj T fun K hK=>?_|refine Ql fun A B hA hB=>?_|refine Qm ?_|refine Qn ?_|refine Qp ?_|refine Qr ?_)
 |(with_reducible first|apply Qy|apply Qz|apply QA)<;>intro hb<;>try simp only[nr] at hb
 |simp only[go_sem,↓reduceIte,Qa,Qh,Qb,Qc,Qd,Qe,Qf,Qg,reduceCtorEq, *,-g1]
 |intro(bn:Bool) hbn))
 refine Qs [7,8] (fun m ts'=>∃(i:Nat),m=f_adds.length-i∧i≤f_adds.length∧ZC f_adds=ZC (f_adds.drop i)∧ts'.tmp 9=.int .i64 i) f_adds.length ?_ ?_
 ·refine⟨0,?_⟩
  simp only[go_sem,↓reduceIte,Qa,Qh,Qb,Qc,Qd,Qe,Qf,Qg,reduceCtorEq, *,-g1]
 ·rintro m A hM ts' hk ⟨i,hm,f1,f2,s1⟩
  simp only[go_sem,↓reduceIte,Qa,Qh,Qb,Qc,Qd,Qe,Qf,Qg,reduceCtorEq, *] at hk
  by_cases hlt:i<f_adds.length
  ·rw[List.drop_eq_getElem_cons hlt,ZC] at f2
   have hg:=g1 _ (List.getElem_mem hlt)
   obtain⟨k1,k2,k3,k4,k5⟩:=hg
   have w1:=Vz f_adds[i].kind f_adds[i].name f_adds[i].ver f_adds[i].port f_adds[i].to' f_adds[i].rules' f_adds[i].hosts
   (repeat' (first
 | (with_reducible first|refine callX.by (Vz _ _ _ _ _ _ _ ?_ ?_ ?_) ?_|refine callX.by VI ?_|assumption|(refine Qw hK _ ?_;clear hK K)|refine Qw ‹_› _ ?_|refine Qx ‹_› ?_|refine Qi fun K hK=>?_|refine Qj T fun K hK=>?_|refine Ql fun A B hA hB=>?_|refine Qm ?_|refine Qn ?_|refine Qp ?_|refine Qr ?_)
 |(with_reducible first|apply Qy|apply Qz|apply QA)<;>intro hb<;>try simp only[nr] at hb
 |simp only[go_sem,↓reduceIte,Qa,Qh,Qb,Qc,Qd,Qe,Qf,Qg,reduceCtorEq, *,-f2,-g1,-k4]
 |intro(bn:Bool) hbn))
   all_goals ((repeat clear hK);(repeat clear hA);(repeat clear hB))
   all_goals first
    | (rw[if_neg (by simpa using hb)] at f2;exact f2.symm)
    | (rw[if_pos (by simpa using hb)] at f2;(refine hM.on (f_adds.length-(i+1)) (by omega) (by simp only[go_sem,↓reduceIte,Qa,Qh,Qb,Qc,Qd,Qe,Qf,Qg,reduceCtorEq, *,Jg hlt hl,-f2,-g1,-k4]) ⟨i+1,rfl,by omega,f2,?_⟩;simp only[go_sem,↓reduceIte,Qa,Qh,Qb,Qc,Qd,Qe,Qf,Qg,reduceCtorEq, *,Jg hlt hl,-f2,-g1,-k4];done))
  ·rw[List.drop_eq_nil_of_le (by omega),ZC] at f2
   (repeat' (first
 | (with_reducible first|refine callX.by (Vz _ _ _ _ _ _ _ ?_ ?_ ?_) ?_|refine callX.by VI ?_|assumption|(refine Qw hK _ ?_;clear hK K)|refine Qw ‹_› _ ?_|refine Qx ‹_› ?_|refine Qi fun K hK=>?_|refine Qj T fun K hK=>?_|refine Ql fun A B hA hB=>?_|refine Qm ?_|refine Qn ?_|refine Qp ?_|refine Qr ?_)
 |(with_reducible first|apply Qy|apply Qz|apply QA)<;>intro hb<;>try simp only[nr] at hb
 |simp only[go_sem,↓reduceIte,Qa,Qh,Qb,Qc,Qd,Qe,Qf,Qg,reduceCtorEq, *,-g1]
 |intro(bn:Bool) hbn))
def Ja0(f:Frame):Frame :=
 if f.type=0 then { f with epoch:=0,have':=[] }
 else if f.type=1 then { f with epoch:=0,kind:=0,nonce:=0,adds:=[],gone:=[] }
 else if f.type=2 then { f with epoch:=0,kind:=0,nonce:=0,err:=0,turn:=0,held:=[] }
 else if f.type=3 then { f with epoch:=0,turn:=0,held:=[] }
 else { f with epoch:=0 }
theorem JqU(f:Frame)(h:V4 f):V4 (Ja0 f):=by
 unfold Ja0
 obtain⟨g1,g2,g3,g4,g5,g6,g7,g8⟩:=h
 repeat' split
 all_goals (refine⟨?_,?_,?_,?_,?_,?_,?_,?_⟩<;>first|assumption|(unfold Jc;simp;done)|simp)
theorem JnK(KH Kv:Int)(Kw Ku KJ:Int)(f_adds:List Res)(f_gone:List Key)(K4:Int)(f_have:List Mark)(f_held:List Key):CallR prog 153 [.agg [.int .i64 KH,.int .i64 Kv,.int .i64 Kw,.int .i64 Ku,.int .i64 KJ,.slice false (Ja f_adds),.slice false (Ja f_gone),.int .i64 K4,.slice false (Ja f_have),.slice false (Ja f_held)]] (.val (Dat.av (Ja0 (⟨KH,Kv,Kw,Ku,KJ,f_adds,f_gone,K4,f_have,f_held⟩:Frame)))):=by
 refine Jl call153 func153 rfl ntmps153 results153 fun ts hn h0=>?_
 (repeat' (first
 | (with_reducible first|assumption|(refine Qw hK _ ?_;clear hK K)|refine Qw ‹_› _ ?_|refine Qx ‹_› ?_|refine Qi fun K hK=>?_|refine Qj T fun K hK=>?_|refine Ql fun A B hA hB=>?_|refine Qm ?_|refine Qn ?_|refine Qr ?_)
 |(with_reducible first|apply Qy|apply Qz|apply QA)<;>intro hb<;>try simp only[nr] at hb
 |simp only[go_sem,↓reduceIte,Qa,Qh,Qb,Qc,Qd,Qe,Qf,Qg,reduceCtorEq, *]
 |intro(bn:Bool) hbn))
 all_goals ((repeat clear hK);(repeat clear hA);(repeat clear hB))
 all_goals simp_all[Ja0,Vp]
theorem Jn3(KH Kv:Int)(Kw Ku KJ:Int)(f_adds:List Res)(f_gone:List Key)(K4:Int)(f_have:List Mark)(f_held:List Key)(L8 L2:Int)(L6 L3 L7:Int)(LW:List Res)(LX:List Key)(Mb:Int)(LY:List Mark)(LZ:List Key)(hs:V4 (⟨KH,Kv,Kw,Ku,KJ,f_adds,f_gone,K4,f_have,f_held⟩:Frame)):CallR prog 152 [.agg [.int .i64 KH,.int .i64 Kv,.int .i64 Kw,.int .i64 Ku,.int .i64 KJ,.slice false (Ja f_adds),.slice false (Ja f_gone),.int .i64 K4,.slice false (Ja f_have),.slice false (Ja f_held)],.agg [.int .i64 L8,.int .i64 L2,.int .i64 L6,.int .i64 L3,.int .i64 L7,.slice false (Ja LW),.slice false (Ja LX),.int .i64 Mb,.slice false (Ja LY),.slice false (Ja LZ)]] (.val (.bool (decide ((⟨KH,Kv,Kw,Ku,KJ,f_adds,f_gone,K4,f_have,f_held⟩:Frame)=(⟨L8,L2,L6,L3,L7,LW,LX,Mb,LY,LZ⟩:Frame))))):=by
 obtain⟨g1,g2,g3,g4,g5,g6,g7,g8⟩:=hs
 have w1:=Jh4 107 [] Caps.nil f_adds LW (fun x hx y=>Jj9 x.kind x.name x.ver x.port x.to' x.rules' x.hosts y.kind y.name y.ver y.port y.to' y.rules' y.hosts (g2 x hx).2.2.2.2 (g2 x hx).2.2.1 (g2 x hx).2.2.2.1) g1
 have w2:=Ja6 f_gone LX g3
 have w3:=JnG f_have LY g5
 have w4:=Ja6 f_held LZ g7
 clear g1 g2 g3 g4 g5 g6 g7 g8
 refine Jn call152 func152 rfl ntmps152 results152 fun ts hn h0 h1=>?_
 (repeat' (first
 | (with_reducible first|refine callX.by (w1) ?_|refine callX.by (w2) ?_|refine callX.by (w3) ?_|refine callX.by (w4) ?_|assumption|(refine Qw hK _ ?_;clear hK K)|refine Qw ‹_› _ ?_|refine Qx ‹_› ?_|refine Qi fun K hK=>?_|refine Qj T fun K hK=>?_|refine Ql fun A B hA hB=>?_|refine Qn ?_|refine Qr ?_)
 |(with_reducible first|apply Qy|apply Qz|apply QA)<;>intro hb<;>try simp only[nr] at hb
 |simp only[go_sem,↓reduceIte,Qa,Qh,Qb,Qc,Qd,Qe,Qf,Qg,reduceCtorEq, *,-w1,-w2,-w3,-w4]
 |intro(bn:Bool) hbn))
 all_goals ((repeat clear hK);(repeat clear hA);(repeat clear hB))
 all_goals (rw[Bool.eq_iff_iff];simp_all[JnJ])
def JfP(t:Int):Frame:=⟨t,0,0,0,0,[],[],0,[],[]⟩
def Jb1(f:Frame):Bool:=decide (Ja0 f=JfP f.type)
theorem Jir(KH Kv:Int)(Kw Ku KJ:Int)(f_adds:List Res)(f_gone:List Key)(K4:Int)(f_have:List Mark)(f_held:List Key)(hs:V4 (⟨KH,Kv,Kw,Ku,KJ,f_adds,f_gone,K4,f_have,f_held⟩:Frame)):CallR prog 114 [.agg [.int .i64 KH,.int .i64 Kv,.int .i64 Kw,.int .i64 Ku,.int .i64 KJ,.slice false (Ja f_adds),.slice false (Ja f_gone),.int .i64 K4,.slice false (Ja f_have),.slice false (Ja f_held)]] (.val (.bool (Jb1 (⟨KH,Kv,Kw,Ku,KJ,f_adds,f_gone,K4,f_have,f_held⟩:Frame)))):=by
 have w1:=JnK KH Kv Kw Ku KJ f_adds f_gone K4 f_have f_held
 have hb:=JqU (⟨KH,Kv,Kw,Ku,KJ,f_adds,f_gone,K4,f_have,f_held⟩:Frame) hs
 have e:Jb1 (⟨KH,Kv,Kw,Ku,KJ,f_adds,f_gone,K4,f_have,f_held⟩:Frame)=decide (Ja0 (⟨KH,Kv,Kw,Ku,KJ,f_adds,f_gone,K4,f_have,f_held⟩:Frame)=JfP KH):=rfl
 generalize Ja0 (⟨KH,Kv,Kw,Ku,KJ,f_adds,f_gone,K4,f_have,f_held⟩:Frame)=b at w1 hb e
 have w2:=Jn3 b.type b.epoch b.kind b.nonce b.turn b.adds b.gone b.err b.have' b.held KH 0 0 0 0 [] [] 0 [] [] hb
 have w2:CallR prog 152 [.agg [.int .i64 b.type,.int .i64 b.epoch,.int .i64 b.kind,.int .i64 b.nonce,.int .i64 b.turn,.slice false (Ja b.adds),.slice false (Ja b.gone),.int .i64 b.err,.slice false (Ja b.have'),.slice false (Ja b.held)],.agg [.int .i64 KH,.int .i64 0,.int .i64 0,.int .i64 0,.int .i64 0,.slice false [],.slice false [],.int .i64 0,.slice false [],.slice false []]] (.val (.bool (decide (b=JfP KH)))):=w2
 clear hb hs
 refine Jl call114 func114 rfl ntmps114 results114 fun ts hn h0=>?_
 (repeat' (first
 | (with_reducible first|refine callX.by (w1) ?_|refine callX.by (w2) ?_|assumption|(refine Qw hK _ ?_;clear hK K)|refine Qw ‹_› _ ?_|refine Qx ‹_› ?_|refine Qi fun K hK=>?_|refine Qj T fun K hK=>?_|refine Qk (id:=1) T mixed Jfq (by kernel_rfl) fun K hK=>?_|refine Ql fun A B hA hB=>?_|refine Qn ?_|refine Qr ?_)
 |(with_reducible first|apply Qy|apply Qz|apply QA)<;>intro hb<;>try simp only[nr] at hb
 |simp only[go_sem,↓reduceIte,Qa,Qh,Qb,Qc,Qd,Qe,Qf,Qg,reduceCtorEq, *,-w1,-w2]
 |intro(bn:Bool) hbn))
def YQ(f:Frame):Int:=Z5 [Zd (fin f.type 3 && fin f.kind 3) 4,Zd (Jbd f) 3,Zd (Jb1 f) 2,Zd (Jbc f) 5,ZC f.adds,Zd (Jb0 f) 2]
theorem Jip(KH Kv:Int)(Kw Ku KJ:Int)(f_adds:List Res)(f_gone:List Key)(K4:Int)(f_have:List Mark)(f_held:List Key)(hs:V4 (⟨KH,Kv,Kw,Ku,KJ,f_adds,f_gone,K4,f_have,f_held⟩:Frame)):CallR prog 79 [.agg [.int .i64 KH,.int .i64 Kv,.int .i64 Kw,.int .i64 Ku,.int .i64 KJ,.slice false (Ja f_adds),.slice false (Ja f_gone),.int .i64 K4,.slice false (Ja f_have),.slice false (Ja f_held)]] (.val (.int .i64 (YQ (⟨KH,Kv,Kw,Ku,KJ,f_adds,f_gone,K4,f_have,f_held⟩:Frame)))):=by
 have w1:=Jit KH Kv Kw Ku KJ f_adds f_gone K4 f_have f_held hs
 have w2:=Jir KH Kv Kw Ku KJ f_adds f_gone K4 f_have f_held hs
 have w3:=Jim KH Kv Kw Ku KJ f_adds f_gone K4 f_have f_held hs
 have w4:=Jh8 KH Kv Kw Ku KJ f_adds f_gone K4 f_have f_held hs
 have w5:=Jij KH Kv Kw Ku KJ f_adds f_gone K4 f_have f_held hs
 have w6:=fun a=>Jig a (Zd (Jbd (⟨KH,Kv,Kw,Ku,KJ,f_adds,f_gone,K4,f_have,f_held⟩:Frame)) 3) (Zd (Jb1 (⟨KH,Kv,Kw,Ku,KJ,f_adds,f_gone,K4,f_have,f_held⟩:Frame)) 2) (Zd (Jbc (⟨KH,Kv,Kw,Ku,KJ,f_adds,f_gone,K4,f_have,f_held⟩:Frame)) 5) (ZC f_adds) (Zd (Jb0 (⟨KH,Kv,Kw,Ku,KJ,f_adds,f_gone,K4,f_have,f_held⟩:Frame)) 2)
 clear hs
 refine CallR.go1 (T:=T.withF [26]) call79 func79 rfl ntmps79 (congrArg Array.toList results79) (by decide) fun ts hn h0=>?_
 (repeat' (first
 | (with_reducible first|refine callX.by (w1) ?_|refine callX.by (w2) ?_|refine callX.by (w3) ?_|refine callX.by (w4) ?_|refine callX.by (w5) ?_|refine callX.by (w6) ?_|refine callX.by (Jd7 _ _) ?_|refine callX.by (Jrq _ _) ?_|refine callX.by (Jit _ _ _ _ _ _ _ _ _ _ ?_) ?_|refine callX.by (Jir _ _ _ _ _ _ _ _ _ _ ?_) ?_|refine callX.by (Jim _ _ _ _ _ _ _ _ _ _ ?_) ?_|refine callX.by (Jh8 _ _ _ _ _ _ _ _ _ _ ?_) ?_|refine callX.by (Jij _ _ _ _ _ _ _ _ _ _ ?_) ?_|refine callX.by (Jii _ ?_) ?_|refine callX.by (Jig _ _ _ _ _ _) ?_|assumption|(refine Qw hK _ ?_;clear hK K)|refine Qw ‹_› _ ?_|refine Qx ‹_› ?_|refine Qi fun K hK=>?_|refine Qj (T.withF [26]) fun K hK=>?_|refine Qk (id:=1) (T.withF [26]) mixed [([3],[6,7,8,9,10,11,12,13,14,15,16,17,18,19,20,21,22,23,24,25,26,27]),([4],[7,8,9,10,11,12,13,14,15,16,17,18,19,20,21,22,23,24,25,26,27]),([5],[11,12,13,14,15,16,17,18,19,20,21,22,23,24,25,26,27]),([6],[3,12,13,14,15,16,17,18,19,20,21,22,23,24,25,26,27]),([7],[3,4,10,11,12,13,14,15,16,17,18,19,20,21,22,23,24,25,26,27]),([8],[3,4,12,13,14,15,16,17,18,19,20,21,22,23,24,25,26,27]),([9],[3,4,12,14,15,16,17,18,19,20,21,22,23,24,25,27]),([10],[3,4,7,12,14,15,16,17,18,19,20,21,22,23,24,25,27]),([11],[3,4,5,7,12,15,16,17,18,19,20,21,22,23,24,25]),([12],[3,4,5,6,7,8,9,10,11,15,16,17,18,19,20,21,22,23,24,25,26,27]),([13],[3,4,5,6,7,8,15,17,18,19,20,21,22,23,24,25,27]),([14],[3,4,5,6,7,8,9,10,15,18,19,20,21,22,23,24,25]),([15],[3,4,5,6,7,8,9,10,11,12,13,14,18,19,20,21,22,23,24,25,26,27]),([16],[3,4,5,6,7,8,9,10,11,12,18,20,21,22,23,24,25,27]),([17],[3,4,5,6,7,8,9,10,11,12,13,18,21,22,23,24,25]),([18],[3,4,5,6,7,8,9,10,11,12,13,14,15,16,17,21,22,23,24,25,26,27]),([19],[3,4,5,6,7,8,9,10,11,12,13,14,15,21,23,24,25,27]),([20],[3,4,5,6,7,8,9,10,11,12,13,14,15,16,21,23,25]),([21],[3,4,5,6,7,8,9,10,11,12,13,14,15,16,17,18,19,20,23,25,27]),([22],[3,4,5,6,7,8,9,10,11,12,13,14,15,16,17,18,23]),([23],[3,4,5,6,7,8,9,10,11,12,13,14,15,16,17,18,19,20,21,22,26,27]),([24],[3,4,5,6,7,8,9,10,11,12,13,14,15,16,17,18,19]),([25],[3,4,5,6,7,8,9,10,11,12,13,14,15,16,17,18,19,20,21]),([26],[3,4,5,6,7,8,12,15,18,23]),([27],[3,4,5,6,7,8,9,10,12,13,15,16,18,19,21,23])] (by kernel_rfl) fun K hK=>?_|refine Ql fun A B hA hB=>?_|refine Qn ?_|refine Qr ?_)
 |(with_reducible first|apply Qy|apply Qz|apply QA)<;>intro hb<;>try simp only[nr] at hb
 |simp only[go_sem,↓reduceIte,Qa,Qh,Qb,Qc,Qd,Qe,Qf,Qg,reduceCtorEq, *,-w1,-w2,-w3,-w4,-w5,-w6]
 |intro(bn:Bool) hbn))
 all_goals simp only[YQ,hb,Bool.true_and,Bool.false_and]
theorem Jny(s p:List UInt8):CallR prog 214 [.str s,.str p] (.val (.tup [.str (YA s p),.bool (VL s p)])):=by
 by_cases hp:VL s p=true
 ·have hle:p.length≤s.length:=by
   have:=hp
   simp only[VL,Bool.and_eq_true,decide_eq_true_eq] at this
   exact this.1
  have ht:(s.drop p.length).take (s.length-p.length)=s.drop p.length:=List.take_of_length_le (by simp)
  refine Jn call214 func214 rfl ntmps214 results214 fun ts hn h0 h1=>?_
  (repeat' (first
 | (with_reducible first|refine callX.by (JcP _ _) ?_|assumption|(refine Qw hK _ ?_;clear hK K)|refine Qw ‹_› _ ?_|refine Qx ‹_› ?_|refine Qi fun K hK=>?_|refine Qj T fun K hK=>?_|refine Ql fun A B hA hB=>?_|refine Qn ?_|refine Qr ?_)
 |(with_reducible first|apply Qy|apply Qz|apply QA)<;>intro hb<;>try simp only[nr] at hb
 |simp only[go_sem,↓reduceIte,Qa,Qh,Qb,Qc,Qd,Qe,Qf,Qg,reduceCtorEq, *]
 |intro(bn:Bool) hbn))
  all_goals ((repeat clear hK);(repeat clear hA);(repeat clear hB))
  all_goals simp[YA,hp]
 ·have hp':VL s p=false:=by simpa using hp
  refine Jn call214 func214 rfl ntmps214 results214 fun ts hn h0 h1=>?_
  (repeat' (first
 | (with_reducible first|refine callX.by (JcP _ _) ?_|assumption|(refine Qw hK _ ?_;clear hK K)|refine Qw ‹_› _ ?_|refine Qx ‹_› ?_|refine Qi fun K hK=>?_|refine Qj T fun K hK=>?_|refine Ql fun A B hA hB=>?_|refine Qn ?_|refine Qr ?_)
 |(with_reducible first|apply Qy|apply Qz|apply QA)<;>intro hb<;>try simp only[nr] at hb
 |simp only[go_sem,↓reduceIte,Qa,Qh,Qb,Qc,Qd,Qe,Qf,Qg,reduceCtorEq, *]
 |intro(bn:Bool) hbn))
  all_goals ((repeat clear hK);(repeat clear hA);(repeat clear hB))
  all_goals simp[YA,hp']
theorem JhR(s p:List UInt8):CallR prog 169 [.str s,.str p] (.val (.tup [.str (YA s p),.bool (VL s p)])):=by
 refine Jn call169 func169 rfl ntmps169 results169 fun ts hn h0 h1=>?_
 (repeat' (first
 | (with_reducible first|refine callX.by (Jny _ _) ?_|assumption|(refine Qw hK _ ?_;clear hK K)|refine Qw ‹_› _ ?_|refine Qx ‹_› ?_|refine Qi fun K hK=>?_|refine Qj T fun K hK=>?_|refine Ql fun A B hA hB=>?_|refine Qn ?_|refine Qr ?_)
 |(with_reducible first|apply Qy|apply Qz|apply QA)<;>intro hb<;>try simp only[nr] at hb
 |simp only[go_sem,↓reduceIte,Qa,Qh,Qb,Qc,Qd,Qe,Qf,Qg,reduceCtorEq, *]
 |intro(bn:Bool) hbn))
def Jb4(s p:List UInt8):Bool:=decide (p.length≤s.length) && decide (s.drop (s.length-p.length)=p)
theorem Jn9(s p:List UInt8)(hl:Jc s.length):CallR prog 215 [.str s,.str p] (.val (.bool (Jb4 s p))):=by
 by_cases hle:p.length≤s.length
 ·have hw:IntKind.i64.wrap ((s.length:Int)-(p.length:Int))=((s.length-p.length:Nat):Int):=by
   rw[show(s.length:Int)-(p.length:Int)=((s.length-p.length:Nat):Int) by omega];exact IntWalk.i64_in _ (by unfold Jc at hl;omega)
  have ht:(s.drop (s.length-p.length)).take (s.length-(s.length-p.length))=s.drop (s.length-p.length):=List.take_of_length_le (by simp)
  have h1:s.length-p.length≤s.length:=by omega
  refine Jn call215 func215 rfl ntmps215 results215 fun ts hn h0 h1=>?_
  (repeat' (first
 | (with_reducible first|assumption|(refine Qw hK _ ?_;clear hK K)|refine Qw ‹_› _ ?_|refine Qx ‹_› ?_|refine Qi fun K hK=>?_|refine Qj T fun K hK=>?_|refine Ql fun A B hA hB=>?_|refine Qn ?_|refine Qr ?_)
 |(with_reducible first|apply Qy|apply Qz|apply QA)<;>intro hb<;>try simp only[nr] at hb
 |simp only[go_sem,↓reduceIte,Qa,Qh,Qb,Qc,Qd,Qe,Qf,Qg,reduceCtorEq, *]
 |intro(bn:Bool) hbn))
  all_goals ((repeat clear hK);(repeat clear hA);(repeat clear hB))
  all_goals simp[Jb4,hle]
 ·refine Jn call215 func215 rfl ntmps215 results215 fun ts hn h0 h1=>?_
  (repeat' (first
 | (with_reducible first|assumption|(refine Qw hK _ ?_;clear hK K)|refine Qw ‹_› _ ?_|refine Qx ‹_› ?_|refine Qi fun K hK=>?_|refine Qj T fun K hK=>?_|refine Ql fun A B hA hB=>?_|refine Qn ?_|refine Qr ?_)
 |(with_reducible first|apply Qy|apply Qz|apply QA)<;>intro hb<;>try simp only[nr] at hb
 |simp only[go_sem,↓reduceIte,Qa,Qh,Qb,Qc,Qd,Qe,Qf,Qg,reduceCtorEq, *]
 |intro(bn:Bool) hbn))
  all_goals ((repeat clear hK);(repeat clear hA);(repeat clear hB))
  all_goals simp[Jb4,hle]
theorem Jix(s p:List UInt8)(hl:Jc s.length):CallR prog 170 [.str s,.str p] (.val (.bool (Jb4 s p))):=by
 refine Jn call170 func170 rfl ntmps170 results170 fun ts hn h0 h1=>?_
 (repeat' (first
 | (with_reducible first|refine callX.by (Jn9 _ _ ?_) ?_|assumption|(refine Qw hK _ ?_;clear hK K)|refine Qw ‹_› _ ?_|refine Qx ‹_› ?_|refine Qi fun K hK=>?_|refine Qj T fun K hK=>?_|refine Ql fun A B hA hB=>?_|refine Qn ?_|refine Qr ?_)
 |(with_reducible first|apply Qy|apply Qz|apply QA)<;>intro hb<;>try simp only[nr] at hb
 |simp only[go_sem,↓reduceIte,Qa,Qh,Qb,Qc,Qd,Qe,Qf,Qg,reduceCtorEq, *]
 |intro(bn:Bool) hbn))
def JaW(s:List UInt8):Int:=if s=[42] then 0 else if VL s [42,46]=true then s.length else 9223372036854775807
theorem Jry(s:List UInt8):CallR prog 217 [.str s] (.val (.int .i64 (JaW s))):=by
 refine Jl call217 func217 rfl ntmps217 results217 fun ts hn h0=>?_
 (repeat' (first
 | (with_reducible first|refine callX.by (Jbf _ _) ?_|assumption|(refine Qw hK _ ?_;clear hK K)|refine Qw ‹_› _ ?_|refine Qx ‹_› ?_|refine Qi fun K hK=>?_|refine Qj T fun K hK=>?_|refine Ql fun A B hA hB=>?_|refine Qm ?_|refine Qn ?_|refine Qr ?_)
 |(with_reducible first|apply Qy|apply Qz|apply QA)<;>intro hb<;>try simp only[nr] at hb
 |simp only[go_sem,↓reduceIte,Qa,Qh,Qb,Qc,Qd,Qe,Qf,Qg,reduceCtorEq, *]
 |intro(bn:Bool) hbn))
 all_goals ((repeat clear hK);(repeat clear hA);(repeat clear hB))
 all_goals simp_all[JaW]
theorem Jo9(a b:List UInt8):CallR prog 172 [.str a,.str b] (.val (.int .i64 (Jay (JaW a) (JaW b)))):=by
 refine Jn call172 func172 rfl ntmps172 results172 fun ts hn h0 h1=>?_
 (repeat' (first
 | (with_reducible first|refine callX.by (Jry _) ?_|refine callX.by (JiD _ _) ?_|assumption|(refine Qw hK _ ?_;clear hK K)|refine Qw ‹_› _ ?_|refine Qx ‹_› ?_|refine Qi fun K hK=>?_|refine Qj T fun K hK=>?_|refine Ql fun A B hA hB=>?_|refine Qn ?_|refine Qr ?_)
 |(with_reducible first|apply Qy|apply Qz|apply QA)<;>intro hb<;>try simp only[nr] at hb
 |simp only[go_sem,↓reduceIte,Qa,Qh,Qb,Qc,Qd,Qe,Qf,Qg,reduceCtorEq, *]
 |intro(bn:Bool) hbn))
def JfZ(p h:List UInt8):Bool:=(JcR p && (JcR h && !VL h [42])) && ((decide (p=[42]) || decide (p=h)) || (VL p [42] && (decide ((YA p [42]).length<h.length) && Jb4 h (YA p [42]))))
theorem JoR(p h:List UInt8)(hp:Jc p.length)(hh:Jc h.length):CallR prog 126 [.str p,.str h] (.val (.bool (JfZ p h))):=by
 refine Jn call126 func126 rfl ntmps126 results126 fun ts hn h0 h1=>?_
 (repeat' (first
 | (with_reducible first|refine callX.by (JiC _ ?_) ?_|refine callX.by (Jbf _ _) ?_|refine callX.by (JhR _ _) ?_|refine callX.by (Jix _ _ ?_) ?_|assumption|(refine Qw hK _ ?_;clear hK K)|refine Qw ‹_› _ ?_|refine Qx ‹_› ?_|refine Qi fun K hK=>?_|refine Qj T fun K hK=>?_|refine Ql fun A B hA hB=>?_|refine Qm ?_|refine Qn ?_|refine Qr ?_)
 |(with_reducible first|apply Qy|apply Qz|apply QA)<;>intro hb<;>try simp only[nr] at hb
 |simp only[go_sem,↓reduceIte,Qa,Qh,Qb,Qc,Qd,Qe,Qf,Qg,reduceCtorEq, *]
 |intro(bn:Bool) hbn))
 all_goals ((repeat clear hK);(repeat clear hA);(repeat clear hB))
 all_goals (simp_all[JfZ];try(intro h9;omega))
def Jg0(p s:List UInt8):Bool:=(VL s p && (JaK p && JaK s)) && (decide (YA s p=[]) || (Jb4 p [47] || VL (YA s p) [47]))
theorem Jrp(p s:List UInt8)(hp:Jc p.length):CallR prog 127 [.str p,.str s] (.val (.bool (Jg0 p s))):=by
 refine Jn call127 func127 rfl ntmps127 results127 fun ts hn h0 h1=>?_
 (repeat' (first
 | (with_reducible first|refine callX.by (JhR _ _) ?_|refine callX.by (Jjz _) ?_|refine callX.by (Jix _ _ ?_) ?_|refine callX.by (Jbf _ _) ?_|assumption|(refine Qw hK _ ?_;clear hK K)|refine Qw ‹_› _ ?_|refine Qx ‹_› ?_|refine Qi fun K hK=>?_|refine Qj T fun K hK=>?_|refine Ql fun A B hA hB=>?_|refine Qn ?_|refine Qr ?_)
 |(with_reducible first|apply Qy|apply Qz|apply QA)<;>intro hb<;>try simp only[nr] at hb
 |simp only[go_sem,↓reduceIte,Qa,Qh,Qb,Qc,Qd,Qe,Qf,Qg,reduceCtorEq, *]
 |intro(bn:Bool) hbn))
 all_goals ((repeat clear hK);(repeat clear hA);(repeat clear hB))
 all_goals simp_all[Jg0]
def cw(y:Weight):Int:=max 0 (min y.w 100)
theorem JfF(y:Weight):0≤cw y∧cw y≤100:=by unfold cw;omega
theorem JaV(LT:List UInt8)(Md:Int):CallR prog 92 [.agg [.str LT,.int .i64 Md]] (.val (.int .i64 (cw (⟨LT,Md⟩:Weight)))):=by
 refine Jl call92 func92 rfl ntmps92 results92 fun ts hn h0=>?_
 (repeat' (first
 | (with_reducible first|assumption|(refine Qw hK _ ?_;clear hK K)|refine Qw ‹_› _ ?_|refine Qx ‹_› ?_|refine Qi fun K hK=>?_|refine Qj T fun K hK=>?_|refine Ql fun A B hA hB=>?_|refine Qn ?_|refine Qr ?_)
 |(with_reducible first|apply Qy|apply Qz|apply QA)<;>intro hb<;>try simp only[nr] at hb
 |simp only[go_sem,↓reduceIte,Qa,Qh,Qb,Qc,Qd,Qe,Qf,Qg,reduceCtorEq, *]
 |intro(bn:Bool) hbn))
 all_goals rfl
def VQ(l:List Weight):Int:=(l.map cw).sum
theorem JkA(y:Weight)(l:List Weight):VQ (y :: l)=cw y+VQ l:=by simp[VQ]
theorem Jfb:∀l:List Weight,0≤VQ l∧VQ l≤100*l.length
 | []=>by simp[VQ]
 |y :: l=>by have h:=Jfb l;have h2:=JfF y;rw[JkA,List.length_cons];omega
theorem Jdz(xs:List Weight)(hl:Jc xs.length):CallR prog 91 [.slice false (Ja xs)] (.val (.int .i64 (VQ xs))):=by
 have htr:=Jfb xs
 refine Jl call91 func91 rfl ntmps91 results91 fun ts hn h0=>?_
 (repeat' (first
 | (with_reducible first|refine callX.by (JaV _ _) ?_|assumption|(refine Qw hK _ ?_;clear hK K)|refine Qw ‹_› _ ?_|refine Qx ‹_› ?_|refine Qi fun K hK=>?_|refine Qj T fun K hK=>?_|refine Ql fun A B hA hB=>?_|refine Qm ?_|refine Qn ?_|refine Qp ?_|refine Qr ?_)
 |(with_reducible first|apply Qy|apply Qz|apply QA)<;>intro hb<;>try simp only[nr] at hb
 |simp only[go_sem,↓reduceIte,Qa,Qh,Qb,Qc,Qd,Qe,Qf,Qg,reduceCtorEq, *,-htr]
 |intro(bn:Bool) hbn))
 refine Qs [6,7] (fun m ts'=>∃(i:Nat),∃(n:Int),m=xs.length-i∧i≤xs.length∧VQ xs=n+VQ (xs.drop i)∧0≤n∧ts'.tmp 3=.int .i64 n∧ts'.tmp 8=.int .i64 i) xs.length ?_ ?_
 ·refine⟨0,0,rfl,Nat.zero_le _,by simp,by omega,?_⟩
  simp only[go_sem,↓reduceIte,Qa,Qh,Qb,Qc,Qd,Qe,Qf,Qg,reduceCtorEq, *,-htr]
 ·rintro m A hM ts' hk ⟨i,n,hm,f1,f2,f3,s1,s2⟩
  simp only[go_sem,↓reduceIte,Qa,Qh,Qb,Qc,Qd,Qe,Qf,Qg,reduceCtorEq, *] at hk
  by_cases hlt:i<xs.length
  ·rw[List.drop_eq_getElem_cons hlt,JkA] at f2
   have hc:=JfF xs[i]
   have ht2:=Jfb (xs.drop (i+1))
   have hw:IntKind.i64.wrap (n+cw xs[i])=n+cw xs[i]:=IntWalk.i64_in _ (by unfold Jc at hl;omega)
   (repeat' (first
 | (with_reducible first|refine callX.by (JaV _ _) ?_|assumption|(refine Qw hK _ ?_;clear hK K)|refine Qw ‹_› _ ?_|refine Qx ‹_› ?_|refine Qi fun K hK=>?_|refine Qj T fun K hK=>?_|refine Ql fun A B hA hB=>?_|refine Qm ?_|refine Qn ?_|refine Qp ?_|refine Qr ?_)
 |(with_reducible first|apply Qy|apply Qz|apply QA)<;>intro hb<;>try simp only[nr] at hb
 |simp only[go_sem,↓reduceIte,Qa,Qh,Qb,Qc,Qd,Qe,Qf,Qg,reduceCtorEq, *,-htr,-f2,-hc,-ht2]
 |intro(bn:Bool) hbn))
   all_goals ((repeat clear hK);(repeat clear hA);(repeat clear hB))
   (refine hM.on (xs.length-(i+1)) (by omega) (by simp only[go_sem,↓reduceIte,Qa,Qh,Qb,Qc,Qd,Qe,Qf,Qg,reduceCtorEq, *,Jg hlt hl,-htr,-f2,-hc,-ht2]) ⟨i+1,n+cw xs[i],rfl,by omega,by omega,by omega,?_⟩;simp only[go_sem,↓reduceIte,Qa,Qh,Qb,Qc,Qd,Qe,Qf,Qg,reduceCtorEq, *,Jg hlt hl,-htr,-f2,-hc,-ht2];done)
  ·rw[List.drop_eq_nil_of_le (by omega)] at f2
   have e:n=VQ xs:=by rw[f2];simp[VQ]
   subst e
   (repeat' (first
 | (with_reducible first|refine callX.by (JaV _ _) ?_|assumption|(refine Qw hK _ ?_;clear hK K)|refine Qw ‹_› _ ?_|refine Qx ‹_› ?_|refine Qi fun K hK=>?_|refine Qj T fun K hK=>?_|refine Ql fun A B hA hB=>?_|refine Qm ?_|refine Qn ?_|refine Qp ?_|refine Qr ?_)
 |(with_reducible first|apply Qy|apply Qz|apply QA)<;>intro hb<;>try simp only[nr] at hb
 |simp only[go_sem,↓reduceIte,Qa,Qh,Qb,Qc,Qd,Qe,Qf,Qg,reduceCtorEq, *,-htr,-f2]
 |intro(bn:Bool) hbn))
def Ja3:List Weight→Int→Option (List UInt8)
 | [],_=>none
 |y :: l,n=>if n-cw y<0 then some y.cluster else Ja3 l (n-cw y)
def YV(l:List Weight)(draw:Int):Option (List UInt8):=if VQ l=0 then none else Ja3 l ((max 0 draw).tmod (VQ l))
theorem Jpt(xs:List Weight)(draw:Int)(hl:Jc xs.length):CallR prog 59 [.slice false (Ja xs),.int .i64 draw] (.val (.tup [.str ((YV xs draw).getD []),.bool (YV xs draw).isSome])):=by
 have htr:=Jfb xs
 by_cases h0:VQ xs=0
 ·have e:YV xs draw=none:=by unfold YV;rw[if_pos h0]
  rw[e]
  refine Jn call59 func59 rfl ntmps59 results59 fun ts hn h0 h1=>?_
  (repeat' (first
 | (with_reducible first|refine callX.by (Jdz _ ?_) ?_|refine callX.by (JaV _ _) ?_|assumption|(refine Qw hK _ ?_;clear hK K)|refine Qw ‹_› _ ?_|refine Qx ‹_› ?_|refine Qi fun K hK=>?_|refine Qj T fun K hK=>?_|refine Ql fun A B hA hB=>?_|refine Qm ?_|refine Qn ?_|refine Qp ?_|refine Qr ?_)
 |(with_reducible first|apply Qy|apply Qz|apply QA)<;>intro hb<;>try simp only[nr] at hb
 |simp only[go_sem,↓reduceIte,Qa,Qh,Qb,Qc,Qd,Qe,Qf,Qg,reduceCtorEq, *,-htr,Option.getD_none,Option.isSome_none]
 |intro(bn:Bool) hbn))
 ·have e:YV xs draw=Ja3 xs ((max 0 draw).tmod (VQ xs)):=by unfold YV;rw[if_neg h0]
  rw[e]
  have hm1:0≤(max 0 draw).tmod (VQ xs):=Int.tmod_nonneg _ (by omega)
  have hm2:(max 0 draw).tmod (VQ xs)≤VQ xs:=Int.le_of_lt (Int.tmod_lt_of_pos _ (by omega))
  clear e
  obtain⟨q0,hq⟩:∃q0,(max 0 draw).tmod (VQ xs)=q0:=⟨_,rfl⟩
  rw[hq] at hm1 hm2 ⊢
  refine Jn call59 func59 rfl ntmps59 results59 fun ts hn h0 h1=>?_
  (repeat' (first
 | (with_reducible first|refine callX.by (Jdz _ ?_) ?_|refine callX.by (JaV _ _) ?_|assumption|(refine Qw hK _ ?_;clear hK K)|refine Qw ‹_› _ ?_|refine Qx ‹_› ?_|refine Qi fun K hK=>?_|refine Qj T fun K hK=>?_|refine Ql fun A B hA hB=>?_|refine Qm ?_|refine Qn ?_|refine Qp ?_|refine Qr ?_)
 |(with_reducible first|apply Qy|apply Qz|apply QA)<;>intro hb<;>try simp only[nr] at hb
 |simp only[go_sem,↓reduceIte,Qa,Qh,Qb,Qc,Qd,Qe,Qf,Qg,reduceCtorEq, *,-htr,-hm1,-hm2]
 |intro(bn:Bool) hbn))
  refine Qs [18,19] (fun m ts'=>∃(i:Nat),∃(n:Int),m=xs.length-i∧i≤xs.length∧Ja3 xs q0=Ja3 (xs.drop i) n∧0≤n∧n≤q0∧ts'.tmp 7=.int .i64 n∧ts'.tmp 20=.int .i64 i) xs.length ?_ ?_
  ·refine⟨0,q0,rfl,Nat.zero_le _,rfl,by omega,by omega,?_⟩
   simp only[go_sem,↓reduceIte,Qa,Qh,Qb,Qc,Qd,Qe,Qf,Qg,reduceCtorEq, *,-htr,-hm1,-hm2]
  ·rintro m A hM ts' hk ⟨i,n,hm,f1,f2,f3,f4,s1,s2⟩
   simp only[go_sem,↓reduceIte,Qa,Qh,Qb,Qc,Qd,Qe,Qf,Qg,reduceCtorEq, *] at hk
   by_cases hlt:i<xs.length
   ·rw[List.drop_eq_getElem_cons hlt,Ja3] at f2
    have hc:=JfF xs[i]
    have hw:IntKind.i64.wrap (n-cw xs[i])=n-cw xs[i]:=IntWalk.i64_in _ (by unfold Jc at hl;omega)
    by_cases hn:n-cw xs[i]<0
    ·rw[if_pos hn] at f2
     rw[f2]
     (repeat' (first
 | (with_reducible first|refine callX.by (Jdz _ ?_) ?_|refine callX.by (JaV _ _) ?_|assumption|(refine Qw hK _ ?_;clear hK K)|refine Qw ‹_› _ ?_|refine Qx ‹_› ?_|refine Qi fun K hK=>?_|refine Qj T fun K hK=>?_|refine Ql fun A B hA hB=>?_|refine Qm ?_|refine Qn ?_|refine Qp ?_|refine Qr ?_)
 |(with_reducible first|apply Qy|apply Qz|apply QA)<;>intro hb<;>try simp only[nr] at hb
 |simp only[go_sem,↓reduceIte,Qa,Qh,Qb,Qc,Qd,Qe,Qf,Qg,reduceCtorEq, *,-htr,-hm1,-hm2,-hc,Option.getD_some,Option.isSome_some]
 |intro(bn:Bool) hbn))
    ·rw[if_neg hn] at f2
     (repeat' (first
 | (with_reducible first|refine callX.by (Jdz _ ?_) ?_|refine callX.by (JaV _ _) ?_|assumption|(refine Qw hK _ ?_;clear hK K)|refine Qw ‹_› _ ?_|refine Qx ‹_› ?_|refine Qi fun K hK=>?_|refine Qj T fun K hK=>?_|refine Ql fun A B hA hB=>?_|refine Qm ?_|refine Qn ?_|refine Qp ?_|refine Qr ?_)
 |(with_reducible first|apply Qy|apply Qz|apply QA)<;>intro hb<;>try simp only[nr] at hb
 |simp only[go_sem,↓reduceIte,Qa,Qh,Qb,Qc,Qd,Qe,Qf,Qg,reduceCtorEq, *,-htr,-hm1,-hm2,-f2,-hc]
 |intro(bn:Bool) hbn))
     all_goals ((repeat clear hK);(repeat clear hA);(repeat clear hB))
     (refine hM.on (xs.length-(i+1)) (by omega) (by simp only[go_sem,↓reduceIte,Qa,Qh,Qb,Qc,Qd,Qe,Qf,Qg,reduceCtorEq, *,Jg hlt hl,-htr,-hm1,-hm2,-f2,-hc]) ⟨i+1,n-cw xs[i],rfl,by omega,f2,by omega,by omega,?_⟩;simp only[go_sem,↓reduceIte,Qa,Qh,Qb,Qc,Qd,Qe,Qf,Qg,reduceCtorEq, *,Jg hlt hl,-htr,-hm1,-hm2,-f2,-hc];done)
   ·rw[List.drop_eq_nil_of_le (by omega),Ja3] at f2
    rw[f2]
    (repeat' (first
 | (with_reducible first|refine callX.by (Jdz _ ?_) ?_|refine callX.by (JaV _ _) ?_|assumption|(refine Qw hK _ ?_;clear hK K)|refine Qw ‹_› _ ?_|refine Qx ‹_› ?_|refine Qi fun K hK=>?_|refine Qj T fun K hK=>?_|refine Ql fun A B hA hB=>?_|refine Qm ?_|refine Qn ?_|refine Qp ?_|refine Qr ?_)
 |(with_reducible first|apply Qy|apply Qz|apply QA)<;>intro hb<;>try simp only[nr] at hb
 |simp only[go_sem,↓reduceIte,Qa,Qh,Qb,Qc,Qd,Qe,Qf,Qg,reduceCtorEq, *,-htr,-hm1,-hm2,Option.getD_none,Option.isSome_none]
 |intro(bn:Bool) hbn))
def Yw(l:List Int)(draw:Int):Option Int:=l[((max 0 draw).tmod l.length).toNat]?
theorem Jpu(xs:List Int)(draw:Int)(hl:Jc xs.length):CallR prog 61 [.slice false (Ja xs),.int .i64 draw] (.val (.tup [.int .i64 ((Yw xs draw).getD 0),.bool (Yw xs draw).isSome])):=by
 by_cases h0:xs.length=0
 ·have e:Yw xs draw=none:=by
   have:=List.length_eq_zero_iff.1 h0
   subst this
   simp[Yw]
  rw[e]
  refine Jn call61 func61 rfl ntmps61 results61 fun ts hn h0 h1=>?_
  (repeat' (first
 | (with_reducible first|assumption|(refine Qw hK _ ?_;clear hK K)|refine Qw ‹_› _ ?_|refine Qx ‹_› ?_|refine Qi fun K hK=>?_|refine Qj T fun K hK=>?_|refine Ql fun A B hA hB=>?_|refine Qn ?_|refine Qr ?_)
 |(with_reducible first|apply Qy|apply Qz|apply QA)<;>intro hb<;>try simp only[nr] at hb
 |simp only[go_sem,↓reduceIte,Qa,Qh,Qb,Qc,Qd,Qe,Qf,Qg,reduceCtorEq, *,Option.getD_none,Option.isSome_none]
 |intro(bn:Bool) hbn))
 ·have hm1:0≤(max 0 draw).tmod (xs.length:Int):=Int.tmod_nonneg _ (by omega)
  have hm2:(max 0 draw).tmod (xs.length:Int)<xs.length:=Int.tmod_lt_of_pos _ (by omega)
  obtain⟨m,hm⟩:=Int.eq_ofNat_of_zero_le hm1
  have hm3:m<xs.length:=by omega
  have e:Yw xs draw=some xs[m]:=by
   unfold Yw
   rw[hm,Int.toNat_natCast,List.getElem?_eq_getElem hm3]
  rw[e]
  clear e hm1 hm2
  have hn0:¬(xs.length:Int)=0:=by omega
  refine Jn call61 func61 rfl ntmps61 results61 fun ts hn h0 h1=>?_
  (repeat' (first
 | (with_reducible first|assumption|(refine Qw hK _ ?_;clear hK K)|refine Qw ‹_› _ ?_|refine Qx ‹_› ?_|refine Qi fun K hK=>?_|refine Qj T fun K hK=>?_|refine Ql fun A B hA hB=>?_|refine Qn ?_|refine Qr ?_)
 |(with_reducible first|apply Qy|apply Qz|apply QA)<;>intro hb<;>try simp only[nr] at hb
 |simp only[go_sem,↓reduceIte,Qa,Qh,Qb,Qc,Qd,Qe,Qf,Qg,reduceCtorEq, *,Option.getD_some,Option.isSome_some]
 |intro(bn:Bool) hbn))
def JbO(a b:Rule):Bool:=if 0<Jay (JaW a.host) (JaW b.host) then true else if Jay (JaW a.host) (JaW b.host)<0 then false else decide (b.pfx.length<a.pfx.length)
theorem Jm6(a_host L9:List UInt8)(L0:List Weight)(L5 Ma:List UInt8)(L1:List Weight):CallR prog 128 [.agg [.str a_host,.str L9,.slice false (Ja L0)],.agg [.str L5,.str Ma,.slice false (Ja L1)]] (.val (.bool (JbO (⟨a_host,L9,L0⟩:Rule) (⟨L5,Ma,L1⟩:Rule)))):=by
 refine Jn call128 func128 rfl ntmps128 results128 fun ts hn h0 h1=>?_
 (repeat' (first
 | (with_reducible first|refine callX.by (Jo9 _ _) ?_|assumption|(refine Qw hK _ ?_;clear hK K)|refine Qw ‹_› _ ?_|refine Qx ‹_› ?_|refine Qi fun K hK=>?_|refine Qj T fun K hK=>?_|refine Ql fun A B hA hB=>?_|refine Qm ?_|refine Qn ?_|refine Qr ?_)
 |(with_reducible first|apply Qy|apply Qz|apply QA)<;>intro hb<;>try simp only[nr] at hb
 |simp only[go_sem,↓reduceIte,Qa,Qh,Qb,Qc,Qd,Qe,Qf,Qg,reduceCtorEq, *]
 |intro(bn:Bool) hbn))
 all_goals ((repeat clear hK);(repeat clear hA);(repeat clear hB))
 all_goals (unfold JbO;split<;>first|rfl|omega|(simp_all;done)|(split<;>first|rfl|omega|(simp_all;done)))
end Go.Proofs.YthjalhfmpffbjaaGreatDoor.Lg
