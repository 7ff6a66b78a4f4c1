/- Parts of the proof, one behind the other. -/
import Derived.Test.YthjalhfmpffbjaaGreatDoorG19
namespace Go.Proofs.YthjalhfmpffbjaaGreatDoor.Lg
set_option maxRecDepth 100000
set_option maxHeartbeats 64000000
set_option linter.unusedVariables false
set_option linter.unusedSimpArgs false
open Go
open Nat renaming reduceEqDiff → Qa, reduceLT → Qb, reduceLeDiff → Qc, reduceAdd → Qd, reduceMul → Qe, reduceSub → Qf, reduceBEq → Qg
open String renaming reduceEq → Qh
open SpecC renaming seqW → Qi, regW → Qj, condW → Ql, block → Qm, skip → Qn, exit → Qp, ret → Qr
open NxK renaming out → Qw
open Nx renaming out → Qx
open condK renaming split → Qy
open gK renaming split_t → Qz, split_f → QA
def JaU:Rule:=⟨[],[],[]⟩
def Jal(p:Rule→Bool)(x:Rule):Option Rule→Bool
 |none=>p x
 |some y=>p x && JbS x y
def Zj(p:Rule→Bool):List Rule→Option Rule→Option Rule
 | [],o=>o
 |x :: l,o=>Zj p l (if Jal p x o=true then some x else o)
def YR:Option Rule→List AV
 |none=>[.str [],.str [],.slice true []]
 |some x=>[.str x.host,.str x.pfx,.slice false (Ja x.split)]
theorem Jm6(fn:FuncId)(caps:List AV)(hc:Caps caps)(p:Rule→Bool)(xs:List Rule)(hp:∀x∈xs,CallR Tryz.prog fn (.agg [.str x.host,.str x.pfx,.slice false (Ja x.split)] :: caps) (.val (.bool (p x))))(hl:Jc xs.length) :
  CallR Tryz.prog 124 [.slice false (Ja xs),.clo (.func fn) [] caps,.clo (.func 128) [] []] (.val (.tup [Dat.av ((Zj p xs none).getD JaU),.bool (Zj p xs none).isSome])):=by
 have hca:=hc.args
 have hcp:=hc.pure
 have hcn:=hc.nrm
 refine J1 Tryz.call124 Tryz.func124 rfl Tryz.ntmps124 Tryz.results124 fun ts hn h0 h1 h2=>?_
 (repeat' (first
 | (with_reducible first|assumption|(refine Qw hK _ ?_;clear hK K)|refine Qw ‹_› _ ?_|refine Qx ‹_› ?_|refine Qi fun K hK=>?_|refine Qj T fun K hK=>?_|refine Ql fun A B hA hB=>?_|refine Qm ?_|refine Qn ?_|refine Qp ?_|refine Qr ?_)
 |(with_reducible first|apply Qy|apply Qz|apply QA)<;>intro hb<;>try simp only[nr] at hb
 |simp only[go_sem,↓reduceIte,Qa,Qh,Qb,Qc,Qd,Qe,Qf,Qg,reduceCtorEq, *,-hp]
 |intro(bn:Bool) hbn))
 refine SpecC.loopF [1,2,6,12,13] (fun m ts'=>∃(i:Nat),∃(g:Nat),∃(o:Option Rule),m=xs.length-i∧i≤xs.length∧Zj p xs none=Zj p (xs.drop i) o∧ts'.tmp 9=.bool o.isSome∧ts'.tmp 8=.ref 8 g 0∧ts'.gen 8=g∧ts'.obj 8=.box (YR o)∧ts'.tmp 14=.int .i64 i) xs.length ?_ ?_
 ·refine⟨0,ts.gen 8+1,none,rfl,Nat.zero_le _,rfl,?_⟩
  simp only[go_sem,↓reduceIte,Qa,Qh,Qb,Qc,Qd,Qe,Qf,Qg,reduceCtorEq, *,-hp,YR,Option.isSome_none]
 ·rintro m A hM ts' hk ⟨i,g,o,hm,f1,f2,s1,s2,s3,s4,s5⟩
  simp only[go_sem,↓reduceIte,Qa,Qh,Qb,Qc,Qd,Qe,Qf,Qg,reduceCtorEq, *] at hk
  by_cases hlt:i<xs.length
  ·rw[List.drop_eq_getElem_cons hlt,Zj] at f2
   have hpi:=hp _ (List.getElem_mem hlt)
   cases hpx:p xs[i] with
   |false =>
    have hw:Jal p xs[i] o=false:=by cases o<;>simp[Jal,hpx]
    rw[hw,if_neg (by decide)] at f2
    rw[hpx] at hpi
    (repeat' (first
 | (with_reducible first|refine callX.by (hpi) ?_|assumption|(refine Qw hK _ ?_;clear hK K)|refine Qw ‹_› _ ?_|refine Qx ‹_› ?_|refine Qi fun K hK=>?_|refine Qj T fun K hK=>?_|refine Ql fun A B hA hB=>?_|refine Qm ?_|refine Qn ?_|refine Qp ?_|refine Qr ?_)
 |(with_reducible first|apply Qy|apply Qz|apply QA)<;>intro hb<;>try simp only[nr] at hb
 |simp only[go_sem,↓reduceIte,Qa,Qh,Qb,Qc,Qd,Qe,Qf,Qg,reduceCtorEq, *,-hp,-hpi,-f2]
 |intro(bn:Bool) hbn))
    all_goals ((repeat clear hK);(repeat clear hA);(repeat clear hB))
    (refine hM.on (xs.length-(i+1)) (by omega) (by simp only[go_sem,↓reduceIte,Qa,Qh,Qb,Qc,Qd,Qe,Qf,Qg,reduceCtorEq, *,Jh hlt hl,-f2,-hp,-hpi]) ⟨i+1,g,o,rfl,by omega,f2,?_⟩;simp only[go_sem,↓reduceIte,Qa,Qh,Qb,Qc,Qd,Qe,Qf,Qg,reduceCtorEq, *,Jh hlt hl,-f2,-hp,-hpi];done)
   |true =>
    rw[hpx] at hpi
    cases o with
    |none =>
     have hw:Jal p xs[i] none=true:=by simp[Jal,hpx]
     rw[hw,if_pos rfl] at f2
     (repeat' (first
 | (with_reducible first|refine callX.by (hpi) ?_|assumption|(refine Qw hK _ ?_;clear hK K)|refine Qw ‹_› _ ?_|refine Qx ‹_› ?_|refine Qi fun K hK=>?_|refine Qj T fun K hK=>?_|refine Ql fun A B hA hB=>?_|refine Qm ?_|refine Qn ?_|refine Qp ?_|refine Qr ?_)
 |(with_reducible first|apply Qy|apply Qz|apply QA)<;>intro hb<;>try simp only[nr] at hb
 |simp only[go_sem,↓reduceIte,Qa,Qh,Qb,Qc,Qd,Qe,Qf,Qg,reduceCtorEq, *,-hp,-hpi,-f2,Option.isSome_none,YR]
 |intro(bn:Bool) hbn))
     all_goals ((repeat clear hK);(repeat clear hA);(repeat clear hB))
     (refine hM.on (xs.length-(i+1)) (by omega) (by simp only[go_sem,↓reduceIte,Qa,Qh,Qb,Qc,Qd,Qe,Qf,Qg,reduceCtorEq, *,Jh hlt hl,-f2,-hp,-hpi,YR,Option.isSome_some]) ⟨i+1,g,some xs[i],rfl,by omega,f2,?_⟩;simp only[go_sem,↓reduceIte,Qa,Qh,Qb,Qc,Qd,Qe,Qf,Qg,reduceCtorEq, *,Jh hlt hl,-f2,-hp,-hpi,YR,Option.isSome_some];done)
    |some y =>
     have hb0:=Jm2 xs[i].host xs[i].pfx xs[i].split y.host y.pfx y.split
     cases hby:JbS xs[i] y with
     |true =>
      have hw:Jal p xs[i] (some y)=true:=by simp[Jal,hpx,hby]
      rw[hw,if_pos rfl] at f2
      rw[show JbS ⟨xs[i].host,xs[i].pfx,xs[i].split⟩ ⟨y.host,y.pfx,y.split⟩=true from hby] at hb0
      (repeat' (first
 | (with_reducible first|refine callX.by (hpi) ?_|refine callX.by (hb0) ?_|assumption|(refine Qw hK _ ?_;clear hK K)|refine Qw ‹_› _ ?_|refine Qx ‹_› ?_|refine Qi fun K hK=>?_|refine Qj T fun K hK=>?_|refine Ql fun A B hA hB=>?_|refine Qm ?_|refine Qn ?_|refine Qp ?_|refine Qr ?_)
 |(with_reducible first|apply Qy|apply Qz|apply QA)<;>intro hb<;>try simp only[nr] at hb
 |simp only[go_sem,↓reduceIte,Qa,Qh,Qb,Qc,Qd,Qe,Qf,Qg,reduceCtorEq, *,-hp,-hpi,-hb0,-f2,Option.isSome_some,YR]
 |intro(bn:Bool) hbn))
      all_goals ((repeat clear hK);(repeat clear hA);(repeat clear hB))
      (refine hM.on (xs.length-(i+1)) (by omega) (by simp only[go_sem,↓reduceIte,Qa,Qh,Qb,Qc,Qd,Qe,Qf,Qg,reduceCtorEq, *,Jh hlt hl,-f2,-hp,-hpi,-hb0,YR,Option.isSome_some]) ⟨i+1,g,some xs[i],rfl,by omega,f2,?_⟩;simp only[go_sem,↓reduceIte,Qa,Qh,Qb,Qc,Qd,Qe,Qf,Qg,reduceCtorEq, *,Jh hlt hl,-f2,-hp,-hpi,-hb0,YR,Option.isSome_some];done)
     |false =>
      have hw:Jal p xs[i] (some y)=false:=by simp[Jal,hpx,hby]
      rw[hw,if_neg (by decide)] at f2
      rw[show JbS ⟨xs[i].host,xs[i].pfx,xs[i].split⟩ ⟨y.host,y.pfx,y.split⟩=false from hby] at hb0
      (repeat' (first
 | (with_reducible first|refine callX.by (hpi) ?_|refine callX.by (hb0) ?_|assumption|(refine Qw hK _ ?_;clear hK K)|refine Qw ‹_› _ ?_|refine Qx ‹_› ?_|refine Qi fun K hK=>?_|refine Qj T fun K hK=>?_|refine Ql fun A B hA hB=>?_|refine Qm ?_|refine Qn ?_|refine Qp ?_|refine Qr ?_)
 |(with_reducible first|apply Qy|apply Qz|apply QA)<;>intro hb<;>try simp only[nr] at hb
 |simp only[go_sem,↓reduceIte,Qa,Qh,Qb,Qc,Qd,Qe,Qf,Qg,reduceCtorEq, *,-hp,-hpi,-hb0,-f2,Option.isSome_some,YR]
 |intro(bn:Bool) hbn))
      all_goals ((repeat clear hK);(repeat clear hA);(repeat clear hB))
      (refine hM.on (xs.length-(i+1)) (by omega) (by simp only[go_sem,↓reduceIte,Qa,Qh,Qb,Qc,Qd,Qe,Qf,Qg,reduceCtorEq, *,Jh hlt hl,-f2,-hp,-hpi,-hb0,YR,Option.isSome_some]) ⟨i+1,g,some y,rfl,by omega,f2,?_⟩;simp only[go_sem,↓reduceIte,Qa,Qh,Qb,Qc,Qd,Qe,Qf,Qg,reduceCtorEq, *,Jh hlt hl,-f2,-hp,-hpi,-hb0,YR,Option.isSome_some];done)
  ·rw[List.drop_eq_nil_of_le (by omega),Zj] at f2
   rw[f2]
   cases o with
   |none=>(repeat' (first
 | (with_reducible first|assumption|(refine Qw hK _ ?_;clear hK K)|refine Qw ‹_› _ ?_|refine Qx ‹_› ?_|refine Qi fun K hK=>?_|refine Qj T fun K hK=>?_|refine Ql fun A B hA hB=>?_|refine Qm ?_|refine Qn ?_|refine Qp ?_|refine Qr ?_)
 |(with_reducible first|apply Qy|apply Qz|apply QA)<;>intro hb<;>try simp only[nr] at hb
 |simp only[go_sem,↓reduceIte,Qa,Qh,Qb,Qc,Qd,Qe,Qf,Qg,reduceCtorEq, *,-hp,YR,Option.isSome_none,Option.getD_none,JaU,J8]
 |intro(bn:Bool) hbn))
   |some y=>(repeat' (first
 | (with_reducible first|assumption|(refine Qw hK _ ?_;clear hK K)|refine Qw ‹_› _ ?_|refine Qx ‹_› ?_|refine Qi fun K hK=>?_|refine Qj T fun K hK=>?_|refine Ql fun A B hA hB=>?_|refine Qm ?_|refine Qn ?_|refine Qp ?_|refine Qr ?_)
 |(with_reducible first|apply Qy|apply Qz|apply QA)<;>intro hb<;>try simp only[nr] at hb
 |simp only[go_sem,↓reduceIte,Qa,Qh,Qb,Qc,Qd,Qe,Qf,Qg,reduceCtorEq, *,-hp,YR,Option.isSome_some,Option.getD_some]
 |intro(bn:Bool) hbn))
def Jdc(h pa:List UInt8)(r:Rule):Bool:=JfN r.host h && JgR r.pfx pa
theorem JoM(r_host r_pfx:List UInt8)(LT:List Weight)(h pa:List UInt8)(hr:Yh (⟨r_host,r_pfx,LT⟩:Rule))(hh:Jc h.length):CallR Tryz.prog 125 [.agg [.str r_host,.str r_pfx,.slice false (Ja LT)],.ro [.str h],.ro [.str pa]] (.val (.bool (Jdc h pa (⟨r_host,r_pfx,LT⟩:Rule)))):=by
 have h1:Jc r_host.length:=hr.1
 have h2:Jc r_pfx.length:=hr.2.1
 clear hr
 refine J1 Tryz.call125 Tryz.func125 rfl Tryz.ntmps125 Tryz.results125 fun ts hn h0 h1 h2=>?_
 (repeat' (first
 | (with_reducible first|refine callX.by (JoL _ _ ?_ ?_) ?_|refine callX.by (Jrh _ _ ?_) ?_|assumption|(refine Qw hK _ ?_;clear hK K)|refine Qw ‹_› _ ?_|refine Qx ‹_› ?_|refine Qi fun K hK=>?_|refine Qj T fun K hK=>?_|refine Ql fun A B hA hB=>?_|refine Qn ?_|refine Qr ?_)
 |(with_reducible first|apply Qy|apply Qz|apply QA)<;>intro hb<;>try simp only[nr] at hb
 |simp only[go_sem,↓reduceIte,Qa,Qh,Qb,Qc,Qd,Qe,Qf,Qg,reduceCtorEq, *]
 |intro(bn:Bool) hbn))
 all_goals ((repeat clear hK);(repeat clear hA);(repeat clear hB))
 all_goals simp_all[Jdc]
theorem Jnj(a b:List UInt8):Caps [.ro [.str a],.ro [.str b]]:=⟨by simp only[go_sem,Bool.and_self],by simp only[go_sem]⟩
def ZQ(l:List Rule)(h pa:List UInt8):Option Rule:=Zj (Jdc h pa) l none
theorem Jex(xs:List Rule)(h pa:List UInt8)(hl:Jc xs.length)(hs:∀x∈xs,Yh x)(hh:Jc h.length):CallR Tryz.prog 84 [.slice false (Ja xs),.str h,.str pa] (.val (.tup [Dat.av ((ZQ xs h pa).getD JaU),.bool (ZQ xs h pa).isSome])):=by
 have hb:=Jm6 125 [.ro [.str h],.ro [.str pa]] (Jnj h pa) (Jdc h pa) xs (fun x hx=>JoM x.host x.pfx x.split h pa (hs x hx) hh) hl
 rw[show Zj (Jdc h pa) xs none=ZQ xs h pa from rfl] at hb
 refine J1 Tryz.call84 Tryz.func84 rfl Tryz.ntmps84 Tryz.results84 fun ts hn h0 h1 h2=>?_
 (repeat' (first
 | (with_reducible first|refine callX.by (hb) ?_|assumption|(refine Qw hK _ ?_;clear hK K)|refine Qw ‹_› _ ?_|refine Qx ‹_› ?_|refine Qi fun K hK=>?_|refine Qj T fun K hK=>?_|refine Ql fun A B hA hB=>?_|refine Qn ?_|refine Qr ?_)
 |(with_reducible first|apply Qy|apply Qz|apply QA)<;>intro hb<;>try simp only[nr] at hb
 |simp only[go_sem,↓reduceIte,Qa,Qh,Qb,Qc,Qd,Qe,Qf,Qg,reduceCtorEq, *,-hb,-hs]
 |intro(bn:Bool) hbn))
theorem JoF(Ln:Int)(Lp:List UInt8)(Lx Lq:Int)(LA:List UInt8)(r_rules:List Rule)(r_hosts:List Int)(k:Int):CallR Tryz.prog 89 [.agg [.int .i64 Ln,.str Lp,.int .i64 Lx,.int .i64 Lq,.str LA,.slice false (Ja r_rules),.slice false (Ja r_hosts)],.ro [.int .i64 k]] (.val (.bool (decide (Ln=0) && decide (Lq=k)))):=by
 refine Jm Tryz.call89 Tryz.func89 rfl Tryz.ntmps89 Tryz.results89 fun ts hn h0 h1=>?_
 (repeat' (first
 | (with_reducible first|assumption|(refine Qw hK _ ?_;clear hK K)|refine Qw ‹_› _ ?_|refine Qx ‹_› ?_|refine Qi fun K hK=>?_|refine Qj T fun K hK=>?_|refine Ql fun A B hA hB=>?_|refine Qn ?_|refine Qr ?_)
 |(with_reducible first|apply Qy|apply Qz|apply QA)<;>intro hb<;>try simp only[nr] at hb
 |simp only[go_sem,↓reduceIte,Qa,Qh,Qb,Qc,Qd,Qe,Qf,Qg,reduceCtorEq, *]
 |intro(bn:Bool) hbn))
 all_goals simp_all
def ZN(l:List Res)(k:Int):Option Res:=l.find? fun r=>decide (r.kind=0) && decide (r.port=k)
theorem Jbi(xs:List Res)(k:Int)(hl:Jc xs.length):CallR Tryz.prog 57 [.slice false (Ja xs),.int .i64 k] (.val (.tup [Dat.av ((ZN xs k).getD Vj),.bool (ZN xs k).isSome])):=by
 have hi:=Jbe 89 [.ro [.int .i64 k]] (Jhr k) (fun r=>decide (r.kind=0) && decide (r.port=k)) xs (fun x _=>JoF x.kind x.name x.ver x.port x.to' x.rules' x.hosts k) hl
 have hng:(-1:Int)<0:=by decide
 rcases Jiw (fun r:Res=>decide (r.kind=0) && decide (r.port=k)) xs with ⟨e1,e2⟩|⟨j,hj,e1,e2⟩
 ·rw[e1] at hi
  have e3:ZN xs k=none:=e2
  rw[e3]
  refine Jm Tryz.call57 Tryz.func57 rfl Tryz.ntmps57 Tryz.results57 fun ts hn h0 h1=>?_
  (repeat' (first
 | (with_reducible first|refine callX.by (hi) ?_|assumption|(refine Qw hK _ ?_;clear hK K)|refine Qw ‹_› _ ?_|refine Qx ‹_› ?_|refine Qi fun K hK=>?_|refine Qj T fun K hK=>?_|refine Ql fun A B hA hB=>?_|refine Qn ?_|refine Qr ?_)
 |(with_reducible first|apply Qy|apply Qz|apply QA)<;>intro hb<;>try simp only[nr] at hb
 |simp only[go_sem,↓reduceIte,Qa,Qh,Qb,Qc,Qd,Qe,Qf,Qg,reduceCtorEq, *,-hi,Option.getD_none,Option.isSome_none,Vj,J8]
 |intro(bn:Bool) hbn))
 ·rw[e1] at hi
  have e3:ZN xs k=some xs[j]:=e2
  rw[e3]
  have hj0:¬(j:Int)<0:=by omega
  refine Jm Tryz.call57 Tryz.func57 rfl Tryz.ntmps57 Tryz.results57 fun ts hn h0 h1=>?_
  (repeat' (first
 | (with_reducible first|refine callX.by (hi) ?_|assumption|(refine Qw hK _ ?_;clear hK K)|refine Qw ‹_› _ ?_|refine Qx ‹_› ?_|refine Qi fun K hK=>?_|refine Qj T fun K hK=>?_|refine Ql fun A B hA hB=>?_|refine Qn ?_|refine Qr ?_)
 |(with_reducible first|apply Qy|apply Qz|apply QA)<;>intro hb<;>try simp only[nr] at hb
 |simp only[go_sem,↓reduceIte,Qa,Qh,Qb,Qc,Qd,Qe,Qf,Qg,reduceCtorEq, *,-hi,Option.getD_some,Option.isSome_some]
 |intro(bn:Bool) hbn))
theorem JcR(kind:Int)(name:List UInt8)(xs:List Res)(hl:Jc xs.length):CallR Tryz.prog 132 [.int .i64 kind,.str name,.ro [.slice false (Ja xs)]] (.val (.tup [Dat.av ((JM xs ⟨kind,name⟩).getD Vj),.bool (JM xs ⟨kind,name⟩).isSome])):=by
 refine J1 Tryz.call132 Tryz.func132 rfl Tryz.ntmps132 Tryz.results132 fun ts hn h0 h1 h2=>?_
 (repeat' (first
 | (with_reducible first|refine callX.by (Jku _ _ _ ?_) ?_|assumption|(refine Qw hK _ ?_;clear hK K)|refine Qw ‹_› _ ?_|refine Qx ‹_› ?_|refine Qi fun K hK=>?_|refine Qj T fun K hK=>?_|refine Ql fun A B hA hB=>?_|refine Qn ?_|refine Qr ?_)
 |(with_reducible first|apply Qy|apply Qz|apply QA)<;>intro hb<;>try simp only[nr] at hb
 |simp only[go_sem,↓reduceIte,Qa,Qh,Qb,Qc,Qd,Qe,Qf,Qg,reduceCtorEq, *]
 |intro(bn:Bool) hbn))
theorem JcS(xs:List Res):CallR Tryz.prog 90 [.slice false (Ja xs)] (.val (.clo (.func 132) [] [.ro [.slice false (Ja xs)]])):=by
 refine Jl Tryz.call90 Tryz.func90 rfl Tryz.ntmps90 Tryz.results90 fun ts hn h0=>?_
 (repeat' (first
 | (with_reducible first|assumption|(refine Qw hK _ ?_;clear hK K)|refine Qw ‹_› _ ?_|refine Qx ‹_› ?_|refine Qi fun K hK=>?_|refine Qj T fun K hK=>?_|refine Ql fun A B hA hB=>?_|refine Qn ?_|refine Qr ?_)
 |(with_reducible first|apply Qy|apply Qz|apply QA)<;>intro hb<;>try simp only[nr] at hb
 |simp only[go_sem,↓reduceIte,Qa,Qh,Qb,Qc,Qd,Qe,Qf,Qg,reduceCtorEq, *]
 |intro(bn:Bool) hbn))
def V0(l:List Res)(to':List UInt8)(h pa:List UInt8):Option Rule:=match JM l ⟨1,to'⟩ with
 |none=>none
 |some r=>ZQ r.rules' h pa
theorem Jcv(xs:List Res)(to':List UInt8)(Lc:Int)(a_host Lb:List UInt8)(KZ K4:Int)(hl:Jc xs.length)(hs:∀r∈xs,Jw r)(hh:Jc a_host.length):CallR Tryz.prog 58 [.slice false (Ja xs),.str to',.agg [.int .i64 Lc,.str a_host,.str Lb,.int .i64 KZ,.int .i64 K4]] (.val (.tup [Dat.av ((V0 xs to' a_host Lb).getD JaU),.bool (V0 xs to' a_host Lb).isSome])):=by
 cases hg:JM xs ⟨1,to'⟩ with
 |none =>
  have e:V0 xs to' a_host Lb=none:=by unfold V0;rw[hg]
  rw[e]
  refine J1 Tryz.call58 Tryz.func58 rfl Tryz.ntmps58 Tryz.results58 fun ts hn h0 h1 h2=>?_
  (repeat' (first
 | (with_reducible first|refine callX.by (JcR _ _ _ ?_) ?_|refine callX.by (JcS _) ?_|refine callX.by (Jex _ _ _ ?_ ?_ ?_) ?_|assumption|(refine Qw hK _ ?_;clear hK K)|refine Qw ‹_› _ ?_|refine Qx ‹_› ?_|refine Qi fun K hK=>?_|refine Qj T fun K hK=>?_|refine Ql fun A B hA hB=>?_|refine Qn ?_|refine Qr ?_)
 |(with_reducible first|apply Qy|apply Qz|apply QA)<;>intro hb<;>try simp only[nr] at hb
 |simp only[go_sem,↓reduceIte,Qa,Qh,Qb,Qc,Qd,Qe,Qf,Qg,reduceCtorEq, *,-hs,Option.getD_none,Option.isSome_none,JaU,J8]
 |intro(bn:Bool) hbn))
 |some r =>
  have e:V0 xs to' a_host Lb=ZQ r.rules' a_host Lb:=by unfold V0;rw[hg]
  rw[e]
  obtain⟨_,_,hx1,hx2,hx3⟩:=hs r (List.mem_of_find?_eq_some hg)
  have hp:=Jex r.rules' a_host Lb hx1 hx2 hh
  refine J1 Tryz.call58 Tryz.func58 rfl Tryz.ntmps58 Tryz.results58 fun ts hn h0 h1 h2=>?_
  (repeat' (first
 | (with_reducible first|refine callX.by (hp) ?_|refine callX.by (JcR _ _ _ ?_) ?_|refine callX.by (JcS _) ?_|refine callX.by (Jex _ _ _ ?_ ?_ ?_) ?_|assumption|(refine Qw hK _ ?_;clear hK K)|refine Qw ‹_› _ ?_|refine Qx ‹_› ?_|refine Qi fun K hK=>?_|refine Qj T fun K hK=>?_|refine Ql fun A B hA hB=>?_|refine Qn ?_|refine Qr ?_)
 |(with_reducible first|apply Qy|apply Qz|apply QA)<;>intro hb<;>try simp only[nr] at hb
 |simp only[go_sem,↓reduceIte,Qa,Qh,Qb,Qc,Qd,Qe,Qf,Qg,reduceCtorEq, *,-hs,-hx2,-hp,Option.getD_some,Option.isSome_some]
 |intro(bn:Bool) hbn))
def Vo(l:List Res)(c:List UInt8):List Int×Bool:=match JM l ⟨2,c⟩ with
 |none=>([],false)
 |some r=>match JM l ⟨3,r.to'⟩ with
  |none=>([],false)
  |some e=>(e.hosts,true)
theorem Zm(xs:List Res)(c:List UInt8)(hl:Jc xs.length):CallR Tryz.prog 60 [.slice false (Ja xs),.str c] (.val (.tup [.slice false (Ja (Vo xs c).1),.bool (Vo xs c).2])):=by
 cases hg:JM xs ⟨2,c⟩ with
 |none =>
  have e:Vo xs c=([],false):=by unfold Vo;rw[hg]
  rw[e]
  refine Jm Tryz.call60 Tryz.func60 rfl Tryz.ntmps60 Tryz.results60 fun ts hn h0 h1=>?_
  (repeat' (first
 | (with_reducible first|refine callX.by (JcR _ _ _ ?_) ?_|refine callX.by (JcS _) ?_|assumption|(refine Qw hK _ ?_;clear hK K)|refine Qw ‹_› _ ?_|refine Qx ‹_› ?_|refine Qi fun K hK=>?_|refine Qj T fun K hK=>?_|refine Ql fun A B hA hB=>?_|refine Qn ?_|refine Qr ?_)
 |(with_reducible first|apply Qy|apply Qz|apply QA)<;>intro hb<;>try simp only[nr] at hb
 |simp only[go_sem,↓reduceIte,Qa,Qh,Qb,Qc,Qd,Qe,Qf,Qg,reduceCtorEq, *,Option.getD_none,Option.isSome_none,Vj,J8]
 |intro(bn:Bool) hbn))
 |some r =>
  cases hg2:JM xs ⟨3,r.to'⟩ with
  |none =>
   have e:Vo xs c=([],false):=by unfold Vo;rw[hg];simp only[hg2]
   rw[e]
   refine Jm Tryz.call60 Tryz.func60 rfl Tryz.ntmps60 Tryz.results60 fun ts hn h0 h1=>?_
   (repeat' (first
 | (with_reducible first|refine callX.by (JcR _ _ _ ?_) ?_|refine callX.by (JcS _) ?_|assumption|(refine Qw hK _ ?_;clear hK K)|refine Qw ‹_› _ ?_|refine Qx ‹_› ?_|refine Qi fun K hK=>?_|refine Qj T fun K hK=>?_|refine Ql fun A B hA hB=>?_|refine Qn ?_|refine Qr ?_)
 |(with_reducible first|apply Qy|apply Qz|apply QA)<;>intro hb<;>try simp only[nr] at hb
 |simp only[go_sem,↓reduceIte,Qa,Qh,Qb,Qc,Qd,Qe,Qf,Qg,reduceCtorEq, *,Option.getD_none,Option.isSome_none,Option.getD_some,Option.isSome_some,Vj,J8]
 |intro(bn:Bool) hbn))
  |some q =>
   have e:Vo xs c=(q.hosts,true):=by unfold Vo;rw[hg];simp only[hg2]
   rw[e]
   refine Jm Tryz.call60 Tryz.func60 rfl Tryz.ntmps60 Tryz.results60 fun ts hn h0 h1=>?_
   (repeat' (first
 | (with_reducible first|refine callX.by (JcR _ _ _ ?_) ?_|refine callX.by (JcS _) ?_|assumption|(refine Qw hK _ ?_;clear hK K)|refine Qw ‹_› _ ?_|refine Qx ‹_› ?_|refine Qi fun K hK=>?_|refine Qj T fun K hK=>?_|refine Ql fun A B hA hB=>?_|refine Qn ?_|refine Qr ?_)
 |(with_reducible first|apply Qy|apply Qz|apply QA)<;>intro hb<;>try simp only[nr] at hb
 |simp only[go_sem,↓reduceIte,Qa,Qh,Qb,Qc,Qd,Qe,Qf,Qg,reduceCtorEq, *,Option.getD_some,Option.isSome_some]
 |intro(bn:Bool) hbn))
theorem Jhn(p:Rule→Bool):∀(xs:List Rule) (o:Option Rule) (r:Rule),Zj p xs o=some r→r∈xs∨o=some r
 | [],o,r,h=>.inr h
 |x :: l,o,r,h=>by
  rw[Zj] at h
  rcases Jhn p l _ r h with h1|h1
  ·exact .inl (by simp[h1])
  ·split at h1
   ·cases h1;exact .inl (by simp)
   ·exact .inr h1
theorem Jjo{xs:List Rule}{h pa:List UInt8}{r:Rule}(e:ZQ xs h pa=some r):r∈xs:=by
 rcases Jhn _ _ _ _ e with h1|h1
 ·exact h1
 ·cases h1
theorem Jqe{xs:List Res}{to' h pa:List UInt8}{r:Rule}(hs:∀r∈xs,Jw r)(e:V0 xs to' h pa=some r):Yh r:=by
 unfold V0 at e
 split at e
 ·cases e
 ·rename_i q hq
  exact(hs q (List.mem_of_find?_eq_some hq)).2.2.2.1 r (Jjo e)
theorem JhV{xs:List Res}{c:List UInt8}(hs:∀r∈xs,Jw r):Jc (Vo xs c).1.length:=by
 unfold Vo
 split
 ·simp[Jc]
 ·split
  ·simp[Jc]
  ·rename_i q hq
   exact(hs q (List.mem_of_find?_eq_some hq)).2.2.2.2
def VI(l:List Res)(a:Ask):Answer:=match ZN l a.port with
 |none=>⟨1,[],0⟩
 |some x=>match V0 l x.to' a.host a.path with
  |none=>⟨2,[],0⟩
  |some r=>match Yz r.split a.first with
   |none=>⟨0,[],0⟩
   |some c=>match Yc (Vo l c).1 a.other with
    |none=>⟨0,[],0⟩
    |some h=>⟨3,c,h⟩
theorem JmL(xs:List Res)(Lc:Int)(a_host Lb:List UInt8)(KZ K4:Int):CallR Tryz.prog 24 [.slice false (Ja xs),.bool false,.agg [.int .i64 Lc,.str a_host,.str Lb,.int .i64 KZ,.int .i64 K4]] (.val (.agg [.int .i64 0,.str [],.int .i64 0])):=by
 refine J1 Tryz.call24 Tryz.func24 rfl Tryz.ntmps24 Tryz.results24 fun ts hn h0 h1 h2=>?_
 (repeat' (first
 | (with_reducible first|refine callX.by (Jbi _ _ ?_) ?_|refine callX.by (Jcv _ _ _ _ _ _ _ ?_ ?_ ?_) ?_|refine callX.by (Jbq _ _ ?_) ?_|refine callX.by (Zm _ _ ?_) ?_|refine callX.by (Jbr _ _ ?_) ?_|assumption|(refine Qw hK _ ?_;clear hK K)|refine Qw ‹_› _ ?_|refine Qx ‹_› ?_|refine Qi fun K hK=>?_|refine Qj T fun K hK=>?_|refine Ql fun A B hA hB=>?_|refine Qn ?_|refine Qr ?_)
 |(with_reducible first|apply Qy|apply Qz|apply QA)<;>intro hb<;>try simp only[nr] at hb
 |simp only[go_sem,↓reduceIte,Qa,Qh,Qb,Qc,Qd,Qe,Qf,Qg,reduceCtorEq, *]
 |intro(bn:Bool) hbn))
theorem JmK(xs:List Res)(Lc:Int)(a_host Lb:List UInt8)(KZ K4:Int)(hl:Jc xs.length)(hs:∀r∈xs,Jw r)(hh:Jc a_host.length):CallR Tryz.prog 24 [.slice false (Ja xs),.bool true,.agg [.int .i64 Lc,.str a_host,.str Lb,.int .i64 KZ,.int .i64 K4]] (.val (Dat.av (VI xs (⟨Lc,a_host,Lb,KZ,K4⟩:Ask)))):=by
 cases h1:ZN xs Lc with
 |none =>
  have e:VI xs (⟨Lc,a_host,Lb,KZ,K4⟩:Ask)=⟨1,[],0⟩:=by unfold VI;rw[h1]
  rw[e]
  refine J1 Tryz.call24 Tryz.func24 rfl Tryz.ntmps24 Tryz.results24 fun ts hn h0 h1 h2=>?_
  (repeat' (first
 | (with_reducible first|refine callX.by (Jbi _ _ ?_) ?_|refine callX.by (Jcv _ _ _ _ _ _ _ ?_ ?_ ?_) ?_|refine callX.by (Jbq _ _ ?_) ?_|refine callX.by (Zm _ _ ?_) ?_|refine callX.by (Jbr _ _ ?_) ?_|assumption|(refine Qw hK _ ?_;clear hK K)|refine Qw ‹_› _ ?_|refine Qx ‹_› ?_|refine Qi fun K hK=>?_|refine Qj T fun K hK=>?_|refine Ql fun A B hA hB=>?_|refine Qn ?_|refine Qr ?_)
 |(with_reducible first|apply Qy|apply Qz|apply QA)<;>intro hb<;>try simp only[nr] at hb
 |simp only[go_sem,↓reduceIte,Qa,Qh,Qb,Qc,Qd,Qe,Qf,Qg,reduceCtorEq, *,-hs,Option.getD_none,Option.isSome_none,Vj,J8]
 |intro(bn:Bool) hbn))
 |some x =>
  cases h2:V0 xs x.to' a_host Lb with
  |none =>
   have e:VI xs (⟨Lc,a_host,Lb,KZ,K4⟩:Ask)=⟨2,[],0⟩:=by unfold VI;rw[h1];simp only[h2]
   rw[e]
   refine J1 Tryz.call24 Tryz.func24 rfl Tryz.ntmps24 Tryz.results24 fun ts hn h0 h1 h2=>?_
   (repeat' (first
 | (with_reducible first|refine callX.by (Jbi _ _ ?_) ?_|refine callX.by (Jcv _ _ _ _ _ _ _ ?_ ?_ ?_) ?_|refine callX.by (Jbq _ _ ?_) ?_|refine callX.by (Zm _ _ ?_) ?_|refine callX.by (Jbr _ _ ?_) ?_|assumption|(refine Qw hK _ ?_;clear hK K)|refine Qw ‹_› _ ?_|refine Qx ‹_› ?_|refine Qi fun K hK=>?_|refine Qj T fun K hK=>?_|refine Ql fun A B hA hB=>?_|refine Qn ?_|refine Qr ?_)
 |(with_reducible first|apply Qy|apply Qz|apply QA)<;>intro hb<;>try simp only[nr] at hb
 |simp only[go_sem,↓reduceIte,Qa,Qh,Qb,Qc,Qd,Qe,Qf,Qg,reduceCtorEq, *,-hs,Option.getD_none,Option.isSome_none,Option.getD_some,Option.isSome_some,JaU,J8]
 |intro(bn:Bool) hbn))
  |some r =>
   have hr3:Jc r.split.length:=(Jqe hs h2).2.2.1
   cases h3:Yz r.split KZ with
   |none =>
    have e:VI xs (⟨Lc,a_host,Lb,KZ,K4⟩:Ask)=⟨0,[],0⟩:=by unfold VI;rw[h1];simp only[h2,h3]
    rw[e]
    refine J1 Tryz.call24 Tryz.func24 rfl Tryz.ntmps24 Tryz.results24 fun ts hn h0 h1 h2=>?_
    (repeat' (first
 | (with_reducible first|refine callX.by (Jbi _ _ ?_) ?_|refine callX.by (Jcv _ _ _ _ _ _ _ ?_ ?_ ?_) ?_|refine callX.by (Jbq _ _ ?_) ?_|refine callX.by (Zm _ _ ?_) ?_|refine callX.by (Jbr _ _ ?_) ?_|assumption|(refine Qw hK _ ?_;clear hK K)|refine Qw ‹_› _ ?_|refine Qx ‹_› ?_|refine Qi fun K hK=>?_|refine Qj T fun K hK=>?_|refine Ql fun A B hA hB=>?_|refine Qn ?_|refine Qr ?_)
 |(with_reducible first|apply Qy|apply Qz|apply QA)<;>intro hb<;>try simp only[nr] at hb
 |simp only[go_sem,↓reduceIte,Qa,Qh,Qb,Qc,Qd,Qe,Qf,Qg,reduceCtorEq, *,-hs,Option.getD_none,Option.isSome_none,Option.getD_some,Option.isSome_some]
 |intro(bn:Bool) hbn))
   |some c =>
    have he3:=JhV (c:=c) hs
    cases h4:Yc (Vo xs c).1 K4 with
    |none =>
     have e:VI xs (⟨Lc,a_host,Lb,KZ,K4⟩:Ask)=⟨0,[],0⟩:=by unfold VI;rw[h1];simp only[h2,h3,h4]
     rw[e]
     refine J1 Tryz.call24 Tryz.func24 rfl Tryz.ntmps24 Tryz.results24 fun ts hn h0 h1 h2=>?_
     (repeat' (first
 | (with_reducible first|refine callX.by (Jbi _ _ ?_) ?_|refine callX.by (Jcv _ _ _ _ _ _ _ ?_ ?_ ?_) ?_|refine callX.by (Jbq _ _ ?_) ?_|refine callX.by (Zm _ _ ?_) ?_|refine callX.by (Jbr _ _ ?_) ?_|assumption|(refine Qw hK _ ?_;clear hK K)|refine Qw ‹_› _ ?_|refine Qx ‹_› ?_|refine Qi fun K hK=>?_|refine Qj T fun K hK=>?_|refine Ql fun A B hA hB=>?_|refine Qn ?_|refine Qr ?_)
 |(with_reducible first|apply Qy|apply Qz|apply QA)<;>intro hb<;>try simp only[nr] at hb
 |simp only[go_sem,↓reduceIte,Qa,Qh,Qb,Qc,Qd,Qe,Qf,Qg,reduceCtorEq, *,-hs,Option.getD_none,Option.isSome_none,Option.getD_some,Option.isSome_some]
 |intro(bn:Bool) hbn))
    |some h =>
     have e:VI xs (⟨Lc,a_host,Lb,KZ,K4⟩:Ask)=⟨3,c,h⟩:=by unfold VI;rw[h1];simp only[h2,h3,h4]
     rw[e]
     refine J1 Tryz.call24 Tryz.func24 rfl Tryz.ntmps24 Tryz.results24 fun ts hn h0 h1 h2=>?_
     (repeat' (first
 | (with_reducible first|refine callX.by (Jbi _ _ ?_) ?_|refine callX.by (Jcv _ _ _ _ _ _ _ ?_ ?_ ?_) ?_|refine callX.by (Jbq _ _ ?_) ?_|refine callX.by (Zm _ _ ?_) ?_|refine callX.by (Jbr _ _ ?_) ?_|assumption|(refine Qw hK _ ?_;clear hK K)|refine Qw ‹_› _ ?_|refine Qx ‹_› ?_|refine Qi fun K hK=>?_|refine Qj T fun K hK=>?_|refine Ql fun A B hA hB=>?_|refine Qn ?_|refine Qr ?_)
 |(with_reducible first|apply Qy|apply Qz|apply QA)<;>intro hb<;>try simp only[nr] at hb
 |simp only[go_sem,↓reduceIte,Qa,Qh,Qb,Qc,Qd,Qe,Qf,Qg,reduceCtorEq, *,-hs,Option.getD_some,Option.isSome_some]
 |intro(bn:Bool) hbn))
def YE(l:List Res)(x:Answer):Bool:=if x.what=0∨x.what=1∨x.what=2 then decide (x.cluster=[]∧x.host=0) else if x.what=3 then (Vo l x.cluster).2 && (Vo l x.cluster).1.any fun y=>decide (x.host=y) else false
theorem Jrt(xs:List Res)(LK:Int)(LJ:List UInt8)(x_host:Int)(hl:Jc xs.length)(hs:∀r∈xs,Jw r):CallR Tryz.prog 25 [.slice false (Ja xs),.agg [.int .i64 LK,.str LJ,.int .i64 x_host]] (.val (.bool (YE xs (⟨LK,LJ,x_host⟩:Answer)))):=by
 have he3:=JhV (c:=LJ) hs
 by_cases h0:LK=0
 ·subst h0
  refine Jm Tryz.call25 Tryz.func25 rfl Tryz.ntmps25 Tryz.results25 fun ts hn h0 h1=>?_
  (repeat' (first
 | (with_reducible first|refine callX.by (Zm _ _ ?_) ?_|refine callX.by (ZI _ _ ?_) ?_|assumption|(refine Qw hK _ ?_;clear hK K)|refine Qw ‹_› _ ?_|refine Qx ‹_› ?_|refine Qi fun K hK=>?_|refine Qj T fun K hK=>?_|refine Ql fun A B hA hB=>?_|refine Qm ?_|refine Qn ?_|refine Qr ?_)
 |(with_reducible first|apply Qy|apply Qz|apply QA)<;>intro hb<;>try simp only[nr] at hb
 |simp only[go_sem,↓reduceIte,Qa,Qh,Qb,Qc,Qd,Qe,Qf,Qg,reduceCtorEq, *,-hs,Int.reduceEq]
 |intro(bn:Bool) hbn))
  all_goals simp[YE]
 by_cases h1:LK=1
 ·subst h1
  refine Jm Tryz.call25 Tryz.func25 rfl Tryz.ntmps25 Tryz.results25 fun ts hn h0 h1=>?_
  (repeat' (first
 | (with_reducible first|refine callX.by (Zm _ _ ?_) ?_|refine callX.by (ZI _ _ ?_) ?_|assumption|(refine Qw hK _ ?_;clear hK K)|refine Qw ‹_› _ ?_|refine Qx ‹_› ?_|refine Qi fun K hK=>?_|refine Qj T fun K hK=>?_|refine Ql fun A B hA hB=>?_|refine Qm ?_|refine Qn ?_|refine Qr ?_)
 |(with_reducible first|apply Qy|apply Qz|apply QA)<;>intro hb<;>try simp only[nr] at hb
 |simp only[go_sem,↓reduceIte,Qa,Qh,Qb,Qc,Qd,Qe,Qf,Qg,reduceCtorEq, *,-hs,Int.reduceEq]
 |intro(bn:Bool) hbn))
  all_goals simp[YE]
 by_cases h2:LK=2
 ·subst h2
  refine Jm Tryz.call25 Tryz.func25 rfl Tryz.ntmps25 Tryz.results25 fun ts hn h0 h1=>?_
  (repeat' (first
 | (with_reducible first|refine callX.by (Zm _ _ ?_) ?_|refine callX.by (ZI _ _ ?_) ?_|assumption|(refine Qw hK _ ?_;clear hK K)|refine Qw ‹_› _ ?_|refine Qx ‹_› ?_|refine Qi fun K hK=>?_|refine Qj T fun K hK=>?_|refine Ql fun A B hA hB=>?_|refine Qm ?_|refine Qn ?_|refine Qr ?_)
 |(with_reducible first|apply Qy|apply Qz|apply QA)<;>intro hb<;>try simp only[nr] at hb
 |simp only[go_sem,↓reduceIte,Qa,Qh,Qb,Qc,Qd,Qe,Qf,Qg,reduceCtorEq, *,-hs,Int.reduceEq]
 |intro(bn:Bool) hbn))
  all_goals simp[YE]
 by_cases h3:LK=3
 ·subst h3
  refine Jm Tryz.call25 Tryz.func25 rfl Tryz.ntmps25 Tryz.results25 fun ts hn h0 h1=>?_
  (repeat' (first
 | (with_reducible first|refine callX.by (Zm _ _ ?_) ?_|refine callX.by (ZI _ _ ?_) ?_|assumption|(refine Qw hK _ ?_;clear hK K)|refine Qw ‹_› _ ?_|refine Qx ‹_› ?_|refine Qi fun K hK=>?_|refine Qj T fun K hK=>?_|refine Ql fun A B hA hB=>?_|refine Qm ?_|refine Qn ?_|refine Qr ?_)
 |(with_reducible first|apply Qy|apply Qz|apply QA)<;>intro hb<;>try simp only[nr] at hb
 |simp only[go_sem,↓reduceIte,Qa,Qh,Qb,Qc,Qd,Qe,Qf,Qg,reduceCtorEq, *,-hs,Int.reduceEq]
 |intro(bn:Bool) hbn))
  all_goals simp_all[YE]
 ·refine Jm Tryz.call25 Tryz.func25 rfl Tryz.ntmps25 Tryz.results25 fun ts hn h0 h1=>?_
  (repeat' (first
 | (with_reducible first|refine callX.by (Zm _ _ ?_) ?_|refine callX.by (ZI _ _ ?_) ?_|assumption|(refine Qw hK _ ?_;clear hK K)|refine Qw ‹_› _ ?_|refine Qx ‹_› ?_|refine Qi fun K hK=>?_|refine Qj T fun K hK=>?_|refine Ql fun A B hA hB=>?_|refine Qm ?_|refine Qn ?_|refine Qr ?_)
 |(with_reducible first|apply Qy|apply Qz|apply QA)<;>intro hb<;>try simp only[nr] at hb
 |simp only[go_sem,↓reduceIte,Qa,Qh,Qb,Qc,Qd,Qe,Qf,Qg,reduceCtorEq, *,-hs,Int.reduceEq]
 |intro(bn:Bool) hbn))
  all_goals simp_all[YE]
theorem JiD:∀l:List Key,(Ve l).length≤l.length-1
 | []=>by simp[Ve]
 | [a]=>by simp[Ve]
 |a :: b :: l=>by
  have:=JiD (b :: l)
  unfold Ve
  split<;>simp only[List.length_cons] at *<;>omega
theorem Jq3{l:List Res}{k:Key}{r:Res}(h:JM l k=some r):r∈l∧Jo r=k:=by
 unfold JM at h
 exact⟨List.mem_of_find?_eq_some h,by simpa using List.find?_some h⟩
end Go.Proofs.YthjalhfmpffbjaaGreatDoor.Lg
namespace Go.Proofs.YthjalhfmpffbjaaGreatDoor.Lg
set_option maxRecDepth 100000
set_option maxHeartbeats 64000000
set_option linter.unusedVariables false
set_option linter.unusedSimpArgs false
open Go
section
variable {l:List Res} (hc:Conf l) (hv:ZA l=0)
include hc
include hv
end
end Go.Proofs.YthjalhfmpffbjaaGreatDoor.Lg
namespace Go.Proofs.YthjalhfmpffbjaaGreatDoor.Lg
set_option maxRecDepth 100000
set_option maxHeartbeats 64000000
set_option linter.unusedVariables false
set_option linter.unusedSimpArgs false
open Go
open Nat renaming reduceEqDiff → Qa, reduceLT → Qb, reduceLeDiff → Qc, reduceAdd → Qd, reduceMul → Qe, reduceSub → Qf, reduceBEq → Qg
open String renaming reduceEq → Qh
open SpecC renaming seqW → Qi, regW → Qj, drawW → Qk, condW → Ql, skip → Qn, ret → Qr
open NxK renaming out → Qw
open condK renaming split → Qy
open gK renaming split_t → Qz, split_f → QA
theorem Jrx:Jw Vj:=by simp[Jw,Vj,Jc]
theorem Jq4{l:List Res}(hs:∀r∈l,Jw r)(k:Key):Jw ((JM l k).getD Vj):=by
 cases h:JM l k with
 |none=>exact Jrx
 |some x=>exact hs x (Jq3 h).1
theorem JiQ{cap:Int}{l:List Res}:J9 cap l=0↔Vc l=0∧(l.length:Int)≤cap∧ZA l=0:=by
 unfold J9
 by_cases h1:Vc l=0
 ·by_cases h2:(l.length:Int)≤cap
  ·simp[h1,h2]
  ·simp[h1,h2]
 ·simp[h1]
theorem saneC_iff{c:Cache}:Ye c=true↔c.cap=VS c.cap∧Vc c.l=0∧(c.l.length:Int)≤c.cap∧ZA c.l=0:=by
 unfold Ye
 simp only[Bool.and_eq_true,decide_eq_true_eq,JiQ]
theorem Jrf{l:List Res}(h:Vc l=0):l.length≤64:=by
 unfold Vc at h
 split at h
 ·cases h
 ·omega
theorem JmQ{c:Cache}(h:Ye c=true)(adds:List Res)(gone:List Key) :
  J7 c adds gone=if J9 c.cap (YK c.l adds gone)=0 then (⟨c.cap,YK c.l adds gone⟩,0) else (c,J9 c.cap (YK c.l adds gone)):=by
 have hof:Vy c=c:=by unfold Vy;rw[if_pos h]
 unfold J7
 rw[hof]
theorem Jhf{c:Cache}(h:Ye c=true)(adds:List Res)(gone:List Key):Ye (J7 c adds gone).1=true:=by
 rw[JmQ h]
 split
 ·rename_i hm
  rw[JiQ] at hm
  rw[saneC_iff] at h ⊢
  exact⟨h.1,hm⟩
 ·exact h
theorem Jm9(n:Int):0≤VS n∧VS n≤64:=by unfold VS;omega
theorem Jm8(n:Int):VS (VS n)=VS n:=by unfold VS;omega
theorem JiX(n:Int):Ye ⟨VS n,[]⟩=true:=by
 rw[saneC_iff]
 have h1:Vc []=0:=by decide
 have h2:ZA []=0:=by decide
 exact⟨(Jm8 n).symm,h1,by simp[(Jm9 n).1],h2⟩
structure CInv(n:Int)(c:Cache):Prop where
 sane:Ye c=true
 cap:c.cap=VS n
 sm:∀r∈c.l,Jw r
theorem JmP(c:Cache)(adds:List Res)(gone:List Key):(J7 c adds gone).1.l.length≤c.l.length+adds.length:=by
 have h1:=JeU c
 have h2:=Jjl (Vy c).l adds gone
 unfold J7
 simp only
 split
 ·simp only;omega
 ·simp only;omega
theorem Jhg{c:Cache}{adds:List Res}{gone:List Key}{x:Res}(h:x∈(J7 c adds gone).1.l):x∈c.l∨x∈adds:=by
 unfold J7 at h
 simp only at h
 split at h
 ·exact(Jjm h).imp Jdv id
 ·exact .inl (Jdv h)
@[go_sem] def Jfg:List (List Nat×List Nat):=[([31],[33,34]),([32],[33,34]),([33],[31,32,6]),([34],[31,32,6]),([6],[33,34])]
def Je0(c:Cache)(ready:Bool)(shown:List Res)(ch:Bool):List AV :=
 if VP c=shown then [.int .i64 c.cap,.slice false (Ja c.l),.bool ready,.slice false (Ja shown),.bool ch] else [.int .i64 c.cap,.slice false (Ja c.l),.bool true,.slice false (Ja (VP c)),.bool true]
theorem JqC(c:Cache):(VP c).length≤c.l.length:=Nat.le_trans (Jgj _) (JeU c)
theorem JqD{c:Cache}{r:Res}(h:r∈VP c):r∈c.l:=Jdv ((JjC _).subset h)
theorem Jq2(cap0:Int)(l0:List Res)(ready:Bool)(shown:List Res)(ch:Bool)(Lz:Int)(c_l:List Res)(hl:c_l.length≤65536)(hs:∀r∈c_l,Jw r) :
  CallI Tryz.prog 135 [.int .i64 cap0,.slice false (Ja l0),.bool ready,.slice false (Ja shown),.bool ch] [.agg [.int .i64 Lz,.slice false (Ja c_l)]] (.tup []) (Je0 (⟨Lz,c_l⟩:Cache) ready shown ch):=by
 have w1:=(Jkf Lz c_l hl hs).frz
 have hsl:=JqC (⟨Lz,c_l⟩:Cache)
 have w2:=JgQ (VP (⟨Lz,c_l⟩:Cache)) shown (by simp only at hsl;unfold Jc;omega) fun x hx=>hs x (JqD hx)
 unfold Je0
 generalize VP (⟨Lz,c_l⟩:Cache)=s at *
 clear hs hl hsl
 by_cases he:s=shown
 ·rw[decide_eq_true he] at w2
  rw[if_pos he]
  refine CallI.go1 Tryz.call135 Tryz.func135 rfl Tryz.ntmps135 T (congrArg Array.toList Tryz.results135) (by decide) fun ts hn h0 hg0 ho0 h1=>?_
  (repeat' (first
 | (with_reducible first|refine callX.by (w1) ?_|refine callX.by (w2) ?_|assumption|(refine Qw hK _ ?_;clear hK K)|refine Qw ‹_› _ ?_|refine Nx.out ‹_› ?_|refine Qi fun K hK=>?_|refine Qj T fun K hK=>?_|refine Ql fun A B hA hB=>?_|refine Qn ?_|refine Qr ?_)
 |(with_reducible first|apply Qy|apply Qz|apply QA)<;>intro hb<;>try simp only[nr] at hb
 |simp only[go_sem,↓reduceIte,Qa,Qh,Qb,Qc,Qd,Qe,Qf,Qg,reduceCtorEq, *,-w1,-w2,-he]
 |intro(bn:Bool) hbn))
  all_goals trace_state
 ·rw[decide_eq_false he] at w2
  rw[if_neg he]
  refine CallI.go1 Tryz.call135 Tryz.func135 rfl Tryz.ntmps135 T (congrArg Array.toList Tryz.results135) (by decide) fun ts hn h0 hg0 ho0 h1=>?_
  (repeat' (first
 | (with_reducible first|refine callX.by (w1) ?_|refine callX.by (w2) ?_|assumption|(refine Qw hK _ ?_;clear hK K)|refine Qw ‹_› _ ?_|refine Nx.out ‹_› ?_|refine Qi fun K hK=>?_|refine Qj T fun K hK=>?_|refine Ql fun A B hA hB=>?_|refine Qn ?_|refine Qr ?_)
 |(with_reducible first|apply Qy|apply Qz|apply QA)<;>intro hb<;>try simp only[nr] at hb
 |simp only[go_sem,↓reduceIte,Qa,Qh,Qb,Qc,Qd,Qe,Qf,Qg,reduceCtorEq, *,-w1,-w2,-he]
 |intro(bn:Bool) hbn))
  all_goals trace_state
def JY(w:Warm)(adds:List Res)(gone:List Key):Warm×Bool×Int :=
 let m:=YB w
 let a:=J7 m.c adds gone
 if a.2=0 then (if VP a.1=m.shown then (⟨a.1,m.ready,m.shown⟩,false,0) else (⟨a.1,true,VP a.1⟩,true,0)) else (m,false,a.2)
theorem Jqp(w:Warm):(YB w).c.l.length≤w.c.l.length:=by unfold YB;split<;>simp
theorem Jqq{w:Warm}{r:Res}(h:r∈(YB w).c.l):r∈w.c.l:=by unfold YB at h;split at h<;>simp_all
theorem JqW(Lv:Int)(w_c_l:List Res)(Lw:Bool)(w_shown adds:List Res)(gone:List Key)(hl:w_c_l.length+adds.length≤65536)(hs:∀r∈w_c_l,Jw r)(hl2:Jc w_shown.length)(hs2:∀r∈w_shown,Jw r)(hg:Jc gone.length)(ha:∀r∈adds,Jw r) :
  CallR Tryz.prog 97 [.agg [.int .i64 Lv,.slice false (Ja w_c_l),.bool Lw,.slice false (Ja w_shown)],.slice false (Ja adds),.slice false (Ja gone)]
   (.val (.tup [.agg [.int .i64 (JY (⟨⟨Lv,w_c_l⟩,Lw,w_shown⟩:Warm) adds gone).1.c.cap,.slice false (Ja (JY (⟨⟨Lv,w_c_l⟩,Lw,w_shown⟩:Warm) adds gone).1.c.l),.bool (JY (⟨⟨Lv,w_c_l⟩,Lw,w_shown⟩:Warm) adds gone).1.ready,.slice false (Ja (JY (⟨⟨Lv,w_c_l⟩,Lw,w_shown⟩:Warm) adds gone).1.shown)],.bool (JY (⟨⟨Lv,w_c_l⟩,Lw,w_shown⟩:Warm) adds gone).2.1,.int .i64 (JY (⟨⟨Lv,w_c_l⟩,Lw,w_shown⟩:Warm) adds gone).2.2])):=by
 have w1:=Jqo Lv w_c_l Lw w_shown (by omega) hs hl2 hs2
 have hml:=Jqp (⟨⟨Lv,w_c_l⟩,Lw,w_shown⟩:Warm)
 have hms:∀r∈(YB (⟨⟨Lv,w_c_l⟩,Lw,w_shown⟩:Warm)).c.l,Jw r:=fun r hr=>hs r (Jqq hr)
 unfold JY
 generalize YB (⟨⟨Lv,w_c_l⟩,Lw,w_shown⟩:Warm)=m at *
 simp only at hml ⊢
 have w2:=JmN m.c.cap m.c.l adds gone (by omega) hg hms ha
 have w2:CallR Tryz.prog 134 [.agg [.int .i64 m.c.cap,.slice false (Ja m.c.l)],.slice false (Ja adds),.slice false (Ja gone)] (.val (.tup [.agg [.int .i64 (J7 m.c adds gone).1.cap,.slice false (Ja (J7 m.c adds gone).1.l)],.int .i64 (J7 m.c adds gone).2])):=w2
 have hal:=JmP m.c adds gone
 have hac:∀r∈(J7 m.c adds gone).1.l,Jw r:=fun r hr=>(Jhg hr).elim (hms r) (ha r)
 generalize (J7 m.c adds gone).2=e at *
 generalize (J7 m.c adds gone).1=d at *
 have w3:=Jq2 m.c.cap m.c.l m.ready m.shown false d.cap d.l (by omega) hac
 have w3:CallI Tryz.prog 135 [.int .i64 m.c.cap,.slice false (Ja m.c.l),.bool m.ready,.slice false (Ja m.shown),.bool false] [.agg [.int .i64 d.cap,.slice false (Ja d.l)]] (.tup []) (Je0 d m.ready m.shown false):=w3
 unfold Je0 at w3
 clear hs hs2 ha hms hac hal hml hl hl2 hg
 by_cases he:e=0
 ·subst he
  simp only[if_true]
  by_cases hsh:VP d=m.shown
  ·rw[if_pos hsh] at w3 ⊢
   simp only
   refine J1 Tryz.call97 Tryz.func97 rfl Tryz.ntmps97 Tryz.results97 fun ts hn h0 h1 h2=>?_
   (repeat' (first
 | (with_reducible first|refine callX.by (w1) ?_|refine callX.by (w2) ?_)
 | (with_reducible refine callX.io ?_ ?_ ?_ (w3);(focus(simp only[go_sem,↓reduceIte,Qa,Qh,Qb,Qc,Qd,Qe,Qf,Qg,reduceCtorEq, *,-w1,-w2,-w3,-hsh];first|done|rfl));(focus(simp only[go_sem,↓reduceIte,Qa,Qh,Qb,Qc,Qd,Qe,Qf,Qg,reduceCtorEq, *,-w1,-w2,-w3,-hsh];first|done|rfl)))
 | (with_reducible first|assumption|(refine Qw hK _ ?_;clear hK K)|refine Qw ‹_› _ ?_|refine Nx.out ‹_› ?_|refine Qi fun K hK=>?_|refine Qj T fun K hK=>?_|refine Qk (id:=6) T mixed Jfg (by kernel_rfl) fun K hK=>?_|refine Ql fun A B hA hB=>?_|refine Qn ?_|refine Qr ?_)
 |(with_reducible first|apply Qy|apply Qz|apply QA)<;>intro hb<;>try simp only[nr] at hb
 |simp only[go_sem,↓reduceIte,Qa,Qh,Qb,Qc,Qd,Qe,Qf,Qg,reduceCtorEq, *,-w1,-w2,-w3,-hsh]
 |intro(bn:Bool) hbn))
   all_goals trace_state
  ·rw[if_neg hsh] at w3 ⊢
   simp only
   refine J1 Tryz.call97 Tryz.func97 rfl Tryz.ntmps97 Tryz.results97 fun ts hn h0 h1 h2=>?_
   (repeat' (first
 | (with_reducible first|refine callX.by (w1) ?_|refine callX.by (w2) ?_)
 | (with_reducible refine callX.io ?_ ?_ ?_ (w3);(focus(simp only[go_sem,↓reduceIte,Qa,Qh,Qb,Qc,Qd,Qe,Qf,Qg,reduceCtorEq, *,-w1,-w2,-w3,-hsh];first|done|rfl));(focus(simp only[go_sem,↓reduceIte,Qa,Qh,Qb,Qc,Qd,Qe,Qf,Qg,reduceCtorEq, *,-w1,-w2,-w3,-hsh];first|done|rfl)))
 | (with_reducible first|assumption|(refine Qw hK _ ?_;clear hK K)|refine Qw ‹_› _ ?_|refine Nx.out ‹_› ?_|refine Qi fun K hK=>?_|refine Qj T fun K hK=>?_|refine Qk (id:=6) T mixed Jfg (by kernel_rfl) fun K hK=>?_|refine Ql fun A B hA hB=>?_|refine Qn ?_|refine Qr ?_)
 |(with_reducible first|apply Qy|apply Qz|apply QA)<;>intro hb<;>try simp only[nr] at hb
 |simp only[go_sem,↓reduceIte,Qa,Qh,Qb,Qc,Qd,Qe,Qf,Qg,reduceCtorEq, *,-w1,-w2,-w3,-hsh]
 |intro(bn:Bool) hbn))
   all_goals trace_state
 ·rw[if_neg he]
  simp only
  clear w3
  refine J1 Tryz.call97 Tryz.func97 rfl Tryz.ntmps97 Tryz.results97 fun ts hn h0 h1 h2=>?_
  (repeat' (first
 | (with_reducible first|refine callX.by (w1) ?_|refine callX.by (w2) ?_|assumption|(refine Qw hK _ ?_;clear hK K)|refine Qw ‹_› _ ?_|refine Nx.out ‹_› ?_|refine Qi fun K hK=>?_|refine Qj T fun K hK=>?_|refine Qk (id:=6) T mixed Jfg (by kernel_rfl) fun K hK=>?_|refine Ql fun A B hA hB=>?_|refine Qn ?_|refine Qr ?_)
 |(with_reducible first|apply Qy|apply Qz|apply QA)<;>intro hb<;>try simp only[nr] at hb
 |simp only[go_sem,↓reduceIte,Qa,Qh,Qb,Qc,Qd,Qe,Qf,Qg,reduceCtorEq, *,-w1,-w2]
 |intro(bn:Bool) hbn))
  all_goals trace_state
theorem saneW_iff{w:Warm}:VG w=true↔Ye w.c=true∧w.shown=VP w.c∧(w.ready=true∨w.shown=[]):=by
 unfold VG
 simp only[Bool.and_eq_true,Bool.or_eq_true,decide_eq_true_eq,and_assoc]
theorem Jkg{c:Cache}(h:Ye c=true):VP c=Yd c.l:=by unfold VP Vy;rw[if_pos h]
theorem JeY{w:Warm}(h:VG w=true)(adds:List Res)(gone:List Key) :
  JY w adds gone=if(J7 w.c adds gone).2=0 then (if VP (J7 w.c adds gone).1=w.shown then (⟨(J7 w.c adds gone).1,w.ready,w.shown⟩,false,0) else (⟨(J7 w.c adds gone).1,true,VP (J7 w.c adds gone).1⟩,true,0)) else (w,false,(J7 w.c adds gone).2):=by
 have hof:YB w=w:=by unfold YB;rw[if_pos h]
 unfold JY
 rw[hof]
theorem Jkp{w:Warm}(h:VG w=true)(adds:List Res)(gone:List Key):VG (JY w adds gone).1=true:=by
 rw[JeY h]
 have hw:=saneW_iff.1 h
 split
 ·split
  ·rename_i hs
   exact saneW_iff.2 ⟨Jhf hw.1 adds gone,hs.symm,hw.2.2⟩
  ·exact saneW_iff.2 ⟨Jhf hw.1 adds gone,rfl,.inl rfl⟩
 ·exact h
theorem Jq0{w:Warm}(h:VG w=true)(adds:List Res)(gone:List Key):(JY w adds gone).2.1=!decide (w.shown=(JY w adds gone).1.shown):=by
 rw[JeY h]
 split
 ·split
  ·simp
  ·rename_i hs
   simp[Ne.symm hs]
 ·simp
theorem JqY{w:Warm}(h:VG w=true){adds:List Res}{gone:List Key}{x:Res}(hx:x∈(JY w adds gone).1.c.l):x∈w.c.l∨x∈adds:=by
 rw[JeY h] at hx
 split at hx
 ·split at hx<;>exact Jhg hx
 ·exact .inl hx
theorem JqZ{w:Warm}(h:VG w=true)(adds:List Res)(gone:List Key):(JY w adds gone).1.ready=(w.ready || (JY w adds gone).2.1):=by
 rw[JeY h]
 split
 ·split<;>simp
 ·simp
theorem Jj8{w:Warm}(h:VG w=true):w.c.l.length≤64:=Jrf (saneC_iff.1 (saneW_iff.1 h).1).2.1
theorem Jj9{w:Warm}(h:VG w=true):w.shown=Yd w.c.l:=by
 have hw:=saneW_iff.1 h
 rw[hw.2.1,Jkg hw.1]
theorem Jqu{w:Warm}(h:VG w=true):w.shown.length≤64:=by
 rw[Jj9 h]
 exact Nat.le_trans (Jgj _) (Jj8 h)
theorem Jqv{w:Warm}(h:VG w=true){x:Res}(hx:x∈w.shown):x∈w.c.l:=by
 rw[Jj9 h] at hx
 exact(JjC _).subset hx
theorem Jo4(n:Int):VG ⟨⟨VS n,[]⟩,false,[]⟩=true:=by
 refine saneW_iff.2 ⟨JiX n,?_,.inr rfl⟩
 rw[Jkg (JiX n)]
 show[]=Yd []
 decide
end Go.Proofs.YthjalhfmpffbjaaGreatDoor.Lg
