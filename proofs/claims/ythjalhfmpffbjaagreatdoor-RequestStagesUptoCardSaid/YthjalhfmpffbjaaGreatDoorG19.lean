/- Parts of the proof, one behind the other. -/
import Derived.Test.YthjalhfmpffbjaaGreatDoorG18
namespace Go.Proofs.YthjalhfmpffbjaaGreatDoor.Lg
set_option maxRecDepth 100000
set_option linter.unusedVariables false
set_option linter.unusedSimpArgs false
open Go
open Nat renaming reduceEqDiff → Qa, reduceLT → Qb, reduceLeDiff → Qc, reduceAdd → Qd, reduceMul → Qe, reduceSub → Qf, reduceBEq → Qg
open String renaming reduceEq → Qh
open SpecC renaming seqW → Qi, regW → Qj, condW → Ql, block → Qm, skip → Qn, exit → Qp, ret → Qr, loopF → Qs
open NxK renaming out → Qw
open Nx renaming out → Qx
open condK renaming split → Qy
open gK renaming split_t → Qz, split_f → QA
def cw(y:Weight):Int:=max 0 (min y.w 100)
theorem JeL(y:Weight):0≤cw y∧cw y≤100:=by unfold cw;omega
theorem Jau(y_cluster:List UInt8)(y_w:Int):CallR Tryz.prog 92 [.agg [.str y_cluster,.int .i64 y_w]] (.val (.int .i64 (cw (⟨y_cluster,y_w⟩:Weight)))):=by
 refine CallR.go1 (T:=T) Tryz.call92 Tryz.func92 rfl Tryz.ntmps92 (congrArg Array.toList Tryz.results92) (by decide) fun ts hn h0=>?_
 (repeat' (first
 | (with_reducible first|assumption|(refine Qw hK _ ?_;clear hK K)|refine Qw ‹_› _ ?_|refine Qx ‹_› ?_|refine Qi fun K hK=>?_|refine Qj T fun K hK=>?_|refine Ql fun A B hA hB=>?_|refine Qn ?_|refine Qr ?_)
 | ((with_reducible first|apply Qy|apply Qz|apply QA)<;>intro hb<;>try simp only[nr] at hb)
 |simp only[go_sem,↓reduceIte,reduceIte,Qa,Qh,Qb,Qc,Qd,Qe,Qf,Qg,reduceCtorEq, *]
 |with_reducible refine fun(bn:Bool) hbn=>?_))
 all_goals rfl
def VB(l:List Weight):Int:=(l.map cw).sum
theorem Jjc(y:Weight)(l:List Weight):VB (y :: l)=cw y+VB l:=by simp[VB]
theorem Jek:∀l:List Weight,0≤VB l∧VB l≤100*l.length
 | []=>by simp[VB]
 |y :: l=>by have h:=Jek l;have h2:=JeL y;rw[Jjc,List.length_cons];omega
theorem JcT(xs:List Weight)(hl:Jc xs.length):CallR Tryz.prog 91 [.slice false (Ja xs)] (.val (.int .i64 (VB xs))):=by
 have htr:=Jek xs
 refine CallR.go1 (T:=T) Tryz.call91 Tryz.func91 rfl Tryz.ntmps91 (congrArg Array.toList Tryz.results91) (by decide) fun ts hn h0=>?_
 (repeat' (first
 | (with_reducible first|refine callX.by (Jau _ _) ?_|assumption|(refine Qw hK _ ?_;clear hK K)|refine Qw ‹_› _ ?_|refine Qx ‹_› ?_|refine Qi fun K hK=>?_|refine Qj T fun K hK=>?_|refine Ql fun A B hA hB=>?_|refine Qm ?_|refine Qn ?_|refine Qp ?_|refine Qr ?_)
 | ((with_reducible first|apply Qy|apply Qz|apply QA)<;>intro hb<;>try simp only[nr] at hb)
 |simp only[go_sem,↓reduceIte,reduceIte,Qa,Qh,Qb,Qc,Qd,Qe,Qf,Qg,reduceCtorEq, *,-htr]
 |with_reducible refine fun(bn:Bool) hbn=>?_))
 refine Qs [6,7] (fun m ts'=>∃(i:Nat),∃(n:Int),m=xs.length-i∧i≤xs.length∧VB xs=n+VB (xs.drop i)∧0≤n∧ts'.tmp 3=.int .i64 n∧ts'.tmp 8=.int .i64 i) xs.length ?_ ?_
 ·refine⟨0,0,rfl,Nat.zero_le _,by simp,by omega,?_⟩
  simp only[go_sem,↓reduceIte,reduceIte,Qa,Qh,Qb,Qc,Qd,Qe,Qf,Qg,reduceCtorEq, *,-htr]
 ·rintro m A hM ts' hk ⟨i,n,hm,f1,f2,f3,s1,s2⟩
  simp only[go_sem,↓reduceIte,reduceIte,Qa,Qh,Qb,Qc,Qd,Qe,Qf,Qg,reduceCtorEq, *] at hk
  by_cases hlt:i<xs.length
  ·rw[List.drop_eq_getElem_cons hlt,Jjc] at f2
   have hc:=JeL xs[i]
   have ht2:=Jek (xs.drop (i+1))
   have hw:IntKind.i64.wrap (n+cw xs[i])=n+cw xs[i]:=IntWalk.i64_in _ (by unfold Jc at hl;omega)
   (repeat' (first
 | (with_reducible first|refine callX.by (Jau _ _) ?_|assumption|(refine Qw hK _ ?_;clear hK K)|refine Qw ‹_› _ ?_|refine Qx ‹_› ?_|refine Qi fun K hK=>?_|refine Qj T fun K hK=>?_|refine Ql fun A B hA hB=>?_|refine Qm ?_|refine Qn ?_|refine Qp ?_|refine Qr ?_)
 | ((with_reducible first|apply Qy|apply Qz|apply QA)<;>intro hb<;>try simp only[nr] at hb)
 |simp only[go_sem,↓reduceIte,reduceIte,Qa,Qh,Qb,Qc,Qd,Qe,Qf,Qg,reduceCtorEq, *,-htr,-f2,-hc,-ht2]
 |with_reducible refine fun(bn:Bool) hbn=>?_))
   all_goals ((repeat clear hK);(repeat clear hA);(repeat clear hB))
   (refine hM.on (xs.length-(i+1)) (by omega) (by simp only[go_sem,↓reduceIte,reduceIte,Qa,Qh,Qb,Qc,Qd,Qe,Qf,Qg,reduceCtorEq, *,Ji hlt hl,-htr,-f2,-hc,-ht2]) ⟨i+1,n+cw xs[i],rfl,by omega,by omega,by omega,?_⟩;simp only[go_sem,↓reduceIte,reduceIte,Qa,Qh,Qb,Qc,Qd,Qe,Qf,Qg,reduceCtorEq, *,Ji hlt hl,-htr,-f2,-hc,-ht2];done)
  ·rw[List.drop_eq_nil_of_le (by omega)] at f2
   have e:n=VB xs:=by rw[f2];simp[VB]
   subst e
   (repeat' (first
 | (with_reducible first|refine callX.by (Jau _ _) ?_|assumption|(refine Qw hK _ ?_;clear hK K)|refine Qw ‹_› _ ?_|refine Qx ‹_› ?_|refine Qi fun K hK=>?_|refine Qj T fun K hK=>?_|refine Ql fun A B hA hB=>?_|refine Qm ?_|refine Qn ?_|refine Qp ?_|refine Qr ?_)
 | ((with_reducible first|apply Qy|apply Qz|apply QA)<;>intro hb<;>try simp only[nr] at hb)
 |simp only[go_sem,↓reduceIte,reduceIte,Qa,Qh,Qb,Qc,Qd,Qe,Qf,Qg,reduceCtorEq, *,-htr,-f2]
 |with_reducible refine fun(bn:Bool) hbn=>?_))
def JaC:List Weight→Int→Option (List UInt8)
 | [],_=>none
 |y :: l,n=>if n-cw y<0 then some y.cluster else JaC l (n-cw y)
def ZJ(l:List Weight)(draw:Int):Option (List UInt8):=if VB l=0 then none else JaC l ((max 0 draw).tmod (VB l))
set_option maxHeartbeats 4000000 in
theorem Jmp(xs:List Weight)(draw:Int)(hl:Jc xs.length):CallR Tryz.prog 59 [.slice false (Ja xs),.int .i64 draw] (.val (.tup [.str ((ZJ xs draw).getD []),.bool (ZJ xs draw).isSome])):=by
 have htr:=Jek xs
 by_cases h0:VB xs=0
 ·have e:ZJ xs draw=none:=by unfold ZJ;rw[if_pos h0]
  rw[e]
  refine CallR.go2 (T:=T) Tryz.call59 Tryz.func59 rfl Tryz.ntmps59 (congrArg Array.toList Tryz.results59) (by decide) fun ts hn h0 h1=>?_
  (repeat' (first
 | (with_reducible first|refine callX.by (JcT _ ?_) ?_|refine callX.by (Jau _ _) ?_|assumption|(refine Qw hK _ ?_;clear hK K)|refine Qw ‹_› _ ?_|refine Qx ‹_› ?_|refine Qi fun K hK=>?_|refine Qj T fun K hK=>?_|refine Ql fun A B hA hB=>?_|refine Qm ?_|refine Qn ?_|refine Qp ?_|refine Qr ?_)
 | ((with_reducible first|apply Qy|apply Qz|apply QA)<;>intro hb<;>try simp only[nr] at hb)
 |simp only[go_sem,↓reduceIte,reduceIte,Qa,Qh,Qb,Qc,Qd,Qe,Qf,Qg,reduceCtorEq, *,-htr,Option.getD_none,Option.isSome_none]
 |with_reducible refine fun(bn:Bool) hbn=>?_))
 ·have e:ZJ xs draw=JaC xs ((max 0 draw).tmod (VB xs)):=by unfold ZJ;rw[if_neg h0]
  rw[e]
  have hm1:0≤(max 0 draw).tmod (VB xs):=Int.tmod_nonneg _ (by omega)
  have hm2:(max 0 draw).tmod (VB xs)≤VB xs:=Int.le_of_lt (Int.tmod_lt_of_pos _ (by omega))
  clear e
  obtain⟨q0,hq⟩:∃q0,(max 0 draw).tmod (VB xs)=q0:=⟨_,rfl⟩
  rw[hq] at hm1 hm2 ⊢
  refine CallR.go2 (T:=T) Tryz.call59 Tryz.func59 rfl Tryz.ntmps59 (congrArg Array.toList Tryz.results59) (by decide) fun ts hn h0 h1=>?_
  (repeat' (first
 | (with_reducible first|refine callX.by (JcT _ ?_) ?_|refine callX.by (Jau _ _) ?_|assumption|(refine Qw hK _ ?_;clear hK K)|refine Qw ‹_› _ ?_|refine Qx ‹_› ?_|refine Qi fun K hK=>?_|refine Qj T fun K hK=>?_|refine Ql fun A B hA hB=>?_|refine Qm ?_|refine Qn ?_|refine Qp ?_|refine Qr ?_)
 | ((with_reducible first|apply Qy|apply Qz|apply QA)<;>intro hb<;>try simp only[nr] at hb)
 |simp only[go_sem,↓reduceIte,reduceIte,Qa,Qh,Qb,Qc,Qd,Qe,Qf,Qg,reduceCtorEq, *,-htr,-hm1,-hm2]
 |with_reducible refine fun(bn:Bool) hbn=>?_))
  refine Qs [18,19] (fun m ts'=>∃(i:Nat),∃(n:Int),m=xs.length-i∧i≤xs.length∧JaC xs q0=JaC (xs.drop i) n∧0≤n∧n≤q0∧ts'.tmp 7=.int .i64 n∧ts'.tmp 20=.int .i64 i) xs.length ?_ ?_
  ·refine⟨0,q0,rfl,Nat.zero_le _,rfl,by omega,by omega,?_⟩
   simp only[go_sem,↓reduceIte,reduceIte,Qa,Qh,Qb,Qc,Qd,Qe,Qf,Qg,reduceCtorEq, *,-htr,-hm1,-hm2]
  ·rintro m A hM ts' hk ⟨i,n,hm,f1,f2,f3,f4,s1,s2⟩
   simp only[go_sem,↓reduceIte,reduceIte,Qa,Qh,Qb,Qc,Qd,Qe,Qf,Qg,reduceCtorEq, *] at hk
   by_cases hlt:i<xs.length
   ·rw[List.drop_eq_getElem_cons hlt,JaC] at f2
    have hc:=JeL xs[i]
    have hw:IntKind.i64.wrap (n-cw xs[i])=n-cw xs[i]:=IntWalk.i64_in _ (by unfold Jc at hl;omega)
    by_cases hn:n-cw xs[i]<0
    ·rw[if_pos hn] at f2
     rw[f2]
     (repeat' (first
 | (with_reducible first|refine callX.by (JcT _ ?_) ?_|refine callX.by (Jau _ _) ?_|assumption|(refine Qw hK _ ?_;clear hK K)|refine Qw ‹_› _ ?_|refine Qx ‹_› ?_|refine Qi fun K hK=>?_|refine Qj T fun K hK=>?_|refine Ql fun A B hA hB=>?_|refine Qm ?_|refine Qn ?_|refine Qp ?_|refine Qr ?_)
 | ((with_reducible first|apply Qy|apply Qz|apply QA)<;>intro hb<;>try simp only[nr] at hb)
 |simp only[go_sem,↓reduceIte,reduceIte,Qa,Qh,Qb,Qc,Qd,Qe,Qf,Qg,reduceCtorEq, *,-htr,-hm1,-hm2,-hc,Option.getD_some,Option.isSome_some]
 |with_reducible refine fun(bn:Bool) hbn=>?_))
    ·rw[if_neg hn] at f2
     (repeat' (first
 | (with_reducible first|refine callX.by (JcT _ ?_) ?_|refine callX.by (Jau _ _) ?_|assumption|(refine Qw hK _ ?_;clear hK K)|refine Qw ‹_› _ ?_|refine Qx ‹_› ?_|refine Qi fun K hK=>?_|refine Qj T fun K hK=>?_|refine Ql fun A B hA hB=>?_|refine Qm ?_|refine Qn ?_|refine Qp ?_|refine Qr ?_)
 | ((with_reducible first|apply Qy|apply Qz|apply QA)<;>intro hb<;>try simp only[nr] at hb)
 |simp only[go_sem,↓reduceIte,reduceIte,Qa,Qh,Qb,Qc,Qd,Qe,Qf,Qg,reduceCtorEq, *,-htr,-hm1,-hm2,-f2,-hc]
 |with_reducible refine fun(bn:Bool) hbn=>?_))
     all_goals ((repeat clear hK);(repeat clear hA);(repeat clear hB))
     (refine hM.on (xs.length-(i+1)) (by omega) (by simp only[go_sem,↓reduceIte,reduceIte,Qa,Qh,Qb,Qc,Qd,Qe,Qf,Qg,reduceCtorEq, *,Ji hlt hl,-htr,-hm1,-hm2,-f2,-hc]) ⟨i+1,n-cw xs[i],rfl,by omega,f2,by omega,by omega,?_⟩;simp only[go_sem,↓reduceIte,reduceIte,Qa,Qh,Qb,Qc,Qd,Qe,Qf,Qg,reduceCtorEq, *,Ji hlt hl,-htr,-hm1,-hm2,-f2,-hc];done)
   ·rw[List.drop_eq_nil_of_le (by omega),JaC] at f2
    rw[f2]
    (repeat' (first
 | (with_reducible first|refine callX.by (JcT _ ?_) ?_|refine callX.by (Jau _ _) ?_|assumption|(refine Qw hK _ ?_;clear hK K)|refine Qw ‹_› _ ?_|refine Qx ‹_› ?_|refine Qi fun K hK=>?_|refine Qj T fun K hK=>?_|refine Ql fun A B hA hB=>?_|refine Qm ?_|refine Qn ?_|refine Qp ?_|refine Qr ?_)
 | ((with_reducible first|apply Qy|apply Qz|apply QA)<;>intro hb<;>try simp only[nr] at hb)
 |simp only[go_sem,↓reduceIte,reduceIte,Qa,Qh,Qb,Qc,Qd,Qe,Qf,Qg,reduceCtorEq, *,-htr,-hm1,-hm2,Option.getD_none,Option.isSome_none]
 |with_reducible refine fun(bn:Bool) hbn=>?_))
def Yo(l:List Int)(draw:Int):Option Int:=l[((max 0 draw).tmod l.length).toNat]?
theorem Jmq(xs:List Int)(draw:Int)(hl:Jc xs.length):CallR Tryz.prog 61 [.slice false (Ja xs),.int .i64 draw] (.val (.tup [.int .i64 ((Yo xs draw).getD 0),.bool (Yo xs draw).isSome])):=by
 by_cases h0:xs.length=0
 ·have e:Yo xs draw=none:=by
   have:=List.length_eq_zero_iff.1 h0
   subst this
   simp[Yo]
  rw[e]
  refine CallR.go2 (T:=T) Tryz.call61 Tryz.func61 rfl Tryz.ntmps61 (congrArg Array.toList Tryz.results61) (by decide) fun ts hn h0 h1=>?_
  (repeat' (first
 | (with_reducible first|assumption|(refine Qw hK _ ?_;clear hK K)|refine Qw ‹_› _ ?_|refine Qx ‹_› ?_|refine Qi fun K hK=>?_|refine Qj T fun K hK=>?_|refine Ql fun A B hA hB=>?_|refine Qn ?_|refine Qr ?_)
 | ((with_reducible first|apply Qy|apply Qz|apply QA)<;>intro hb<;>try simp only[nr] at hb)
 |simp only[go_sem,↓reduceIte,reduceIte,Qa,Qh,Qb,Qc,Qd,Qe,Qf,Qg,reduceCtorEq, *,Option.getD_none,Option.isSome_none]
 |with_reducible refine fun(bn:Bool) hbn=>?_))
 ·have hm1:0≤(max 0 draw).tmod (xs.length:Int):=Int.tmod_nonneg _ (by omega)
  have hm2:(max 0 draw).tmod (xs.length:Int)<xs.length:=Int.tmod_lt_of_pos _ (by omega)
  obtain⟨m,hm⟩:=Int.eq_ofNat_of_zero_le hm1
  have hm3:m<xs.length:=by omega
  have e:Yo xs draw=some xs[m]:=by
   unfold Yo
   rw[hm,Int.toNat_natCast,List.getElem?_eq_getElem hm3]
  rw[e]
  clear e hm1 hm2
  have hn0:¬(xs.length:Int)=0:=by omega
  refine CallR.go2 (T:=T) Tryz.call61 Tryz.func61 rfl Tryz.ntmps61 (congrArg Array.toList Tryz.results61) (by decide) fun ts hn h0 h1=>?_
  (repeat' (first
 | (with_reducible first|assumption|(refine Qw hK _ ?_;clear hK K)|refine Qw ‹_› _ ?_|refine Qx ‹_› ?_|refine Qi fun K hK=>?_|refine Qj T fun K hK=>?_|refine Ql fun A B hA hB=>?_|refine Qn ?_|refine Qr ?_)
 | ((with_reducible first|apply Qy|apply Qz|apply QA)<;>intro hb<;>try simp only[nr] at hb)
 |simp only[go_sem,↓reduceIte,reduceIte,Qa,Qh,Qb,Qc,Qd,Qe,Qf,Qg,reduceCtorEq, *,Option.getD_some,Option.isSome_some]
 |with_reducible refine fun(bn:Bool) hbn=>?_))
def Jbb(a b:Rule):Bool:=if 0<Z7 (Jav a.host) (Jav b.host) then true else if Z7 (Jav a.host) (Jav b.host)<0 then false else decide (b.pfx.length<a.pfx.length)
theorem Jgo(a_host:List UInt8)(a_pfx:List UInt8)(a_split:List Weight)(b_host:List UInt8)(b_pfx:List UInt8)(b_split:List Weight):CallR Tryz.prog 128 [.agg [.str a_host,.str a_pfx,.slice false (Ja a_split)],.agg [.str b_host,.str b_pfx,.slice false (Ja b_split)]] (.val (.bool (Jbb (⟨a_host,a_pfx,a_split⟩:Rule) (⟨b_host,b_pfx,b_split⟩:Rule)))):=by
 refine CallR.go2 (T:=T) Tryz.call128 Tryz.func128 rfl Tryz.ntmps128 (congrArg Array.toList Tryz.results128) (by decide) fun ts hn h0 h1=>?_
 (repeat' (first
 | (with_reducible first|refine callX.by (Jl6 _ _) ?_|assumption|(refine Qw hK _ ?_;clear hK K)|refine Qw ‹_› _ ?_|refine Qx ‹_› ?_|refine Qi fun K hK=>?_|refine Qj T fun K hK=>?_|refine Ql fun A B hA hB=>?_|refine Qm ?_|refine Qn ?_|refine Qr ?_)
 | ((with_reducible first|apply Qy|apply Qz|apply QA)<;>intro hb<;>try simp only[nr] at hb)
 |simp only[go_sem,↓reduceIte,reduceIte,Qa,Qh,Qb,Qc,Qd,Qe,Qf,Qg,reduceCtorEq, *]
 |with_reducible refine fun(bn:Bool) hbn=>?_))
 all_goals ((repeat clear hK);(repeat clear hA);(repeat clear hB))
 all_goals (unfold Jbb;split<;>first|rfl|omega|(simp_all;done)|(split<;>first|rfl|omega|(simp_all;done)))
def JcY:Rule:=⟨[],[],[]⟩
def ZU(p:Rule→Bool)(x:Rule):Option Rule→Bool
 |none=>p x
 |some y=>p x && Jbb x y
def YP(p:Rule→Bool):List Rule→Option Rule→Option Rule
 | [],o=>o
 |x :: l,o=>YP p l (if ZU p x o=true then some x else o)
def Yt:Option Rule→List AV
 |none=>[.str [],.str [],.slice true []]
 |some x=>[.str x.host,.str x.pfx,.slice false (Ja x.split)]
set_option maxHeartbeats 4000000 in
theorem JjZ(fn:FuncId)(caps:List AV)(hc:Caps caps)(p:Rule→Bool)(xs:List Rule)(hp:∀x∈xs,CallR Tryz.prog fn (.agg [.str x.host,.str x.pfx,.slice false (Ja x.split)] :: caps) (.val (.bool (p x))))(hl:Jc xs.length) :
  CallR Tryz.prog 124 [.slice false (Ja xs),.clo (.func fn) [] caps,.clo (.func 128) [] []] (.val (.tup [Dat.av ((YP p xs none).getD JcY),.bool (YP p xs none).isSome])):=by
 have hca:=hc.args
 have hcp:=hc.pure
 have hcn:=hc.nrm
 refine CallR.go3 (T:=T) Tryz.call124 Tryz.func124 rfl Tryz.ntmps124 (congrArg Array.toList Tryz.results124) (by decide) fun ts hn h0 h1 h2=>?_
 (repeat' (first
 | (with_reducible first|assumption|(refine Qw hK _ ?_;clear hK K)|refine Qw ‹_› _ ?_|refine Qx ‹_› ?_|refine Qi fun K hK=>?_|refine Qj T fun K hK=>?_|refine Ql fun A B hA hB=>?_|refine Qm ?_|refine Qn ?_|refine Qp ?_|refine Qr ?_)
 | ((with_reducible first|apply Qy|apply Qz|apply QA)<;>intro hb<;>try simp only[nr] at hb)
 |simp only[go_sem,↓reduceIte,reduceIte,Qa,Qh,Qb,Qc,Qd,Qe,Qf,Qg,reduceCtorEq, *,-hp]
 |with_reducible refine fun(bn:Bool) hbn=>?_))
 refine Qs [1,2,6,12,13] (fun m ts'=>∃(i:Nat),∃(g:Nat),∃(o:Option Rule),m=xs.length-i∧i≤xs.length∧YP p xs none=YP p (xs.drop i) o∧ts'.tmp 9=.bool o.isSome∧ts'.tmp 8=.ref 8 g 0∧ts'.gen 8=g∧ts'.obj 8=.box (Yt o)∧ts'.tmp 14=.int .i64 i) xs.length ?_ ?_
 ·refine⟨0,ts.gen 8+1,none,rfl,Nat.zero_le _,rfl,?_⟩
  simp only[go_sem,↓reduceIte,reduceIte,Qa,Qh,Qb,Qc,Qd,Qe,Qf,Qg,reduceCtorEq, *,-hp,Yt,Option.isSome_none]
 ·rintro m A hM ts' hk ⟨i,g,o,hm,f1,f2,s1,s2,s3,s4,s5⟩
  simp only[go_sem,↓reduceIte,reduceIte,Qa,Qh,Qb,Qc,Qd,Qe,Qf,Qg,reduceCtorEq, *] at hk
  by_cases hlt:i<xs.length
  ·rw[List.drop_eq_getElem_cons hlt,YP] at f2
   have hpi:=hp _ (List.getElem_mem hlt)
   cases hpx:p xs[i] with
   |false =>
    have hw:ZU p xs[i] o=false:=by cases o<;>simp[ZU,hpx]
    rw[hw,if_neg (by decide)] at f2
    rw[hpx] at hpi
    (repeat' (first
 | (with_reducible first|refine callX.by (hpi) ?_|assumption|(refine Qw hK _ ?_;clear hK K)|refine Qw ‹_› _ ?_|refine Qx ‹_› ?_|refine Qi fun K hK=>?_|refine Qj T fun K hK=>?_|refine Ql fun A B hA hB=>?_|refine Qm ?_|refine Qn ?_|refine Qp ?_|refine Qr ?_)
 | ((with_reducible first|apply Qy|apply Qz|apply QA)<;>intro hb<;>try simp only[nr] at hb)
 |simp only[go_sem,↓reduceIte,reduceIte,Qa,Qh,Qb,Qc,Qd,Qe,Qf,Qg,reduceCtorEq, *,-hp,-hpi,-f2]
 |with_reducible refine fun(bn:Bool) hbn=>?_))
    all_goals ((repeat clear hK);(repeat clear hA);(repeat clear hB))
    (refine hM.on (xs.length-(i+1)) (by omega) (by simp only[go_sem,↓reduceIte,reduceIte,Qa,Qh,Qb,Qc,Qd,Qe,Qf,Qg,reduceCtorEq, *,Ji hlt hl,-f2,-hp,-hpi]) ⟨i+1,g,o,rfl,by omega,f2,?_⟩;simp only[go_sem,↓reduceIte,reduceIte,Qa,Qh,Qb,Qc,Qd,Qe,Qf,Qg,reduceCtorEq, *,Ji hlt hl,-f2,-hp,-hpi];done)
   |true =>
    rw[hpx] at hpi
    cases o with
    |none =>
     have hw:ZU p xs[i] none=true:=by simp[ZU,hpx]
     rw[hw,if_pos rfl] at f2
     (repeat' (first
 | (with_reducible first|refine callX.by (hpi) ?_|assumption|(refine Qw hK _ ?_;clear hK K)|refine Qw ‹_› _ ?_|refine Qx ‹_› ?_|refine Qi fun K hK=>?_|refine Qj T fun K hK=>?_|refine Ql fun A B hA hB=>?_|refine Qm ?_|refine Qn ?_|refine Qp ?_|refine Qr ?_)
 | ((with_reducible first|apply Qy|apply Qz|apply QA)<;>intro hb<;>try simp only[nr] at hb)
 |simp only[go_sem,↓reduceIte,reduceIte,Qa,Qh,Qb,Qc,Qd,Qe,Qf,Qg,reduceCtorEq, *,-hp,-hpi,-f2,Option.isSome_none,Yt]
 |with_reducible refine fun(bn:Bool) hbn=>?_))
     all_goals ((repeat clear hK);(repeat clear hA);(repeat clear hB))
     (refine hM.on (xs.length-(i+1)) (by omega) (by simp only[go_sem,↓reduceIte,reduceIte,Qa,Qh,Qb,Qc,Qd,Qe,Qf,Qg,reduceCtorEq, *,Ji hlt hl,-f2,-hp,-hpi,Yt,Option.isSome_some]) ⟨i+1,g,some xs[i],rfl,by omega,f2,?_⟩;simp only[go_sem,↓reduceIte,reduceIte,Qa,Qh,Qb,Qc,Qd,Qe,Qf,Qg,reduceCtorEq, *,Ji hlt hl,-f2,-hp,-hpi,Yt,Option.isSome_some];done)
    |some y =>
     have hb0:=Jgo xs[i].host xs[i].pfx xs[i].split y.host y.pfx y.split
     cases hby:Jbb xs[i] y with
     |true =>
      have hw:ZU p xs[i] (some y)=true:=by simp[ZU,hpx,hby]
      rw[hw,if_pos rfl] at f2
      rw[show Jbb ⟨xs[i].host,xs[i].pfx,xs[i].split⟩ ⟨y.host,y.pfx,y.split⟩=true from hby] at hb0
      (repeat' (first
 | (with_reducible first|refine callX.by (hpi) ?_|refine callX.by (hb0) ?_|assumption|(refine Qw hK _ ?_;clear hK K)|refine Qw ‹_› _ ?_|refine Qx ‹_› ?_|refine Qi fun K hK=>?_|refine Qj T fun K hK=>?_|refine Ql fun A B hA hB=>?_|refine Qm ?_|refine Qn ?_|refine Qp ?_|refine Qr ?_)
 | ((with_reducible first|apply Qy|apply Qz|apply QA)<;>intro hb<;>try simp only[nr] at hb)
 |simp only[go_sem,↓reduceIte,reduceIte,Qa,Qh,Qb,Qc,Qd,Qe,Qf,Qg,reduceCtorEq, *,-hp,-hpi,-hb0,-f2,Option.isSome_some,Yt]
 |with_reducible refine fun(bn:Bool) hbn=>?_))
      all_goals ((repeat clear hK);(repeat clear hA);(repeat clear hB))
      (refine hM.on (xs.length-(i+1)) (by omega) (by simp only[go_sem,↓reduceIte,reduceIte,Qa,Qh,Qb,Qc,Qd,Qe,Qf,Qg,reduceCtorEq, *,Ji hlt hl,-f2,-hp,-hpi,-hb0,Yt,Option.isSome_some]) ⟨i+1,g,some xs[i],rfl,by omega,f2,?_⟩;simp only[go_sem,↓reduceIte,reduceIte,Qa,Qh,Qb,Qc,Qd,Qe,Qf,Qg,reduceCtorEq, *,Ji hlt hl,-f2,-hp,-hpi,-hb0,Yt,Option.isSome_some];done)
     |false =>
      have hw:ZU p xs[i] (some y)=false:=by simp[ZU,hpx,hby]
      rw[hw,if_neg (by decide)] at f2
      rw[show Jbb ⟨xs[i].host,xs[i].pfx,xs[i].split⟩ ⟨y.host,y.pfx,y.split⟩=false from hby] at hb0
      (repeat' (first
 | (with_reducible first|refine callX.by (hpi) ?_|refine callX.by (hb0) ?_|assumption|(refine Qw hK _ ?_;clear hK K)|refine Qw ‹_› _ ?_|refine Qx ‹_› ?_|refine Qi fun K hK=>?_|refine Qj T fun K hK=>?_|refine Ql fun A B hA hB=>?_|refine Qm ?_|refine Qn ?_|refine Qp ?_|refine Qr ?_)
 | ((with_reducible first|apply Qy|apply Qz|apply QA)<;>intro hb<;>try simp only[nr] at hb)
 |simp only[go_sem,↓reduceIte,reduceIte,Qa,Qh,Qb,Qc,Qd,Qe,Qf,Qg,reduceCtorEq, *,-hp,-hpi,-hb0,-f2,Option.isSome_some,Yt]
 |with_reducible refine fun(bn:Bool) hbn=>?_))
      all_goals ((repeat clear hK);(repeat clear hA);(repeat clear hB))
      (refine hM.on (xs.length-(i+1)) (by omega) (by simp only[go_sem,↓reduceIte,reduceIte,Qa,Qh,Qb,Qc,Qd,Qe,Qf,Qg,reduceCtorEq, *,Ji hlt hl,-f2,-hp,-hpi,-hb0,Yt,Option.isSome_some]) ⟨i+1,g,some y,rfl,by omega,f2,?_⟩;simp only[go_sem,↓reduceIte,reduceIte,Qa,Qh,Qb,Qc,Qd,Qe,Qf,Qg,reduceCtorEq, *,Ji hlt hl,-f2,-hp,-hpi,-hb0,Yt,Option.isSome_some];done)
  ·rw[List.drop_eq_nil_of_le (by omega),YP] at f2
   rw[f2]
   cases o with
   |none=>(repeat' (first
 | (with_reducible first|assumption|(refine Qw hK _ ?_;clear hK K)|refine Qw ‹_› _ ?_|refine Qx ‹_› ?_|refine Qi fun K hK=>?_|refine Qj T fun K hK=>?_|refine Ql fun A B hA hB=>?_|refine Qm ?_|refine Qn ?_|refine Qp ?_|refine Qr ?_)
 | ((with_reducible first|apply Qy|apply Qz|apply QA)<;>intro hb<;>try simp only[nr] at hb)
 |simp only[go_sem,↓reduceIte,reduceIte,Qa,Qh,Qb,Qc,Qd,Qe,Qf,Qg,reduceCtorEq, *,-hp,Yt,Option.isSome_none,Option.getD_none,JcY,Vc]
 |with_reducible refine fun(bn:Bool) hbn=>?_))
   |some y=>(repeat' (first
 | (with_reducible first|assumption|(refine Qw hK _ ?_;clear hK K)|refine Qw ‹_› _ ?_|refine Qx ‹_› ?_|refine Qi fun K hK=>?_|refine Qj T fun K hK=>?_|refine Ql fun A B hA hB=>?_|refine Qm ?_|refine Qn ?_|refine Qp ?_|refine Qr ?_)
 | ((with_reducible first|apply Qy|apply Qz|apply QA)<;>intro hb<;>try simp only[nr] at hb)
 |simp only[go_sem,↓reduceIte,reduceIte,Qa,Qh,Qb,Qc,Qd,Qe,Qf,Qg,reduceCtorEq, *,-hp,Yt,Option.isSome_some,Option.getD_some]
 |with_reducible refine fun(bn:Bool) hbn=>?_))
def Jcq(h pa:List UInt8)(r:Rule):Bool:=Je5 r.host h && JfT r.pfx pa
theorem JlP(r_host:List UInt8)(r_pfx:List UInt8)(r_split:List Weight)(h pa:List UInt8)(hr:VC (⟨r_host,r_pfx,r_split⟩:Rule))(hh:Jc h.length):CallR Tryz.prog 125 [.agg [.str r_host,.str r_pfx,.slice false (Ja r_split)],.ro [.str h],.ro [.str pa]] (.val (.bool (Jcq h pa (⟨r_host,r_pfx,r_split⟩:Rule)))):=by
 have h1:Jc r_host.length:=hr.1
 have h2:Jc r_pfx.length:=hr.2.1
 clear hr
 refine CallR.go3 (T:=T) Tryz.call125 Tryz.func125 rfl Tryz.ntmps125 (congrArg Array.toList Tryz.results125) (by decide) fun ts hn h0 h1 h2=>?_
 (repeat' (first
 | (with_reducible first|refine callX.by (JlO _ _ ?_ ?_) ?_|refine callX.by (Jrk _ _ ?_) ?_|assumption|(refine Qw hK _ ?_;clear hK K)|refine Qw ‹_› _ ?_|refine Qx ‹_› ?_|refine Qi fun K hK=>?_|refine Qj T fun K hK=>?_|refine Ql fun A B hA hB=>?_|refine Qn ?_|refine Qr ?_)
 | ((with_reducible first|apply Qy|apply Qz|apply QA)<;>intro hb<;>try simp only[nr] at hb)
 |simp only[go_sem,↓reduceIte,reduceIte,Qa,Qh,Qb,Qc,Qd,Qe,Qf,Qg,reduceCtorEq, *]
 |with_reducible refine fun(bn:Bool) hbn=>?_))
 all_goals ((repeat clear hK);(repeat clear hA);(repeat clear hB))
 all_goals simp_all[Jcq]
theorem Jkd(a b:List UInt8):Caps [.ro [.str a],.ro [.str b]]:=⟨by simp only[go_sem,Bool.and_self],by simp only[go_sem]⟩
def ZK(l:List Rule)(h pa:List UInt8):Option Rule:=YP (Jcq h pa) l none
theorem Jmr(xs:List Rule)(h pa:List UInt8)(hl:Jc xs.length)(hs:∀x∈xs,VC x)(hh:Jc h.length):CallR Tryz.prog 84 [.slice false (Ja xs),.str h,.str pa] (.val (.tup [Dat.av ((ZK xs h pa).getD JcY),.bool (ZK xs h pa).isSome])):=by
 have hb:=JjZ 125 [.ro [.str h],.ro [.str pa]] (Jkd h pa) (Jcq h pa) xs (fun x hx=>JlP x.host x.pfx x.split h pa (hs x hx) hh) hl
 rw[show YP (Jcq h pa) xs none=ZK xs h pa from rfl] at hb
 refine CallR.go3 (T:=T) Tryz.call84 Tryz.func84 rfl Tryz.ntmps84 (congrArg Array.toList Tryz.results84) (by decide) fun ts hn h0 h1 h2=>?_
 (repeat' (first
 | (with_reducible first|refine callX.by (hb) ?_|refine callX.by (Jgo _ _ _ _ _ _) ?_|assumption|(refine Qw hK _ ?_;clear hK K)|refine Qw ‹_› _ ?_|refine Qx ‹_› ?_|refine Qi fun K hK=>?_|refine Qj T fun K hK=>?_|refine Ql fun A B hA hB=>?_|refine Qn ?_|refine Qr ?_)
 | ((with_reducible first|apply Qy|apply Qz|apply QA)<;>intro hb<;>try simp only[nr] at hb)
 |simp only[go_sem,↓reduceIte,reduceIte,Qa,Qh,Qb,Qc,Qd,Qe,Qf,Qg,reduceCtorEq, *,-hb,-hs]
 |with_reducible refine fun(bn:Bool) hbn=>?_))
theorem JlH(r_kind:Int)(r_name:List UInt8)(r_ver:Int)(r_port:Int)(r_to:List UInt8)(r_rules:List Rule)(r_hosts:List Int)(k:Int):CallR Tryz.prog 89 [.agg [.int .i64 r_kind,.str r_name,.int .i64 r_ver,.int .i64 r_port,.str r_to,.slice false (Ja r_rules),.slice false (Ja r_hosts)],.ro [.int .i64 k]] (.val (.bool (decide (r_kind=0) && decide (r_port=k)))):=by
 refine CallR.go2 (T:=T) Tryz.call89 Tryz.func89 rfl Tryz.ntmps89 (congrArg Array.toList Tryz.results89) (by decide) fun ts hn h0 h1=>?_
 (repeat' (first
 | (with_reducible first|assumption|(refine Qw hK _ ?_;clear hK K)|refine Qw ‹_› _ ?_|refine Qx ‹_› ?_|refine Qi fun K hK=>?_|refine Qj T fun K hK=>?_|refine Ql fun A B hA hB=>?_|refine Qn ?_|refine Qr ?_)
 | ((with_reducible first|apply Qy|apply Qz|apply QA)<;>intro hb<;>try simp only[nr] at hb)
 |simp only[go_sem,↓reduceIte,reduceIte,Qa,Qh,Qb,Qc,Qd,Qe,Qf,Qg,reduceCtorEq, *]
 |with_reducible refine fun(bn:Bool) hbn=>?_))
 all_goals simp_all
def Jad(l:List Res)(k:Int):Option Res:=l.find? fun r=>decide (r.kind=0) && decide (r.port=k)
theorem JlJ(xs:List Res)(k:Int)(hl:Jc xs.length):CallR Tryz.prog 57 [.slice false (Ja xs),.int .i64 k] (.val (.tup [Dat.av ((Jad xs k).getD Vu),.bool (Jad xs k).isSome])):=by
 have hi:=Yw 89 [.ro [.int .i64 k]] (Jgu k) (fun r=>decide (r.kind=0) && decide (r.port=k)) xs (fun x _=>JlH x.kind x.name x.ver x.port x.to' x.rules' x.hosts k) hl
 have hng:(-1:Int)<0:=by decide
 rcases Jhr (fun r:Res=>decide (r.kind=0) && decide (r.port=k)) xs with ⟨e1,e2⟩|⟨j,hj,e1,e2⟩
 ·rw[e1] at hi
  have e3:Jad xs k=none:=e2
  rw[e3]
  refine CallR.go2 (T:=T) Tryz.call57 Tryz.func57 rfl Tryz.ntmps57 (congrArg Array.toList Tryz.results57) (by decide) fun ts hn h0 h1=>?_
  (repeat' (first
 | (with_reducible first|refine callX.by (hi) ?_|refine callX.by (Yw _ _ ?_ _ _ ?_ ?_) ?_|assumption|(refine Qw hK _ ?_;clear hK K)|refine Qw ‹_› _ ?_|refine Qx ‹_› ?_|refine Qi fun K hK=>?_|refine Qj T fun K hK=>?_|refine Ql fun A B hA hB=>?_|refine Qn ?_|refine Qr ?_)
 | ((with_reducible first|apply Qy|apply Qz|apply QA)<;>intro hb<;>try simp only[nr] at hb)
 |simp only[go_sem,↓reduceIte,reduceIte,Qa,Qh,Qb,Qc,Qd,Qe,Qf,Qg,reduceCtorEq, *,-hi,Option.getD_none,Option.isSome_none,Vu,Vc]
 |with_reducible refine fun(bn:Bool) hbn=>?_))
 ·rw[e1] at hi
  have e3:Jad xs k=some xs[j]:=e2
  rw[e3]
  have hj0:¬(j:Int)<0:=by omega
  refine CallR.go2 (T:=T) Tryz.call57 Tryz.func57 rfl Tryz.ntmps57 (congrArg Array.toList Tryz.results57) (by decide) fun ts hn h0 h1=>?_
  (repeat' (first
 | (with_reducible first|refine callX.by (hi) ?_|refine callX.by (Yw _ _ ?_ _ _ ?_ ?_) ?_|assumption|(refine Qw hK _ ?_;clear hK K)|refine Qw ‹_› _ ?_|refine Qx ‹_› ?_|refine Qi fun K hK=>?_|refine Qj T fun K hK=>?_|refine Ql fun A B hA hB=>?_|refine Qn ?_|refine Qr ?_)
 | ((with_reducible first|apply Qy|apply Qz|apply QA)<;>intro hb<;>try simp only[nr] at hb)
 |simp only[go_sem,↓reduceIte,reduceIte,Qa,Qh,Qb,Qc,Qd,Qe,Qf,Qg,reduceCtorEq, *,-hi,Option.getD_some,Option.isSome_some]
 |with_reducible refine fun(bn:Bool) hbn=>?_))
def JcH(l:List Res)(to':List UInt8)(h pa:List UInt8):Option Rule:=match JP l ⟨1,to'⟩ with
 |none=>none
 |some r=>ZK r.rules' h pa
def Jb5(l:List Res)(c:List UInt8):List Int×Bool:=match JP l ⟨2,c⟩ with
 |none=>([],false)
 |some r=>match JP l ⟨3,r.to'⟩ with
  |none=>([],false)
  |some e=>(e.hosts,true)
theorem Jgq(p:Rule→Bool):∀(xs:List Rule) (o:Option Rule) (r:Rule),YP p xs o=some r→r∈xs∨o=some r
 | [],o,r,h=>.inr h
 |x :: l,o,r,h=>by
  rw[YP] at h
  rcases Jgq p l _ r h with h1|h1
  ·exact .inl (by simp[h1])
  ·split at h1
   ·cases h1;exact .inl (by simp)
   ·exact .inr h1
theorem Jms{xs:List Rule}{h pa:List UInt8}{r:Rule}(e:ZK xs h pa=some r):r∈xs:=by
 rcases Jgq _ _ _ _ e with h1|h1
 ·exact h1
 ·cases h1
theorem Jhx:∀l:List Key,(J6 l).length≤l.length-1
 | []=>by simp[J6]
 | [a]=>by simp[J6]
 |a :: b :: l=>by
  have:=Jhx (b :: l)
  unfold J6
  split<;>simp only[List.length_cons] at *<;>omega
theorem JnZ{l:List Res}{k:Key}{r:Res}(h:JP l k=some r):r∈l∧Jp r=k:=by
 unfold JP at h
 exact⟨List.mem_of_find?_eq_some h,by simpa using List.find?_some h⟩
end Go.Proofs.YthjalhfmpffbjaaGreatDoor.Lg
namespace Go.Proofs.YthjalhfmpffbjaaGreatDoor.Lg
set_option maxRecDepth 100000
set_option linter.unusedVariables false
set_option linter.unusedSimpArgs false
open Go
section
variable {l:List Res} (hc:Conf l) (hv:Zr l=0)
include hc
include hv
end
end Go.Proofs.YthjalhfmpffbjaaGreatDoor.Lg
namespace Go.Proofs.YthjalhfmpffbjaaGreatDoor.Lg
set_option maxRecDepth 100000
set_option linter.unusedVariables false
set_option linter.unusedSimpArgs false
open Go
open Nat renaming reduceEqDiff → Qa, reduceLT → Qb, reduceLeDiff → Qc, reduceAdd → Qd, reduceMul → Qe, reduceSub → Qf, reduceBEq → Qg
open String renaming reduceEq → Qh
open SpecC renaming seqW → Qi, regW → Qj, condW → Ql, block → Qm, skip → Qn, exit → Qp, ret → Qr
open NxK renaming out → Qw
open Nx renaming out → Qx
open condK renaming split → Qy
open gK renaming split_t → Qz, split_f → QA
theorem JrA:JD Vu:=by simp[JD,Vu,Jc]
theorem Jn0{l:List Res}(hs:∀r∈l,JD r)(k:Key):JD ((JP l k).getD Vu):=by
 cases h:JP l k with
 |none=>exact JrA
 |some x=>exact hs x (JnZ h).1
theorem JhK{cap:Int}{l:List Res}:Vh cap l=0↔Vb l=0∧(l.length:Int)≤cap∧Zr l=0:=by
 unfold Vh
 by_cases h1:Vb l=0
 ·by_cases h2:(l.length:Int)≤cap
  ·simp[h1,h2]
  ·simp[h1,h2]
 ·simp[h1]
theorem saneC_iff{c:Cache}:VW c=true↔c.cap=VE c.cap∧Vb c.l=0∧(c.l.length:Int)≤c.cap∧Zr c.l=0:=by
 unfold VW
 simp only[Bool.and_eq_true,decide_eq_true_eq,JhK]
theorem Joa{l:List Res}(h:Vb l=0):l.length≤64:=by
 unfold Vb at h
 split at h
 ·cases h
 ·omega
theorem Jjx{c:Cache}(h:VW c=true)(adds:List Res)(gone:List Key) :
  YB c adds gone=if Vh c.cap (JbG c.l adds gone)=0 then (⟨c.cap,JbG c.l adds gone⟩,0) else (c,Vh c.cap (JbG c.l adds gone)):=by
 have hof:Ya c=c:=by unfold Ya;rw[if_pos h]
 unfold YB
 rw[hof]
theorem Jgj{c:Cache}(h:VW c=true)(adds:List Res)(gone:List Key):VW (YB c adds gone).1=true:=by
 rw[Jjx h]
 split
 ·rename_i hm
  rw[JhK] at hm
  rw[saneC_iff] at h ⊢
  exact⟨h.1,hm⟩
 ·exact h
theorem Jj2(n:Int):0≤VE n∧VE n≤64:=by unfold VE;omega
theorem Jj1(n:Int):VE (VE n)=VE n:=by unfold VE;omega
theorem JhO(n:Int):VW ⟨VE n,[]⟩=true:=by
 rw[saneC_iff]
 have h1:Vb []=0:=by decide
 have h2:Zr []=0:=by decide
 exact⟨(Jj1 n).symm,h1,by simp[(Jj2 n).1],h2⟩
def JbM(a b:Cache):Bool:=decide (a.cap=b.cap) && decide (a.l=b.l)
theorem Jea(a_cap:Int)(a_l:List Res)(b_cap:Int)(b_l:List Res)(hl:Jc a_l.length)(hs:∀r∈a_l,JD r):CallR Tryz.prog 86 [.agg [.int .i64 a_cap,.slice false (Ja a_l)],.agg [.int .i64 b_cap,.slice false (Ja b_l)]] (.val (.bool (JbM (⟨a_cap,a_l⟩:Cache) (⟨b_cap,b_l⟩:Cache)))):=by
 have w1:=YO a_l b_l hl hs
 by_cases h:a_cap=b_cap
 ·refine CallR.go2 (T:=T) Tryz.call86 Tryz.func86 rfl Tryz.ntmps86 (congrArg Array.toList Tryz.results86) (by decide) fun ts hn h0 h1=>?_
  (repeat' (first
 | (with_reducible first|refine callX.by (w1) ?_|refine callX.by (YO _ _ ?_ ?_) ?_|assumption|(refine Qw hK _ ?_;clear hK K)|refine Qw ‹_› _ ?_|refine Qx ‹_› ?_|refine Qi fun K hK=>?_|refine Qj T fun K hK=>?_|refine Ql fun A B hA hB=>?_|refine Qn ?_|refine Qr ?_)
 | ((with_reducible first|apply Qy|apply Qz|apply QA)<;>intro hb<;>try simp only[nr] at hb)
 |simp only[go_sem,↓reduceIte,reduceIte,Qa,Qh,Qb,Qc,Qd,Qe,Qf,Qg,reduceCtorEq, *,-hs,-w1]
 |with_reducible refine fun(bn:Bool) hbn=>?_))
  all_goals simp[JbM,h]
 ·refine CallR.go2 (T:=T) Tryz.call86 Tryz.func86 rfl Tryz.ntmps86 (congrArg Array.toList Tryz.results86) (by decide) fun ts hn h0 h1=>?_
  (repeat' (first
 | (with_reducible first|refine callX.by (w1) ?_|refine callX.by (YO _ _ ?_ ?_) ?_|assumption|(refine Qw hK _ ?_;clear hK K)|refine Qw ‹_› _ ?_|refine Qx ‹_› ?_|refine Qi fun K hK=>?_|refine Qj T fun K hK=>?_|refine Ql fun A B hA hB=>?_|refine Qn ?_|refine Qr ?_)
 | ((with_reducible first|apply Qy|apply Qz|apply QA)<;>intro hb<;>try simp only[nr] at hb)
 |simp only[go_sem,↓reduceIte,reduceIte,Qa,Qh,Qb,Qc,Qd,Qe,Qf,Qg,reduceCtorEq, *,-hs,-w1]
 |with_reducible refine fun(bn:Bool) hbn=>?_))
  all_goals simp[JbM,h]
structure CInv(n:Int)(c:Cache):Prop where
 sane:VW c=true
 cap:c.cap=VE n
 sm:∀r∈c.l,JD r
theorem Jjw{c:Cache}{adds:List Res}{gone:List Key}{x:Res}(h:x∈(YB c adds gone).1.l):x∈c.l∨x∈adds:=by
 unfold YB at h
 simp only at h
 split at h
 ·exact(Jmk h).imp JfM id
 ·exact .inl (JfM h)
def Y6(w:Warm)(adds:List Res)(gone:List Key):Warm×Bool×Int :=
 let m:=JfL w
 let a:=YB m.c adds gone
 if a.2=0 then (if YK a.1=m.shown then (⟨a.1,m.ready,m.shown⟩,false,0) else (⟨a.1,true,YK a.1⟩,true,0)) else (m,false,a.2)
theorem saneW_iff{w:Warm}:VY w=true↔VW w.c=true∧w.shown=YK w.c∧(w.ready=true∨w.shown=[]):=by
 unfold VY
 simp only[Bool.and_eq_true,Bool.or_eq_true,decide_eq_true_eq,and_assoc]
theorem JiU{c:Cache}(h:VW c=true):YK c=VV c.l:=by unfold YK Ya;rw[if_pos h]
theorem Ji3{w:Warm}(h:VY w=true)(adds:List Res)(gone:List Key) :
  Y6 w adds gone=if(YB w.c adds gone).2=0 then (if YK (YB w.c adds gone).1=w.shown then (⟨(YB w.c adds gone).1,w.ready,w.shown⟩,false,0) else (⟨(YB w.c adds gone).1,true,YK (YB w.c adds gone).1⟩,true,0)) else (w,false,(YB w.c adds gone).2):=by
 have hof:JfL w=w:=by unfold JfL;rw[if_pos h]
 unfold Y6
 rw[hof]
theorem JnW{w:Warm}(h:VY w=true)(adds:List Res)(gone:List Key):VY (Y6 w adds gone).1=true:=by
 rw[Ji3 h]
 have hw:=saneW_iff.1 h
 split
 ·split
  ·rename_i hs
   exact saneW_iff.2 ⟨Jgj hw.1 adds gone,hs.symm,hw.2.2⟩
  ·exact saneW_iff.2 ⟨Jgj hw.1 adds gone,rfl,.inl rfl⟩
 ·exact h
theorem JnX{w:Warm}(h:VY w=true){adds:List Res}{gone:List Key}{x:Res}(hx:x∈(Y6 w adds gone).1.c.l):x∈w.c.l∨x∈adds:=by
 rw[Ji3 h] at hx
 split at hx
 ·split at hx<;>exact Jjw hx
 ·exact .inl hx
theorem JiN{w:Warm}(h:VY w=true):w.c.l.length≤64:=Joa (saneC_iff.1 (saneW_iff.1 h).1).2.1
theorem JiO{w:Warm}(h:VY w=true):w.shown=VV w.c.l:=by
 have hw:=saneW_iff.1 h
 rw[hw.2.1,JiU hw.1]
theorem Jnw{w:Warm}(h:VY w=true):w.shown.length≤64:=by
 rw[JiO h]
 exact Nat.le_trans (Jim _) (JiN h)
theorem Jnx{w:Warm}(h:VY w=true){x:Res}(hx:x∈w.shown):x∈w.c.l:=by
 rw[JiO h] at hx
 exact(JmU _).subset hx
theorem Jl8(n:Int):VY ⟨⟨VE n,[]⟩,false,[]⟩=true:=by
 refine saneW_iff.2 ⟨JhO n,?_,.inr rfl⟩
 rw[JiU (JhO n)]
 show[]=VV []
 decide
def Jeb(a b:Warm):Bool:=JbM a.c b.c && decide (a.ready=b.ready) && decide (a.shown=b.shown)
theorem Jnq(a_c_cap:Int)(a_c_l:List Res)(a_ready:Bool)(a_shown:List Res)(b_c_cap:Int)(b_c_l:List Res)(b_ready:Bool)(b_shown:List Res)(hl:Jc a_c_l.length)(hs:∀r∈a_c_l,JD r)(hl2:Jc a_shown.length)(hs2:∀r∈a_shown,JD r):CallR Tryz.prog 51 [.agg [.int .i64 a_c_cap,.slice false (Ja a_c_l),.bool a_ready,.slice false (Ja a_shown)],.agg [.int .i64 b_c_cap,.slice false (Ja b_c_l),.bool b_ready,.slice false (Ja b_shown)]] (.val (.bool (Jeb (⟨⟨a_c_cap,a_c_l⟩,a_ready,a_shown⟩:Warm) (⟨⟨b_c_cap,b_c_l⟩,b_ready,b_shown⟩:Warm)))):=by
 have w1:=Jea a_c_cap a_c_l b_c_cap b_c_l hl hs
 have w2:=YO a_shown b_shown hl2 hs2
 unfold Jeb
 simp only
 generalize JbM ⟨a_c_cap,a_c_l⟩ ⟨b_c_cap,b_c_l⟩=s at *
 cases s
 ·refine CallR.go2 (T:=T) Tryz.call51 Tryz.func51 rfl Tryz.ntmps51 (congrArg Array.toList Tryz.results51) (by decide) fun ts hn h0 h1=>?_
  (repeat' (first
 | (with_reducible first|refine callX.by (w1) ?_|refine callX.by (w2) ?_|refine callX.by (Jea _ _ _ _ ?_ ?_) ?_|refine callX.by (YO _ _ ?_ ?_) ?_|assumption|(refine Qw hK _ ?_;clear hK K)|refine Qw ‹_› _ ?_|refine Qx ‹_› ?_|refine Qi fun K hK=>?_|refine Qj T fun K hK=>?_|refine Ql fun A B hA hB=>?_|refine Qn ?_|refine Qr ?_)
 | ((with_reducible first|apply Qy|apply Qz|apply QA)<;>intro hb<;>try simp only[nr] at hb)
 |simp only[go_sem,↓reduceIte,reduceIte,Qa,Qh,Qb,Qc,Qd,Qe,Qf,Qg,reduceCtorEq, *,-hs,-hs2,-w1,-w2]
 |with_reducible refine fun(bn:Bool) hbn=>?_))
 ·by_cases hr:a_ready=b_ready
  ·subst hr
   refine CallR.go2 (T:=T) Tryz.call51 Tryz.func51 rfl Tryz.ntmps51 (congrArg Array.toList Tryz.results51) (by decide) fun ts hn h0 h1=>?_
   (repeat' (first
 | (with_reducible first|refine callX.by (w1) ?_|refine callX.by (w2) ?_|refine callX.by (Jea _ _ _ _ ?_ ?_) ?_|refine callX.by (YO _ _ ?_ ?_) ?_|assumption|(refine Qw hK _ ?_;clear hK K)|refine Qw ‹_› _ ?_|refine Qx ‹_› ?_|refine Qi fun K hK=>?_|refine Qj T fun K hK=>?_|refine Ql fun A B hA hB=>?_|refine Qn ?_|refine Qr ?_)
 | ((with_reducible first|apply Qy|apply Qz|apply QA)<;>intro hb<;>try simp only[nr] at hb)
 |simp only[go_sem,↓reduceIte,reduceIte,Qa,Qh,Qb,Qc,Qd,Qe,Qf,Qg,reduceCtorEq, *,-hs,-hs2,-w1,-w2]
 |with_reducible refine fun(bn:Bool) hbn=>?_))
   all_goals simp
  ·refine CallR.go2 (T:=T) Tryz.call51 Tryz.func51 rfl Tryz.ntmps51 (congrArg Array.toList Tryz.results51) (by decide) fun ts hn h0 h1=>?_
   (repeat' (first
 | (with_reducible first|refine callX.by (w1) ?_|refine callX.by (w2) ?_|refine callX.by (Jea _ _ _ _ ?_ ?_) ?_|refine callX.by (YO _ _ ?_ ?_) ?_|assumption|(refine Qw hK _ ?_;clear hK K)|refine Qw ‹_› _ ?_|refine Qx ‹_› ?_|refine Qi fun K hK=>?_|refine Qj T fun K hK=>?_|refine Ql fun A B hA hB=>?_|refine Qn ?_|refine Qr ?_)
 | ((with_reducible first|apply Qy|apply Qz|apply QA)<;>intro hb<;>try simp only[nr] at hb)
 |simp only[go_sem,↓reduceIte,reduceIte,Qa,Qh,Qb,Qc,Qd,Qe,Qf,Qg,reduceCtorEq, *,-hs,-hs2,-w1,-w2]
 |with_reducible refine fun(bn:Bool) hbn=>?_))
   all_goals simp_all
theorem Jah(next:Int)(xs:List Snap)(hl:Jc xs.length)(hs:∀x∈xs,V1 x)(ht:Jc (J5 xs).length):CallR Tryz.prog 80 [.agg [.int .i64 next,.slice false (Ja xs)]] (.own 2 (Ja (J8 ⟨next,xs⟩))):=by
 have hl2:Jc (Jq ⟨next,xs⟩).snaps.length:=Jcz hl
 have hs2:∀x∈(Jq ⟨next,xs⟩).snaps,Jc x.l.length:=by
  unfold Jq;split
  ·exact fun x hx=>(hs x hx).1
  ·simp
 have ht2:Jc (J5 (Jq ⟨next,xs⟩).snaps).length:=by
  unfold Jq;split
  ·exact ht
  ·simp[J5,Jc]
 have ht3:Jc (JH (J5 (Jq ⟨next,xs⟩).snaps)).length:=by rw[Jaa];exact ht2
 refine CallR.go1 (T:=T) Tryz.call80 Tryz.func80 rfl Tryz.ntmps80 (congrArg Array.toList Tryz.results80) (by decide) fun ts hn h0=>?_
 (repeat' (first
 | (with_reducible first|refine callX.by (ZM _ _ ?_) ?_|refine callX.by (JfR _ ?_) ?_)
 | (with_reducible refine callX.ar ?_ ?_ (Zs ?_ ?_);(focus(simp only[go_sem,↓reduceIte,reduceIte,Qa,Qh,Qb,Qc,Qd,Qe,Qf,Qg,reduceCtorEq, *];first|done|rfl)))
 |with_reducible refine callX.by (Vq _ _ _ _) ?_
 | (with_reducible refine callX.mv ?_ ?_ ?_ (Ze ?_ ?_);(focus(simp only[go_sem,↓reduceIte,reduceIte,Qa,Qh,Qb,Qc,Qd,Qe,Qf,Qg,reduceCtorEq, *];first|done|rfl));(focus(simp only[go_sem,↓reduceIte,reduceIte,Qa,Qh,Qb,Qc,Qd,Qe,Qf,Qg,reduceCtorEq, *];first|done|rfl)))
 | (with_reducible first|assumption|(refine Qw hK _ ?_;clear hK K)|refine Qw ‹_› _ ?_|refine Qx ‹_› ?_|refine Qi fun K hK=>?_|refine Qj T fun K hK=>?_|refine Ql fun A B hA hB=>?_|refine Qm ?_|refine Qn ?_|refine Qp ?_|refine Qr ?_)
 | ((with_reducible first|apply Qy|apply Qz|apply QA)<;>intro hb<;>try simp only[nr] at hb)
 |simp only[go_sem,↓reduceIte,reduceIte,Qa,Qh,Qb,Qc,Qd,Qe,Qf,Qg,reduceCtorEq, *]
 |with_reducible refine fun(bn:Bool) hbn=>?_))
 refine SpecC.ent (Ent.virt 3 2 (by simp only[go_sem,↓reduceIte,reduceIte,Qa,Qh,Qb,Qc,Qd,Qe,Qf,Qg,reduceCtorEq, *]) (by decide)) ?_
 refine SpecC.loopF [8,9] (fun m ts'=>∃(i:Nat),∃(g:Nat),∃(ys:List Key),m=(Jq ⟨next,xs⟩).snaps.length-i∧i≤(Jq ⟨next,xs⟩).snaps.length∧J5 (Jq ⟨next,xs⟩).snaps=ys++J5 ((Jq ⟨next,xs⟩).snaps.drop i)∧ts'.tmp 3=.os 3 g ys.length∧ts'.gen 3=g∧ts'.obj 3=.arr 2 (Ja ys)∧ts'.tmp 10=.int .i64 i) (Jq ⟨next,xs⟩).snaps.length ?_ ?_
 ·refine⟨0,ts.gen 3+1,[],rfl,Nat.zero_le _,rfl,?_⟩
  simp only[go_sem,↓reduceIte,reduceIte,Qa,Qh,Qb,Qc,Qd,Qe,Qf,Qg,reduceCtorEq, *,Vc]
 ·rintro m A hM ts' hk ⟨i,g,ys,hm,f1,f2,s1,s2,s3,s4⟩
  simp only[go_sem,↓reduceIte,reduceIte,Qa,Qh,Qb,Qc,Qd,Qe,Qf,Qg,reduceCtorEq, *] at hk
  by_cases hlt:i<(Jq ⟨next,xs⟩).snaps.length
  ·rw[List.drop_eq_getElem_cons hlt,Jhf] at f2
   have hsi:=hs2 _ (List.getElem_mem hlt)
   have hlen:=congrArg List.length f2
   rw[List.length_append,List.length_append,List.length_map] at hlen
   have hr1:V0 (ys.length+(Jq ⟨next,xs⟩).snaps[i].l.length) 24:=JaV (by unfold Jc at ht2;omega) (by decide)
   have htk:((Jq ⟨next,xs⟩).snaps[i].l.map Jp).take (Jq ⟨next,xs⟩).snaps[i].l.length=(Jq ⟨next,xs⟩).snaps[i].l.map Jp:=List.take_of_length_le (by simp)
   (repeat' (first
 | (with_reducible first|refine callX.by (ZM _ _ ?_) ?_|refine callX.by (JfR _ ?_) ?_)
 | (with_reducible refine callX.ar ?_ ?_ (Zs ?_ ?_);(focus(simp only[go_sem,↓reduceIte,reduceIte,Qa,Qh,Qb,Qc,Qd,Qe,Qf,Qg,reduceCtorEq, *,List.length_map,-hlen,-f2];first|done|rfl)))
 |with_reducible refine callX.by (Vq _ _ _ _) ?_
 | (with_reducible refine callX.mv ?_ ?_ ?_ (Ze ?_ ?_);(focus(simp only[go_sem,↓reduceIte,reduceIte,Qa,Qh,Qb,Qc,Qd,Qe,Qf,Qg,reduceCtorEq, *,List.length_map,-hlen,-f2];first|done|rfl));(focus(simp only[go_sem,↓reduceIte,reduceIte,Qa,Qh,Qb,Qc,Qd,Qe,Qf,Qg,reduceCtorEq, *,List.length_map,-hlen,-f2];first|done|rfl)))
 | (with_reducible first|assumption|(refine Qw hK _ ?_;clear hK K)|refine Qw ‹_› _ ?_|refine Qx ‹_› ?_|refine Qi fun K hK=>?_|refine Qj T fun K hK=>?_|refine Ql fun A B hA hB=>?_|refine Qm ?_|refine Qn ?_|refine Qp ?_|refine Qr ?_)
 | ((with_reducible first|apply Qy|apply Qz|apply QA)<;>intro hb<;>try simp only[nr] at hb)
 |simp only[go_sem,↓reduceIte,reduceIte,Qa,Qh,Qb,Qc,Qd,Qe,Qf,Qg,reduceCtorEq, *,List.length_map,-hlen,-f2]
 |with_reducible refine fun(bn:Bool) hbn=>?_))
   all_goals ((repeat clear hK);(repeat clear hA);(repeat clear hB))
   (refine hM.onE ((Jq ⟨next,xs⟩).snaps.length-(i+1)) (Ent.ren 3 18 ?_ ?_) ?_ ?_ ?_;(focus(simp only[go_sem,↓reduceIte,reduceIte,Qa,Qh,Qb,Qc,Qd,Qe,Qf,Qg,reduceCtorEq, *,Ji hlt hl2,List.length_map,List.length_append,-hlen,-f2];first|done|rfl));(focus(simp only[go_sem,↓reduceIte,reduceIte,Qa,Qh,Qb,Qc,Qd,Qe,Qf,Qg,reduceCtorEq, *,Ji hlt hl2,List.length_map,List.length_append,-hlen,-f2];first|done|rfl));omega;(focus(simp only[go_sem,↓reduceIte,reduceIte,Qa,Qh,Qb,Qc,Qd,Qe,Qf,Qg,reduceCtorEq, *,Ji hlt hl2,List.length_map,List.length_append,-hlen,-f2];done));refine⟨i+1,g+1,ys++(Jq ⟨next,xs⟩).snaps[i].l.map Jp,rfl,by omega,by rw[f2,List.append_assoc],?_⟩;simp only[go_sem,↓reduceIte,reduceIte,Qa,Qh,Qb,Qc,Qd,Qe,Qf,Qg,reduceCtorEq, *,Ji hlt hl2,List.length_map,List.length_append,-hlen,-f2];done)
  ·rw[List.drop_eq_nil_of_le (by omega)] at f2
   have e:ys=J5 (Jq ⟨next,xs⟩).snaps:=by rw[f2];simp[J5]
   subst e
   clear f2
   have hk1:=Jaa (J5 (Jq ⟨next,xs⟩).snaps)
   have htk:(JH (J5 (Jq ⟨next,xs⟩).snaps)).take (J5 (Jq ⟨next,xs⟩).snaps).length=JH (J5 (Jq ⟨next,xs⟩).snaps):=List.take_of_length_le (by omega)
   (repeat' (first
 | (with_reducible first|refine callX.by (ZM _ _ ?_) ?_|refine callX.by (JfR _ ?_) ?_)
 | (with_reducible refine callX.ar ?_ ?_ (Zs ?_ ?_);(focus(simp only[go_sem,↓reduceIte,reduceIte,Qa,Qh,Qb,Qc,Qd,Qe,Qf,Qg,reduceCtorEq, *,Nat.le_refl];first|done|rfl)))
 |with_reducible refine callX.by (Vq _ _ _ _) ?_
 | (with_reducible refine callX.mv ?_ ?_ ?_ (Ze ?_ ?_);(focus(simp only[go_sem,↓reduceIte,reduceIte,Qa,Qh,Qb,Qc,Qd,Qe,Qf,Qg,reduceCtorEq, *,Nat.le_refl];first|done|rfl));(focus(simp only[go_sem,↓reduceIte,reduceIte,Qa,Qh,Qb,Qc,Qd,Qe,Qf,Qg,reduceCtorEq, *,Nat.le_refl];first|done|rfl)))
 | (with_reducible first|assumption|(refine Qw hK _ ?_;clear hK K)|refine Qw ‹_› _ ?_|refine Qx ‹_› ?_|refine Qi fun K hK=>?_|refine Qj T fun K hK=>?_|refine Ql fun A B hA hB=>?_|refine Qm ?_|refine Qn ?_|refine Qp ?_|refine Qr ?_)
 | ((with_reducible first|apply Qy|apply Qz|apply QA)<;>intro hb<;>try simp only[nr] at hb)
 |simp only[go_sem,↓reduceIte,reduceIte,Qa,Qh,Qb,Qc,Qd,Qe,Qf,Qg,reduceCtorEq, *,Nat.le_refl]
 |with_reducible refine fun(bn:Bool) hbn=>?_))
   all_goals ((repeat clear hK);(repeat clear hA);(repeat clear hB))
   all_goals rfl
end Go.Proofs.YthjalhfmpffbjaaGreatDoor.Lg
