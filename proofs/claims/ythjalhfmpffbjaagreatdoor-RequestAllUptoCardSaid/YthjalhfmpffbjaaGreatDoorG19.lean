/- Parts of the proof, one behind the other. -/
import Derived.Test.YthjalhfmpffbjaaGreatDoorG18
namespace Go.Proofs.YthjalhfmpffbjaaGreatDoor.Lg
set_option maxRecDepth 100000
set_option linter.unusedVariables false
set_option linter.unusedSimpArgs false
open Go
open Nat renaming reduceEqDiff → Qa, reduceLT → Qb, reduceLeDiff → Qc, reduceAdd → Qd, reduceMul → Qe, reduceSub → Qf, reduceBEq → Qg
open String renaming reduceEq → Qh
open SpecC renaming seqW → Qi, regW → Qj, condW → Ql, block → Qm, skip → Qn, exit → Qp, ret → Qr, loopF → Qs
open NxK renaming out → Qw
open Nx renaming out → Qx
open condK renaming split → Qy
open gK renaming split_t → Qz, split_f → QA
def cw(y:Weight):Int:=max 0 (min y.w 100)
theorem JeX(y:Weight):0≤cw y∧cw y≤100:=by unfold cw;omega
theorem Jas(y_cluster:List UInt8)(y_w:Int):CallR Tryz.prog 92 [.agg [.str y_cluster,.int .i64 y_w]] (.val (.int .i64 (cw (⟨y_cluster,y_w⟩:Weight)))):=by
 refine CallR.go1 (T:=T) Tryz.call92 Tryz.func92 rfl Tryz.ntmps92 (congrArg Array.toList Tryz.results92) (by decide) fun ts hn h0=>?_
 (repeat' (first
 | (with_reducible first|assumption|(refine Qw hK _ ?_;clear hK K)|refine Qw ‹_› _ ?_|refine Qx ‹_› ?_|refine Qi fun K hK=>?_|refine Qj T fun K hK=>?_|refine Ql fun A B hA hB=>?_|refine Qn ?_|refine Qr ?_)
 | ((with_reducible first|apply Qy|apply Qz|apply QA)<;>intro hb<;>try simp only[nr] at hb)
 |simp only[go_sem,↓reduceIte,reduceIte,Qa,Qh,Qb,Qc,Qd,Qe,Qf,Qg,reduceCtorEq, *]
 |with_reducible refine fun(bn:Bool) hbn=>?_))
 all_goals rfl
def VG(l:List Weight):Int:=(l.map cw).sum
theorem JjL(y:Weight)(l:List Weight):VG (y :: l)=cw y+VG l:=by simp[VG]
theorem Jer:∀l:List Weight,0≤VG l∧VG l≤100*l.length
 | []=>by simp[VG]
 |y :: l=>by have h:=Jer l;have h2:=JeX y;rw[JjL,List.length_cons];omega
theorem Jc1(xs:List Weight)(hl:Jc xs.length):CallR Tryz.prog 91 [.slice false (Ja xs)] (.val (.int .i64 (VG xs))):=by
 have htr:=Jer xs
 refine CallR.go1 (T:=T) Tryz.call91 Tryz.func91 rfl Tryz.ntmps91 (congrArg Array.toList Tryz.results91) (by decide) fun ts hn h0=>?_
 (repeat' (first
 | (with_reducible first|refine callX.by (Jas _ _) ?_|assumption|(refine Qw hK _ ?_;clear hK K)|refine Qw ‹_› _ ?_|refine Qx ‹_› ?_|refine Qi fun K hK=>?_|refine Qj T fun K hK=>?_|refine Ql fun A B hA hB=>?_|refine Qm ?_|refine Qn ?_|refine Qp ?_|refine Qr ?_)
 | ((with_reducible first|apply Qy|apply Qz|apply QA)<;>intro hb<;>try simp only[nr] at hb)
 |simp only[go_sem,↓reduceIte,reduceIte,Qa,Qh,Qb,Qc,Qd,Qe,Qf,Qg,reduceCtorEq, *,-htr]
 |with_reducible refine fun(bn:Bool) hbn=>?_))
 refine Qs [6,7] (fun m ts'=>∃(i:Nat),∃(n:Int),m=xs.length-i∧i≤xs.length∧VG xs=n+VG (xs.drop i)∧0≤n∧ts'.tmp 3=.int .i64 n∧ts'.tmp 8=.int .i64 i) xs.length ?_ ?_
 ·refine⟨0,0,rfl,Nat.zero_le _,by simp,by omega,?_⟩
  simp only[go_sem,↓reduceIte,reduceIte,Qa,Qh,Qb,Qc,Qd,Qe,Qf,Qg,reduceCtorEq, *,-htr]
 ·rintro m A hM ts' hk ⟨i,n,hm,f1,f2,f3,s1,s2⟩
  simp only[go_sem,↓reduceIte,reduceIte,Qa,Qh,Qb,Qc,Qd,Qe,Qf,Qg,reduceCtorEq, *] at hk
  by_cases hlt:i<xs.length
  ·rw[List.drop_eq_getElem_cons hlt,JjL] at f2
   have hc:=JeX xs[i]
   have ht2:=Jer (xs.drop (i+1))
   have hw:IntKind.i64.wrap (n+cw xs[i])=n+cw xs[i]:=IntWalk.i64_in _ (by unfold Jc at hl;omega)
   (repeat' (first
 | (with_reducible first|refine callX.by (Jas _ _) ?_|assumption|(refine Qw hK _ ?_;clear hK K)|refine Qw ‹_› _ ?_|refine Qx ‹_› ?_|refine Qi fun K hK=>?_|refine Qj T fun K hK=>?_|refine Ql fun A B hA hB=>?_|refine Qm ?_|refine Qn ?_|refine Qp ?_|refine Qr ?_)
 | ((with_reducible first|apply Qy|apply Qz|apply QA)<;>intro hb<;>try simp only[nr] at hb)
 |simp only[go_sem,↓reduceIte,reduceIte,Qa,Qh,Qb,Qc,Qd,Qe,Qf,Qg,reduceCtorEq, *,-htr,-f2,-hc,-ht2]
 |with_reducible refine fun(bn:Bool) hbn=>?_))
   all_goals ((repeat clear hK);(repeat clear hA);(repeat clear hB))
   (refine hM.on (xs.length-(i+1)) (by omega) (by simp only[go_sem,↓reduceIte,reduceIte,Qa,Qh,Qb,Qc,Qd,Qe,Qf,Qg,reduceCtorEq, *,Jj hlt hl,-htr,-f2,-hc,-ht2]) ⟨i+1,n+cw xs[i],rfl,by omega,by omega,by omega,?_⟩;simp only[go_sem,↓reduceIte,reduceIte,Qa,Qh,Qb,Qc,Qd,Qe,Qf,Qg,reduceCtorEq, *,Jj hlt hl,-htr,-f2,-hc,-ht2];done)
  ·rw[List.drop_eq_nil_of_le (by omega)] at f2
   have e:n=VG xs:=by rw[f2];simp[VG]
   subst e
   (repeat' (first
 | (with_reducible first|refine callX.by (Jas _ _) ?_|assumption|(refine Qw hK _ ?_;clear hK K)|refine Qw ‹_› _ ?_|refine Qx ‹_› ?_|refine Qi fun K hK=>?_|refine Qj T fun K hK=>?_|refine Ql fun A B hA hB=>?_|refine Qm ?_|refine Qn ?_|refine Qp ?_|refine Qr ?_)
 | ((with_reducible first|apply Qy|apply Qz|apply QA)<;>intro hb<;>try simp only[nr] at hb)
 |simp only[go_sem,↓reduceIte,reduceIte,Qa,Qh,Qb,Qc,Qd,Qe,Qf,Qg,reduceCtorEq, *,-htr,-f2]
 |with_reducible refine fun(bn:Bool) hbn=>?_))
def JaC:List Weight→Int→Option (List UInt8)
 | [],_=>none
 |y :: l,n=>if n-cw y<0 then some y.cluster else JaC l (n-cw y)
def YL(l:List Weight)(draw:Int):Option (List UInt8):=if VG l=0 then none else JaC l ((max 0 draw).tmod (VG l))
set_option maxHeartbeats 4000000 in
theorem JaT(xs:List Weight)(draw:Int)(hl:Jc xs.length):CallR Tryz.prog 59 [.slice false (Ja xs),.int .i64 draw] (.val (.tup [.str ((YL xs draw).getD []),.bool (YL xs draw).isSome])):=by
 have htr:=Jer xs
 by_cases h0:VG xs=0
 ·have e:YL xs draw=none:=by unfold YL;rw[if_pos h0]
  rw[e]
  refine CallR.go2 (T:=T) Tryz.call59 Tryz.func59 rfl Tryz.ntmps59 (congrArg Array.toList Tryz.results59) (by decide) fun ts hn h0 h1=>?_
  (repeat' (first
 | (with_reducible first|refine callX.by (Jc1 _ ?_) ?_|refine callX.by (Jas _ _) ?_|assumption|(refine Qw hK _ ?_;clear hK K)|refine Qw ‹_› _ ?_|refine Qx ‹_› ?_|refine Qi fun K hK=>?_|refine Qj T fun K hK=>?_|refine Ql fun A B hA hB=>?_|refine Qm ?_|refine Qn ?_|refine Qp ?_|refine Qr ?_)
 | ((with_reducible first|apply Qy|apply Qz|apply QA)<;>intro hb<;>try simp only[nr] at hb)
 |simp only[go_sem,↓reduceIte,reduceIte,Qa,Qh,Qb,Qc,Qd,Qe,Qf,Qg,reduceCtorEq, *,-htr,Option.getD_none,Option.isSome_none]
 |with_reducible refine fun(bn:Bool) hbn=>?_))
 ·have e:YL xs draw=JaC xs ((max 0 draw).tmod (VG xs)):=by unfold YL;rw[if_neg h0]
  rw[e]
  have hm1:0≤(max 0 draw).tmod (VG xs):=Int.tmod_nonneg _ (by omega)
  have hm2:(max 0 draw).tmod (VG xs)≤VG xs:=Int.le_of_lt (Int.tmod_lt_of_pos _ (by omega))
  clear e
  obtain⟨q0,hq⟩:∃q0,(max 0 draw).tmod (VG xs)=q0:=⟨_,rfl⟩
  rw[hq] at hm1 hm2 ⊢
  refine CallR.go2 (T:=T) Tryz.call59 Tryz.func59 rfl Tryz.ntmps59 (congrArg Array.toList Tryz.results59) (by decide) fun ts hn h0 h1=>?_
  (repeat' (first
 | (with_reducible first|refine callX.by (Jc1 _ ?_) ?_|refine callX.by (Jas _ _) ?_|assumption|(refine Qw hK _ ?_;clear hK K)|refine Qw ‹_› _ ?_|refine Qx ‹_› ?_|refine Qi fun K hK=>?_|refine Qj T fun K hK=>?_|refine Ql fun A B hA hB=>?_|refine Qm ?_|refine Qn ?_|refine Qp ?_|refine Qr ?_)
 | ((with_reducible first|apply Qy|apply Qz|apply QA)<;>intro hb<;>try simp only[nr] at hb)
 |simp only[go_sem,↓reduceIte,reduceIte,Qa,Qh,Qb,Qc,Qd,Qe,Qf,Qg,reduceCtorEq, *,-htr,-hm1,-hm2]
 |with_reducible refine fun(bn:Bool) hbn=>?_))
  refine Qs [18,19] (fun m ts'=>∃(i:Nat),∃(n:Int),m=xs.length-i∧i≤xs.length∧JaC xs q0=JaC (xs.drop i) n∧0≤n∧n≤q0∧ts'.tmp 7=.int .i64 n∧ts'.tmp 20=.int .i64 i) xs.length ?_ ?_
  ·refine⟨0,q0,rfl,Nat.zero_le _,rfl,by omega,by omega,?_⟩
   simp only[go_sem,↓reduceIte,reduceIte,Qa,Qh,Qb,Qc,Qd,Qe,Qf,Qg,reduceCtorEq, *,-htr,-hm1,-hm2]
  ·rintro m A hM ts' hk ⟨i,n,hm,f1,f2,f3,f4,s1,s2⟩
   simp only[go_sem,↓reduceIte,reduceIte,Qa,Qh,Qb,Qc,Qd,Qe,Qf,Qg,reduceCtorEq, *] at hk
   by_cases hlt:i<xs.length
   ·rw[List.drop_eq_getElem_cons hlt,JaC] at f2
    have hc:=JeX xs[i]
    have hw:IntKind.i64.wrap (n-cw xs[i])=n-cw xs[i]:=IntWalk.i64_in _ (by unfold Jc at hl;omega)
    by_cases hn:n-cw xs[i]<0
    ·rw[if_pos hn] at f2
     rw[f2]
     (repeat' (first
 | (with_reducible first|refine callX.by (Jc1 _ ?_) ?_|refine callX.by (Jas _ _) ?_|assumption|(refine Qw hK _ ?_;clear hK K)|refine Qw ‹_› _ ?_|refine Qx ‹_› ?_|refine Qi fun K hK=>?_|refine Qj T fun K hK=>?_|refine Ql fun A B hA hB=>?_|refine Qm ?_|refine Qn ?_|refine Qp ?_|refine Qr ?_)
 | ((with_reducible first|apply Qy|apply Qz|apply QA)<;>intro hb<;>try simp only[nr] at hb)
 |simp only[go_sem,↓reduceIte,reduceIte,Qa,Qh,Qb,Qc,Qd,Qe,Qf,Qg,reduceCtorEq, *,-htr,-hm1,-hm2,-hc,Option.getD_some,Option.isSome_some]
 |with_reducible refine fun(bn:Bool) hbn=>?_))
    ·rw[if_neg hn] at f2
     (repeat' (first
 | (with_reducible first|refine callX.by (Jc1 _ ?_) ?_|refine callX.by (Jas _ _) ?_|assumption|(refine Qw hK _ ?_;clear hK K)|refine Qw ‹_› _ ?_|refine Qx ‹_› ?_|refine Qi fun K hK=>?_|refine Qj T fun K hK=>?_|refine Ql fun A B hA hB=>?_|refine Qm ?_|refine Qn ?_|refine Qp ?_|refine Qr ?_)
 | ((with_reducible first|apply Qy|apply Qz|apply QA)<;>intro hb<;>try simp only[nr] at hb)
 |simp only[go_sem,↓reduceIte,reduceIte,Qa,Qh,Qb,Qc,Qd,Qe,Qf,Qg,reduceCtorEq, *,-htr,-hm1,-hm2,-f2,-hc]
 |with_reducible refine fun(bn:Bool) hbn=>?_))
     all_goals ((repeat clear hK);(repeat clear hA);(repeat clear hB))
     (refine hM.on (xs.length-(i+1)) (by omega) (by simp only[go_sem,↓reduceIte,reduceIte,Qa,Qh,Qb,Qc,Qd,Qe,Qf,Qg,reduceCtorEq, *,Jj hlt hl,-htr,-hm1,-hm2,-f2,-hc]) ⟨i+1,n-cw xs[i],rfl,by omega,f2,by omega,by omega,?_⟩;simp only[go_sem,↓reduceIte,reduceIte,Qa,Qh,Qb,Qc,Qd,Qe,Qf,Qg,reduceCtorEq, *,Jj hlt hl,-htr,-hm1,-hm2,-f2,-hc];done)
   ·rw[List.drop_eq_nil_of_le (by omega),JaC] at f2
    rw[f2]
    (repeat' (first
 | (with_reducible first|refine callX.by (Jc1 _ ?_) ?_|refine callX.by (Jas _ _) ?_|assumption|(refine Qw hK _ ?_;clear hK K)|refine Qw ‹_› _ ?_|refine Qx ‹_› ?_|refine Qi fun K hK=>?_|refine Qj T fun K hK=>?_|refine Ql fun A B hA hB=>?_|refine Qm ?_|refine Qn ?_|refine Qp ?_|refine Qr ?_)
 | ((with_reducible first|apply Qy|apply Qz|apply QA)<;>intro hb<;>try simp only[nr] at hb)
 |simp only[go_sem,↓reduceIte,reduceIte,Qa,Qh,Qb,Qc,Qd,Qe,Qf,Qg,reduceCtorEq, *,-htr,-hm1,-hm2,Option.getD_none,Option.isSome_none]
 |with_reducible refine fun(bn:Bool) hbn=>?_))
def V8(l:List Int)(draw:Int):Option Int:=l[((max 0 draw).tmod l.length).toNat]?
theorem JaU(xs:List Int)(draw:Int)(hl:Jc xs.length):CallR Tryz.prog 61 [.slice false (Ja xs),.int .i64 draw] (.val (.tup [.int .i64 ((V8 xs draw).getD 0),.bool (V8 xs draw).isSome])):=by
 by_cases h0:xs.length=0
 ·have e:V8 xs draw=none:=by
   have:=List.length_eq_zero_iff.1 h0
   subst this
   simp[V8]
  rw[e]
  refine CallR.go2 (T:=T) Tryz.call61 Tryz.func61 rfl Tryz.ntmps61 (congrArg Array.toList Tryz.results61) (by decide) fun ts hn h0 h1=>?_
  (repeat' (first
 | (with_reducible first|assumption|(refine Qw hK _ ?_;clear hK K)|refine Qw ‹_› _ ?_|refine Qx ‹_› ?_|refine Qi fun K hK=>?_|refine Qj T fun K hK=>?_|refine Ql fun A B hA hB=>?_|refine Qn ?_|refine Qr ?_)
 | ((with_reducible first|apply Qy|apply Qz|apply QA)<;>intro hb<;>try simp only[nr] at hb)
 |simp only[go_sem,↓reduceIte,reduceIte,Qa,Qh,Qb,Qc,Qd,Qe,Qf,Qg,reduceCtorEq, *,Option.getD_none,Option.isSome_none]
 |with_reducible refine fun(bn:Bool) hbn=>?_))
 ·have hm1:0≤(max 0 draw).tmod (xs.length:Int):=Int.tmod_nonneg _ (by omega)
  have hm2:(max 0 draw).tmod (xs.length:Int)<xs.length:=Int.tmod_lt_of_pos _ (by omega)
  obtain⟨m,hm⟩:=Int.eq_ofNat_of_zero_le hm1
  have hm3:m<xs.length:=by omega
  have e:V8 xs draw=some xs[m]:=by
   unfold V8
   rw[hm,Int.toNat_natCast,List.getElem?_eq_getElem hm3]
  rw[e]
  clear e hm1 hm2
  have hn0:¬(xs.length:Int)=0:=by omega
  refine CallR.go2 (T:=T) Tryz.call61 Tryz.func61 rfl Tryz.ntmps61 (congrArg Array.toList Tryz.results61) (by decide) fun ts hn h0 h1=>?_
  (repeat' (first
 | (with_reducible first|assumption|(refine Qw hK _ ?_;clear hK K)|refine Qw ‹_› _ ?_|refine Qx ‹_› ?_|refine Qi fun K hK=>?_|refine Qj T fun K hK=>?_|refine Ql fun A B hA hB=>?_|refine Qn ?_|refine Qr ?_)
 | ((with_reducible first|apply Qy|apply Qz|apply QA)<;>intro hb<;>try simp only[nr] at hb)
 |simp only[go_sem,↓reduceIte,reduceIte,Qa,Qh,Qb,Qc,Qd,Qe,Qf,Qg,reduceCtorEq, *,Option.getD_some,Option.isSome_some]
 |with_reducible refine fun(bn:Bool) hbn=>?_))
def Jbi(a b:Rule):Bool:=if 0<Z7 (Jat a.host) (Jat b.host) then true else if Z7 (Jat a.host) (Jat b.host)<0 then false else decide (b.pfx.length<a.pfx.length)
theorem JgN(a_host:List UInt8)(a_pfx:List UInt8)(a_split:List Weight)(b_host:List UInt8)(b_pfx:List UInt8)(b_split:List Weight):CallR Tryz.prog 128 [.agg [.str a_host,.str a_pfx,.slice false (Ja a_split)],.agg [.str b_host,.str b_pfx,.slice false (Ja b_split)]] (.val (.bool (Jbi (⟨a_host,a_pfx,a_split⟩:Rule) (⟨b_host,b_pfx,b_split⟩:Rule)))):=by
 refine CallR.go2 (T:=T) Tryz.call128 Tryz.func128 rfl Tryz.ntmps128 (congrArg Array.toList Tryz.results128) (by decide) fun ts hn h0 h1=>?_
 (repeat' (first
 | (with_reducible first|refine callX.by (Jmy _ _) ?_|assumption|(refine Qw hK _ ?_;clear hK K)|refine Qw ‹_› _ ?_|refine Qx ‹_› ?_|refine Qi fun K hK=>?_|refine Qj T fun K hK=>?_|refine Ql fun A B hA hB=>?_|refine Qm ?_|refine Qn ?_|refine Qr ?_)
 | ((with_reducible first|apply Qy|apply Qz|apply QA)<;>intro hb<;>try simp only[nr] at hb)
 |simp only[go_sem,↓reduceIte,reduceIte,Qa,Qh,Qb,Qc,Qd,Qe,Qf,Qg,reduceCtorEq, *]
 |with_reducible refine fun(bn:Bool) hbn=>?_))
 all_goals ((repeat clear hK);(repeat clear hA);(repeat clear hB))
 all_goals (unfold Jbi;split<;>first|rfl|omega|(simp_all;done)|(split<;>first|rfl|omega|(simp_all;done)))
def Jau:Rule:=⟨[],[],[]⟩
def ZU(p:Rule→Bool)(x:Rule):Option Rule→Bool
 |none=>p x
 |some y=>p x && Jbi x y
def YR(p:Rule→Bool):List Rule→Option Rule→Option Rule
 | [],o=>o
 |x :: l,o=>YR p l (if ZU p x o=true then some x else o)
def Yw:Option Rule→List AV
 |none=>[.str [],.str [],.slice true []]
 |some x=>[.str x.host,.str x.pfx,.slice false (Ja x.split)]
set_option maxHeartbeats 4000000 in
theorem Jkv(fn:FuncId)(caps:List AV)(hc:Caps caps)(p:Rule→Bool)(xs:List Rule)(hp:∀x∈xs,CallR Tryz.prog fn (.agg [.str x.host,.str x.pfx,.slice false (Ja x.split)] :: caps) (.val (.bool (p x))))(hl:Jc xs.length) :
  CallR Tryz.prog 124 [.slice false (Ja xs),.clo (.func fn) [] caps,.clo (.func 128) [] []] (.val (.tup [Dat.av ((YR p xs none).getD Jau),.bool (YR p xs none).isSome])):=by
 have hca:=hc.args
 have hcp:=hc.pure
 have hcn:=hc.nrm
 refine CallR.go3 (T:=T) Tryz.call124 Tryz.func124 rfl Tryz.ntmps124 (congrArg Array.toList Tryz.results124) (by decide) fun ts hn h0 h1 h2=>?_
 (repeat' (first
 | (with_reducible first|assumption|(refine Qw hK _ ?_;clear hK K)|refine Qw ‹_› _ ?_|refine Qx ‹_› ?_|refine Qi fun K hK=>?_|refine Qj T fun K hK=>?_|refine Ql fun A B hA hB=>?_|refine Qm ?_|refine Qn ?_|refine Qp ?_|refine Qr ?_)
 | ((with_reducible first|apply Qy|apply Qz|apply QA)<;>intro hb<;>try simp only[nr] at hb)
 |simp only[go_sem,↓reduceIte,reduceIte,Qa,Qh,Qb,Qc,Qd,Qe,Qf,Qg,reduceCtorEq, *,-hp]
 |with_reducible refine fun(bn:Bool) hbn=>?_))
 refine Qs [1,2,6,12,13] (fun m ts'=>∃(i:Nat),∃(g:Nat),∃(o:Option Rule),m=xs.length-i∧i≤xs.length∧YR p xs none=YR p (xs.drop i) o∧ts'.tmp 9=.bool o.isSome∧ts'.tmp 8=.ref 8 g 0∧ts'.gen 8=g∧ts'.obj 8=.box (Yw o)∧ts'.tmp 14=.int .i64 i) xs.length ?_ ?_
 ·refine⟨0,ts.gen 8+1,none,rfl,Nat.zero_le _,rfl,?_⟩
  simp only[go_sem,↓reduceIte,reduceIte,Qa,Qh,Qb,Qc,Qd,Qe,Qf,Qg,reduceCtorEq, *,-hp,Yw,Option.isSome_none]
 ·rintro m A hM ts' hk ⟨i,g,o,hm,f1,f2,s1,s2,s3,s4,s5⟩
  simp only[go_sem,↓reduceIte,reduceIte,Qa,Qh,Qb,Qc,Qd,Qe,Qf,Qg,reduceCtorEq, *] at hk
  by_cases hlt:i<xs.length
  ·rw[List.drop_eq_getElem_cons hlt,YR] at f2
   have hpi:=hp _ (List.getElem_mem hlt)
   cases hpx:p xs[i] with
   |false =>
    have hw:ZU p xs[i] o=false:=by cases o<;>simp[ZU,hpx]
    rw[hw,if_neg (by decide)] at f2
    rw[hpx] at hpi
    (repeat' (first
 | (with_reducible first|refine callX.by (hpi) ?_|assumption|(refine Qw hK _ ?_;clear hK K)|refine Qw ‹_› _ ?_|refine Qx ‹_› ?_|refine Qi fun K hK=>?_|refine Qj T fun K hK=>?_|refine Ql fun A B hA hB=>?_|refine Qm ?_|refine Qn ?_|refine Qp ?_|refine Qr ?_)
 | ((with_reducible first|apply Qy|apply Qz|apply QA)<;>intro hb<;>try simp only[nr] at hb)
 |simp only[go_sem,↓reduceIte,reduceIte,Qa,Qh,Qb,Qc,Qd,Qe,Qf,Qg,reduceCtorEq, *,-hp,-hpi,-f2]
 |with_reducible refine fun(bn:Bool) hbn=>?_))
    all_goals ((repeat clear hK);(repeat clear hA);(repeat clear hB))
    (refine hM.on (xs.length-(i+1)) (by omega) (by simp only[go_sem,↓reduceIte,reduceIte,Qa,Qh,Qb,Qc,Qd,Qe,Qf,Qg,reduceCtorEq, *,Jj hlt hl,-f2,-hp,-hpi]) ⟨i+1,g,o,rfl,by omega,f2,?_⟩;simp only[go_sem,↓reduceIte,reduceIte,Qa,Qh,Qb,Qc,Qd,Qe,Qf,Qg,reduceCtorEq, *,Jj hlt hl,-f2,-hp,-hpi];done)
   |true =>
    rw[hpx] at hpi
    cases o with
    |none =>
     have hw:ZU p xs[i] none=true:=by simp[ZU,hpx]
     rw[hw,if_pos rfl] at f2
     (repeat' (first
 | (with_reducible first|refine callX.by (hpi) ?_|assumption|(refine Qw hK _ ?_;clear hK K)|refine Qw ‹_› _ ?_|refine Qx ‹_› ?_|refine Qi fun K hK=>?_|refine Qj T fun K hK=>?_|refine Ql fun A B hA hB=>?_|refine Qm ?_|refine Qn ?_|refine Qp ?_|refine Qr ?_)
 | ((with_reducible first|apply Qy|apply Qz|apply QA)<;>intro hb<;>try simp only[nr] at hb)
 |simp only[go_sem,↓reduceIte,reduceIte,Qa,Qh,Qb,Qc,Qd,Qe,Qf,Qg,reduceCtorEq, *,-hp,-hpi,-f2,Option.isSome_none,Yw]
 |with_reducible refine fun(bn:Bool) hbn=>?_))
     all_goals ((repeat clear hK);(repeat clear hA);(repeat clear hB))
     (refine hM.on (xs.length-(i+1)) (by omega) (by simp only[go_sem,↓reduceIte,reduceIte,Qa,Qh,Qb,Qc,Qd,Qe,Qf,Qg,reduceCtorEq, *,Jj hlt hl,-f2,-hp,-hpi,Yw,Option.isSome_some]) ⟨i+1,g,some xs[i],rfl,by omega,f2,?_⟩;simp only[go_sem,↓reduceIte,reduceIte,Qa,Qh,Qb,Qc,Qd,Qe,Qf,Qg,reduceCtorEq, *,Jj hlt hl,-f2,-hp,-hpi,Yw,Option.isSome_some];done)
    |some y =>
     have hb0:=JgN xs[i].host xs[i].pfx xs[i].split y.host y.pfx y.split
     cases hby:Jbi xs[i] y with
     |true =>
      have hw:ZU p xs[i] (some y)=true:=by simp[ZU,hpx,hby]
      rw[hw,if_pos rfl] at f2
      rw[show Jbi ⟨xs[i].host,xs[i].pfx,xs[i].split⟩ ⟨y.host,y.pfx,y.split⟩=true from hby] at hb0
      (repeat' (first
 | (with_reducible first|refine callX.by (hpi) ?_|refine callX.by (hb0) ?_|assumption|(refine Qw hK _ ?_;clear hK K)|refine Qw ‹_› _ ?_|refine Qx ‹_› ?_|refine Qi fun K hK=>?_|refine Qj T fun K hK=>?_|refine Ql fun A B hA hB=>?_|refine Qm ?_|refine Qn ?_|refine Qp ?_|refine Qr ?_)
 | ((with_reducible first|apply Qy|apply Qz|apply QA)<;>intro hb<;>try simp only[nr] at hb)
 |simp only[go_sem,↓reduceIte,reduceIte,Qa,Qh,Qb,Qc,Qd,Qe,Qf,Qg,reduceCtorEq, *,-hp,-hpi,-hb0,-f2,Option.isSome_some,Yw]
 |with_reducible refine fun(bn:Bool) hbn=>?_))
      all_goals ((repeat clear hK);(repeat clear hA);(repeat clear hB))
      (refine hM.on (xs.length-(i+1)) (by omega) (by simp only[go_sem,↓reduceIte,reduceIte,Qa,Qh,Qb,Qc,Qd,Qe,Qf,Qg,reduceCtorEq, *,Jj hlt hl,-f2,-hp,-hpi,-hb0,Yw,Option.isSome_some]) ⟨i+1,g,some xs[i],rfl,by omega,f2,?_⟩;simp only[go_sem,↓reduceIte,reduceIte,Qa,Qh,Qb,Qc,Qd,Qe,Qf,Qg,reduceCtorEq, *,Jj hlt hl,-f2,-hp,-hpi,-hb0,Yw,Option.isSome_some];done)
     |false =>
      have hw:ZU p xs[i] (some y)=false:=by simp[ZU,hpx,hby]
      rw[hw,if_neg (by decide)] at f2
      rw[show Jbi ⟨xs[i].host,xs[i].pfx,xs[i].split⟩ ⟨y.host,y.pfx,y.split⟩=false from hby] at hb0
      (repeat' (first
 | (with_reducible first|refine callX.by (hpi) ?_|refine callX.by (hb0) ?_|assumption|(refine Qw hK _ ?_;clear hK K)|refine Qw ‹_› _ ?_|refine Qx ‹_› ?_|refine Qi fun K hK=>?_|refine Qj T fun K hK=>?_|refine Ql fun A B hA hB=>?_|refine Qm ?_|refine Qn ?_|refine Qp ?_|refine Qr ?_)
 | ((with_reducible first|apply Qy|apply Qz|apply QA)<;>intro hb<;>try simp only[nr] at hb)
 |simp only[go_sem,↓reduceIte,reduceIte,Qa,Qh,Qb,Qc,Qd,Qe,Qf,Qg,reduceCtorEq, *,-hp,-hpi,-hb0,-f2,Option.isSome_some,Yw]
 |with_reducible refine fun(bn:Bool) hbn=>?_))
      all_goals ((repeat clear hK);(repeat clear hA);(repeat clear hB))
      (refine hM.on (xs.length-(i+1)) (by omega) (by simp only[go_sem,↓reduceIte,reduceIte,Qa,Qh,Qb,Qc,Qd,Qe,Qf,Qg,reduceCtorEq, *,Jj hlt hl,-f2,-hp,-hpi,-hb0,Yw,Option.isSome_some]) ⟨i+1,g,some y,rfl,by omega,f2,?_⟩;simp only[go_sem,↓reduceIte,reduceIte,Qa,Qh,Qb,Qc,Qd,Qe,Qf,Qg,reduceCtorEq, *,Jj hlt hl,-f2,-hp,-hpi,-hb0,Yw,Option.isSome_some];done)
  ·rw[List.drop_eq_nil_of_le (by omega),YR] at f2
   rw[f2]
   cases o with
   |none=>(repeat' (first
 | (with_reducible first|assumption|(refine Qw hK _ ?_;clear hK K)|refine Qw ‹_› _ ?_|refine Qx ‹_› ?_|refine Qi fun K hK=>?_|refine Qj T fun K hK=>?_|refine Ql fun A B hA hB=>?_|refine Qm ?_|refine Qn ?_|refine Qp ?_|refine Qr ?_)
 | ((with_reducible first|apply Qy|apply Qz|apply QA)<;>intro hb<;>try simp only[nr] at hb)
 |simp only[go_sem,↓reduceIte,reduceIte,Qa,Qh,Qb,Qc,Qd,Qe,Qf,Qg,reduceCtorEq, *,-hp,Yw,Option.isSome_none,Option.getD_none,Jau,JY]
 |with_reducible refine fun(bn:Bool) hbn=>?_))
   |some y=>(repeat' (first
 | (with_reducible first|assumption|(refine Qw hK _ ?_;clear hK K)|refine Qw ‹_› _ ?_|refine Qx ‹_› ?_|refine Qi fun K hK=>?_|refine Qj T fun K hK=>?_|refine Ql fun A B hA hB=>?_|refine Qm ?_|refine Qn ?_|refine Qp ?_|refine Qr ?_)
 | ((with_reducible first|apply Qy|apply Qz|apply QA)<;>intro hb<;>try simp only[nr] at hb)
 |simp only[go_sem,↓reduceIte,reduceIte,Qa,Qh,Qb,Qc,Qd,Qe,Qf,Qg,reduceCtorEq, *,-hp,Yw,Option.isSome_some,Option.getD_some]
 |with_reducible refine fun(bn:Bool) hbn=>?_))
def Jcy(h pa:List UInt8)(r:Rule):Bool:=Jfj r.host h && Jgg r.pfx pa
theorem Jmh(r_host:List UInt8)(r_pfx:List UInt8)(r_split:List Weight)(h pa:List UInt8)(hr:V1 (⟨r_host,r_pfx,r_split⟩:Rule))(hh:Jc h.length):CallR Tryz.prog 125 [.agg [.str r_host,.str r_pfx,.slice false (Ja r_split)],.ro [.str h],.ro [.str pa]] (.val (.bool (Jcy h pa (⟨r_host,r_pfx,r_split⟩:Rule)))):=by
 have h1:Jc r_host.length:=hr.1
 have h2:Jc r_pfx.length:=hr.2.1
 clear hr
 refine CallR.go3 (T:=T) Tryz.call125 Tryz.func125 rfl Tryz.ntmps125 (congrArg Array.toList Tryz.results125) (by decide) fun ts hn h0 h1 h2=>?_
 (repeat' (first
 | (with_reducible first|refine callX.by (Jmg _ _ ?_ ?_) ?_|refine callX.by (JrF _ _ ?_) ?_|assumption|(refine Qw hK _ ?_;clear hK K)|refine Qw ‹_› _ ?_|refine Qx ‹_› ?_|refine Qi fun K hK=>?_|refine Qj T fun K hK=>?_|refine Ql fun A B hA hB=>?_|refine Qn ?_|refine Qr ?_)
 | ((with_reducible first|apply Qy|apply Qz|apply QA)<;>intro hb<;>try simp only[nr] at hb)
 |simp only[go_sem,↓reduceIte,reduceIte,Qa,Qh,Qb,Qc,Qd,Qe,Qf,Qg,reduceCtorEq, *]
 |with_reducible refine fun(bn:Bool) hbn=>?_))
 all_goals ((repeat clear hK);(repeat clear hA);(repeat clear hB))
 all_goals simp_all[Jcy]
theorem JkJ(a b:List UInt8):Caps [.ro [.str a],.ro [.str b]]:=⟨by simp only[go_sem,Bool.and_self],by simp only[go_sem]⟩
def Zs(l:List Rule)(h pa:List UInt8):Option Rule:=YR (Jcy h pa) l none
theorem Jd0(xs:List Rule)(h pa:List UInt8)(hl:Jc xs.length)(hs:∀x∈xs,V1 x)(hh:Jc h.length):CallR Tryz.prog 84 [.slice false (Ja xs),.str h,.str pa] (.val (.tup [Dat.av ((Zs xs h pa).getD Jau),.bool (Zs xs h pa).isSome])):=by
 have hb:=Jkv 125 [.ro [.str h],.ro [.str pa]] (JkJ h pa) (Jcy h pa) xs (fun x hx=>Jmh x.host x.pfx x.split h pa (hs x hx) hh) hl
 rw[show YR (Jcy h pa) xs none=Zs xs h pa from rfl] at hb
 refine CallR.go3 (T:=T) Tryz.call84 Tryz.func84 rfl Tryz.ntmps84 (congrArg Array.toList Tryz.results84) (by decide) fun ts hn h0 h1 h2=>?_
 (repeat' (first
 | (with_reducible first|refine callX.by (hb) ?_|refine callX.by (JgN _ _ _ _ _ _) ?_|assumption|(refine Qw hK _ ?_;clear hK K)|refine Qw ‹_› _ ?_|refine Qx ‹_› ?_|refine Qi fun K hK=>?_|refine Qj T fun K hK=>?_|refine Ql fun A B hA hB=>?_|refine Qn ?_|refine Qr ?_)
 | ((with_reducible first|apply Qy|apply Qz|apply QA)<;>intro hb<;>try simp only[nr] at hb)
 |simp only[go_sem,↓reduceIte,reduceIte,Qa,Qh,Qb,Qc,Qd,Qe,Qf,Qg,reduceCtorEq, *,-hb,-hs]
 |with_reducible refine fun(bn:Bool) hbn=>?_))
theorem Jma(r_kind:Int)(r_name:List UInt8)(r_ver:Int)(r_port:Int)(r_to:List UInt8)(r_rules:List Rule)(r_hosts:List Int)(k:Int):CallR Tryz.prog 89 [.agg [.int .i64 r_kind,.str r_name,.int .i64 r_ver,.int .i64 r_port,.str r_to,.slice false (Ja r_rules),.slice false (Ja r_hosts)],.ro [.int .i64 k]] (.val (.bool (decide (r_kind=0) && decide (r_port=k)))):=by
 refine CallR.go2 (T:=T) Tryz.call89 Tryz.func89 rfl Tryz.ntmps89 (congrArg Array.toList Tryz.results89) (by decide) fun ts hn h0 h1=>?_
 (repeat' (first
 | (with_reducible first|assumption|(refine Qw hK _ ?_;clear hK K)|refine Qw ‹_› _ ?_|refine Qx ‹_› ?_|refine Qi fun K hK=>?_|refine Qj T fun K hK=>?_|refine Ql fun A B hA hB=>?_|refine Qn ?_|refine Qr ?_)
 | ((with_reducible first|apply Qy|apply Qz|apply QA)<;>intro hb<;>try simp only[nr] at hb)
 |simp only[go_sem,↓reduceIte,reduceIte,Qa,Qh,Qb,Qc,Qd,Qe,Qf,Qg,reduceCtorEq, *]
 |with_reducible refine fun(bn:Bool) hbn=>?_))
 all_goals simp_all
def Zo(l:List Res)(k:Int):Option Res:=l.find? fun r=>decide (r.kind=0) && decide (r.port=k)
theorem JaO(xs:List Res)(k:Int)(hl:Jc xs.length):CallR Tryz.prog 57 [.slice false (Ja xs),.int .i64 k] (.val (.tup [Dat.av ((Zo xs k).getD Ve),.bool (Zo xs k).isSome])):=by
 have hi:=Yz 89 [.ro [.int .i64 k]] (JgT k) (fun r=>decide (r.kind=0) && decide (r.port=k)) xs (fun x _=>Jma x.kind x.name x.ver x.port x.to' x.rules' x.hosts k) hl
 have hng:(-1:Int)<0:=by decide
 rcases JhV (fun r:Res=>decide (r.kind=0) && decide (r.port=k)) xs with ⟨e1,e2⟩|⟨j,hj,e1,e2⟩
 ·rw[e1] at hi
  have e3:Zo xs k=none:=e2
  rw[e3]
  refine CallR.go2 (T:=T) Tryz.call57 Tryz.func57 rfl Tryz.ntmps57 (congrArg Array.toList Tryz.results57) (by decide) fun ts hn h0 h1=>?_
  (repeat' (first
 | (with_reducible first|refine callX.by (hi) ?_|refine callX.by (Yz _ _ ?_ _ _ ?_ ?_) ?_|assumption|(refine Qw hK _ ?_;clear hK K)|refine Qw ‹_› _ ?_|refine Qx ‹_› ?_|refine Qi fun K hK=>?_|refine Qj T fun K hK=>?_|refine Ql fun A B hA hB=>?_|refine Qn ?_|refine Qr ?_)
 | ((with_reducible first|apply Qy|apply Qz|apply QA)<;>intro hb<;>try simp only[nr] at hb)
 |simp only[go_sem,↓reduceIte,reduceIte,Qa,Qh,Qb,Qc,Qd,Qe,Qf,Qg,reduceCtorEq, *,-hi,Option.getD_none,Option.isSome_none,Ve,JY]
 |with_reducible refine fun(bn:Bool) hbn=>?_))
 ·rw[e1] at hi
  have e3:Zo xs k=some xs[j]:=e2
  rw[e3]
  have hj0:¬(j:Int)<0:=by omega
  refine CallR.go2 (T:=T) Tryz.call57 Tryz.func57 rfl Tryz.ntmps57 (congrArg Array.toList Tryz.results57) (by decide) fun ts hn h0 h1=>?_
  (repeat' (first
 | (with_reducible first|refine callX.by (hi) ?_|refine callX.by (Yz _ _ ?_ _ _ ?_ ?_) ?_|assumption|(refine Qw hK _ ?_;clear hK K)|refine Qw ‹_› _ ?_|refine Qx ‹_› ?_|refine Qi fun K hK=>?_|refine Qj T fun K hK=>?_|refine Ql fun A B hA hB=>?_|refine Qn ?_|refine Qr ?_)
 | ((with_reducible first|apply Qy|apply Qz|apply QA)<;>intro hb<;>try simp only[nr] at hb)
 |simp only[go_sem,↓reduceIte,reduceIte,Qa,Qh,Qb,Qc,Qd,Qe,Qf,Qg,reduceCtorEq, *,-hi,Option.getD_some,Option.isSome_some]
 |with_reducible refine fun(bn:Bool) hbn=>?_))
theorem Jcc(kind:Int)(name:List UInt8)(xs:List Res)(hl:Jc xs.length):CallR Tryz.prog 132 [.int .i64 kind,.str name,.ro [.slice false (Ja xs)]] (.val (.tup [Dat.av ((JL xs ⟨kind,name⟩).getD Ve),.bool (JL xs ⟨kind,name⟩).isSome])):=by
 refine CallR.go3 (T:=T) Tryz.call132 Tryz.func132 rfl Tryz.ntmps132 (congrArg Array.toList Tryz.results132) (by decide) fun ts hn h0 h1 h2=>?_
 (repeat' (first
 | (with_reducible first|refine callX.by (JjI _ _ _ ?_) ?_|assumption|(refine Qw hK _ ?_;clear hK K)|refine Qw ‹_› _ ?_|refine Qx ‹_› ?_|refine Qi fun K hK=>?_|refine Qj T fun K hK=>?_|refine Ql fun A B hA hB=>?_|refine Qn ?_|refine Qr ?_)
 | ((with_reducible first|apply Qy|apply Qz|apply QA)<;>intro hb<;>try simp only[nr] at hb)
 |simp only[go_sem,↓reduceIte,reduceIte,Qa,Qh,Qb,Qc,Qd,Qe,Qf,Qg,reduceCtorEq, *]
 |with_reducible refine fun(bn:Bool) hbn=>?_))
theorem Jcd(xs:List Res):CallR Tryz.prog 90 [.slice false (Ja xs)] (.val (.clo (.func 132) [] [.ro [.slice false (Ja xs)]])):=by
 refine CallR.go1 (T:=T) Tryz.call90 Tryz.func90 rfl Tryz.ntmps90 (congrArg Array.toList Tryz.results90) (by decide) fun ts hn h0=>?_
 (repeat' (first
 | (with_reducible first|assumption|(refine Qw hK _ ?_;clear hK K)|refine Qw ‹_› _ ?_|refine Qx ‹_› ?_|refine Qi fun K hK=>?_|refine Qj T fun K hK=>?_|refine Ql fun A B hA hB=>?_|refine Qn ?_|refine Qr ?_)
 | ((with_reducible first|apply Qy|apply Qz|apply QA)<;>intro hb<;>try simp only[nr] at hb)
 |simp only[go_sem,↓reduceIte,reduceIte,Qa,Qh,Qb,Qc,Qd,Qe,Qf,Qg,reduceCtorEq, *]
 |with_reducible refine fun(bn:Bool) hbn=>?_))
def Yl(l:List Res)(to':List UInt8)(h pa:List UInt8):Option Rule:=match JL l ⟨1,to'⟩ with
 |none=>none
 |some r=>Zs r.rules' h pa
theorem JbT(xs:List Res)(to':List UInt8)(a_port:Int)(a_host:List UInt8)(a_path:List UInt8)(a_first:Int)(a_other:Int)(hl:Jc xs.length)(hs:∀r∈xs,JC r)(hh:Jc a_host.length):CallR Tryz.prog 58 [.slice false (Ja xs),.str to',.agg [.int .i64 a_port,.str a_host,.str a_path,.int .i64 a_first,.int .i64 a_other]] (.val (.tup [Dat.av ((Yl xs to' a_host a_path).getD Jau),.bool (Yl xs to' a_host a_path).isSome])):=by
 cases hg:JL xs ⟨1,to'⟩ with
 |none =>
  have e:Yl xs to' a_host a_path=none:=by unfold Yl;rw[hg]
  rw[e]
  refine CallR.go3 (T:=T) Tryz.call58 Tryz.func58 rfl Tryz.ntmps58 (congrArg Array.toList Tryz.results58) (by decide) fun ts hn h0 h1 h2=>?_
  (repeat' (first
 | (with_reducible first|refine callX.by (Jcc _ _ _ ?_) ?_|refine callX.by (Jcd _) ?_|refine callX.by (Jd0 _ _ _ ?_ ?_ ?_) ?_|assumption|(refine Qw hK _ ?_;clear hK K)|refine Qw ‹_› _ ?_|refine Qx ‹_› ?_|refine Qi fun K hK=>?_|refine Qj T fun K hK=>?_|refine Ql fun A B hA hB=>?_|refine Qn ?_|refine Qr ?_)
 | ((with_reducible first|apply Qy|apply Qz|apply QA)<;>intro hb<;>try simp only[nr] at hb)
 |simp only[go_sem,↓reduceIte,reduceIte,Qa,Qh,Qb,Qc,Qd,Qe,Qf,Qg,reduceCtorEq, *,-hs,Option.getD_none,Option.isSome_none,Jau,JY]
 |with_reducible refine fun(bn:Bool) hbn=>?_))
 |some r =>
  have e:Yl xs to' a_host a_path=Zs r.rules' a_host a_path:=by unfold Yl;rw[hg]
  rw[e]
  obtain⟨_,_,hx1,hx2,hx3⟩:=hs r (List.mem_of_find?_eq_some hg)
  have hp:=Jd0 r.rules' a_host a_path hx1 hx2 hh
  refine CallR.go3 (T:=T) Tryz.call58 Tryz.func58 rfl Tryz.ntmps58 (congrArg Array.toList Tryz.results58) (by decide) fun ts hn h0 h1 h2=>?_
  (repeat' (first
 | (with_reducible first|refine callX.by (hp) ?_|refine callX.by (Jcc _ _ _ ?_) ?_|refine callX.by (Jcd _) ?_|refine callX.by (Jd0 _ _ _ ?_ ?_ ?_) ?_|assumption|(refine Qw hK _ ?_;clear hK K)|refine Qw ‹_› _ ?_|refine Qx ‹_› ?_|refine Qi fun K hK=>?_|refine Qj T fun K hK=>?_|refine Ql fun A B hA hB=>?_|refine Qn ?_|refine Qr ?_)
 | ((with_reducible first|apply Qy|apply Qz|apply QA)<;>intro hb<;>try simp only[nr] at hb)
 |simp only[go_sem,↓reduceIte,reduceIte,Qa,Qh,Qb,Qc,Qd,Qe,Qf,Qg,reduceCtorEq, *,-hs,-hx2,-hp,Option.getD_some,Option.isSome_some]
 |with_reducible refine fun(bn:Bool) hbn=>?_))
def Vj(l:List Res)(c:List UInt8):List Int×Bool:=match JL l ⟨2,c⟩ with
 |none=>([],false)
 |some r=>match JL l ⟨3,r.to'⟩ with
  |none=>([],false)
  |some e=>(e.hosts,true)
theorem YU(xs:List Res)(c:List UInt8)(hl:Jc xs.length):CallR Tryz.prog 60 [.slice false (Ja xs),.str c] (.val (.tup [.slice false (Ja (Vj xs c).1),.bool (Vj xs c).2])):=by
 cases hg:JL xs ⟨2,c⟩ with
 |none =>
  have e:Vj xs c=([],false):=by unfold Vj;rw[hg]
  rw[e]
  refine CallR.go2 (T:=T) Tryz.call60 Tryz.func60 rfl Tryz.ntmps60 (congrArg Array.toList Tryz.results60) (by decide) fun ts hn h0 h1=>?_
  (repeat' (first
 | (with_reducible first|refine callX.by (Jcc _ _ _ ?_) ?_|refine callX.by (Jcd _) ?_|assumption|(refine Qw hK _ ?_;clear hK K)|refine Qw ‹_› _ ?_|refine Qx ‹_› ?_|refine Qi fun K hK=>?_|refine Qj T fun K hK=>?_|refine Ql fun A B hA hB=>?_|refine Qn ?_|refine Qr ?_)
 | ((with_reducible first|apply Qy|apply Qz|apply QA)<;>intro hb<;>try simp only[nr] at hb)
 |simp only[go_sem,↓reduceIte,reduceIte,Qa,Qh,Qb,Qc,Qd,Qe,Qf,Qg,reduceCtorEq, *,Option.getD_none,Option.isSome_none,Ve,JY]
 |with_reducible refine fun(bn:Bool) hbn=>?_))
 |some r =>
  cases hg2:JL xs ⟨3,r.to'⟩ with
  |none =>
   have e:Vj xs c=([],false):=by unfold Vj;rw[hg];simp only[hg2]
   rw[e]
   refine CallR.go2 (T:=T) Tryz.call60 Tryz.func60 rfl Tryz.ntmps60 (congrArg Array.toList Tryz.results60) (by decide) fun ts hn h0 h1=>?_
   (repeat' (first
 | (with_reducible first|refine callX.by (Jcc _ _ _ ?_) ?_|refine callX.by (Jcd _) ?_|assumption|(refine Qw hK _ ?_;clear hK K)|refine Qw ‹_› _ ?_|refine Qx ‹_› ?_|refine Qi fun K hK=>?_|refine Qj T fun K hK=>?_|refine Ql fun A B hA hB=>?_|refine Qn ?_|refine Qr ?_)
 | ((with_reducible first|apply Qy|apply Qz|apply QA)<;>intro hb<;>try simp only[nr] at hb)
 |simp only[go_sem,↓reduceIte,reduceIte,Qa,Qh,Qb,Qc,Qd,Qe,Qf,Qg,reduceCtorEq, *,Option.getD_none,Option.isSome_none,Option.getD_some,Option.isSome_some,Ve,JY]
 |with_reducible refine fun(bn:Bool) hbn=>?_))
  |some q =>
   have e:Vj xs c=(q.hosts,true):=by unfold Vj;rw[hg];simp only[hg2]
   rw[e]
   refine CallR.go2 (T:=T) Tryz.call60 Tryz.func60 rfl Tryz.ntmps60 (congrArg Array.toList Tryz.results60) (by decide) fun ts hn h0 h1=>?_
   (repeat' (first
 | (with_reducible first|refine callX.by (Jcc _ _ _ ?_) ?_|refine callX.by (Jcd _) ?_|assumption|(refine Qw hK _ ?_;clear hK K)|refine Qw ‹_› _ ?_|refine Qx ‹_› ?_|refine Qi fun K hK=>?_|refine Qj T fun K hK=>?_|refine Ql fun A B hA hB=>?_|refine Qn ?_|refine Qr ?_)
 | ((with_reducible first|apply Qy|apply Qz|apply QA)<;>intro hb<;>try simp only[nr] at hb)
 |simp only[go_sem,↓reduceIte,reduceIte,Qa,Qh,Qb,Qc,Qd,Qe,Qf,Qg,reduceCtorEq, *,Option.getD_some,Option.isSome_some]
 |with_reducible refine fun(bn:Bool) hbn=>?_))
theorem JgP(p:Rule→Bool):∀(xs:List Rule) (o:Option Rule) (r:Rule),YR p xs o=some r→r∈xs∨o=some r
 | [],o,r,h=>.inr h
 |x :: l,o,r,h=>by
  rw[YR] at h
  rcases JgP p l _ r h with h1|h1
  ·exact .inl (by simp[h1])
  ·split at h1
   ·cases h1;exact .inl (by simp)
   ·exact .inr h1
theorem JiI{xs:List Rule}{h pa:List UInt8}{r:Rule}(e:Zs xs h pa=some r):r∈xs:=by
 rcases JgP _ _ _ _ e with h1|h1
 ·exact h1
 ·cases h1
theorem JnB{xs:List Res}{to' h pa:List UInt8}{r:Rule}(hs:∀r∈xs,JC r)(e:Yl xs to' h pa=some r):V1 r:=by
 unfold Yl at e
 split at e
 ·cases e
 ·rename_i q hq
  exact(hs q (List.mem_of_find?_eq_some hq)).2.2.2.1 r (JiI e)
theorem Jhi{xs:List Res}{c:List UInt8}(hs:∀r∈xs,JC r):Jc (Vj xs c).1.length:=by
 unfold Vj
 split
 ·simp[Jc]
 ·split
  ·simp[Jc]
  ·rename_i q hq
   exact(hs q (List.mem_of_find?_eq_some hq)).2.2.2.2
def Vm(l:List Res)(a:Ask):Answer:=match Zo l a.port with
 |none=>⟨1,[],0⟩
 |some x=>match Yl l x.to' a.host a.path with
  |none=>⟨2,[],0⟩
  |some r=>match YL r.split a.first with
   |none=>⟨0,[],0⟩
   |some c=>match V8 (Vj l c).1 a.other with
    |none=>⟨0,[],0⟩
    |some h=>⟨3,c,h⟩
theorem JeM(xs:List Res)(a_port:Int)(a_host:List UInt8)(a_path:List UInt8)(a_first:Int)(a_other:Int):CallR Tryz.prog 24 [.slice false (Ja xs),.bool false,.agg [.int .i64 a_port,.str a_host,.str a_path,.int .i64 a_first,.int .i64 a_other]] (.val (.agg [.int .i64 0,.str [],.int .i64 0])):=by
 refine CallR.go3 (T:=T) Tryz.call24 Tryz.func24 rfl Tryz.ntmps24 (congrArg Array.toList Tryz.results24) (by decide) fun ts hn h0 h1 h2=>?_
 (repeat' (first
 | (with_reducible first|refine callX.by (JaO _ _ ?_) ?_|refine callX.by (JbT _ _ _ _ _ _ _ ?_ ?_ ?_) ?_|refine callX.by (JaT _ _ ?_) ?_|refine callX.by (YU _ _ ?_) ?_|refine callX.by (JaU _ _ ?_) ?_|assumption|(refine Qw hK _ ?_;clear hK K)|refine Qw ‹_› _ ?_|refine Qx ‹_› ?_|refine Qi fun K hK=>?_|refine Qj T fun K hK=>?_|refine Ql fun A B hA hB=>?_|refine Qn ?_|refine Qr ?_)
 | ((with_reducible first|apply Qy|apply Qz|apply QA)<;>intro hb<;>try simp only[nr] at hb)
 |simp only[go_sem,↓reduceIte,reduceIte,Qa,Qh,Qb,Qc,Qd,Qe,Qf,Qg,reduceCtorEq, *]
 |with_reducible refine fun(bn:Bool) hbn=>?_))
set_option maxHeartbeats 4000000 in
theorem JeL(xs:List Res)(a_port:Int)(a_host:List UInt8)(a_path:List UInt8)(a_first:Int)(a_other:Int)(hl:Jc xs.length)(hs:∀r∈xs,JC r)(hh:Jc a_host.length):CallR Tryz.prog 24 [.slice false (Ja xs),.bool true,.agg [.int .i64 a_port,.str a_host,.str a_path,.int .i64 a_first,.int .i64 a_other]] (.val (Dat.av (Vm xs (⟨a_port,a_host,a_path,a_first,a_other⟩:Ask)))):=by
 cases h1:Zo xs a_port with
 |none =>
  have e:Vm xs (⟨a_port,a_host,a_path,a_first,a_other⟩:Ask)=⟨1,[],0⟩:=by unfold Vm;rw[h1]
  rw[e]
  refine CallR.go3 (T:=T) Tryz.call24 Tryz.func24 rfl Tryz.ntmps24 (congrArg Array.toList Tryz.results24) (by decide) fun ts hn h0 h1 h2=>?_
  (repeat' (first
 | (with_reducible first|refine callX.by (JaO _ _ ?_) ?_|refine callX.by (JbT _ _ _ _ _ _ _ ?_ ?_ ?_) ?_|refine callX.by (JaT _ _ ?_) ?_|refine callX.by (YU _ _ ?_) ?_|refine callX.by (JaU _ _ ?_) ?_|assumption|(refine Qw hK _ ?_;clear hK K)|refine Qw ‹_› _ ?_|refine Qx ‹_› ?_|refine Qi fun K hK=>?_|refine Qj T fun K hK=>?_|refine Ql fun A B hA hB=>?_|refine Qn ?_|refine Qr ?_)
 | ((with_reducible first|apply Qy|apply Qz|apply QA)<;>intro hb<;>try simp only[nr] at hb)
 |simp only[go_sem,↓reduceIte,reduceIte,Qa,Qh,Qb,Qc,Qd,Qe,Qf,Qg,reduceCtorEq, *,-hs,Option.getD_none,Option.isSome_none,Ve,JY]
 |with_reducible refine fun(bn:Bool) hbn=>?_))
 |some x =>
  cases h2:Yl xs x.to' a_host a_path with
  |none =>
   have e:Vm xs (⟨a_port,a_host,a_path,a_first,a_other⟩:Ask)=⟨2,[],0⟩:=by unfold Vm;rw[h1];simp only[h2]
   rw[e]
   refine CallR.go3 (T:=T) Tryz.call24 Tryz.func24 rfl Tryz.ntmps24 (congrArg Array.toList Tryz.results24) (by decide) fun ts hn h0 h1 h2=>?_
   (repeat' (first
 | (with_reducible first|refine callX.by (JaO _ _ ?_) ?_|refine callX.by (JbT _ _ _ _ _ _ _ ?_ ?_ ?_) ?_|refine callX.by (JaT _ _ ?_) ?_|refine callX.by (YU _ _ ?_) ?_|refine callX.by (JaU _ _ ?_) ?_|assumption|(refine Qw hK _ ?_;clear hK K)|refine Qw ‹_› _ ?_|refine Qx ‹_› ?_|refine Qi fun K hK=>?_|refine Qj T fun K hK=>?_|refine Ql fun A B hA hB=>?_|refine Qn ?_|refine Qr ?_)
 | ((with_reducible first|apply Qy|apply Qz|apply QA)<;>intro hb<;>try simp only[nr] at hb)
 |simp only[go_sem,↓reduceIte,reduceIte,Qa,Qh,Qb,Qc,Qd,Qe,Qf,Qg,reduceCtorEq, *,-hs,Option.getD_none,Option.isSome_none,Option.getD_some,Option.isSome_some,Jau,JY]
 |with_reducible refine fun(bn:Bool) hbn=>?_))
  |some r =>
   have hr3:Jc r.split.length:=(JnB hs h2).2.2.1
   cases h3:YL r.split a_first with
   |none =>
    have e:Vm xs (⟨a_port,a_host,a_path,a_first,a_other⟩:Ask)=⟨0,[],0⟩:=by unfold Vm;rw[h1];simp only[h2,h3]
    rw[e]
    refine CallR.go3 (T:=T) Tryz.call24 Tryz.func24 rfl Tryz.ntmps24 (congrArg Array.toList Tryz.results24) (by decide) fun ts hn h0 h1 h2=>?_
    (repeat' (first
 | (with_reducible first|refine callX.by (JaO _ _ ?_) ?_|refine callX.by (JbT _ _ _ _ _ _ _ ?_ ?_ ?_) ?_|refine callX.by (JaT _ _ ?_) ?_|refine callX.by (YU _ _ ?_) ?_|refine callX.by (JaU _ _ ?_) ?_|assumption|(refine Qw hK _ ?_;clear hK K)|refine Qw ‹_› _ ?_|refine Qx ‹_› ?_|refine Qi fun K hK=>?_|refine Qj T fun K hK=>?_|refine Ql fun A B hA hB=>?_|refine Qn ?_|refine Qr ?_)
 | ((with_reducible first|apply Qy|apply Qz|apply QA)<;>intro hb<;>try simp only[nr] at hb)
 |simp only[go_sem,↓reduceIte,reduceIte,Qa,Qh,Qb,Qc,Qd,Qe,Qf,Qg,reduceCtorEq, *,-hs,Option.getD_none,Option.isSome_none,Option.getD_some,Option.isSome_some]
 |with_reducible refine fun(bn:Bool) hbn=>?_))
   |some c =>
    have he3:=Jhi (c:=c) hs
    cases h4:V8 (Vj xs c).1 a_other with
    |none =>
     have e:Vm xs (⟨a_port,a_host,a_path,a_first,a_other⟩:Ask)=⟨0,[],0⟩:=by unfold Vm;rw[h1];simp only[h2,h3,h4]
     rw[e]
     refine CallR.go3 (T:=T) Tryz.call24 Tryz.func24 rfl Tryz.ntmps24 (congrArg Array.toList Tryz.results24) (by decide) fun ts hn h0 h1 h2=>?_
     (repeat' (first
 | (with_reducible first|refine callX.by (JaO _ _ ?_) ?_|refine callX.by (JbT _ _ _ _ _ _ _ ?_ ?_ ?_) ?_|refine callX.by (JaT _ _ ?_) ?_|refine callX.by (YU _ _ ?_) ?_|refine callX.by (JaU _ _ ?_) ?_|assumption|(refine Qw hK _ ?_;clear hK K)|refine Qw ‹_› _ ?_|refine Qx ‹_› ?_|refine Qi fun K hK=>?_|refine Qj T fun K hK=>?_|refine Ql fun A B hA hB=>?_|refine Qn ?_|refine Qr ?_)
 | ((with_reducible first|apply Qy|apply Qz|apply QA)<;>intro hb<;>try simp only[nr] at hb)
 |simp only[go_sem,↓reduceIte,reduceIte,Qa,Qh,Qb,Qc,Qd,Qe,Qf,Qg,reduceCtorEq, *,-hs,Option.getD_none,Option.isSome_none,Option.getD_some,Option.isSome_some]
 |with_reducible refine fun(bn:Bool) hbn=>?_))
    |some h =>
     have e:Vm xs (⟨a_port,a_host,a_path,a_first,a_other⟩:Ask)=⟨3,c,h⟩:=by unfold Vm;rw[h1];simp only[h2,h3,h4]
     rw[e]
     refine CallR.go3 (T:=T) Tryz.call24 Tryz.func24 rfl Tryz.ntmps24 (congrArg Array.toList Tryz.results24) (by decide) fun ts hn h0 h1 h2=>?_
     (repeat' (first
 | (with_reducible first|refine callX.by (JaO _ _ ?_) ?_|refine callX.by (JbT _ _ _ _ _ _ _ ?_ ?_ ?_) ?_|refine callX.by (JaT _ _ ?_) ?_|refine callX.by (YU _ _ ?_) ?_|refine callX.by (JaU _ _ ?_) ?_|assumption|(refine Qw hK _ ?_;clear hK K)|refine Qw ‹_› _ ?_|refine Qx ‹_› ?_|refine Qi fun K hK=>?_|refine Qj T fun K hK=>?_|refine Ql fun A B hA hB=>?_|refine Qn ?_|refine Qr ?_)
 | ((with_reducible first|apply Qy|apply Qz|apply QA)<;>intro hb<;>try simp only[nr] at hb)
 |simp only[go_sem,↓reduceIte,reduceIte,Qa,Qh,Qb,Qc,Qd,Qe,Qf,Qg,reduceCtorEq, *,-hs,Option.getD_some,Option.isSome_some]
 |with_reducible refine fun(bn:Bool) hbn=>?_))
def Yn(l:List Res)(x:Answer):Bool:=if x.what=0∨x.what=1∨x.what=2 then decide (x.cluster=[]∧x.host=0) else if x.what=3 then (Vj l x.cluster).2 && (Vj l x.cluster).1.any fun y=>decide (x.host=y) else false
theorem Jgl(xs:List Res)(x_what:Int)(x_cluster:List UInt8)(x_host:Int)(hl:Jc xs.length)(hs:∀r∈xs,JC r):CallR Tryz.prog 25 [.slice false (Ja xs),.agg [.int .i64 x_what,.str x_cluster,.int .i64 x_host]] (.val (.bool (Yn xs (⟨x_what,x_cluster,x_host⟩:Answer)))):=by
 have he3:=Jhi (c:=x_cluster) hs
 by_cases h0:x_what=0
 ·subst h0
  refine CallR.go2 (T:=T) Tryz.call25 Tryz.func25 rfl Tryz.ntmps25 (congrArg Array.toList Tryz.results25) (by decide) fun ts hn h0 h1=>?_
  (repeat' (first
 | (with_reducible first|refine callX.by (YU _ _ ?_) ?_|refine callX.by (Zh _ _ ?_) ?_|assumption|(refine Qw hK _ ?_;clear hK K)|refine Qw ‹_› _ ?_|refine Qx ‹_› ?_|refine Qi fun K hK=>?_|refine Qj T fun K hK=>?_|refine Ql fun A B hA hB=>?_|refine Qm ?_|refine Qn ?_|refine Qr ?_)
 | ((with_reducible first|apply Qy|apply Qz|apply QA)<;>intro hb<;>try simp only[nr] at hb)
 |simp only[go_sem,↓reduceIte,reduceIte,Qa,Qh,Qb,Qc,Qd,Qe,Qf,Qg,reduceCtorEq, *,-hs,Int.reduceEq]
 |with_reducible refine fun(bn:Bool) hbn=>?_))
  all_goals simp[Yn]
 by_cases h1:x_what=1
 ·subst h1
  refine CallR.go2 (T:=T) Tryz.call25 Tryz.func25 rfl Tryz.ntmps25 (congrArg Array.toList Tryz.results25) (by decide) fun ts hn h0 h1=>?_
  (repeat' (first
 | (with_reducible first|refine callX.by (YU _ _ ?_) ?_|refine callX.by (Zh _ _ ?_) ?_|assumption|(refine Qw hK _ ?_;clear hK K)|refine Qw ‹_› _ ?_|refine Qx ‹_› ?_|refine Qi fun K hK=>?_|refine Qj T fun K hK=>?_|refine Ql fun A B hA hB=>?_|refine Qm ?_|refine Qn ?_|refine Qr ?_)
 | ((with_reducible first|apply Qy|apply Qz|apply QA)<;>intro hb<;>try simp only[nr] at hb)
 |simp only[go_sem,↓reduceIte,reduceIte,Qa,Qh,Qb,Qc,Qd,Qe,Qf,Qg,reduceCtorEq, *,-hs,Int.reduceEq]
 |with_reducible refine fun(bn:Bool) hbn=>?_))
  all_goals simp[Yn]
 by_cases h2:x_what=2
 ·subst h2
  refine CallR.go2 (T:=T) Tryz.call25 Tryz.func25 rfl Tryz.ntmps25 (congrArg Array.toList Tryz.results25) (by decide) fun ts hn h0 h1=>?_
  (repeat' (first
 | (with_reducible first|refine callX.by (YU _ _ ?_) ?_|refine callX.by (Zh _ _ ?_) ?_|assumption|(refine Qw hK _ ?_;clear hK K)|refine Qw ‹_› _ ?_|refine Qx ‹_› ?_|refine Qi fun K hK=>?_|refine Qj T fun K hK=>?_|refine Ql fun A B hA hB=>?_|refine Qm ?_|refine Qn ?_|refine Qr ?_)
 | ((with_reducible first|apply Qy|apply Qz|apply QA)<;>intro hb<;>try simp only[nr] at hb)
 |simp only[go_sem,↓reduceIte,reduceIte,Qa,Qh,Qb,Qc,Qd,Qe,Qf,Qg,reduceCtorEq, *,-hs,Int.reduceEq]
 |with_reducible refine fun(bn:Bool) hbn=>?_))
  all_goals simp[Yn]
 by_cases h3:x_what=3
 ·subst h3
  refine CallR.go2 (T:=T) Tryz.call25 Tryz.func25 rfl Tryz.ntmps25 (congrArg Array.toList Tryz.results25) (by decide) fun ts hn h0 h1=>?_
  (repeat' (first
 | (with_reducible first|refine callX.by (YU _ _ ?_) ?_|refine callX.by (Zh _ _ ?_) ?_|assumption|(refine Qw hK _ ?_;clear hK K)|refine Qw ‹_› _ ?_|refine Qx ‹_› ?_|refine Qi fun K hK=>?_|refine Qj T fun K hK=>?_|refine Ql fun A B hA hB=>?_|refine Qm ?_|refine Qn ?_|refine Qr ?_)
 | ((with_reducible first|apply Qy|apply Qz|apply QA)<;>intro hb<;>try simp only[nr] at hb)
 |simp only[go_sem,↓reduceIte,reduceIte,Qa,Qh,Qb,Qc,Qd,Qe,Qf,Qg,reduceCtorEq, *,-hs,Int.reduceEq]
 |with_reducible refine fun(bn:Bool) hbn=>?_))
  all_goals simp_all[Yn]
 ·refine CallR.go2 (T:=T) Tryz.call25 Tryz.func25 rfl Tryz.ntmps25 (congrArg Array.toList Tryz.results25) (by decide) fun ts hn h0 h1=>?_
  (repeat' (first
 | (with_reducible first|refine callX.by (YU _ _ ?_) ?_|refine callX.by (Zh _ _ ?_) ?_|assumption|(refine Qw hK _ ?_;clear hK K)|refine Qw ‹_› _ ?_|refine Qx ‹_› ?_|refine Qi fun K hK=>?_|refine Qj T fun K hK=>?_|refine Ql fun A B hA hB=>?_|refine Qm ?_|refine Qn ?_|refine Qr ?_)
 | ((with_reducible first|apply Qy|apply Qz|apply QA)<;>intro hb<;>try simp only[nr] at hb)
 |simp only[go_sem,↓reduceIte,reduceIte,Qa,Qh,Qb,Qc,Qd,Qe,Qf,Qg,reduceCtorEq, *,-hs,Int.reduceEq]
 |with_reducible refine fun(bn:Bool) hbn=>?_))
  all_goals simp_all[Yn]
theorem Jh1:∀l:List Key,(J9 l).length≤l.length-1
 | []=>by simp[J9]
 | [a]=>by simp[J9]
 |a :: b :: l=>by
  have:=Jh1 (b :: l)
  unfold J9
  split<;>simp only[List.length_cons] at *<;>omega
theorem Jog{l:List Res}{k:Key}{r:Res}(h:JL l k=some r):r∈l∧Jq r=k:=by
 unfold JL at h
 exact⟨List.mem_of_find?_eq_some h,by simpa using List.find?_some h⟩
end Go.Proofs.YthjalhfmpffbjaaGreatDoor.Lg
namespace Go.Proofs.YthjalhfmpffbjaaGreatDoor.Lg
set_option maxRecDepth 100000
set_option linter.unusedVariables false
set_option linter.unusedSimpArgs false
open Go
section
variable {l:List Res} (hc:Conf l) (hv:Zy l=0)
include hc
include hv
end
end Go.Proofs.YthjalhfmpffbjaaGreatDoor.Lg
namespace Go.Proofs.YthjalhfmpffbjaaGreatDoor.Lg
set_option maxRecDepth 100000
set_option linter.unusedVariables false
set_option linter.unusedSimpArgs false
open Go
theorem JrV:JC Ve:=by simp[JC,Ve,Jc]
theorem Joh{l:List Res}(hs:∀r∈l,JC r)(k:Key):JC ((JL l k).getD Ve):=by
 cases h:JL l k with
 |none=>exact JrV
 |some x=>exact hs x (Jog h).1
theorem Jie{cap:Int}{l:List Res}:Vk cap l=0↔Vd l=0∧(l.length:Int)≤cap∧Zy l=0:=by
 unfold Vk
 by_cases h1:Vd l=0
 ·by_cases h2:(l.length:Int)≤cap
  ·simp[h1,h2]
  ·simp[h1,h2]
 ·simp[h1]
theorem saneC_iff{c:Cache}:VX c=true↔c.cap=VI c.cap∧Vd c.l=0∧(c.l.length:Int)≤c.cap∧Zy c.l=0:=by
 unfold VX
 simp only[Bool.and_eq_true,decide_eq_true_eq,Jie]
theorem Jor{l:List Res}(h:Vd l=0):l.length≤64:=by
 unfold Vd at h
 split at h
 ·cases h
 ·omega
theorem Jj5{c:Cache}(h:VX c=true)(adds:List Res)(gone:List Key) :
  YF c adds gone=if Vk c.cap (JbM c.l adds gone)=0 then (⟨c.cap,JbM c.l adds gone⟩,0) else (c,Vk c.cap (JbM c.l adds gone)):=by
 have hof:Yc c=c:=by unfold Yc;rw[if_pos h]
 unfold YF
 rw[hof]
theorem JgI{c:Cache}(h:VX c=true)(adds:List Res)(gone:List Key):VX (YF c adds gone).1=true:=by
 rw[Jj5 h]
 split
 ·rename_i hm
  rw[Jie] at hm
  rw[saneC_iff] at h ⊢
  exact⟨h.1,hm⟩
 ·exact h
theorem Jky(n:Int):0≤VI n∧VI n≤64:=by unfold VI;omega
theorem Jkx(n:Int):VI (VI n)=VI n:=by unfold VI;omega
theorem Jii(n:Int):VX ⟨VI n,[]⟩=true:=by
 rw[saneC_iff]
 have h1:Vd []=0:=by decide
 have h2:Zy []=0:=by decide
 exact⟨(Jkx n).symm,h1,by simp[(Jky n).1],h2⟩
structure CInv(n:Int)(c:Cache):Prop where
 sane:VX c=true
 cap:c.cap=VI n
 sm:∀r∈c.l,JC r
end Go.Proofs.YthjalhfmpffbjaaGreatDoor.Lg
