/- Parts of the proof, one behind the other. -/
import Derived.Tactics
import Derived.Tactics2
import Derived.Defers
import Derived.Recover
import Derived.Laws.Pointers
import Derived.Test.YtihahfhagobnoaaGreatDoorG03
namespace Go.Proofs.YtihahfhagobnoaaGreatDoor.Lg
set_option maxRecDepth 100000
set_option linter.unusedVariables false
set_option linter.unusedSimpArgs false
open Go
open Nat renaming reduceEqDiff → Qa, reduceLT → Qb, reduceLeDiff → Qc, reduceAdd → Qd, reduceMul → Qe, reduceSub → Qf, reduceBEq → Qg
open String renaming reduceEq → Qh
open SpecC renaming seqW → Qi, regW → Qj, drawW → Qk, condW → Ql, block → Qm, skip → Qn, exit → Qp, ret → Qr, loopF → Qs
open NxK renaming out → Qw
open Nx renaming out → Qx
open condK renaming split → Qy
open gK renaming split_t → Qz, split_f → QA
open CallR renaming go1 → QD
def Y2(n a b:Int):Bool:=decide (a≤n) && decide (n≤b)
theorem Jf6(a b c:Int):CallR Tryz.prog 80 [.int .i64 a,.int .i64 b,.int .i64 c] (.val (.bool (Y2 a b c))):=by
 refine CallR.go3 (T:=T) Tryz.call80 Tryz.func80 rfl Tryz.ntmps80 (congrArg Array.toList Tryz.results80) (by decide) fun ts hn h0 h1 h2=>?_
 (repeat' (first
 | (with_reducible first|assumption|(refine Qw hK _ ?_;clear hK K)|refine Qw ‹_› _ ?_|refine Qx ‹_› ?_|refine Qi fun K hK=>?_|refine Qj T fun K hK=>?_|refine Ql fun A B hA hB=>?_|refine Qn ?_|refine Qr ?_)
 | ((with_reducible first|apply Qy|apply Qz|apply QA)<;>intro hb<;>try simp only[nr] at hb)
 |simp only[go_sem,↓reduceIte,reduceIte,Qa,Qh,Qb,Qc,Qd,Qe,Qf,Qg,reduceCtorEq, *]
 |with_reducible refine fun(bn:Bool) hbn=>?_))
 all_goals simp[Y2, *]
theorem JdX(n:Int)(xs:List Snap)(hl:Jc xs.length):CallR Tryz.prog 79 [.agg [.int .i64 n,.slice false (Ja xs)]] (.val (.int .i64 (xs.length-1))):=by
 refine QD (T:=T) Tryz.call79 Tryz.func79 rfl Tryz.ntmps79 (congrArg Array.toList Tryz.results79) (by decide) fun ts hn h0=>?_
 (repeat' (first
 | (with_reducible first|assumption|(refine Qw hK _ ?_;clear hK K)|refine Qw ‹_› _ ?_|refine Qx ‹_› ?_|refine Qi fun K hK=>?_|refine Qj T fun K hK=>?_|refine Ql fun A B hA hB=>?_|refine Qn ?_|refine Qr ?_)
 | ((with_reducible first|apply Qy|apply Qz|apply QA)<;>intro hb<;>try simp only[nr] at hb)
 |simp only[go_sem,↓reduceIte,reduceIte,Qa,Qh,Qb,Qc,Qd,Qe,Qf,Qg,reduceCtorEq, *,Jf4 hl]
 |with_reducible refine fun(bn:Bool) hbn=>?_))
def Jai(next:Int):List Snap→Int→Bool
 | [],_=>true
 |s :: r,ahead=>Y2 s.id (IntKind.i64.wrap (ahead+1)) next && Y2 s.pins (if r=[] then 0 else 1) 10000 && Jai next r s.id
def ZD(p:Pins):Bool:=Jai p.next' p.snaps 0 && (Y2 p.next' 0 2147483647 && decide (p.snaps.length≤1000))
theorem Jfx(next:Int)(xs:List Snap)(hl:Jc xs.length):CallR Tryz.prog 34 [.agg [.int .i64 next,.slice false (Ja xs)]] (.val (.bool (ZD ⟨next,xs⟩))):=by
 refine QD (T:=T) Tryz.call34 Tryz.func34 rfl Tryz.ntmps34 (congrArg Array.toList Tryz.results34) (by decide) fun ts hn h0=>?_
 (repeat' (first
 | (with_reducible first|refine callX.by (JdX _ _ ?_) ?_|refine callX.by (Jf6 _ _ _) ?_|assumption|(refine Qw hK _ ?_;clear hK K)|refine Qw ‹_› _ ?_|refine Qx ‹_› ?_|refine Qi fun K hK=>?_|refine Qj T fun K hK=>?_|refine Ql fun A B hA hB=>?_|refine Qm ?_|refine Qn ?_|refine Qp ?_|refine Qr ?_)
 | ((with_reducible first|apply Qy|apply Qz|apply QA)<;>intro hb<;>try simp only[nr] at hb)
 |simp only[go_sem,↓reduceIte,reduceIte,Qa,Qh,Qb,Qc,Qd,Qe,Qf,Qg,reduceCtorEq, *]
 |with_reducible refine fun(bn:Bool) hbn=>?_))
 refine Qs [1,8,9] (fun m ts'=>∃(i:Nat),∃(a:Int),m=xs.length-i∧i≤xs.length∧Jai next xs 0=Jai next (xs.drop i) a∧ts'.tmp 3=.int .i64 a∧ts'.tmp 10=.int .i64 i) xs.length ?_ ?_
 ·refine⟨0,0,?_⟩
  simp only[go_sem,↓reduceIte,reduceIte,Qa,Qh,Qb,Qc,Qd,Qe,Qf,Qg,reduceCtorEq, *]
 ·rintro m A hM ts' hk ⟨i,a,hm,f1,f2,s1,s2⟩
  simp only[go_sem,↓reduceIte,reduceIte,Qa,Qh,Qb,Qc,Qd,Qe,Qf,Qg,reduceCtorEq, *] at hk
  by_cases hlt:i<xs.length
  ·rw[List.drop_eq_getElem_cons hlt,Jai] at f2
   have hr:(xs.drop (i+1)=[])=((i:Int)=xs.length-1):=by rw[List.drop_eq_nil_iff];apply propext;omega
   simp only[hr] at f2
   (repeat' (first
 | (with_reducible first|refine callX.by (JdX _ _ ?_) ?_|refine callX.by (Jf6 _ _ _) ?_|assumption|(refine Qw hK _ ?_;clear hK K)|refine Qw ‹_› _ ?_|refine Qx ‹_› ?_|refine Qi fun K hK=>?_|refine Qj T fun K hK=>?_|refine Ql fun A B hA hB=>?_|refine Qm ?_|refine Qn ?_|refine Qp ?_|refine Qr ?_)
 | ((with_reducible first|apply Qy|apply Qz|apply QA)<;>intro hb<;>try simp only[nr] at hb)
 |simp only[go_sem,↓reduceIte,reduceIte,Qa,Qh,Qb,Qc,Qd,Qe,Qf,Qg,reduceCtorEq, *]
 |with_reducible refine fun(bn:Bool) hbn=>?_))
   all_goals ((repeat clear hK);(repeat clear hA);(repeat clear hB))
   all_goals first
    | (clear hM;simp_all[ZD];done)
    | (refine hM.on (xs.length-(i+1)) (by omega) (by simp only[go_sem,↓reduceIte,reduceIte,Qa,Qh,Qb,Qc,Qd,Qe,Qf,Qg,reduceCtorEq, *,Jf hlt hl]) ⟨i+1,xs[i].id,rfl,by omega,by simp_all,?_⟩;simp only[go_sem,↓reduceIte,reduceIte,Qa,Qh,Qb,Qc,Qd,Qe,Qf,Qg,reduceCtorEq, *,Jf hlt hl];done)
  ·rw[List.drop_eq_nil_of_le (by omega),Jai] at f2
   (repeat' (first
 | (with_reducible first|refine callX.by (JdX _ _ ?_) ?_|refine callX.by (Jf6 _ _ _) ?_|assumption|(refine Qw hK _ ?_;clear hK K)|refine Qw ‹_› _ ?_|refine Qx ‹_› ?_|refine Qi fun K hK=>?_|refine Qj T fun K hK=>?_|refine Ql fun A B hA hB=>?_|refine Qm ?_|refine Qn ?_|refine Qp ?_|refine Qr ?_)
 | ((with_reducible first|apply Qy|apply Qz|apply QA)<;>intro hb<;>try simp only[nr] at hb)
 |simp only[go_sem,↓reduceIte,reduceIte,Qa,Qh,Qb,Qc,Qd,Qe,Qf,Qg,reduceCtorEq, *]
 |with_reducible refine fun(bn:Bool) hbn=>?_))
   all_goals ((repeat clear hK);(repeat clear hA);(repeat clear hB))
   all_goals (clear hM;simp_all[ZD])
theorem JhJ(id pins:Int)(xs:List Res):CallR Tryz.prog 125 [.agg [.int .i64 id,.int .i64 pins,.slice false (Ja xs)]] (.val (.bool (decide (pins=0)))):=by
 refine QD (T:=T) Tryz.call125 Tryz.func125 rfl Tryz.ntmps125 (congrArg Array.toList Tryz.results125) (by decide) fun ts hn h0=>?_
 (repeat' (first
 | (with_reducible first|assumption|(refine Qw hK _ ?_;clear hK K)|refine Qw ‹_› _ ?_|refine Qx ‹_› ?_|refine Qi fun K hK=>?_|refine Qj T fun K hK=>?_|refine Ql fun A B hA hB=>?_|refine Qn ?_|refine Qr ?_)
 | ((with_reducible first|apply Qy|apply Qz|apply QA)<;>intro hb<;>try simp only[nr] at hb)
 |simp only[go_sem,↓reduceIte,reduceIte,Qa,Qh,Qb,Qc,Qd,Qe,Qf,Qg,reduceCtorEq, *]
 |with_reducible refine fun(bn:Bool) hbn=>?_))
def Jy(p:Pins):Pins:=if ZD p then p else ⟨0,[]⟩
theorem JfA{p:Pins}(h:Jc p.snaps.length):Jc (Jy p).snaps.length:=by
 unfold Jy;split
 ·exact h
 ·simp[Jc]
theorem JcP(next:Int)(xs:List Snap)(hl:Jc xs.length):CallR Tryz.prog 60 [.agg [.int .i64 next,.slice false (Ja xs)]] (.val (Dat.av (Jy ⟨next,xs⟩))):=by
 refine QD (T:=T) Tryz.call60 Tryz.func60 rfl Tryz.ntmps60 (congrArg Array.toList Tryz.results60) (by decide) fun ts hn h0=>?_
 (repeat' (first
 | (with_reducible first|refine callX.by (Jfx _ _ ?_) ?_|assumption|(refine Qw hK _ ?_;clear hK K)|refine Qw ‹_› _ ?_|refine Qx ‹_› ?_|refine Qi fun K hK=>?_|refine Qj T fun K hK=>?_|refine Ql fun A B hA hB=>?_|refine Qn ?_|refine Qr ?_)
 | ((with_reducible first|apply Qy|apply Qz|apply QA)<;>intro hb<;>try simp only[nr] at hb)
 |simp only[go_sem,↓reduceIte,reduceIte,Qa,Qh,Qb,Qc,Qd,Qe,Qf,Qg,reduceCtorEq, *]
 |with_reducible refine fun(bn:Bool) hbn=>?_))
 all_goals simp[Jy, *,YF,Jkx]
theorem J0(kind ver port:Int)(name to:List UInt8)(rs:List Rule)(hs:List Int):CallR Tryz.prog 56 [.agg [.int .i64 kind,.str name,.int .i64 ver,.int .i64 port,.str to,.slice false (Ja rs),.slice false (Ja hs)]] (.val (.agg [.int .i64 kind,.str name])):=by
 refine QD (T:=T) Tryz.call56 Tryz.func56 rfl Tryz.ntmps56 (congrArg Array.toList Tryz.results56) (by decide) fun ts hn h0=>?_
 (repeat' (first
 | (with_reducible first|assumption|(refine Qw hK _ ?_;clear hK K)|refine Qw ‹_› _ ?_|refine Qx ‹_› ?_|refine Qi fun K hK=>?_|refine Qj T fun K hK=>?_|refine Ql fun A B hA hB=>?_|refine Qn ?_|refine Qr ?_)
 | ((with_reducible first|apply Qy|apply Qz|apply QA)<;>intro hb<;>try simp only[nr] at hb)
 |simp only[go_sem,↓reduceIte,reduceIte,Qa,Qh,Qb,Qc,Qd,Qe,Qf,Qg,reduceCtorEq, *]
 |with_reducible refine fun(bn:Bool) hbn=>?_))
def Vk(p:Pins):Int×List Res×Bool :=
 match (Jy p).snaps.getLast? with
 |none=>(0,[],false)
 |some s=>(s.id,s.l,true)
theorem Jdx(next:Int)(xs:List Snap)(hl:Jc xs.length):CallR Tryz.prog 55 [.agg [.int .i64 next,.slice false (Ja xs)]] (.val (.tup [.int .i64 (Vk ⟨next,xs⟩).1,.slice false (Ja (Vk ⟨next,xs⟩).2.1),.bool (Vk ⟨next,xs⟩).2.2])):=by
 have hl2:Jc (Jy ⟨next,xs⟩).snaps.length:=JfA hl
 refine QD (T:=T) Tryz.call55 Tryz.func55 rfl Tryz.ntmps55 (congrArg Array.toList Tryz.results55) (by decide) fun ts hn h0=>?_
 (repeat' (first
 | (with_reducible first|refine callX.by (JcP _ _ ?_) ?_|refine callX.by (JdX _ _ ?_) ?_|assumption|(refine Qw hK _ ?_;clear hK K)|refine Qw ‹_› _ ?_|refine Qx ‹_› ?_|refine Qi fun K hK=>?_|refine Qj T fun K hK=>?_|refine Qk (id:=5) T mixed [([12],[14,16,17,18,19,20,21,22,23]),([13],[14,17,18,19,20,21,22,23]),([14],[12,13,17,18,19,20,21,22,23]),([15],[18,19,20,21,22,23]),([16],[12,18,19,20,21,22,23]),([17],[12,13,14,18,19,20,21,22,23]),([18],[12,13,14,15,16,17,20,22,23,2]),([19],[12,13,14,15,16,17,20,23,2]),([20],[12,13,14,15,16,17,18,19,23,2]),([21],[12,13,14,15,16,17,2]),([22],[12,13,14,15,16,17,18,2]),([23],[12,13,14,15,16,17,18,19,20,2]),([2],[18,19,20,21,22,23])] (by kernel_rfl) fun K hK=>?_|refine Ql fun A B hA hB=>?_|refine Qn ?_|refine Qr ?_)
 | ((with_reducible first|apply Qy|apply Qz|apply QA)<;>intro hb<;>try simp only[nr] at hb)
 |simp only[go_sem,↓reduceIte,reduceIte,Qa,Qh,Qb,Qc,Qd,Qe,Qf,Qg,reduceCtorEq, *]
 |with_reducible refine fun(bn:Bool) hbn=>?_))
 ·have h0:(Jy ⟨next,xs⟩).snaps=[]:=by simpa using hb
  simp[Vk,h0,YF]
 ·simp[Vk,List.getLast?_eq_getElem?,List.getElem?_eq_getElem (show(Jy ⟨next,xs⟩).snaps.length-1<(Jy ⟨next,xs⟩).snaps.length by omega)]
@[go_sem] def Wd0:List (List Nat×List Nat):=[([10],[11,12,13,14,15,16,17]),([11],[10,14,15,16,17]),([12],[10,14,15,17]),([13],[10,14,15]),([14],[10,11,12,13,17]),([15],[10,11,12,13]),([16],[10,11]),([17],[10,11,12,14])]
@[go_sem] def Wd1:List (List Nat×List Nat):=[([20],[21,22,25,26,27,28,29]),([21],[20,24,25,26,27,28,29]),([22],[20,25,26,27,28,29]),([23],[]),([24],[21]),([25],[20,21,22,27,28,29]),([26],[20,21,22,27,28,29]),([27],[20,21,22,25,26]),([28],[20,21,22,25,26]),([29],[20,21,22,25,26])]
@[go_sem] theorem Jw4:Tryz.prog.eqGuardType Tryz.prog.depth 22=false:=by kernel_rfl
@[go_sem] theorem Jw3:Tryz.prog.eqGuardType Tryz.prog.depth 26=false:=by kernel_rfl
@[go_sem] theorem Jw5:Tryz.prog.eqGuardType Tryz.prog.depth 24=false:=by kernel_rfl
@[go_sem] theorem JId:Tryz.prog.stoodInHeld 24=false:=by kernel_rfl
def JN(n:Int):Int:=max 1 (min n 2147483647)
def VF(m x:Int):Int:=max 0 (min x m)
def z4:Four:=⟨0,0,0,0⟩
@[go_sem] theorem Jf7:z4.a0=0:=rfl
@[go_sem] theorem Jf8:z4.a1=0:=rfl
@[go_sem] theorem Jf9:z4.a2=0:=rfl
@[go_sem] theorem Jga:z4.a3=0:=rfl
def J9(f:Four)(k:Int):Int:=if k=0 then f.a0 else if k=1 then f.a1 else if k=2 then f.a2 else f.a3
def ZJ(f:Four)(k n:Int):Four:=if k=0 then { f with a0:=n } else if k=1 then { f with a1:=n } else if k=2 then { f with a2:=n } else { f with a3:=n }
theorem ZT(n:Int):CallR Tryz.prog 75 [.int .i64 n] (.val (.int .i64 (JN n))):=by
 refine QD (T:=T) Tryz.call75 Tryz.func75 rfl Tryz.ntmps75 (congrArg Array.toList Tryz.results75) (by decide) fun ts hn h0=>?_
 (repeat' (first
 | (with_reducible first|assumption|(refine Qw hK _ ?_;clear hK K)|refine Qw ‹_› _ ?_|refine Qx ‹_› ?_|refine Qi fun K hK=>?_|refine Qj T fun K hK=>?_|refine Ql fun A B hA hB=>?_|refine Qn ?_|refine Qr ?_)
 | ((with_reducible first|apply Qy|apply Qz|apply QA)<;>intro hb<;>try simp only[nr] at hb)
 |simp only[go_sem,↓reduceIte,reduceIte,Qa,Qh,Qb,Qc,Qd,Qe,Qf,Qg,reduceCtorEq, *]
 |with_reducible refine fun(bn:Bool) hbn=>?_))
 all_goals rfl
theorem JcN(n:Int):CallR Tryz.prog 89 [.int .i64 n] (.val (.tup [.agg [.int .i64 0,.int .i64 0,.int .i64 0,.int .i64 0,.bool false,.bool false,.bool false,.bool false,.int .i64 (JN n)],.agg [.int .i64 0,.int .i64 0,.int .i64 0,.int .i64 0,.int .i64 (JN n)]])):=by
 have w1:=ZT n
 refine QD (T:=T) Tryz.call89 Tryz.func89 rfl Tryz.ntmps89 (congrArg Array.toList Tryz.results89) (by decide) fun ts hn h0=>?_
 (repeat' (first
 | (with_reducible first|refine callX.by (w1) ?_|refine callX.by (ZT _) ?_|assumption|(refine Qw hK _ ?_;clear hK K)|refine Qw ‹_› _ ?_|refine Qx ‹_› ?_|refine Qi fun K hK=>?_|refine Qj T fun K hK=>?_|refine Ql fun A B hA hB=>?_|refine Qn ?_|refine Qr ?_)
 | ((with_reducible first|apply Qy|apply Qz|apply QA)<;>intro hb<;>try simp only[nr] at hb)
 |simp only[go_sem,↓reduceIte,reduceIte,Qa,Qh,Qb,Qc,Qd,Qe,Qf,Qg,reduceCtorEq, *,-w1]
 |with_reducible refine fun(bn:Bool) hbn=>?_))
 all_goals trace_state
theorem Jbs(n:Int):CallR Tryz.prog 53 [.int .i64 n] (.val (.agg [.int .i64 0,.int .i64 0,.int .i64 0,.int .i64 0,.int .i64 (JN n)])):=by
 have w1:=JcN n
 refine QD (T:=T) Tryz.call53 Tryz.func53 rfl Tryz.ntmps53 (congrArg Array.toList Tryz.results53) (by decide) fun ts hn h0=>?_
 (repeat' (first
 | (with_reducible first|refine callX.by (w1) ?_|refine callX.by (JcN _) ?_|assumption|(refine Qw hK _ ?_;clear hK K)|refine Qw ‹_› _ ?_|refine Qx ‹_› ?_|refine Qi fun K hK=>?_|refine Qj T fun K hK=>?_|refine Ql fun A B hA hB=>?_|refine Qn ?_|refine Qr ?_)
 | ((with_reducible first|apply Qy|apply Qz|apply QA)<;>intro hb<;>try simp only[nr] at hb)
 |simp only[go_sem,↓reduceIte,reduceIte,Qa,Qh,Qb,Qc,Qd,Qe,Qf,Qg,reduceCtorEq, *,-w1]
 |with_reducible refine fun(bn:Bool) hbn=>?_))
 all_goals trace_state
theorem JaR(k:Int):CallR Tryz.prog 84 [.int .i64 k] (.val (.bool (decide (0≤k∧k<4)))):=by
 refine QD (T:=T) Tryz.call84 Tryz.func84 rfl Tryz.ntmps84 (congrArg Array.toList Tryz.results84) (by decide) fun ts hn h0=>?_
 (repeat' (first
 | (with_reducible first|assumption|(refine Qw hK _ ?_;clear hK K)|refine Qw ‹_› _ ?_|refine Qx ‹_› ?_|refine Qi fun K hK=>?_|refine Qj T fun K hK=>?_|refine Ql fun A B hA hB=>?_|refine Qn ?_|refine Qr ?_)
 | ((with_reducible first|apply Qy|apply Qz|apply QA)<;>intro hb<;>try simp only[nr] at hb)
 |simp only[go_sem,↓reduceIte,reduceIte,Qa,Qh,Qb,Qc,Qd,Qe,Qf,Qg,reduceCtorEq, *]
 |with_reducible refine fun(bn:Bool) hbn=>?_))
 all_goals (rw[Bool.eq_iff_iff];simp_all)
def VH(i:In):Bool:=(decide (VF i.max i.last.a0=i.last.a0) && (decide (VF i.max i.last.a1=i.last.a1) && (decide (VF i.max i.last.a2=i.last.a2) && decide (VF i.max i.last.a3=i.last.a3)))) && decide (i.max=JN i.max)
def nrA(f:Four)(m:Int)(n:Nat):List AV:=[.int .i64 (if 0<n then VF m f.a0 else f.a0),.int .i64 (if 1<n then VF m f.a1 else f.a1),.int .i64 (if 2<n then VF m f.a2 else f.a2),.int .i64 (if 3<n then VF m f.a3 else f.a3)]
theorem Jd5(f:Four)(m:Int):nrA f m 0=[.int .i64 f.a0,.int .i64 f.a1,.int .i64 f.a2,.int .i64 f.a3]:=rfl
theorem JcI(f:Four)(m:Int):nrA f m 1=[.int .i64 (max 0 (min f.a0 m)),.int .i64 f.a1,.int .i64 f.a2,.int .i64 f.a3]:=rfl
theorem JcJ(f:Four)(m:Int):nrA f m 2=[.int .i64 (max 0 (min f.a0 m)),.int .i64 (max 0 (min f.a1 m)),.int .i64 f.a2,.int .i64 f.a3]:=rfl
theorem JcK(f:Four)(m:Int):nrA f m 3=[.int .i64 (max 0 (min f.a0 m)),.int .i64 (max 0 (min f.a1 m)),.int .i64 (max 0 (min f.a2 m)),.int .i64 f.a3]:=rfl
theorem Jfn(f:Four)(m:Int):nrA f m 4=[.int .i64 (max 0 (min f.a0 m)),.int .i64 (max 0 (min f.a1 m)),.int .i64 (max 0 (min f.a2 m)),.int .i64 (max 0 (min f.a3 m))]:=rfl
def kz:Nat→Int
 |0=>0
 |1=>1
 |2=>2
 |3=>3
 |_=>4
theorem kz0:kz 0=0:=rfl
theorem kz1:kz 1=1:=rfl
theorem kz2:kz 2=2:=rfl
theorem kz3:kz 3=3:=rfl
theorem kz4:kz 4=4:=rfl
theorem Yf:(0:Int)<4∧(1:Int)<4∧(2:Int)<4∧(3:Int)<4∧¬(4:Int)<4:=by decide
theorem Ys:(0:Int)<((4:Nat):Int)∧(1:Int)<((4:Nat):Int)∧(2:Int)<((4:Nat):Int)∧(3:Int)<((4:Nat):Int):=by decide
theorem Yw:(0:Int)≤0∧(0:Int)≤1∧(0:Int)≤2∧(0:Int)≤3:=by decide
theorem YA:Int.toNat 0=0∧Int.toNat 1=1∧Int.toNat 2=2∧Int.toNat 3=3:=by decide
theorem Z2:IntKind.i64.wrap (0+1)=1∧IntKind.i64.wrap (1+1)=2∧IntKind.i64.wrap (2+1)=3∧IntKind.i64.wrap (3+1)=4:=by decide
set_option maxHeartbeats 4000000 in
theorem JcL(i_last_a0:Int)(i_last_a1:Int)(i_last_a2:Int)(i_last_a3:Int)(i_max:Int):CallR Tryz.prog 32 [.agg [.int .i64 i_last_a0,.int .i64 i_last_a1,.int .i64 i_last_a2,.int .i64 i_last_a3,.int .i64 i_max]] (.val (.bool (VH (⟨⟨i_last_a0,i_last_a1,i_last_a2,i_last_a3⟩,i_max⟩:In)))):=by
 have w1:=ZT i_max
 refine QD (T:=T) Tryz.call32 Tryz.func32 rfl Tryz.ntmps32 (congrArg Array.toList Tryz.results32) (by decide) fun ts hn h0=>?_
 (repeat' (first
 | (with_reducible first|refine callX.by (ZT _) ?_|assumption|(refine Qw hK _ ?_;clear hK K)|refine Qw ‹_› _ ?_|refine Qx ‹_› ?_|refine Qi fun K hK=>?_|refine Qj T fun K hK=>?_|refine Qk (id:=5) T mixed Wd0 (by kernel_rfl) fun K hK=>?_|refine Qk (id:=7) T mixed Wd1 (by kernel_rfl) fun K hK=>?_|refine Ql fun A B hA hB=>?_|refine Qm ?_|refine Qn ?_|refine Qp ?_|refine Qr ?_)
 | ((with_reducible first|apply Qy|apply Qz|apply QA)<;>intro hb<;>try simp only[nr] at hb)
 |simp only[go_sem,↓reduceIte,reduceIte,Qa,Qh,Qb,Qc,Qd,Qe,Qf,Qg,reduceCtorEq, *,-w1]
 |with_reducible refine fun(bn:Bool) hbn=>?_))
 refine Qs [1] (fun m ts'=>∃(n:Nat),∃(g:Nat),m=4-n∧n≤4∧ts'.tmp 3=.ref 3 g 0∧ts'.gen 3=g∧ts'.obj 3=.box (nrA ⟨i_last_a0,i_last_a1,i_last_a2,i_last_a3⟩ i_max n)∧ts'.tmp 7=.int .i64 (kz n)) 4 ?_ ?_
 ·refine⟨0,ts.gen 3+1,rfl,Nat.zero_le _,?_⟩
  simp only[go_sem,↓reduceIte,reduceIte,Qa,Qh,Qb,Qc,Qd,Qe,Qf,Qg,reduceCtorEq, *,-w1,Jd5,kz0]
 ·rintro m A hM ts' hk ⟨n,g,hm,f1,s1,s2,s3,s4⟩
  simp only[go_sem,↓reduceIte,reduceIte,Qa,Qh,Qb,Qc,Qd,Qe,Qf,Qg,reduceCtorEq, *] at hk
  by_cases hlt:n<4
  ·rcases(show n=0∨n=1∨n=2∨n=3 by omega) with rfl|rfl|rfl|rfl
   ·(repeat' (first
 | (with_reducible first|refine callX.by (ZT _) ?_|assumption|(refine Qw hK _ ?_;clear hK K)|refine Qw ‹_› _ ?_|refine Qx ‹_› ?_|refine Qi fun K hK=>?_|refine Qj T fun K hK=>?_|refine Qk (id:=5) T mixed Wd0 (by kernel_rfl) fun K hK=>?_|refine Qk (id:=7) T mixed Wd1 (by kernel_rfl) fun K hK=>?_|refine Ql fun A B hA hB=>?_|refine Qm ?_|refine Qn ?_|refine Qp ?_|refine Qr ?_)
 | ((with_reducible first|apply Qy|apply Qz|apply QA)<;>intro hb<;>try simp only[nr] at hb)
 |simp only[go_sem,↓reduceIte,reduceIte,Qa,Qh,Qb,Qc,Qd,Qe,Qf,Qg,reduceCtorEq, *,-w1,Jd5,kz0,Yf,Ys,Yw,YA]
 |with_reducible refine fun(bn:Bool) hbn=>?_))
    all_goals ((repeat clear hK);(repeat clear hA);(repeat clear hB))
    all_goals (refine hM.on (3) (by omega) (by simp only[go_sem,↓reduceIte,reduceIte,Qa,Qh,Qb,Qc,Qd,Qe,Qf,Qg,reduceCtorEq, *,-w1,Jd5,JcI,kz0,kz1,Z2]) ⟨1,g,rfl,by omega,?_⟩;simp only[go_sem,↓reduceIte,reduceIte,Qa,Qh,Qb,Qc,Qd,Qe,Qf,Qg,reduceCtorEq, *,-w1,Jd5,JcI,kz0,kz1,Z2];done)
   ·(repeat' (first
 | (with_reducible first|refine callX.by (ZT _) ?_|assumption|(refine Qw hK _ ?_;clear hK K)|refine Qw ‹_› _ ?_|refine Qx ‹_› ?_|refine Qi fun K hK=>?_|refine Qj T fun K hK=>?_|refine Qk (id:=5) T mixed Wd0 (by kernel_rfl) fun K hK=>?_|refine Qk (id:=7) T mixed Wd1 (by kernel_rfl) fun K hK=>?_|refine Ql fun A B hA hB=>?_|refine Qm ?_|refine Qn ?_|refine Qp ?_|refine Qr ?_)
 | ((with_reducible first|apply Qy|apply Qz|apply QA)<;>intro hb<;>try simp only[nr] at hb)
 |simp only[go_sem,↓reduceIte,reduceIte,Qa,Qh,Qb,Qc,Qd,Qe,Qf,Qg,reduceCtorEq, *,-w1,JcI,kz1,Yf,Ys,Yw,YA]
 |with_reducible refine fun(bn:Bool) hbn=>?_))
    all_goals ((repeat clear hK);(repeat clear hA);(repeat clear hB))
    all_goals (refine hM.on (2) (by omega) (by simp only[go_sem,↓reduceIte,reduceIte,Qa,Qh,Qb,Qc,Qd,Qe,Qf,Qg,reduceCtorEq, *,-w1,JcI,JcJ,kz1,kz2,Z2]) ⟨2,g,rfl,by omega,?_⟩;simp only[go_sem,↓reduceIte,reduceIte,Qa,Qh,Qb,Qc,Qd,Qe,Qf,Qg,reduceCtorEq, *,-w1,JcI,JcJ,kz1,kz2,Z2];done)
   ·(repeat' (first
 | (with_reducible first|refine callX.by (ZT _) ?_|assumption|(refine Qw hK _ ?_;clear hK K)|refine Qw ‹_› _ ?_|refine Qx ‹_› ?_|refine Qi fun K hK=>?_|refine Qj T fun K hK=>?_|refine Qk (id:=5) T mixed Wd0 (by kernel_rfl) fun K hK=>?_|refine Qk (id:=7) T mixed Wd1 (by kernel_rfl) fun K hK=>?_|refine Ql fun A B hA hB=>?_|refine Qm ?_|refine Qn ?_|refine Qp ?_|refine Qr ?_)
 | ((with_reducible first|apply Qy|apply Qz|apply QA)<;>intro hb<;>try simp only[nr] at hb)
 |simp only[go_sem,↓reduceIte,reduceIte,Qa,Qh,Qb,Qc,Qd,Qe,Qf,Qg,reduceCtorEq, *,-w1,JcJ,kz2,Yf,Ys,Yw,YA]
 |with_reducible refine fun(bn:Bool) hbn=>?_))
    all_goals ((repeat clear hK);(repeat clear hA);(repeat clear hB))
    all_goals (refine hM.on (1) (by omega) (by simp only[go_sem,↓reduceIte,reduceIte,Qa,Qh,Qb,Qc,Qd,Qe,Qf,Qg,reduceCtorEq, *,-w1,JcJ,JcK,kz2,kz3,Z2]) ⟨3,g,rfl,by omega,?_⟩;simp only[go_sem,↓reduceIte,reduceIte,Qa,Qh,Qb,Qc,Qd,Qe,Qf,Qg,reduceCtorEq, *,-w1,JcJ,JcK,kz2,kz3,Z2];done)
   ·(repeat' (first
 | (with_reducible first|refine callX.by (ZT _) ?_|assumption|(refine Qw hK _ ?_;clear hK K)|refine Qw ‹_› _ ?_|refine Qx ‹_› ?_|refine Qi fun K hK=>?_|refine Qj T fun K hK=>?_|refine Qk (id:=5) T mixed Wd0 (by kernel_rfl) fun K hK=>?_|refine Qk (id:=7) T mixed Wd1 (by kernel_rfl) fun K hK=>?_|refine Ql fun A B hA hB=>?_|refine Qm ?_|refine Qn ?_|refine Qp ?_|refine Qr ?_)
 | ((with_reducible first|apply Qy|apply Qz|apply QA)<;>intro hb<;>try simp only[nr] at hb)
 |simp only[go_sem,↓reduceIte,reduceIte,Qa,Qh,Qb,Qc,Qd,Qe,Qf,Qg,reduceCtorEq, *,-w1,JcK,kz3,Yf,Ys,Yw,YA]
 |with_reducible refine fun(bn:Bool) hbn=>?_))
    all_goals ((repeat clear hK);(repeat clear hA);(repeat clear hB))
    all_goals (refine hM.on (0) (by omega) (by simp only[go_sem,↓reduceIte,reduceIte,Qa,Qh,Qb,Qc,Qd,Qe,Qf,Qg,reduceCtorEq, *,-w1,JcK,Jfn,kz3,kz4,Z2]) ⟨4,g,rfl,by omega,?_⟩;simp only[go_sem,↓reduceIte,reduceIte,Qa,Qh,Qb,Qc,Qd,Qe,Qf,Qg,reduceCtorEq, *,-w1,JcK,Jfn,kz3,kz4,Z2];done)
  ·have e4:n=4:=by omega
   subst e4
   (repeat' (first
 | (with_reducible first|refine callX.by (w1) ?_|refine callX.by (ZT _) ?_|assumption|(refine Qw hK _ ?_;clear hK K)|refine Qw ‹_› _ ?_|refine Qx ‹_› ?_|refine Qi fun K hK=>?_|refine Qj T fun K hK=>?_|refine Qk (id:=5) T mixed Wd0 (by kernel_rfl) fun K hK=>?_|refine Qk (id:=7) T mixed Wd1 (by kernel_rfl) fun K hK=>?_|refine Ql fun A B hA hB=>?_|refine Qm ?_|refine Qn ?_|refine Qp ?_|refine Qr ?_)
 | ((with_reducible first|apply Qy|apply Qz|apply QA)<;>intro hb<;>try simp only[nr] at hb)
 |simp only[go_sem,↓reduceIte,reduceIte,Qa,Qh,Qb,Qc,Qd,Qe,Qf,Qg,reduceCtorEq, *,-w1,Jfn,kz4,Yf]
 |with_reducible refine fun(bn:Bool) hbn=>?_))
   all_goals ((repeat clear hK);(repeat clear hA);(repeat clear hB))
   all_goals (unfold VH VF;simp only;rw[hb];simp)
def Vg(i:In):In:=if VH i=true then i else ⟨z4,JN i.max⟩
theorem JaQ(i_last_a0:Int)(i_last_a1:Int)(i_last_a2:Int)(i_last_a3:Int)(i_max:Int):CallR Tryz.prog 83 [.agg [.int .i64 i_last_a0,.int .i64 i_last_a1,.int .i64 i_last_a2,.int .i64 i_last_a3,.int .i64 i_max]] (.val (.agg [.int .i64 (Vg (⟨⟨i_last_a0,i_last_a1,i_last_a2,i_last_a3⟩,i_max⟩:In)).last.a0,.int .i64 (Vg (⟨⟨i_last_a0,i_last_a1,i_last_a2,i_last_a3⟩,i_max⟩:In)).last.a1,.int .i64 (Vg (⟨⟨i_last_a0,i_last_a1,i_last_a2,i_last_a3⟩,i_max⟩:In)).last.a2,.int .i64 (Vg (⟨⟨i_last_a0,i_last_a1,i_last_a2,i_last_a3⟩,i_max⟩:In)).last.a3,.int .i64 (Vg (⟨⟨i_last_a0,i_last_a1,i_last_a2,i_last_a3⟩,i_max⟩:In)).max])):=by
 have w1:=JcL i_last_a0 i_last_a1 i_last_a2 i_last_a3 i_max
 have w2:=JcN i_max
 unfold Vg
 cases hb0:VH (⟨⟨i_last_a0,i_last_a1,i_last_a2,i_last_a3⟩,i_max⟩:In)
 ·rw[hb0] at w1
  refine QD (T:=T) Tryz.call83 Tryz.func83 rfl Tryz.ntmps83 (congrArg Array.toList Tryz.results83) (by decide) fun ts hn h0=>?_
  (repeat' (first
 | (with_reducible first|refine callX.by (w1) ?_|refine callX.by (w2) ?_|refine callX.by (JcL _ _ _ _ _) ?_|refine callX.by (JcN _) ?_|assumption|(refine Qw hK _ ?_;clear hK K)|refine Qw ‹_› _ ?_|refine Qx ‹_› ?_|refine Qi fun K hK=>?_|refine Qj T fun K hK=>?_|refine Ql fun A B hA hB=>?_|refine Qn ?_|refine Qr ?_)
 | ((with_reducible first|apply Qy|apply Qz|apply QA)<;>intro hb<;>try simp only[nr] at hb)
 |simp only[go_sem,↓reduceIte,reduceIte,Qa,Qh,Qb,Qc,Qd,Qe,Qf,Qg,reduceCtorEq, *,-w1,-w2]
 |with_reducible refine fun(bn:Bool) hbn=>?_))
  all_goals first|rfl|exact⟨rfl,rfl,rfl,rfl⟩
 ·rw[hb0] at w1
  refine QD (T:=T) Tryz.call83 Tryz.func83 rfl Tryz.ntmps83 (congrArg Array.toList Tryz.results83) (by decide) fun ts hn h0=>?_
  (repeat' (first
 | (with_reducible first|refine callX.by (w1) ?_|refine callX.by (w2) ?_|refine callX.by (JcL _ _ _ _ _) ?_|refine callX.by (JcN _) ?_|assumption|(refine Qw hK _ ?_;clear hK K)|refine Qw ‹_› _ ?_|refine Qx ‹_› ?_|refine Qi fun K hK=>?_|refine Qj T fun K hK=>?_|refine Ql fun A B hA hB=>?_|refine Qn ?_|refine Qr ?_)
 | ((with_reducible first|apply Qy|apply Qz|apply QA)<;>intro hb<;>try simp only[nr] at hb)
 |simp only[go_sem,↓reduceIte,reduceIte,Qa,Qh,Qb,Qc,Qd,Qe,Qf,Qg,reduceCtorEq, *,-w1,-w2]
 |with_reducible refine fun(bn:Bool) hbn=>?_))
  all_goals first|rfl|trace_state
theorem Jih(i:In):VH (Vg i)=true:=by
 unfold Vg
 split
 ·assumption
 ·have h1:1≤JN i.max∧JN i.max≤2147483647:=by unfold JN;omega
  have h2:JN (JN i.max)=JN i.max:=by unfold JN;omega
  have h3:VF (JN i.max) 0=0:=by unfold VF;omega
  simp only[VH,Jf7,Jf8,Jf9,Jga,h2,h3,decide_true,Bool.and_self]
theorem JcM{i:In}(h:VH i=true):(0≤i.last.a0∧i.last.a0≤i.max)∧(0≤i.last.a1∧i.last.a1≤i.max)∧(0≤i.last.a2∧i.last.a2≤i.max)∧(0≤i.last.a3∧i.last.a3≤i.max)∧1≤i.max∧i.max≤2147483647:=by
 simp only[VH,Bool.and_eq_true,decide_eq_true_eq] at h
 obtain⟨⟨h1,h2,h3,h4⟩,h5⟩:=h
 have hb:1≤i.max∧i.max≤2147483647:=by unfold JN at h5;omega
 have key:∀x:Int,VF i.max x=x→0≤x∧x≤i.max:=fun x hx=>by unfold VF at hx;omega
 exact⟨key _ h1,key _ h2,key _ h3,key _ h4,hb⟩
def J5(i:In)(k n:Int):In×Int :=
 if ¬(0≤k∧k<4) then (Vg i,4) else if n≠0∧n=J9 (Vg i).last k then (Vg i,9) else if n≠J9 (Vg i).last k+1∨(Vg i).max<n then (Vg i,11) else (⟨ZJ (Vg i).last k n,(Vg i).max⟩,0)
set_option maxHeartbeats 8000000 in
theorem JaS(i_last_a0:Int)(i_last_a1:Int)(i_last_a2:Int)(i_last_a3:Int)(i_max:Int)(k n:Int):CallR Tryz.prog 41 [.agg [.int .i64 i_last_a0,.int .i64 i_last_a1,.int .i64 i_last_a2,.int .i64 i_last_a3,.int .i64 i_max],.int .i64 k,.int .i64 n] (.val (.tup [.agg [.int .i64 (J5 (⟨⟨i_last_a0,i_last_a1,i_last_a2,i_last_a3⟩,i_max⟩:In) k n).1.last.a0,.int .i64 (J5 (⟨⟨i_last_a0,i_last_a1,i_last_a2,i_last_a3⟩,i_max⟩:In) k n).1.last.a1,.int .i64 (J5 (⟨⟨i_last_a0,i_last_a1,i_last_a2,i_last_a3⟩,i_max⟩:In) k n).1.last.a2,.int .i64 (J5 (⟨⟨i_last_a0,i_last_a1,i_last_a2,i_last_a3⟩,i_max⟩:In) k n).1.last.a3,.int .i64 (J5 (⟨⟨i_last_a0,i_last_a1,i_last_a2,i_last_a3⟩,i_max⟩:In) k n).1.max],.int .i64 (J5 (⟨⟨i_last_a0,i_last_a1,i_last_a2,i_last_a3⟩,i_max⟩:In) k n).2])):=by
 have w1:=JaQ i_last_a0 i_last_a1 i_last_a2 i_last_a3 i_max
 have w2:=JaR k
 have hr:=JcM (Jih (⟨⟨i_last_a0,i_last_a1,i_last_a2,i_last_a3⟩,i_max⟩:In))
 unfold J5
 generalize Vg (⟨⟨i_last_a0,i_last_a1,i_last_a2,i_last_a3⟩,i_max⟩:In)=j at *
 obtain⟨⟨l0,l1,l2,l3⟩,m⟩:=j
 simp only at hr w1 ⊢
 obtain⟨⟨r0,q0⟩,⟨r1,q1⟩,⟨r2,q2⟩,⟨r3,q3⟩,rm,qm⟩:=hr
 by_cases hk4:0≤k∧k<4
 rotate_left
 ·rw[if_pos hk4]
  rw[decide_eq_false hk4] at w2
  refine CallR.go3 (T:=T) Tryz.call41 Tryz.func41 rfl Tryz.ntmps41 (congrArg Array.toList Tryz.results41) (by decide) fun ts hn h0 h1 h2=>?_
  (repeat' (first
 | (with_reducible first|refine callX.by (w1) ?_|refine callX.by (w2) ?_|refine callX.by (JaQ _ _ _ _ _) ?_|refine callX.by (JaR _) ?_|assumption|(refine Qw hK _ ?_;clear hK K)|refine Qw ‹_› _ ?_|refine Qx ‹_› ?_|refine Qi fun K hK=>?_|refine Qj T fun K hK=>?_|refine Ql fun A B hA hB=>?_|refine Qm ?_|refine Qn ?_|refine Qr ?_)
 | ((with_reducible first|apply Qy|apply Qz|apply QA)<;>intro hb<;>try simp only[nr] at hb)
 |simp only[go_sem,↓reduceIte,reduceIte,Qa,Qh,Qb,Qc,Qd,Qe,Qf,Qg,reduceCtorEq, *,-w1,-w2,-hk4]
 |with_reducible refine fun(bn:Bool) hbn=>?_))
  all_goals trace_state
 ·rw[if_neg (by simpa using hk4)]
  rw[decide_eq_true hk4] at w2
  have hx:∃x:Int,x=J9 ⟨l0,l1,l2,l3⟩ k∧IntKind.i64.wrap (x+1)=x+1∧0≤x:=by
   refine⟨_,rfl,IntWalk.i64_in _ ?_,?_⟩
   all_goals (unfold J9;simp only;repeat' split)
   all_goals omega
  obtain⟨x,hx1,hx2,hx3⟩:=hx
  have n1:¬(1:Int)=0:=by decide
  have n2:¬(2:Int)=0∧¬(2:Int)=1:=by decide
  have n3:¬(3:Int)=0∧¬(3:Int)=1∧¬(3:Int)=2:=by decide
  rcases(show k=0∨k=1∨k=2∨k=3 by omega) with rfl|rfl|rfl|rfl
  all_goals
   simp only[J9,ZJ,if_true,n1,n2,n3,if_false] at hx1 ⊢
   subst hx1
   clear r0 q0 r1 q1 r2 q2 r3 q3 hk4
   by_cases h0:n=0
   ·rw[if_neg (fun h=>h.1 h0),if_pos (.inl (by omega))]
    have hne:¬(0:Int)=x+1:=by omega
    subst h0
    refine CallR.go3 (T:=T) Tryz.call41 Tryz.func41 rfl Tryz.ntmps41 (congrArg Array.toList Tryz.results41) (by decide) fun ts hn h0 h1 h2=>?_
    (repeat' (first
 | (with_reducible first|refine callX.by (w1) ?_|refine callX.by (w2) ?_|refine callX.by (JaQ _ _ _ _ _) ?_|refine callX.by (JaR _) ?_|assumption|(refine Qw hK _ ?_;clear hK K)|refine Qw ‹_› _ ?_|refine Qx ‹_› ?_|refine Qi fun K hK=>?_|refine Qj T fun K hK=>?_|refine Ql fun A B hA hB=>?_|refine Qm ?_|refine Qn ?_|refine Qr ?_)
 | ((with_reducible first|apply Qy|apply Qz|apply QA)<;>intro hb<;>try simp only[nr] at hb)
 |simp only[go_sem,↓reduceIte,reduceIte,Qa,Qh,Qb,Qc,Qd,Qe,Qf,Qg,reduceCtorEq, *,-w1,-w2,Yf,Ys,Yw,YA]
 |with_reducible refine fun(bn:Bool) hbn=>?_))
    all_goals trace_state
   ·by_cases h1:n=x
    ·rw[if_pos ⟨h0,h1⟩]
     subst h1
     refine CallR.go3 (T:=T) Tryz.call41 Tryz.func41 rfl Tryz.ntmps41 (congrArg Array.toList Tryz.results41) (by decide) fun ts hn h0 h1 h2=>?_
     (repeat' (first
 | (with_reducible first|refine callX.by (w1) ?_|refine callX.by (w2) ?_|refine callX.by (JaQ _ _ _ _ _) ?_|refine callX.by (JaR _) ?_|assumption|(refine Qw hK _ ?_;clear hK K)|refine Qw ‹_› _ ?_|refine Qx ‹_› ?_|refine Qi fun K hK=>?_|refine Qj T fun K hK=>?_|refine Ql fun A B hA hB=>?_|refine Qm ?_|refine Qn ?_|refine Qr ?_)
 | ((with_reducible first|apply Qy|apply Qz|apply QA)<;>intro hb<;>try simp only[nr] at hb)
 |simp only[go_sem,↓reduceIte,reduceIte,Qa,Qh,Qb,Qc,Qd,Qe,Qf,Qg,reduceCtorEq, *,-w1,-w2,Yf,Ys,Yw,YA]
 |with_reducible refine fun(bn:Bool) hbn=>?_))
     all_goals trace_state
    ·rw[if_neg (fun h=>h1 h.2)]
     by_cases h2:n=x+1
     ·have hx0:¬x+1=0:=by omega
      have hx4:¬x+1=x:=by omega
      by_cases h3:m<n
      ·rw[if_pos (.inr h3)]
       subst h2
       refine CallR.go3 (T:=T) Tryz.call41 Tryz.func41 rfl Tryz.ntmps41 (congrArg Array.toList Tryz.results41) (by decide) fun ts hn h0 h1 h2=>?_
       (repeat' (first
 | (with_reducible first|refine callX.by (w1) ?_|refine callX.by (w2) ?_|refine callX.by (JaQ _ _ _ _ _) ?_|refine callX.by (JaR _) ?_|assumption|(refine Qw hK _ ?_;clear hK K)|refine Qw ‹_› _ ?_|refine Qx ‹_› ?_|refine Qi fun K hK=>?_|refine Qj T fun K hK=>?_|refine Ql fun A B hA hB=>?_|refine Qm ?_|refine Qn ?_|refine Qr ?_)
 | ((with_reducible first|apply Qy|apply Qz|apply QA)<;>intro hb<;>try simp only[nr] at hb)
 |simp only[go_sem,↓reduceIte,reduceIte,Qa,Qh,Qb,Qc,Qd,Qe,Qf,Qg,reduceCtorEq, *,-w1,-w2,Yf,Ys,Yw,YA]
 |with_reducible refine fun(bn:Bool) hbn=>?_))
       all_goals trace_state
      ·rw[if_neg (fun h=>h.elim (fun h=>h h2) h3)]
       subst h2
       refine CallR.go3 (T:=T) Tryz.call41 Tryz.func41 rfl Tryz.ntmps41 (congrArg Array.toList Tryz.results41) (by decide) fun ts hn h0 h1 h2=>?_
       (repeat' (first
 | (with_reducible first|refine callX.by (w1) ?_|refine callX.by (w2) ?_|refine callX.by (JaQ _ _ _ _ _) ?_|refine callX.by (JaR _) ?_|assumption|(refine Qw hK _ ?_;clear hK K)|refine Qw ‹_› _ ?_|refine Qx ‹_› ?_|refine Qi fun K hK=>?_|refine Qj T fun K hK=>?_|refine Ql fun A B hA hB=>?_|refine Qm ?_|refine Qn ?_|refine Qr ?_)
 | ((with_reducible first|apply Qy|apply Qz|apply QA)<;>intro hb<;>try simp only[nr] at hb)
 |simp only[go_sem,↓reduceIte,reduceIte,Qa,Qh,Qb,Qc,Qd,Qe,Qf,Qg,reduceCtorEq, *,-w1,-w2,Yf,Ys,Yw,YA]
 |with_reducible refine fun(bn:Bool) hbn=>?_))
       all_goals trace_state
     ·rw[if_pos (.inl h2)]
      refine CallR.go3 (T:=T) Tryz.call41 Tryz.func41 rfl Tryz.ntmps41 (congrArg Array.toList Tryz.results41) (by decide) fun ts hn h0 h1 h2=>?_
      (repeat' (first
 | (with_reducible first|refine callX.by (w1) ?_|refine callX.by (w2) ?_|refine callX.by (JaQ _ _ _ _ _) ?_|refine callX.by (JaR _) ?_|assumption|(refine Qw hK _ ?_;clear hK K)|refine Qw ‹_› _ ?_|refine Qx ‹_› ?_|refine Qi fun K hK=>?_|refine Qj T fun K hK=>?_|refine Ql fun A B hA hB=>?_|refine Qm ?_|refine Qn ?_|refine Qr ?_)
 | ((with_reducible first|apply Qy|apply Qz|apply QA)<;>intro hb<;>try simp only[nr] at hb)
 |simp only[go_sem,↓reduceIte,reduceIte,Qa,Qh,Qb,Qc,Qd,Qe,Qf,Qg,reduceCtorEq, *,-w1,-w2,Yf,Ys,Yw,YA]
 |with_reducible refine fun(bn:Bool) hbn=>?_))
      all_goals trace_state
def upV(x:Int):Value:=.iface 216 (.agg #[.int .i64 x])
def Zt(x:Int):List PanicEntry:=[{ v:=upV x,recovered:=false }]
theorem JkU(p:Addr)(x y:Int)(w:World)(hc:w.cell? p=some (.int .i64 y))(hz:w.frozen? p=false) :
  CallsD Tryz.prog 155 #[.pointer (some p)] (.panicking (Zt x)) w fun e u' w' =>
   e=.returned (.tuple #[])∧u'=.panicking [{ v:=upV x,recovered:=true }]∧w'=w.setCell p (.int .i64 x):=by
 have hta:∀(v:Value) (w:World),(Instr.typeAssert (.iface 216 v) 20 216 false).run Tryz.prog w=.ok v w:=fun _ _=>by kernel_rfl
 have hfi:∀(x:Int) (w:World),(Instr.field 216 (.agg #[.int .i64 x]) 0).run Tryz.prog w=.ok (.int .i64 x) w:=fun _ _=>by kernel_rfl
 have hne:∀(t:TypeId) (v:Value) (w:World),(binOp BinOp.neq 20 (.iface t v) .nilIface).run Tryz.prog w=.ok (.bool true) w:=fun _ _ _=>by kernel_rfl
 have hnn:∀(w:World),(binOp BinOp.neq 20 .nilIface .nilIface).run Tryz.prog w=.ok (.bool false) w:=fun _=>by kernel_rfl
 refine callsD_of_wpS Tryz.func155 rfl fun c₀ cs hu=>?_
 apply wpS_seq
 apply wpS_region
 simp[wpOpsS,hta,hfi,hne,hnn,go_sem,recoverD,hu,Zt,Tryz.ntmps155,Exit.thenS]
 apply wpS_seq
 apply wpS_region
 simp[wpOpsS,hta,hfi,hne,hnn,go_sem,upV,Exit.thenS]
 refine wpS_cond (t:=true) (by simp[Act.eval,Array.replicate]) ?_
 simp only[if_true]
 apply wpS_region
 simp[wpOpsS,hta,hfi,hne,hnn,go_sem,hc,hz,bodyPostS,results,Tryz.results155]
theorem JkT(p:Addr)(w:World) :
  CallsD Tryz.prog 155 #[.pointer (some p)] .returning w fun e u' w'=>e=.returned (.tuple #[])∧u'=.returning∧w'=w:=by
 have hta:∀(v:Value) (w:World),(Instr.typeAssert (.iface 216 v) 20 216 false).run Tryz.prog w=.ok v w:=fun _ _=>by kernel_rfl
 have hfi:∀(x:Int) (w:World),(Instr.field 216 (.agg #[.int .i64 x]) 0).run Tryz.prog w=.ok (.int .i64 x) w:=fun _ _=>by kernel_rfl
 have hne:∀(t:TypeId) (v:Value) (w:World),(binOp BinOp.neq 20 (.iface t v) .nilIface).run Tryz.prog w=.ok (.bool true) w:=fun _ _ _=>by kernel_rfl
 have hnn:∀(w:World),(binOp BinOp.neq 20 .nilIface .nilIface).run Tryz.prog w=.ok (.bool false) w:=fun _=>by kernel_rfl
 refine callsD_of_wpS Tryz.func155 rfl fun c₀ cs hu=>?_
 apply wpS_seq
 apply wpS_region
 simp[wpOpsS,hta,hfi,hne,hnn,go_sem,recoverD,hu,Tryz.ntmps155,Exit.thenS]
 apply wpS_seq
 apply wpS_region
 simp[wpOpsS,hta,hfi,hne,hnn,go_sem,Exit.thenS]
 refine wpS_cond (t:=false) (by simp[Act.eval,Array.replicate]) ?_
 simp only[Bool.false_eq_true,if_false]
 refine wpS_of_wp (wp_skip ?_)
 cases c₀
 simp_all[bodyPostS,results,Tryz.results155]
def VD(w:World):World:=w.alloc (.cells #[.int .i64 0] 25)
def V3(w:World):Addr:=⟨w.heap.size,0,none⟩
theorem JgS{w:World}{p:Addr}{v y:Value}(h:w.cell? p=some y):(w.setCell p v).cell? p=some v:=by
 unfold World.cell? at h ⊢
 unfold World.setCell
 simp only[Array.getElem?_modify,if_true]
 cases hh:w.heap[p.block]? with
 |none=>rw[hh] at h;simp at h
 |some o =>
  rw[hh] at h
  cases o with
  |cells c el fr =>
   simp only[Option.map_some] at h ⊢
   by_cases hs:p.spot.isSome
   ·simp[hs] at h
   ·simp only[hs] at h ⊢
    simp only[Bool.false_eq_true,if_false] at h ⊢
    obtain⟨hlt,_⟩:=Array.getElem?_eq_some_iff.1 h
    simp[hlt]
  |_=>simp at h
theorem JgM(g:FuncId)(caps:Array Value)(w:World)(R:Ending→World→Prop)
  (hg:∀w,(callFunc g caps).run Tryz.prog w=.ok (.enter g caps) w) (h:Calls Tryz.prog g caps (VD w) R)
  (hR:∀e w',R e w'→w'.cell? (V3 w)=some (.int .i64 0)∧w'.frozen? (V3 w)=false∧((e=.returned (.tuple #[]))∨∃x,e=.panicked (Zt x))) :
  Calls Tryz.prog 109 #[.func (.func g) #[] caps] w fun e w''=>∃e1 w1,R e1 w1 ∧
   ((e1=.returned (.tuple #[])∧e=.returned (.int .i64 0)∧w''=w1.setCell (V3 w) (.int .i64 0))∨∃x,e1=.panicked (Zt x)∧e=.returned (.int .i64 x)∧w''=w1.setCell (V3 w) (.int .i64 x)):=by
 have hmf:∀(fn:Fn) (first cap:Array Value) (w:World),(Instr.makeFunc fn first cap).run Tryz.prog w=.ok (.func fn first cap) w:=fun _ _ _ _=>rfl
 go_enter_defers Tryz.func109,Tryz.ntmps109
 go_wp2
 rename_i K1 hK1 K0 hK0
 refine Calls.mono h ?_
 intro e1 w1 hr
 obtain⟨hc,hz,hcase⟩:=hR e1 w1 hr
 have hc':w1.cell? ⟨w.heap.size,0,none⟩=some (.int .i64 0):=hc
 have hz':w1.frozen? ⟨w.heap.size,0,none⟩=false:=hz
 rcases hcase with rfl|⟨x,rfl⟩
 ·apply hK0
  simp only[wpList]
  apply hK1
  go_wp2
  simp only[bodyPostD]
  refine leaves_cons (f:=155) (args:=#[.pointer (some ⟨w.heap.size,0,none⟩)]) (by simp) (by simp[go_sem]) ?_
  refine(JkT ⟨w.heap.size,0,none⟩ _).mono ?_
  rintro e u' w'' ⟨rfl,rfl,rfl⟩
  have hcc:=JgS (v:=.int .i64 0) hc'
  simp[Leaves,settle,results,Tryz.results109,go_sem,hcc]
  exact⟨_,w1,hr,.inl ⟨rfl,rfl⟩⟩
 ·show bodyPostD _ _ _ _ _ _
  simp only[bodyPostD]
  refine leaves_cons (f:=155) (args:=#[.pointer (some ⟨w.heap.size,0,none⟩)]) (by simp) (by simp[go_sem]) ?_
  refine(JkU ⟨w.heap.size,0,none⟩ x 0 _ hc' hz').mono ?_
  rintro e u' w'' ⟨rfl,rfl,rfl⟩
  have hcc:=JgS (v:=.int .i64 x) hc'
  simp[Leaves,settle,results,Tryz.results109,go_sem,hcc]
  exact⟨_,w1,hr,.inr ⟨x,rfl,rfl,rfl⟩⟩
end Go.Proofs.YtihahfhagobnoaaGreatDoor.Lg
