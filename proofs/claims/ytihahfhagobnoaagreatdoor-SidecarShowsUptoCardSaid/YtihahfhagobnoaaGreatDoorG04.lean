/- Parts of the proof, one behind the other. -/
import Derived.Tactics
import Derived.Tactics2
import Derived.Defers
import Derived.Recover
import Derived.Laws.Pointers
import Derived.Test.YtihahfhagobnoaaGreatDoorG03
namespace Go.Proofs.YtihahfhagobnoaaGreatDoor.Lg
set_option maxRecDepth 100000
set_option linter.unusedVariables false
set_option linter.unusedSimpArgs false
open Go
open Nat renaming reduceEqDiff → Qa, reduceLT → Qb, reduceLeDiff → Qc, reduceAdd → Qd, reduceMul → Qe, reduceSub → Qf, reduceBEq → Qg
open String renaming reduceEq → Qh
open SpecC renaming seqW → Qi, regW → Qj, drawW → Qk, condW → Ql, block → Qm, skip → Qn, label → Qo, exit → Qp, goto → Qq, ret → Qr, loopF → Qs
open NxK renaming out → Qw
open Nx renaming out → Qx
open condK renaming split → Qy
open gK renaming split_t → Qz, split_f → QA
open CallR renaming go1 → QD
def Zb(n a b:Int):Bool:=decide (a≤n) && decide (n≤b)
theorem Jgy(a b c:Int):CallR Tryz.prog 80 [.int .i64 a,.int .i64 b,.int .i64 c] (.val (.bool (Zb a b c))):=by
 refine CallR.go3 (T:=T) Tryz.call80 Tryz.func80 rfl Tryz.ntmps80 (congrArg Array.toList Tryz.results80) (by decide) fun ts hn h0 h1 h2=>?_
 (repeat' (first
 | (with_reducible first|assumption|(refine Qw hK _ ?_;clear hK K)|refine Qw ‹_› _ ?_|refine Qx ‹_› ?_|refine Qi fun K hK=>?_|refine Qj T fun K hK=>?_|refine Ql fun A B hA hB=>?_|refine Qn ?_|refine Qr ?_)
 | ((with_reducible first|apply Qy|apply Qz|apply QA)<;>intro hb<;>try simp only[nr] at hb)
 |simp only[go_sem,↓reduceIte,reduceIte,Qa,Qh,Qb,Qc,Qd,Qe,Qf,Qg,reduceCtorEq, *]
 |with_reducible refine fun(bn:Bool) hbn=>?_))
 all_goals simp[Zb, *]
theorem JaC(n:Int)(xs:List Snap)(hl:Jc xs.length):CallR Tryz.prog 79 [.agg [.int .i64 n,.slice false (Ja xs)]] (.val (.int .i64 (xs.length-1))):=by
 refine QD (T:=T) Tryz.call79 Tryz.func79 rfl Tryz.ntmps79 (congrArg Array.toList Tryz.results79) (by decide) fun ts hn h0=>?_
 (repeat' (first
 | (with_reducible first|assumption|(refine Qw hK _ ?_;clear hK K)|refine Qw ‹_› _ ?_|refine Qx ‹_› ?_|refine Qi fun K hK=>?_|refine Qj T fun K hK=>?_|refine Ql fun A B hA hB=>?_|refine Qn ?_|refine Qr ?_)
 | ((with_reducible first|apply Qy|apply Qz|apply QA)<;>intro hb<;>try simp only[nr] at hb)
 |simp only[go_sem,↓reduceIte,reduceIte,Qa,Qh,Qb,Qc,Qd,Qe,Qf,Qg,reduceCtorEq, *,Jgx hl]
 |with_reducible refine fun(bn:Bool) hbn=>?_))
def JaF(next:Int):List Snap→Int→Bool
 | [],_=>true
 |s :: r,ahead=>Zb s.id (IntKind.i64.wrap (ahead+1)) next && Zb s.pins (if r=[] then 0 else 1) 10000 && JaF next r s.id
def ZP(p:Pins):Bool:=JaF p.next' p.snaps 0 && (Zb p.next' 0 2147483647 && decide (p.snaps.length≤1000))
theorem Jf1(next:Int)(xs:List Snap)(hl:Jc xs.length):CallR Tryz.prog 34 [.agg [.int .i64 next,.slice false (Ja xs)]] (.val (.bool (ZP ⟨next,xs⟩))):=by
 refine QD (T:=T) Tryz.call34 Tryz.func34 rfl Tryz.ntmps34 (congrArg Array.toList Tryz.results34) (by decide) fun ts hn h0=>?_
 (repeat' (first
 | (with_reducible first|refine callX.by (JaC _ _ ?_) ?_|refine callX.by (Jgy _ _ _) ?_|assumption|(refine Qw hK _ ?_;clear hK K)|refine Qw ‹_› _ ?_|refine Qx ‹_› ?_|refine Qi fun K hK=>?_|refine Qj T fun K hK=>?_|refine Ql fun A B hA hB=>?_|refine Qm ?_|refine Qn ?_|refine Qp ?_|refine Qr ?_)
 | ((with_reducible first|apply Qy|apply Qz|apply QA)<;>intro hb<;>try simp only[nr] at hb)
 |simp only[go_sem,↓reduceIte,reduceIte,Qa,Qh,Qb,Qc,Qd,Qe,Qf,Qg,reduceCtorEq, *]
 |with_reducible refine fun(bn:Bool) hbn=>?_))
 refine Qs [1,8,9] (fun m ts'=>∃(i:Nat),∃(a:Int),m=xs.length-i∧i≤xs.length∧JaF next xs 0=JaF next (xs.drop i) a∧ts'.tmp 3=.int .i64 a∧ts'.tmp 10=.int .i64 i) xs.length ?_ ?_
 ·refine⟨0,0,?_⟩
  simp only[go_sem,↓reduceIte,reduceIte,Qa,Qh,Qb,Qc,Qd,Qe,Qf,Qg,reduceCtorEq, *]
 ·rintro m A hM ts' hk ⟨i,a,hm,f1,f2,s1,s2⟩
  simp only[go_sem,↓reduceIte,reduceIte,Qa,Qh,Qb,Qc,Qd,Qe,Qf,Qg,reduceCtorEq, *] at hk
  by_cases hlt:i<xs.length
  ·rw[List.drop_eq_getElem_cons hlt,JaF] at f2
   have hr:(xs.drop (i+1)=[])=((i:Int)=xs.length-1):=by rw[List.drop_eq_nil_iff];apply propext;omega
   simp only[hr] at f2
   (repeat' (first
 | (with_reducible first|refine callX.by (JaC _ _ ?_) ?_|refine callX.by (Jgy _ _ _) ?_|assumption|(refine Qw hK _ ?_;clear hK K)|refine Qw ‹_› _ ?_|refine Qx ‹_› ?_|refine Qi fun K hK=>?_|refine Qj T fun K hK=>?_|refine Ql fun A B hA hB=>?_|refine Qm ?_|refine Qn ?_|refine Qp ?_|refine Qr ?_)
 | ((with_reducible first|apply Qy|apply Qz|apply QA)<;>intro hb<;>try simp only[nr] at hb)
 |simp only[go_sem,↓reduceIte,reduceIte,Qa,Qh,Qb,Qc,Qd,Qe,Qf,Qg,reduceCtorEq, *]
 |with_reducible refine fun(bn:Bool) hbn=>?_))
   all_goals ((repeat clear hK);(repeat clear hA);(repeat clear hB))
   all_goals first
    | (clear hM;simp_all[ZP];done)
    | (refine hM.on (xs.length-(i+1)) (by omega) (by simp only[go_sem,↓reduceIte,reduceIte,Qa,Qh,Qb,Qc,Qd,Qe,Qf,Qg,reduceCtorEq, *,Jf hlt hl]) ⟨i+1,xs[i].id,rfl,by omega,by simp_all,?_⟩;simp only[go_sem,↓reduceIte,reduceIte,Qa,Qh,Qb,Qc,Qd,Qe,Qf,Qg,reduceCtorEq, *,Jf hlt hl];done)
  ·rw[List.drop_eq_nil_of_le (by omega),JaF] at f2
   (repeat' (first
 | (with_reducible first|refine callX.by (JaC _ _ ?_) ?_|refine callX.by (Jgy _ _ _) ?_|assumption|(refine Qw hK _ ?_;clear hK K)|refine Qw ‹_› _ ?_|refine Qx ‹_› ?_|refine Qi fun K hK=>?_|refine Qj T fun K hK=>?_|refine Ql fun A B hA hB=>?_|refine Qm ?_|refine Qn ?_|refine Qp ?_|refine Qr ?_)
 | ((with_reducible first|apply Qy|apply Qz|apply QA)<;>intro hb<;>try simp only[nr] at hb)
 |simp only[go_sem,↓reduceIte,reduceIte,Qa,Qh,Qb,Qc,Qd,Qe,Qf,Qg,reduceCtorEq, *]
 |with_reducible refine fun(bn:Bool) hbn=>?_))
   all_goals ((repeat clear hK);(repeat clear hA);(repeat clear hB))
   all_goals (clear hM;simp_all[ZP])
theorem Jh6(id pins:Int)(xs:List Res):CallR Tryz.prog 125 [.agg [.int .i64 id,.int .i64 pins,.slice false (Ja xs)]] (.val (.bool (decide (pins=0)))):=by
 refine QD (T:=T) Tryz.call125 Tryz.func125 rfl Tryz.ntmps125 (congrArg Array.toList Tryz.results125) (by decide) fun ts hn h0=>?_
 (repeat' (first
 | (with_reducible first|assumption|(refine Qw hK _ ?_;clear hK K)|refine Qw ‹_› _ ?_|refine Qx ‹_› ?_|refine Qi fun K hK=>?_|refine Qj T fun K hK=>?_|refine Ql fun A B hA hB=>?_|refine Qn ?_|refine Qr ?_)
 | ((with_reducible first|apply Qy|apply Qz|apply QA)<;>intro hb<;>try simp only[nr] at hb)
 |simp only[go_sem,↓reduceIte,reduceIte,Qa,Qh,Qb,Qc,Qd,Qe,Qf,Qg,reduceCtorEq, *]
 |with_reducible refine fun(bn:Bool) hbn=>?_))
def Jr(p:Pins):Pins:=if ZP p then p else ⟨0,[]⟩
theorem Jc8{p:Pins}(h:Jc p.snaps.length):Jc (Jr p).snaps.length:=by
 unfold Jr;split
 ·exact h
 ·simp[Jc]
theorem JaI(next:Int)(xs:List Snap)(hl:Jc xs.length):CallR Tryz.prog 60 [.agg [.int .i64 next,.slice false (Ja xs)]] (.val (Dat.av (Jr ⟨next,xs⟩))):=by
 refine QD (T:=T) Tryz.call60 Tryz.func60 rfl Tryz.ntmps60 (congrArg Array.toList Tryz.results60) (by decide) fun ts hn h0=>?_
 (repeat' (first
 | (with_reducible first|refine callX.by (Jf1 _ _ ?_) ?_|assumption|(refine Qw hK _ ?_;clear hK K)|refine Qw ‹_› _ ?_|refine Qx ‹_› ?_|refine Qi fun K hK=>?_|refine Qj T fun K hK=>?_|refine Ql fun A B hA hB=>?_|refine Qn ?_|refine Qr ?_)
 | ((with_reducible first|apply Qy|apply Qz|apply QA)<;>intro hb<;>try simp only[nr] at hb)
 |simp only[go_sem,↓reduceIte,reduceIte,Qa,Qh,Qb,Qc,Qd,Qe,Qf,Qg,reduceCtorEq, *]
 |with_reducible refine fun(bn:Bool) hbn=>?_))
 all_goals simp[Jr, *,Yh,JkL]
theorem J6(kind ver port:Int)(name to:List UInt8)(rs:List Rule)(hs:List Int):CallR Tryz.prog 56 [.agg [.int .i64 kind,.str name,.int .i64 ver,.int .i64 port,.str to,.slice false (Ja rs),.slice false (Ja hs)]] (.val (.agg [.int .i64 kind,.str name])):=by
 refine QD (T:=T) Tryz.call56 Tryz.func56 rfl Tryz.ntmps56 (congrArg Array.toList Tryz.results56) (by decide) fun ts hn h0=>?_
 (repeat' (first
 | (with_reducible first|assumption|(refine Qw hK _ ?_;clear hK K)|refine Qw ‹_› _ ?_|refine Qx ‹_› ?_|refine Qi fun K hK=>?_|refine Qj T fun K hK=>?_|refine Ql fun A B hA hB=>?_|refine Qn ?_|refine Qr ?_)
 | ((with_reducible first|apply Qy|apply Qz|apply QA)<;>intro hb<;>try simp only[nr] at hb)
 |simp only[go_sem,↓reduceIte,reduceIte,Qa,Qh,Qb,Qc,Qd,Qe,Qf,Qg,reduceCtorEq, *]
 |with_reducible refine fun(bn:Bool) hbn=>?_))
def Vw(xs:List Snap)(id:Int):Nat→Int
 |0=>-1
 |n+1=>if(xs.getD n default).id=id then n else Vw xs id n
theorem Jel{xs:List Snap}{id:Int}{k:Nat}(h0:0<k)(hk:k≤xs.length):Vw xs id k=if(xs[k-1]'(by omega)).id=id then (k:Int)-1 else Vw xs id (k-1):=by
 obtain⟨n,rfl⟩:∃n,k=n+1:=⟨k-1,by omega⟩
 rw[Vw]
 have e:xs.getD n default=xs[n]:=by simp[show n<xs.length by omega]
 simp only[Nat.add_sub_cancel,e]
 split<;>simp
theorem Ji6(xs:List Snap)(id:Int):∀k,Vw xs id k<k∧-1≤Vw xs id k
 |0=>by simp[Vw]
 |k+1=>by
  have:=Ji6 xs id k
  rw[Vw]
  split<;>omega
theorem Ji9(next id:Int)(xs:List Snap)(hl:Jc xs.length):CallR Tryz.prog 61 [.agg [.int .i64 next,.slice false (Ja xs)],.int .i64 id] (.val (.int .i64 (Vw xs id xs.length))):=by
 refine CallR.go2 (T:=T) Tryz.call61 Tryz.func61 rfl Tryz.ntmps61 (congrArg Array.toList Tryz.results61) (by decide) fun ts hn h0 h1=>?_
 (repeat' (first
 | (with_reducible first|refine callX.by (JaC _ _ ?_) ?_|assumption|(refine Qw hK _ ?_;clear hK K)|refine Qw ‹_› _ ?_|refine Qx ‹_› ?_|refine Qi fun K hK=>?_|refine Qj T fun K hK=>?_|refine Ql fun A B hA hB=>?_|refine Qn ?_|refine Qo ?_|refine Qq ?_|refine Qr ?_)
 | ((with_reducible first|apply Qy|apply Qz|apply QA)<;>intro hb<;>try simp only[nr] at hb)
 |simp only[go_sem,↓reduceIte,reduceIte,Qa,Qh,Qb,Qc,Qd,Qe,Qf,Qg,reduceCtorEq, *]
 |with_reducible refine fun(bn:Bool) hbn=>?_))
 refine SpecC.scopeF 0 [1,2] (fun m ts'=>∃(k:Nat),m=k∧k≤xs.length∧Vw xs id xs.length=Vw xs id k∧ts'.tmp 2=.ref 2 (ts.gen 2+1) 0∧ts'.gen 2=ts.gen 2+1∧ts'.obj 2=.box [.int .i64 next,.slice false (Ja xs)]∧ts'.tmp 5=.int .i64 (k-1)) (xs.length+1) rfl ?_ ?_
 ·intro J hM
  (repeat' (first
 | (with_reducible first|refine callX.by (JaC _ _ ?_) ?_|assumption|(refine Qw hK _ ?_;clear hK K)|refine Qw ‹_› _ ?_|refine Qx ‹_› ?_|refine Qi fun K hK=>?_|refine Qj T fun K hK=>?_|refine Ql fun A B hA hB=>?_|refine Qn ?_|refine Qo ?_|refine Qq ?_|refine Qr ?_)
 | ((with_reducible first|apply Qy|apply Qz|apply QA)<;>intro hb<;>try simp only[nr] at hb)
 |simp only[go_sem,↓reduceIte,reduceIte,Qa,Qh,Qb,Qc,Qd,Qe,Qf,Qg,reduceCtorEq, *]
 |with_reducible refine fun(bn:Bool) hbn=>?_))
  all_goals ((repeat clear hK);(repeat clear hA);(repeat clear hB))
  ·have hb0:0<xs.length:=by assumption
   have e:=Jel (id:=id) hb0 (Nat.le_refl _)
   rw[if_neg (of_decide_eq_false hb)] at e
   (refine hM.on (xs.length-1) (by omega) (by simp only[go_sem,↓reduceIte,reduceIte,Qa,Qh,Qb,Qc,Qd,Qe,Qf,Qg,reduceCtorEq, *,JeX (Nat.le_refl _) hb0 hl,-e]) ⟨xs.length-1,rfl,by omega,e,?_⟩;simp only[go_sem,↓reduceIte,reduceIte,Qa,Qh,Qb,Qc,Qd,Qe,Qf,Qg,reduceCtorEq, *,JeX (Nat.le_refl _) hb0 hl,-e];done)
  ·have hb0:0<xs.length:=by assumption
   rw[Jel (id:=id) hb0 (Nat.le_refl _),if_pos (of_decide_eq_true hb)]
  ·have hb0:xs.length=0:=by omega
   rw[hb0];rfl
 ·rintro m A hM ts' hk ⟨k,hm,f1,f2,s1,s2,s3,s4⟩
  simp only[go_sem,↓reduceIte,reduceIte,Qa,Qh,Qb,Qc,Qd,Qe,Qf,Qg,reduceCtorEq, *] at hk
  obtain rfl:=hm
  (repeat' (first
 | (with_reducible first|refine callX.by (JaC _ _ ?_) ?_|assumption|(refine Qw hK _ ?_;clear hK K)|refine Qw ‹_› _ ?_|refine Qx ‹_› ?_|refine Qi fun K hK=>?_|refine Qj T fun K hK=>?_|refine Ql fun A B hA hB=>?_|refine Qn ?_|refine Qo ?_|refine Qq ?_|refine Qr ?_)
 | ((with_reducible first|apply Qy|apply Qz|apply QA)<;>intro hb<;>try simp only[nr] at hb)
 |simp only[go_sem,↓reduceIte,reduceIte,Qa,Qh,Qb,Qc,Qd,Qe,Qf,Qg,reduceCtorEq, *]
 |with_reducible refine fun(bn:Bool) hbn=>?_))
  all_goals ((repeat clear hK);(repeat clear hA);(repeat clear hB))
  ·have hb0:0<m:=by assumption
   have e:=Jel (id:=id) hb0 f1
   rw[if_neg (of_decide_eq_false hb)] at e
   (refine hM.on (m-1) (by omega) (by simp only[go_sem,↓reduceIte,reduceIte,Qa,Qh,Qb,Qc,Qd,Qe,Qf,Qg,reduceCtorEq, *,JeX f1 hb0 hl,-e,-f2]) ⟨m-1,rfl,by omega,f2.trans e,?_⟩;simp only[go_sem,↓reduceIte,reduceIte,Qa,Qh,Qb,Qc,Qd,Qe,Qf,Qg,reduceCtorEq, *,JeX f1 hb0 hl,-e,-f2];done)
  ·have hb0:0<m:=by assumption
   rw[Jel (id:=id) hb0 f1,if_pos (of_decide_eq_true hb)]
  ·have hb0:m=0:=by omega
   rw[hb0];rfl
def JY(p:Pins):Int×List Res×Bool :=
 match (Jr p).snaps.getLast? with
 |none=>(0,[],false)
 |some s=>(s.id,s.l,true)
theorem JdL(next:Int)(xs:List Snap)(hl:Jc xs.length):CallR Tryz.prog 55 [.agg [.int .i64 next,.slice false (Ja xs)]] (.val (.tup [.int .i64 (JY ⟨next,xs⟩).1,.slice false (Ja (JY ⟨next,xs⟩).2.1),.bool (JY ⟨next,xs⟩).2.2])):=by
 have hl2:Jc (Jr ⟨next,xs⟩).snaps.length:=Jc8 hl
 refine QD (T:=T) Tryz.call55 Tryz.func55 rfl Tryz.ntmps55 (congrArg Array.toList Tryz.results55) (by decide) fun ts hn h0=>?_
 (repeat' (first
 | (with_reducible first|refine callX.by (JaI _ _ ?_) ?_|refine callX.by (JaC _ _ ?_) ?_|assumption|(refine Qw hK _ ?_;clear hK K)|refine Qw ‹_› _ ?_|refine Qx ‹_› ?_|refine Qi fun K hK=>?_|refine Qj T fun K hK=>?_|refine Qk (id:=5) T mixed [([12],[14,16,17,18,19,20,21,22,23]),([13],[14,17,18,19,20,21,22,23]),([14],[12,13,17,18,19,20,21,22,23]),([15],[18,19,20,21,22,23]),([16],[12,18,19,20,21,22,23]),([17],[12,13,14,18,19,20,21,22,23]),([18],[12,13,14,15,16,17,20,22,23,2]),([19],[12,13,14,15,16,17,20,23,2]),([20],[12,13,14,15,16,17,18,19,23,2]),([21],[12,13,14,15,16,17,2]),([22],[12,13,14,15,16,17,18,2]),([23],[12,13,14,15,16,17,18,19,20,2]),([2],[18,19,20,21,22,23])] (by kernel_rfl) fun K hK=>?_|refine Ql fun A B hA hB=>?_|refine Qn ?_|refine Qr ?_)
 | ((with_reducible first|apply Qy|apply Qz|apply QA)<;>intro hb<;>try simp only[nr] at hb)
 |simp only[go_sem,↓reduceIte,reduceIte,Qa,Qh,Qb,Qc,Qd,Qe,Qf,Qg,reduceCtorEq, *]
 |with_reducible refine fun(bn:Bool) hbn=>?_))
 ·have h0:(Jr ⟨next,xs⟩).snaps=[]:=by simpa using hb
  simp[JY,h0,Yh]
 ·simp[JY,List.getLast?_eq_getElem?,List.getElem?_eq_getElem (show(Jr ⟨next,xs⟩).snaps.length-1<(Jr ⟨next,xs⟩).snaps.length by omega)]
def JaG(p:Pins)(id:Int):List Res×Bool :=
 let q:=Jr p
 let k:=Vw q.snaps id q.snaps.length
 if k<0 then ([],false) else ((q.snaps.getD k.toNat default).l,true)
theorem ZA(next id:Int)(xs:List Snap)(hl:Jc xs.length):CallR Tryz.prog 23 [.agg [.int .i64 next,.slice false (Ja xs)],.int .i64 id] (.val (.tup [.slice false (Ja (JaG ⟨next,xs⟩ id).1),.bool (JaG ⟨next,xs⟩ id).2])):=by
 have hl2:Jc (Jr ⟨next,xs⟩).snaps.length:=Jc8 hl
 have hp:=Ji6 (Jr ⟨next,xs⟩).snaps id (Jr ⟨next,xs⟩).snaps.length
 refine CallR.go2 (T:=T) Tryz.call23 Tryz.func23 rfl Tryz.ntmps23 (congrArg Array.toList Tryz.results23) (by decide) fun ts hn h0 h1=>?_
 by_cases hneg:Vw (Jr ⟨next,xs⟩).snaps id (Jr ⟨next,xs⟩).snaps.length<0
 ·(repeat' (first
 | (with_reducible first|refine callX.by (JaI _ _ ?_) ?_|refine callX.by (Ji9 _ _ _ ?_) ?_|assumption|(refine Qw hK _ ?_;clear hK K)|refine Qw ‹_› _ ?_|refine Qx ‹_› ?_|refine Qi fun K hK=>?_|refine Qj T fun K hK=>?_|refine Ql fun A B hA hB=>?_|refine Qn ?_|refine Qr ?_)
 | ((with_reducible first|apply Qy|apply Qz|apply QA)<;>intro hb<;>try simp only[nr] at hb)
 |simp only[go_sem,↓reduceIte,reduceIte,Qa,Qh,Qb,Qc,Qd,Qe,Qf,Qg,reduceCtorEq, *]
 |with_reducible refine fun(bn:Bool) hbn=>?_))
  all_goals simp[JaG,hneg,Yh]
 ·obtain⟨k,hk⟩:∃k:Nat,Vw (Jr ⟨next,xs⟩).snaps id (Jr ⟨next,xs⟩).snaps.length=k:=⟨_,(Int.toNat_of_nonneg (by omega)).symm⟩
  have hlt:k<(Jr ⟨next,xs⟩).snaps.length:=by omega
  (repeat' (first
 | (with_reducible first|refine callX.by (JaI _ _ ?_) ?_|refine callX.by (Ji9 _ _ _ ?_) ?_|assumption|(refine Qw hK _ ?_;clear hK K)|refine Qw ‹_› _ ?_|refine Qx ‹_› ?_|refine Qi fun K hK=>?_|refine Qj T fun K hK=>?_|refine Ql fun A B hA hB=>?_|refine Qn ?_|refine Qr ?_)
 | ((with_reducible first|apply Qy|apply Qz|apply QA)<;>intro hb<;>try simp only[nr] at hb)
 |simp only[go_sem,↓reduceIte,reduceIte,Qa,Qh,Qb,Qc,Qd,Qe,Qf,Qg,reduceCtorEq, *]
 |with_reducible refine fun(bn:Bool) hbn=>?_))
  all_goals simp[JaG,hk,hlt,JmD]
@[go_sem] def Wd0:List (List Nat×List Nat):=[([10],[11,12,13,14,15,16,17]),([11],[10,14,15,16,17]),([12],[10,14,15,17]),([13],[10,14,15]),([14],[10,11,12,13,17]),([15],[10,11,12,13]),([16],[10,11]),([17],[10,11,12,14])]
@[go_sem] def Wd1:List (List Nat×List Nat):=[([20],[21,22,25,26,27,28,29]),([21],[20,24,25,26,27,28,29]),([22],[20,25,26,27,28,29]),([23],[]),([24],[21]),([25],[20,21,22,27,28,29]),([26],[20,21,22,27,28,29]),([27],[20,21,22,25,26]),([28],[20,21,22,25,26]),([29],[20,21,22,25,26])]
@[go_sem] theorem JxA:Tryz.prog.eqGuardType Tryz.prog.depth 22=false:=by kernel_rfl
@[go_sem] theorem Jxz:Tryz.prog.eqGuardType Tryz.prog.depth 26=false:=by kernel_rfl
@[go_sem] theorem JxB:Tryz.prog.eqGuardType Tryz.prog.depth 24=false:=by kernel_rfl
@[go_sem] theorem JIM:Tryz.prog.stoodInHeld 24=false:=by kernel_rfl
def JS(n:Int):Int:=max 1 (min n 2147483647)
def VM(m x:Int):Int:=max 0 (min x m)
def z4:Four:=⟨0,0,0,0⟩
@[go_sem] theorem Jgz:z4.a0=0:=rfl
@[go_sem] theorem JgA:z4.a1=0:=rfl
@[go_sem] theorem JgB:z4.a2=0:=rfl
@[go_sem] theorem JgC:z4.a3=0:=rfl
def Jaa(f:Four)(k:Int):Int:=if k=0 then f.a0 else if k=1 then f.a1 else if k=2 then f.a2 else f.a3
def Jbq(f:Four)(k n:Int):Four:=if k=0 then { f with a0:=n } else if k=1 then { f with a1:=n } else if k=2 then { f with a2:=n } else { f with a3:=n }
theorem Jae(n:Int):CallR Tryz.prog 75 [.int .i64 n] (.val (.int .i64 (JS n))):=by
 refine QD (T:=T) Tryz.call75 Tryz.func75 rfl Tryz.ntmps75 (congrArg Array.toList Tryz.results75) (by decide) fun ts hn h0=>?_
 (repeat' (first
 | (with_reducible first|assumption|(refine Qw hK _ ?_;clear hK K)|refine Qw ‹_› _ ?_|refine Qx ‹_› ?_|refine Qi fun K hK=>?_|refine Qj T fun K hK=>?_|refine Ql fun A B hA hB=>?_|refine Qn ?_|refine Qr ?_)
 | ((with_reducible first|apply Qy|apply Qz|apply QA)<;>intro hb<;>try simp only[nr] at hb)
 |simp only[go_sem,↓reduceIte,reduceIte,Qa,Qh,Qb,Qc,Qd,Qe,Qf,Qg,reduceCtorEq, *]
 |with_reducible refine fun(bn:Bool) hbn=>?_))
 all_goals rfl
theorem Jc6(n:Int):CallR Tryz.prog 89 [.int .i64 n] (.val (.tup [.agg [.int .i64 0,.int .i64 0,.int .i64 0,.int .i64 0,.bool false,.bool false,.bool false,.bool false,.int .i64 (JS n)],.agg [.int .i64 0,.int .i64 0,.int .i64 0,.int .i64 0,.int .i64 (JS n)]])):=by
 have w1:=Jae n
 refine QD (T:=T) Tryz.call89 Tryz.func89 rfl Tryz.ntmps89 (congrArg Array.toList Tryz.results89) (by decide) fun ts hn h0=>?_
 (repeat' (first
 | (with_reducible first|refine callX.by (w1) ?_|refine callX.by (Jae _) ?_|assumption|(refine Qw hK _ ?_;clear hK K)|refine Qw ‹_› _ ?_|refine Qx ‹_› ?_|refine Qi fun K hK=>?_|refine Qj T fun K hK=>?_|refine Ql fun A B hA hB=>?_|refine Qn ?_|refine Qr ?_)
 | ((with_reducible first|apply Qy|apply Qz|apply QA)<;>intro hb<;>try simp only[nr] at hb)
 |simp only[go_sem,↓reduceIte,reduceIte,Qa,Qh,Qb,Qc,Qd,Qe,Qf,Qg,reduceCtorEq, *,-w1]
 |with_reducible refine fun(bn:Bool) hbn=>?_))
 all_goals trace_state
theorem JbP(n:Int):CallR Tryz.prog 53 [.int .i64 n] (.val (.agg [.int .i64 0,.int .i64 0,.int .i64 0,.int .i64 0,.int .i64 (JS n)])):=by
 have w1:=Jc6 n
 refine QD (T:=T) Tryz.call53 Tryz.func53 rfl Tryz.ntmps53 (congrArg Array.toList Tryz.results53) (by decide) fun ts hn h0=>?_
 (repeat' (first
 | (with_reducible first|refine callX.by (w1) ?_|refine callX.by (Jc6 _) ?_|assumption|(refine Qw hK _ ?_;clear hK K)|refine Qw ‹_› _ ?_|refine Qx ‹_› ?_|refine Qi fun K hK=>?_|refine Qj T fun K hK=>?_|refine Ql fun A B hA hB=>?_|refine Qn ?_|refine Qr ?_)
 | ((with_reducible first|apply Qy|apply Qz|apply QA)<;>intro hb<;>try simp only[nr] at hb)
 |simp only[go_sem,↓reduceIte,reduceIte,Qa,Qh,Qb,Qc,Qd,Qe,Qf,Qg,reduceCtorEq, *,-w1]
 |with_reducible refine fun(bn:Bool) hbn=>?_))
 all_goals trace_state
theorem Jbd(k:Int):CallR Tryz.prog 84 [.int .i64 k] (.val (.bool (decide (0≤k∧k<4)))):=by
 refine QD (T:=T) Tryz.call84 Tryz.func84 rfl Tryz.ntmps84 (congrArg Array.toList Tryz.results84) (by decide) fun ts hn h0=>?_
 (repeat' (first
 | (with_reducible first|assumption|(refine Qw hK _ ?_;clear hK K)|refine Qw ‹_› _ ?_|refine Qx ‹_› ?_|refine Qi fun K hK=>?_|refine Qj T fun K hK=>?_|refine Ql fun A B hA hB=>?_|refine Qn ?_|refine Qr ?_)
 | ((with_reducible first|apply Qy|apply Qz|apply QA)<;>intro hb<;>try simp only[nr] at hb)
 |simp only[go_sem,↓reduceIte,reduceIte,Qa,Qh,Qb,Qc,Qd,Qe,Qf,Qg,reduceCtorEq, *]
 |with_reducible refine fun(bn:Bool) hbn=>?_))
 all_goals (rw[Bool.eq_iff_iff];simp_all)
def Yp(i:In):Bool:=(decide (VM i.max i.last.a0=i.last.a0) && (decide (VM i.max i.last.a1=i.last.a1) && (decide (VM i.max i.last.a2=i.last.a2) && decide (VM i.max i.last.a3=i.last.a3)))) && decide (i.max=JS i.max)
def nrA(f:Four)(m:Int)(n:Nat):List AV:=[.int .i64 (if 0<n then VM m f.a0 else f.a0),.int .i64 (if 1<n then VM m f.a1 else f.a1),.int .i64 (if 2<n then VM m f.a2 else f.a2),.int .i64 (if 3<n then VM m f.a3 else f.a3)]
theorem Jeg(f:Four)(m:Int):nrA f m 0=[.int .i64 f.a0,.int .i64 f.a1,.int .i64 f.a2,.int .i64 f.a3]:=rfl
theorem Jc2(f:Four)(m:Int):nrA f m 1=[.int .i64 (max 0 (min f.a0 m)),.int .i64 f.a1,.int .i64 f.a2,.int .i64 f.a3]:=rfl
theorem Jc3(f:Four)(m:Int):nrA f m 2=[.int .i64 (max 0 (min f.a0 m)),.int .i64 (max 0 (min f.a1 m)),.int .i64 f.a2,.int .i64 f.a3]:=rfl
theorem Jc4(f:Four)(m:Int):nrA f m 3=[.int .i64 (max 0 (min f.a0 m)),.int .i64 (max 0 (min f.a1 m)),.int .i64 (max 0 (min f.a2 m)),.int .i64 f.a3]:=rfl
theorem JfP(f:Four)(m:Int):nrA f m 4=[.int .i64 (max 0 (min f.a0 m)),.int .i64 (max 0 (min f.a1 m)),.int .i64 (max 0 (min f.a2 m)),.int .i64 (max 0 (min f.a3 m))]:=rfl
def kz:Nat→Int
 |0=>0
 |1=>1
 |2=>2
 |3=>3
 |_=>4
theorem kz0:kz 0=0:=rfl
theorem kz1:kz 1=1:=rfl
theorem kz2:kz 2=2:=rfl
theorem kz3:kz 3=3:=rfl
theorem kz4:kz 4=4:=rfl
theorem YB:(0:Int)<4∧(1:Int)<4∧(2:Int)<4∧(3:Int)<4∧¬(4:Int)<4:=by decide
theorem YK:(0:Int)<((4:Nat):Int)∧(1:Int)<((4:Nat):Int)∧(2:Int)<((4:Nat):Int)∧(3:Int)<((4:Nat):Int):=by decide
theorem YQ:(0:Int)≤0∧(0:Int)≤1∧(0:Int)≤2∧(0:Int)≤3:=by decide
theorem YW:Int.toNat 0=0∧Int.toNat 1=1∧Int.toNat 2=2∧Int.toNat 3=3:=by decide
theorem w04:IntKind.i64.wrap (0+1)=1∧IntKind.i64.wrap (1+1)=2∧IntKind.i64.wrap (2+1)=3∧IntKind.i64.wrap (3+1)=4:=by decide
set_option maxHeartbeats 4000000 in
theorem Jc5(i_last_a0:Int)(i_last_a1:Int)(i_last_a2:Int)(i_last_a3:Int)(i_max:Int):CallR Tryz.prog 32 [.agg [.int .i64 i_last_a0,.int .i64 i_last_a1,.int .i64 i_last_a2,.int .i64 i_last_a3,.int .i64 i_max]] (.val (.bool (Yp (⟨⟨i_last_a0,i_last_a1,i_last_a2,i_last_a3⟩,i_max⟩:In)))):=by
 have w1:=Jae i_max
 refine QD (T:=T) Tryz.call32 Tryz.func32 rfl Tryz.ntmps32 (congrArg Array.toList Tryz.results32) (by decide) fun ts hn h0=>?_
 (repeat' (first
 | (with_reducible first|refine callX.by (Jae _) ?_|assumption|(refine Qw hK _ ?_;clear hK K)|refine Qw ‹_› _ ?_|refine Qx ‹_› ?_|refine Qi fun K hK=>?_|refine Qj T fun K hK=>?_|refine Qk (id:=5) T mixed Wd0 (by kernel_rfl) fun K hK=>?_|refine Qk (id:=7) T mixed Wd1 (by kernel_rfl) fun K hK=>?_|refine Ql fun A B hA hB=>?_|refine Qm ?_|refine Qn ?_|refine Qp ?_|refine Qr ?_)
 | ((with_reducible first|apply Qy|apply Qz|apply QA)<;>intro hb<;>try simp only[nr] at hb)
 |simp only[go_sem,↓reduceIte,reduceIte,Qa,Qh,Qb,Qc,Qd,Qe,Qf,Qg,reduceCtorEq, *,-w1]
 |with_reducible refine fun(bn:Bool) hbn=>?_))
 refine Qs [1] (fun m ts'=>∃(n:Nat),∃(g:Nat),m=4-n∧n≤4∧ts'.tmp 3=.ref 3 g 0∧ts'.gen 3=g∧ts'.obj 3=.box (nrA ⟨i_last_a0,i_last_a1,i_last_a2,i_last_a3⟩ i_max n)∧ts'.tmp 7=.int .i64 (kz n)) 4 ?_ ?_
 ·refine⟨0,ts.gen 3+1,rfl,Nat.zero_le _,?_⟩
  simp only[go_sem,↓reduceIte,reduceIte,Qa,Qh,Qb,Qc,Qd,Qe,Qf,Qg,reduceCtorEq, *,-w1,Jeg,kz0]
 ·rintro m A hM ts' hk ⟨n,g,hm,f1,s1,s2,s3,s4⟩
  simp only[go_sem,↓reduceIte,reduceIte,Qa,Qh,Qb,Qc,Qd,Qe,Qf,Qg,reduceCtorEq, *] at hk
  by_cases hlt:n<4
  ·rcases(show n=0∨n=1∨n=2∨n=3 by omega) with rfl|rfl|rfl|rfl
   ·(repeat' (first
 | (with_reducible first|refine callX.by (Jae _) ?_|assumption|(refine Qw hK _ ?_;clear hK K)|refine Qw ‹_› _ ?_|refine Qx ‹_› ?_|refine Qi fun K hK=>?_|refine Qj T fun K hK=>?_|refine Qk (id:=5) T mixed Wd0 (by kernel_rfl) fun K hK=>?_|refine Qk (id:=7) T mixed Wd1 (by kernel_rfl) fun K hK=>?_|refine Ql fun A B hA hB=>?_|refine Qm ?_|refine Qn ?_|refine Qp ?_|refine Qr ?_)
 | ((with_reducible first|apply Qy|apply Qz|apply QA)<;>intro hb<;>try simp only[nr] at hb)
 |simp only[go_sem,↓reduceIte,reduceIte,Qa,Qh,Qb,Qc,Qd,Qe,Qf,Qg,reduceCtorEq, *,-w1,Jeg,kz0,YB,YK,YQ,YW]
 |with_reducible refine fun(bn:Bool) hbn=>?_))
    all_goals ((repeat clear hK);(repeat clear hA);(repeat clear hB))
    all_goals (refine hM.on (3) (by omega) (by simp only[go_sem,↓reduceIte,reduceIte,Qa,Qh,Qb,Qc,Qd,Qe,Qf,Qg,reduceCtorEq, *,-w1,Jeg,Jc2,kz0,kz1,w04]) ⟨1,g,rfl,by omega,?_⟩;simp only[go_sem,↓reduceIte,reduceIte,Qa,Qh,Qb,Qc,Qd,Qe,Qf,Qg,reduceCtorEq, *,-w1,Jeg,Jc2,kz0,kz1,w04];done)
   ·(repeat' (first
 | (with_reducible first|refine callX.by (Jae _) ?_|assumption|(refine Qw hK _ ?_;clear hK K)|refine Qw ‹_› _ ?_|refine Qx ‹_› ?_|refine Qi fun K hK=>?_|refine Qj T fun K hK=>?_|refine Qk (id:=5) T mixed Wd0 (by kernel_rfl) fun K hK=>?_|refine Qk (id:=7) T mixed Wd1 (by kernel_rfl) fun K hK=>?_|refine Ql fun A B hA hB=>?_|refine Qm ?_|refine Qn ?_|refine Qp ?_|refine Qr ?_)
 | ((with_reducible first|apply Qy|apply Qz|apply QA)<;>intro hb<;>try simp only[nr] at hb)
 |simp only[go_sem,↓reduceIte,reduceIte,Qa,Qh,Qb,Qc,Qd,Qe,Qf,Qg,reduceCtorEq, *,-w1,Jc2,kz1,YB,YK,YQ,YW]
 |with_reducible refine fun(bn:Bool) hbn=>?_))
    all_goals ((repeat clear hK);(repeat clear hA);(repeat clear hB))
    all_goals (refine hM.on (2) (by omega) (by simp only[go_sem,↓reduceIte,reduceIte,Qa,Qh,Qb,Qc,Qd,Qe,Qf,Qg,reduceCtorEq, *,-w1,Jc2,Jc3,kz1,kz2,w04]) ⟨2,g,rfl,by omega,?_⟩;simp only[go_sem,↓reduceIte,reduceIte,Qa,Qh,Qb,Qc,Qd,Qe,Qf,Qg,reduceCtorEq, *,-w1,Jc2,Jc3,kz1,kz2,w04];done)
   ·(repeat' (first
 | (with_reducible first|refine callX.by (Jae _) ?_|assumption|(refine Qw hK _ ?_;clear hK K)|refine Qw ‹_› _ ?_|refine Qx ‹_› ?_|refine Qi fun K hK=>?_|refine Qj T fun K hK=>?_|refine Qk (id:=5) T mixed Wd0 (by kernel_rfl) fun K hK=>?_|refine Qk (id:=7) T mixed Wd1 (by kernel_rfl) fun K hK=>?_|refine Ql fun A B hA hB=>?_|refine Qm ?_|refine Qn ?_|refine Qp ?_|refine Qr ?_)
 | ((with_reducible first|apply Qy|apply Qz|apply QA)<;>intro hb<;>try simp only[nr] at hb)
 |simp only[go_sem,↓reduceIte,reduceIte,Qa,Qh,Qb,Qc,Qd,Qe,Qf,Qg,reduceCtorEq, *,-w1,Jc3,kz2,YB,YK,YQ,YW]
 |with_reducible refine fun(bn:Bool) hbn=>?_))
    all_goals ((repeat clear hK);(repeat clear hA);(repeat clear hB))
    all_goals (refine hM.on (1) (by omega) (by simp only[go_sem,↓reduceIte,reduceIte,Qa,Qh,Qb,Qc,Qd,Qe,Qf,Qg,reduceCtorEq, *,-w1,Jc3,Jc4,kz2,kz3,w04]) ⟨3,g,rfl,by omega,?_⟩;simp only[go_sem,↓reduceIte,reduceIte,Qa,Qh,Qb,Qc,Qd,Qe,Qf,Qg,reduceCtorEq, *,-w1,Jc3,Jc4,kz2,kz3,w04];done)
   ·(repeat' (first
 | (with_reducible first|refine callX.by (Jae _) ?_|assumption|(refine Qw hK _ ?_;clear hK K)|refine Qw ‹_› _ ?_|refine Qx ‹_› ?_|refine Qi fun K hK=>?_|refine Qj T fun K hK=>?_|refine Qk (id:=5) T mixed Wd0 (by kernel_rfl) fun K hK=>?_|refine Qk (id:=7) T mixed Wd1 (by kernel_rfl) fun K hK=>?_|refine Ql fun A B hA hB=>?_|refine Qm ?_|refine Qn ?_|refine Qp ?_|refine Qr ?_)
 | ((with_reducible first|apply Qy|apply Qz|apply QA)<;>intro hb<;>try simp only[nr] at hb)
 |simp only[go_sem,↓reduceIte,reduceIte,Qa,Qh,Qb,Qc,Qd,Qe,Qf,Qg,reduceCtorEq, *,-w1,Jc4,kz3,YB,YK,YQ,YW]
 |with_reducible refine fun(bn:Bool) hbn=>?_))
    all_goals ((repeat clear hK);(repeat clear hA);(repeat clear hB))
    all_goals (refine hM.on (0) (by omega) (by simp only[go_sem,↓reduceIte,reduceIte,Qa,Qh,Qb,Qc,Qd,Qe,Qf,Qg,reduceCtorEq, *,-w1,Jc4,JfP,kz3,kz4,w04]) ⟨4,g,rfl,by omega,?_⟩;simp only[go_sem,↓reduceIte,reduceIte,Qa,Qh,Qb,Qc,Qd,Qe,Qf,Qg,reduceCtorEq, *,-w1,Jc4,JfP,kz3,kz4,w04];done)
  ·have e4:n=4:=by omega
   subst e4
   (repeat' (first
 | (with_reducible first|refine callX.by (w1) ?_|refine callX.by (Jae _) ?_|assumption|(refine Qw hK _ ?_;clear hK K)|refine Qw ‹_› _ ?_|refine Qx ‹_› ?_|refine Qi fun K hK=>?_|refine Qj T fun K hK=>?_|refine Qk (id:=5) T mixed Wd0 (by kernel_rfl) fun K hK=>?_|refine Qk (id:=7) T mixed Wd1 (by kernel_rfl) fun K hK=>?_|refine Ql fun A B hA hB=>?_|refine Qm ?_|refine Qn ?_|refine Qp ?_|refine Qr ?_)
 | ((with_reducible first|apply Qy|apply Qz|apply QA)<;>intro hb<;>try simp only[nr] at hb)
 |simp only[go_sem,↓reduceIte,reduceIte,Qa,Qh,Qb,Qc,Qd,Qe,Qf,Qg,reduceCtorEq, *,-w1,JfP,kz4,YB]
 |with_reducible refine fun(bn:Bool) hbn=>?_))
   all_goals ((repeat clear hK);(repeat clear hA);(repeat clear hB))
   all_goals (unfold Yp VM;simp only;rw[hb];simp)
def Vt(i:In):In:=if Yp i=true then i else ⟨z4,JS i.max⟩
theorem Jbc(i_last_a0:Int)(i_last_a1:Int)(i_last_a2:Int)(i_last_a3:Int)(i_max:Int):CallR Tryz.prog 83 [.agg [.int .i64 i_last_a0,.int .i64 i_last_a1,.int .i64 i_last_a2,.int .i64 i_last_a3,.int .i64 i_max]] (.val (.agg [.int .i64 (Vt (⟨⟨i_last_a0,i_last_a1,i_last_a2,i_last_a3⟩,i_max⟩:In)).last.a0,.int .i64 (Vt (⟨⟨i_last_a0,i_last_a1,i_last_a2,i_last_a3⟩,i_max⟩:In)).last.a1,.int .i64 (Vt (⟨⟨i_last_a0,i_last_a1,i_last_a2,i_last_a3⟩,i_max⟩:In)).last.a2,.int .i64 (Vt (⟨⟨i_last_a0,i_last_a1,i_last_a2,i_last_a3⟩,i_max⟩:In)).last.a3,.int .i64 (Vt (⟨⟨i_last_a0,i_last_a1,i_last_a2,i_last_a3⟩,i_max⟩:In)).max])):=by
 have w1:=Jc5 i_last_a0 i_last_a1 i_last_a2 i_last_a3 i_max
 have w2:=Jc6 i_max
 unfold Vt
 cases hb0:Yp (⟨⟨i_last_a0,i_last_a1,i_last_a2,i_last_a3⟩,i_max⟩:In)
 ·rw[hb0] at w1
  refine QD (T:=T) Tryz.call83 Tryz.func83 rfl Tryz.ntmps83 (congrArg Array.toList Tryz.results83) (by decide) fun ts hn h0=>?_
  (repeat' (first
 | (with_reducible first|refine callX.by (w1) ?_|refine callX.by (w2) ?_|refine callX.by (Jc5 _ _ _ _ _) ?_|refine callX.by (Jc6 _) ?_|assumption|(refine Qw hK _ ?_;clear hK K)|refine Qw ‹_› _ ?_|refine Qx ‹_› ?_|refine Qi fun K hK=>?_|refine Qj T fun K hK=>?_|refine Ql fun A B hA hB=>?_|refine Qn ?_|refine Qr ?_)
 | ((with_reducible first|apply Qy|apply Qz|apply QA)<;>intro hb<;>try simp only[nr] at hb)
 |simp only[go_sem,↓reduceIte,reduceIte,Qa,Qh,Qb,Qc,Qd,Qe,Qf,Qg,reduceCtorEq, *,-w1,-w2]
 |with_reducible refine fun(bn:Bool) hbn=>?_))
  all_goals first|rfl|exact⟨rfl,rfl,rfl,rfl⟩
 ·rw[hb0] at w1
  refine QD (T:=T) Tryz.call83 Tryz.func83 rfl Tryz.ntmps83 (congrArg Array.toList Tryz.results83) (by decide) fun ts hn h0=>?_
  (repeat' (first
 | (with_reducible first|refine callX.by (w1) ?_|refine callX.by (w2) ?_|refine callX.by (Jc5 _ _ _ _ _) ?_|refine callX.by (Jc6 _) ?_|assumption|(refine Qw hK _ ?_;clear hK K)|refine Qw ‹_› _ ?_|refine Qx ‹_› ?_|refine Qi fun K hK=>?_|refine Qj T fun K hK=>?_|refine Ql fun A B hA hB=>?_|refine Qn ?_|refine Qr ?_)
 | ((with_reducible first|apply Qy|apply Qz|apply QA)<;>intro hb<;>try simp only[nr] at hb)
 |simp only[go_sem,↓reduceIte,reduceIte,Qa,Qh,Qb,Qc,Qd,Qe,Qf,Qg,reduceCtorEq, *,-w1,-w2]
 |with_reducible refine fun(bn:Bool) hbn=>?_))
  all_goals first|rfl|trace_state
theorem JiB(i:In):Yp (Vt i)=true:=by
 unfold Vt
 split
 ·assumption
 ·have h1:1≤JS i.max∧JS i.max≤2147483647:=by unfold JS;omega
  have h2:JS (JS i.max)=JS i.max:=by unfold JS;omega
  have h3:VM (JS i.max) 0=0:=by unfold VM;omega
  simp only[Yp,Jgz,JgA,JgB,JgC,h2,h3,decide_true,Bool.and_self]
theorem JfR{i:In}(h:Yp i=true):(0≤i.last.a0∧i.last.a0≤i.max)∧(0≤i.last.a1∧i.last.a1≤i.max)∧(0≤i.last.a2∧i.last.a2≤i.max)∧(0≤i.last.a3∧i.last.a3≤i.max)∧1≤i.max∧i.max≤2147483647:=by
 simp only[Yp,Bool.and_eq_true,decide_eq_true_eq] at h
 obtain⟨⟨h1,h2,h3,h4⟩,h5⟩:=h
 have hb:1≤i.max∧i.max≤2147483647:=by unfold JS at h5;omega
 have key:∀x:Int,VM i.max x=x→0≤x∧x≤i.max:=fun x hx=>by unfold VM at hx;omega
 exact⟨key _ h1,key _ h2,key _ h3,key _ h4,hb⟩
def VB(i:In)(k n:Int):In×Int :=
 if ¬(0≤k∧k<4) then (Vt i,4) else if n≠0∧n=Jaa (Vt i).last k then (Vt i,9) else if n≠Jaa (Vt i).last k+1∨(Vt i).max<n then (Vt i,11) else (⟨Jbq (Vt i).last k n,(Vt i).max⟩,0)
set_option maxHeartbeats 8000000 in
theorem Jbe(i_last_a0:Int)(i_last_a1:Int)(i_last_a2:Int)(i_last_a3:Int)(i_max:Int)(k n:Int):CallR Tryz.prog 41 [.agg [.int .i64 i_last_a0,.int .i64 i_last_a1,.int .i64 i_last_a2,.int .i64 i_last_a3,.int .i64 i_max],.int .i64 k,.int .i64 n] (.val (.tup [.agg [.int .i64 (VB (⟨⟨i_last_a0,i_last_a1,i_last_a2,i_last_a3⟩,i_max⟩:In) k n).1.last.a0,.int .i64 (VB (⟨⟨i_last_a0,i_last_a1,i_last_a2,i_last_a3⟩,i_max⟩:In) k n).1.last.a1,.int .i64 (VB (⟨⟨i_last_a0,i_last_a1,i_last_a2,i_last_a3⟩,i_max⟩:In) k n).1.last.a2,.int .i64 (VB (⟨⟨i_last_a0,i_last_a1,i_last_a2,i_last_a3⟩,i_max⟩:In) k n).1.last.a3,.int .i64 (VB (⟨⟨i_last_a0,i_last_a1,i_last_a2,i_last_a3⟩,i_max⟩:In) k n).1.max],.int .i64 (VB (⟨⟨i_last_a0,i_last_a1,i_last_a2,i_last_a3⟩,i_max⟩:In) k n).2])):=by
 have w1:=Jbc i_last_a0 i_last_a1 i_last_a2 i_last_a3 i_max
 have w2:=Jbd k
 have hr:=JfR (JiB (⟨⟨i_last_a0,i_last_a1,i_last_a2,i_last_a3⟩,i_max⟩:In))
 unfold VB
 generalize Vt (⟨⟨i_last_a0,i_last_a1,i_last_a2,i_last_a3⟩,i_max⟩:In)=j at *
 obtain⟨⟨l0,l1,l2,l3⟩,m⟩:=j
 simp only at hr w1 ⊢
 obtain⟨⟨r0,q0⟩,⟨r1,q1⟩,⟨r2,q2⟩,⟨r3,q3⟩,rm,qm⟩:=hr
 by_cases hk4:0≤k∧k<4
 rotate_left
 ·rw[if_pos hk4]
  rw[decide_eq_false hk4] at w2
  refine CallR.go3 (T:=T) Tryz.call41 Tryz.func41 rfl Tryz.ntmps41 (congrArg Array.toList Tryz.results41) (by decide) fun ts hn h0 h1 h2=>?_
  (repeat' (first
 | (with_reducible first|refine callX.by (w1) ?_|refine callX.by (w2) ?_|refine callX.by (Jbc _ _ _ _ _) ?_|refine callX.by (Jbd _) ?_|assumption|(refine Qw hK _ ?_;clear hK K)|refine Qw ‹_› _ ?_|refine Qx ‹_› ?_|refine Qi fun K hK=>?_|refine Qj T fun K hK=>?_|refine Ql fun A B hA hB=>?_|refine Qm ?_|refine Qn ?_|refine Qr ?_)
 | ((with_reducible first|apply Qy|apply Qz|apply QA)<;>intro hb<;>try simp only[nr] at hb)
 |simp only[go_sem,↓reduceIte,reduceIte,Qa,Qh,Qb,Qc,Qd,Qe,Qf,Qg,reduceCtorEq, *,-w1,-w2,-hk4]
 |with_reducible refine fun(bn:Bool) hbn=>?_))
  all_goals trace_state
 ·rw[if_neg (by simpa using hk4)]
  rw[decide_eq_true hk4] at w2
  have hx:∃x:Int,x=Jaa ⟨l0,l1,l2,l3⟩ k∧IntKind.i64.wrap (x+1)=x+1∧0≤x:=by
   refine⟨_,rfl,IntWalk.i64_in _ ?_,?_⟩
   all_goals (unfold Jaa;simp only;repeat' split)
   all_goals omega
  obtain⟨x,hx1,hx2,hx3⟩:=hx
  have n1:¬(1:Int)=0:=by decide
  have n2:¬(2:Int)=0∧¬(2:Int)=1:=by decide
  have n3:¬(3:Int)=0∧¬(3:Int)=1∧¬(3:Int)=2:=by decide
  rcases(show k=0∨k=1∨k=2∨k=3 by omega) with rfl|rfl|rfl|rfl
  all_goals
   simp only[Jaa,Jbq,if_true,n1,n2,n3,if_false] at hx1 ⊢
   subst hx1
   clear r0 q0 r1 q1 r2 q2 r3 q3 hk4
   by_cases h0:n=0
   ·rw[if_neg (fun h=>h.1 h0),if_pos (.inl (by omega))]
    have hne:¬(0:Int)=x+1:=by omega
    subst h0
    refine CallR.go3 (T:=T) Tryz.call41 Tryz.func41 rfl Tryz.ntmps41 (congrArg Array.toList Tryz.results41) (by decide) fun ts hn h0 h1 h2=>?_
    (repeat' (first
 | (with_reducible first|refine callX.by (w1) ?_|refine callX.by (w2) ?_|refine callX.by (Jbc _ _ _ _ _) ?_|refine callX.by (Jbd _) ?_|assumption|(refine Qw hK _ ?_;clear hK K)|refine Qw ‹_› _ ?_|refine Qx ‹_› ?_|refine Qi fun K hK=>?_|refine Qj T fun K hK=>?_|refine Ql fun A B hA hB=>?_|refine Qm ?_|refine Qn ?_|refine Qr ?_)
 | ((with_reducible first|apply Qy|apply Qz|apply QA)<;>intro hb<;>try simp only[nr] at hb)
 |simp only[go_sem,↓reduceIte,reduceIte,Qa,Qh,Qb,Qc,Qd,Qe,Qf,Qg,reduceCtorEq, *,-w1,-w2,YB,YK,YQ,YW]
 |with_reducible refine fun(bn:Bool) hbn=>?_))
    all_goals trace_state
   ·by_cases h1:n=x
    ·rw[if_pos ⟨h0,h1⟩]
     subst h1
     refine CallR.go3 (T:=T) Tryz.call41 Tryz.func41 rfl Tryz.ntmps41 (congrArg Array.toList Tryz.results41) (by decide) fun ts hn h0 h1 h2=>?_
     (repeat' (first
 | (with_reducible first|refine callX.by (w1) ?_|refine callX.by (w2) ?_|refine callX.by (Jbc _ _ _ _ _) ?_|refine callX.by (Jbd _) ?_|assumption|(refine Qw hK _ ?_;clear hK K)|refine Qw ‹_› _ ?_|refine Qx ‹_› ?_|refine Qi fun K hK=>?_|refine Qj T fun K hK=>?_|refine Ql fun A B hA hB=>?_|refine Qm ?_|refine Qn ?_|refine Qr ?_)
 | ((with_reducible first|apply Qy|apply Qz|apply QA)<;>intro hb<;>try simp only[nr] at hb)
 |simp only[go_sem,↓reduceIte,reduceIte,Qa,Qh,Qb,Qc,Qd,Qe,Qf,Qg,reduceCtorEq, *,-w1,-w2,YB,YK,YQ,YW]
 |with_reducible refine fun(bn:Bool) hbn=>?_))
     all_goals trace_state
    ·rw[if_neg (fun h=>h1 h.2)]
     by_cases h2:n=x+1
     ·have hx0:¬x+1=0:=by omega
      have hx4:¬x+1=x:=by omega
      by_cases h3:m<n
      ·rw[if_pos (.inr h3)]
       subst h2
       refine CallR.go3 (T:=T) Tryz.call41 Tryz.func41 rfl Tryz.ntmps41 (congrArg Array.toList Tryz.results41) (by decide) fun ts hn h0 h1 h2=>?_
       (repeat' (first
 | (with_reducible first|refine callX.by (w1) ?_|refine callX.by (w2) ?_|refine callX.by (Jbc _ _ _ _ _) ?_|refine callX.by (Jbd _) ?_|assumption|(refine Qw hK _ ?_;clear hK K)|refine Qw ‹_› _ ?_|refine Qx ‹_› ?_|refine Qi fun K hK=>?_|refine Qj T fun K hK=>?_|refine Ql fun A B hA hB=>?_|refine Qm ?_|refine Qn ?_|refine Qr ?_)
 | ((with_reducible first|apply Qy|apply Qz|apply QA)<;>intro hb<;>try simp only[nr] at hb)
 |simp only[go_sem,↓reduceIte,reduceIte,Qa,Qh,Qb,Qc,Qd,Qe,Qf,Qg,reduceCtorEq, *,-w1,-w2,YB,YK,YQ,YW]
 |with_reducible refine fun(bn:Bool) hbn=>?_))
       all_goals trace_state
      ·rw[if_neg (fun h=>h.elim (fun h=>h h2) h3)]
       subst h2
       refine CallR.go3 (T:=T) Tryz.call41 Tryz.func41 rfl Tryz.ntmps41 (congrArg Array.toList Tryz.results41) (by decide) fun ts hn h0 h1 h2=>?_
       (repeat' (first
 | (with_reducible first|refine callX.by (w1) ?_|refine callX.by (w2) ?_|refine callX.by (Jbc _ _ _ _ _) ?_|refine callX.by (Jbd _) ?_|assumption|(refine Qw hK _ ?_;clear hK K)|refine Qw ‹_› _ ?_|refine Qx ‹_› ?_|refine Qi fun K hK=>?_|refine Qj T fun K hK=>?_|refine Ql fun A B hA hB=>?_|refine Qm ?_|refine Qn ?_|refine Qr ?_)
 | ((with_reducible first|apply Qy|apply Qz|apply QA)<;>intro hb<;>try simp only[nr] at hb)
 |simp only[go_sem,↓reduceIte,reduceIte,Qa,Qh,Qb,Qc,Qd,Qe,Qf,Qg,reduceCtorEq, *,-w1,-w2,YB,YK,YQ,YW]
 |with_reducible refine fun(bn:Bool) hbn=>?_))
       all_goals trace_state
     ·rw[if_pos (.inl h2)]
      refine CallR.go3 (T:=T) Tryz.call41 Tryz.func41 rfl Tryz.ntmps41 (congrArg Array.toList Tryz.results41) (by decide) fun ts hn h0 h1 h2=>?_
      (repeat' (first
 | (with_reducible first|refine callX.by (w1) ?_|refine callX.by (w2) ?_|refine callX.by (Jbc _ _ _ _ _) ?_|refine callX.by (Jbd _) ?_|assumption|(refine Qw hK _ ?_;clear hK K)|refine Qw ‹_› _ ?_|refine Qx ‹_› ?_|refine Qi fun K hK=>?_|refine Qj T fun K hK=>?_|refine Ql fun A B hA hB=>?_|refine Qm ?_|refine Qn ?_|refine Qr ?_)
 | ((with_reducible first|apply Qy|apply Qz|apply QA)<;>intro hb<;>try simp only[nr] at hb)
 |simp only[go_sem,↓reduceIte,reduceIte,Qa,Qh,Qb,Qc,Qd,Qe,Qf,Qg,reduceCtorEq, *,-w1,-w2,YB,YK,YQ,YW]
 |with_reducible refine fun(bn:Bool) hbn=>?_))
      all_goals trace_state
def upV(x:Int):Value:=.iface 216 (.agg #[.int .i64 x])
def ZF(x:Int):List PanicEntry:=[{ v:=upV x,recovered:=false }]
theorem Jk9(p:Addr)(x y:Int)(w:World)(hc:w.cell? p=some (.int .i64 y))(hz:w.frozen? p=false) :
  CallsD Tryz.prog 155 #[.pointer (some p)] (.panicking (ZF x)) w fun e u' w' =>
   e=.returned (.tuple #[])∧u'=.panicking [{ v:=upV x,recovered:=true }]∧w'=w.setCell p (.int .i64 x):=by
 have hta:∀(v:Value) (w:World),(Instr.typeAssert (.iface 216 v) 20 216 false).run Tryz.prog w=.ok v w:=fun _ _=>by kernel_rfl
 have hfi:∀(x:Int) (w:World),(Instr.field 216 (.agg #[.int .i64 x]) 0).run Tryz.prog w=.ok (.int .i64 x) w:=fun _ _=>by kernel_rfl
 have hne:∀(t:TypeId) (v:Value) (w:World),(binOp BinOp.neq 20 (.iface t v) .nilIface).run Tryz.prog w=.ok (.bool true) w:=fun _ _ _=>by kernel_rfl
 have hnn:∀(w:World),(binOp BinOp.neq 20 .nilIface .nilIface).run Tryz.prog w=.ok (.bool false) w:=fun _=>by kernel_rfl
 refine callsD_of_wpS Tryz.func155 rfl fun c₀ cs hu=>?_
 apply wpS_seq
 apply wpS_region
 simp[wpOpsS,hta,hfi,hne,hnn,go_sem,recoverD,hu,ZF,Tryz.ntmps155,Exit.thenS]
 apply wpS_seq
 apply wpS_region
 simp[wpOpsS,hta,hfi,hne,hnn,go_sem,upV,Exit.thenS]
 refine wpS_cond (t:=true) (by simp[Act.eval,Array.replicate]) ?_
 simp only[if_true]
 apply wpS_region
 simp[wpOpsS,hta,hfi,hne,hnn,go_sem,hc,hz,bodyPostS,results,Tryz.results155]
theorem Jk8(p:Addr)(w:World) :
  CallsD Tryz.prog 155 #[.pointer (some p)] .returning w fun e u' w'=>e=.returned (.tuple #[])∧u'=.returning∧w'=w:=by
 have hta:∀(v:Value) (w:World),(Instr.typeAssert (.iface 216 v) 20 216 false).run Tryz.prog w=.ok v w:=fun _ _=>by kernel_rfl
 have hfi:∀(x:Int) (w:World),(Instr.field 216 (.agg #[.int .i64 x]) 0).run Tryz.prog w=.ok (.int .i64 x) w:=fun _ _=>by kernel_rfl
 have hne:∀(t:TypeId) (v:Value) (w:World),(binOp BinOp.neq 20 (.iface t v) .nilIface).run Tryz.prog w=.ok (.bool true) w:=fun _ _ _=>by kernel_rfl
 have hnn:∀(w:World),(binOp BinOp.neq 20 .nilIface .nilIface).run Tryz.prog w=.ok (.bool false) w:=fun _=>by kernel_rfl
 refine callsD_of_wpS Tryz.func155 rfl fun c₀ cs hu=>?_
 apply wpS_seq
 apply wpS_region
 simp[wpOpsS,hta,hfi,hne,hnn,go_sem,recoverD,hu,Tryz.ntmps155,Exit.thenS]
 apply wpS_seq
 apply wpS_region
 simp[wpOpsS,hta,hfi,hne,hnn,go_sem,Exit.thenS]
 refine wpS_cond (t:=false) (by simp[Act.eval,Array.replicate]) ?_
 simp only[Bool.false_eq_true,if_false]
 refine wpS_of_wp (wp_skip ?_)
 cases c₀
 simp_all[bodyPostS,results,Tryz.results155]
def VJ(w:World):World:=w.alloc (.cells #[.int .i64 0] 25)
def V6(w:World):Addr:=⟨w.heap.size,0,none⟩
theorem Jhd{w:World}{p:Addr}{v y:Value}(h:w.cell? p=some y):(w.setCell p v).cell? p=some v:=by
 unfold World.cell? at h ⊢
 unfold World.setCell
 simp only[Array.getElem?_modify,if_true]
 cases hh:w.heap[p.block]? with
 |none=>rw[hh] at h;simp at h
 |some o =>
  rw[hh] at h
  cases o with
  |cells c el fr =>
   simp only[Option.map_some] at h ⊢
   by_cases hs:p.spot.isSome
   ·simp[hs] at h
   ·simp only[hs] at h ⊢
    simp only[Bool.false_eq_true,if_false] at h ⊢
    obtain⟨hlt,_⟩:=Array.getElem?_eq_some_iff.1 h
    simp[hlt]
  |_=>simp at h
theorem Jg7(g:FuncId)(caps:Array Value)(w:World)(R:Ending→World→Prop)
  (hg:∀w,(callFunc g caps).run Tryz.prog w=.ok (.enter g caps) w) (h:Calls Tryz.prog g caps (VJ w) R)
  (hR:∀e w',R e w'→w'.cell? (V6 w)=some (.int .i64 0)∧w'.frozen? (V6 w)=false∧((e=.returned (.tuple #[]))∨∃x,e=.panicked (ZF x))) :
  Calls Tryz.prog 109 #[.func (.func g) #[] caps] w fun e w''=>∃e1 w1,R e1 w1 ∧
   ((e1=.returned (.tuple #[])∧e=.returned (.int .i64 0)∧w''=w1.setCell (V6 w) (.int .i64 0))∨∃x,e1=.panicked (ZF x)∧e=.returned (.int .i64 x)∧w''=w1.setCell (V6 w) (.int .i64 x)):=by
 have hmf:∀(fn:Fn) (first cap:Array Value) (w:World),(Instr.makeFunc fn first cap).run Tryz.prog w=.ok (.func fn first cap) w:=fun _ _ _ _=>rfl
 go_enter_defers Tryz.func109,Tryz.ntmps109
 go_wp2
 rename_i K1 hK1 K0 hK0
 refine Calls.mono h ?_
 intro e1 w1 hr
 obtain⟨hc,hz,hcase⟩:=hR e1 w1 hr
 have hc':w1.cell? ⟨w.heap.size,0,none⟩=some (.int .i64 0):=hc
 have hz':w1.frozen? ⟨w.heap.size,0,none⟩=false:=hz
 rcases hcase with rfl|⟨x,rfl⟩
 ·apply hK0
  simp only[wpList]
  apply hK1
  go_wp2
  simp only[bodyPostD]
  refine leaves_cons (f:=155) (args:=#[.pointer (some ⟨w.heap.size,0,none⟩)]) (by simp) (by simp[go_sem]) ?_
  refine(Jk8 ⟨w.heap.size,0,none⟩ _).mono ?_
  rintro e u' w'' ⟨rfl,rfl,rfl⟩
  have hcc:=Jhd (v:=.int .i64 0) hc'
  simp[Leaves,settle,results,Tryz.results109,go_sem,hcc]
  exact⟨_,w1,hr,.inl ⟨rfl,rfl⟩⟩
 ·show bodyPostD _ _ _ _ _ _
  simp only[bodyPostD]
  refine leaves_cons (f:=155) (args:=#[.pointer (some ⟨w.heap.size,0,none⟩)]) (by simp) (by simp[go_sem]) ?_
  refine(Jk9 ⟨w.heap.size,0,none⟩ x 0 _ hc' hz').mono ?_
  rintro e u' w'' ⟨rfl,rfl,rfl⟩
  have hcc:=Jhd (v:=.int .i64 x) hc'
  simp[Leaves,settle,results,Tryz.results109,go_sem,hcc]
  exact⟨_,w1,hr,.inr ⟨x,rfl,rfl,rfl⟩⟩
end Go.Proofs.YtihahfhagobnoaaGreatDoor.Lg
