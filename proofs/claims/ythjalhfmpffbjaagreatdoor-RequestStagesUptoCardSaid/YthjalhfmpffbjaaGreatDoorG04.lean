/- Parts of the proof, one behind the other. -/
import Derived.Tactics
import Derived.Tactics2
import Derived.Defers
import Derived.Recover
import Derived.Laws.Pointers
import Derived.Test.YthjalhfmpffbjaaGreatDoorG03
namespace Go.Proofs.YthjalhfmpffbjaaGreatDoor.Lg
set_option maxRecDepth 100000
set_option linter.unusedVariables false
set_option linter.unusedSimpArgs false
open Go
open Nat renaming reduceEqDiff → Qa, reduceLT → Qb, reduceLeDiff → Qc, reduceAdd → Qd, reduceMul → Qe, reduceSub → Qf, reduceBEq → Qg
open String renaming reduceEq → Qh
open SpecC renaming seqW → Qi, regW → Qj, drawW → Qk, condW → Ql, block → Qm, skip → Qn, label → Qo, exit → Qp, goto → Qq, ret → Qr, loopF → Qs
open NxK renaming out → Qw
open Nx renaming out → Qx
open condK renaming split → Qy
open gK renaming split_t → Qz, split_f → QA
open CallR renaming go1 → QD
def YN(n a b:Int):Bool:=decide (a≤n) && decide (n≤b)
theorem JfX(a b c:Int):CallR Tryz.prog 78 [.int .i64 a,.int .i64 b,.int .i64 c] (.val (.bool (YN a b c))):=by
 refine CallR.go3 (T:=T) Tryz.call78 Tryz.func78 rfl Tryz.ntmps78 (congrArg Array.toList Tryz.results78) (by decide) fun ts hn h0 h1 h2=>?_
 (repeat' (first
 | (with_reducible first|assumption|(refine Qw hK _ ?_;clear hK K)|refine Qw ‹_› _ ?_|refine Qx ‹_› ?_|refine Qi fun K hK=>?_|refine Qj T fun K hK=>?_|refine Ql fun A B hA hB=>?_|refine Qn ?_|refine Qr ?_)
 | ((with_reducible first|apply Qy|apply Qz|apply QA)<;>intro hb<;>try simp only[nr] at hb)
 |simp only[go_sem,↓reduceIte,reduceIte,Qa,Qh,Qb,Qc,Qd,Qe,Qf,Qg,reduceCtorEq, *]
 |with_reducible refine fun(bn:Bool) hbn=>?_))
 all_goals simp[YN, *]
theorem Zl(n:Int)(xs:List Snap)(hl:Jc xs.length):CallR Tryz.prog 69 [.agg [.int .i64 n,.slice false (Ja xs)]] (.val (.int .i64 (xs.length-1))):=by
 refine QD (T:=T) Tryz.call69 Tryz.func69 rfl Tryz.ntmps69 (congrArg Array.toList Tryz.results69) (by decide) fun ts hn h0=>?_
 (repeat' (first
 | (with_reducible first|assumption|(refine Qw hK _ ?_;clear hK K)|refine Qw ‹_› _ ?_|refine Qx ‹_› ?_|refine Qi fun K hK=>?_|refine Qj T fun K hK=>?_|refine Ql fun A B hA hB=>?_|refine Qn ?_|refine Qr ?_)
 | ((with_reducible first|apply Qy|apply Qz|apply QA)<;>intro hb<;>try simp only[nr] at hb)
 |simp only[go_sem,↓reduceIte,reduceIte,Qa,Qh,Qb,Qc,Qd,Qe,Qf,Qg,reduceCtorEq, *,JfW hl]
 |with_reducible refine fun(bn:Bool) hbn=>?_))
def Jag(next:Int):List Snap→Int→Bool
 | [],_=>true
 |s :: r,ahead=>YN s.id (IntKind.i64.wrap (ahead+1)) next && YN s.pins (if r=[] then 0 else 1) 10000 && Jag next r s.id
def ZI(p:Pins):Bool:=Jag p.next' p.snaps 0 && (YN p.next' 0 2147483647 && decide (p.snaps.length≤1000))
theorem Jfn(next:Int)(xs:List Snap)(hl:Jc xs.length):CallR Tryz.prog 37 [.agg [.int .i64 next,.slice false (Ja xs)]] (.val (.bool (ZI ⟨next,xs⟩))):=by
 refine QD (T:=T) Tryz.call37 Tryz.func37 rfl Tryz.ntmps37 (congrArg Array.toList Tryz.results37) (by decide) fun ts hn h0=>?_
 (repeat' (first
 | (with_reducible first|refine callX.by (Zl _ _ ?_) ?_|refine callX.by (JfX _ _ _) ?_|assumption|(refine Qw hK _ ?_;clear hK K)|refine Qw ‹_› _ ?_|refine Qx ‹_› ?_|refine Qi fun K hK=>?_|refine Qj T fun K hK=>?_|refine Ql fun A B hA hB=>?_|refine Qm ?_|refine Qn ?_|refine Qp ?_|refine Qr ?_)
 | ((with_reducible first|apply Qy|apply Qz|apply QA)<;>intro hb<;>try simp only[nr] at hb)
 |simp only[go_sem,↓reduceIte,reduceIte,Qa,Qh,Qb,Qc,Qd,Qe,Qf,Qg,reduceCtorEq, *]
 |with_reducible refine fun(bn:Bool) hbn=>?_))
 refine Qs [1,8,9] (fun m ts'=>∃(i:Nat),∃(a:Int),m=xs.length-i∧i≤xs.length∧Jag next xs 0=Jag next (xs.drop i) a∧ts'.tmp 3=.int .i64 a∧ts'.tmp 10=.int .i64 i) xs.length ?_ ?_
 ·refine⟨0,0,?_⟩
  simp only[go_sem,↓reduceIte,reduceIte,Qa,Qh,Qb,Qc,Qd,Qe,Qf,Qg,reduceCtorEq, *]
 ·rintro m A hM ts' hk ⟨i,a,hm,f1,f2,s1,s2⟩
  simp only[go_sem,↓reduceIte,reduceIte,Qa,Qh,Qb,Qc,Qd,Qe,Qf,Qg,reduceCtorEq, *] at hk
  by_cases hlt:i<xs.length
  ·rw[List.drop_eq_getElem_cons hlt,Jag] at f2
   have hr:(xs.drop (i+1)=[])=((i:Int)=xs.length-1):=by rw[List.drop_eq_nil_iff];apply propext;omega
   simp only[hr] at f2
   (repeat' (first
 | (with_reducible first|refine callX.by (Zl _ _ ?_) ?_|refine callX.by (JfX _ _ _) ?_|assumption|(refine Qw hK _ ?_;clear hK K)|refine Qw ‹_› _ ?_|refine Qx ‹_› ?_|refine Qi fun K hK=>?_|refine Qj T fun K hK=>?_|refine Ql fun A B hA hB=>?_|refine Qm ?_|refine Qn ?_|refine Qp ?_|refine Qr ?_)
 | ((with_reducible first|apply Qy|apply Qz|apply QA)<;>intro hb<;>try simp only[nr] at hb)
 |simp only[go_sem,↓reduceIte,reduceIte,Qa,Qh,Qb,Qc,Qd,Qe,Qf,Qg,reduceCtorEq, *]
 |with_reducible refine fun(bn:Bool) hbn=>?_))
   all_goals ((repeat clear hK);(repeat clear hA);(repeat clear hB))
   all_goals first
    | (clear hM;simp_all[ZI];done)
    | (refine hM.on (xs.length-(i+1)) (by omega) (by simp only[go_sem,↓reduceIte,reduceIte,Qa,Qh,Qb,Qc,Qd,Qe,Qf,Qg,reduceCtorEq, *,Ji hlt hl]) ⟨i+1,xs[i].id,rfl,by omega,by simp_all,?_⟩;simp only[go_sem,↓reduceIte,reduceIte,Qa,Qh,Qb,Qc,Qd,Qe,Qf,Qg,reduceCtorEq, *,Ji hlt hl];done)
  ·rw[List.drop_eq_nil_of_le (by omega),Jag] at f2
   (repeat' (first
 | (with_reducible first|refine callX.by (Zl _ _ ?_) ?_|refine callX.by (JfX _ _ _) ?_|assumption|(refine Qw hK _ ?_;clear hK K)|refine Qw ‹_› _ ?_|refine Qx ‹_› ?_|refine Qi fun K hK=>?_|refine Qj T fun K hK=>?_|refine Ql fun A B hA hB=>?_|refine Qm ?_|refine Qn ?_|refine Qp ?_|refine Qr ?_)
 | ((with_reducible first|apply Qy|apply Qz|apply QA)<;>intro hb<;>try simp only[nr] at hb)
 |simp only[go_sem,↓reduceIte,reduceIte,Qa,Qh,Qb,Qc,Qd,Qe,Qf,Qg,reduceCtorEq, *]
 |with_reducible refine fun(bn:Bool) hbn=>?_))
   all_goals ((repeat clear hK);(repeat clear hA);(repeat clear hB))
   all_goals (clear hM;simp_all[ZI])
theorem Jhj(id pins:Int)(xs:List Res):CallR Tryz.prog 138 [.agg [.int .i64 id,.int .i64 pins,.slice false (Ja xs)]] (.val (.bool (decide (pins=0)))):=by
 refine QD (T:=T) Tryz.call138 Tryz.func138 rfl Tryz.ntmps138 (congrArg Array.toList Tryz.results138) (by decide) fun ts hn h0=>?_
 (repeat' (first
 | (with_reducible first|assumption|(refine Qw hK _ ?_;clear hK K)|refine Qw ‹_› _ ?_|refine Qx ‹_› ?_|refine Qi fun K hK=>?_|refine Qj T fun K hK=>?_|refine Ql fun A B hA hB=>?_|refine Qn ?_|refine Qr ?_)
 | ((with_reducible first|apply Qy|apply Qz|apply QA)<;>intro hb<;>try simp only[nr] at hb)
 |simp only[go_sem,↓reduceIte,reduceIte,Qa,Qh,Qb,Qc,Qd,Qe,Qf,Qg,reduceCtorEq, *]
 |with_reducible refine fun(bn:Bool) hbn=>?_))
def Jq(p:Pins):Pins:=if ZI p then p else ⟨0,[]⟩
theorem Jcz{p:Pins}(h:Jc p.snaps.length):Jc (Jq p).snaps.length:=by
 unfold Jq;split
 ·exact h
 ·simp[Jc]
theorem ZM(next:Int)(xs:List Snap)(hl:Jc xs.length):CallR Tryz.prog 42 [.agg [.int .i64 next,.slice false (Ja xs)]] (.val (Dat.av (Jq ⟨next,xs⟩))):=by
 refine QD (T:=T) Tryz.call42 Tryz.func42 rfl Tryz.ntmps42 (congrArg Array.toList Tryz.results42) (by decide) fun ts hn h0=>?_
 (repeat' (first
 | (with_reducible first|refine callX.by (Jfn _ _ ?_) ?_|assumption|(refine Qw hK _ ?_;clear hK K)|refine Qw ‹_› _ ?_|refine Qx ‹_› ?_|refine Qi fun K hK=>?_|refine Qj T fun K hK=>?_|refine Ql fun A B hA hB=>?_|refine Qn ?_|refine Qr ?_)
 | ((with_reducible first|apply Qy|apply Qz|apply QA)<;>intro hb<;>try simp only[nr] at hb)
 |simp only[go_sem,↓reduceIte,reduceIte,Qa,Qh,Qb,Qc,Qd,Qe,Qf,Qg,reduceCtorEq, *]
 |with_reducible refine fun(bn:Bool) hbn=>?_))
 all_goals simp[Jq, *,Vc,JjM]
theorem Va(kind ver port:Int)(name to:List UInt8)(rs:List Rule)(hs:List Int):CallR Tryz.prog 149 [.agg [.int .i64 kind,.str name,.int .i64 ver,.int .i64 port,.str to,.slice false (Ja rs),.slice false (Ja hs)]] (.val (.agg [.int .i64 kind,.str name])):=by
 refine QD (T:=T) Tryz.call149 Tryz.func149 rfl Tryz.ntmps149 (congrArg Array.toList Tryz.results149) (by decide) fun ts hn h0=>?_
 (repeat' (first
 | (with_reducible first|assumption|(refine Qw hK _ ?_;clear hK K)|refine Qw ‹_› _ ?_|refine Qx ‹_› ?_|refine Qi fun K hK=>?_|refine Qj T fun K hK=>?_|refine Ql fun A B hA hB=>?_|refine Qn ?_|refine Qr ?_)
 | ((with_reducible first|apply Qy|apply Qz|apply QA)<;>intro hb<;>try simp only[nr] at hb)
 |simp only[go_sem,↓reduceIte,reduceIte,Qa,Qh,Qb,Qc,Qd,Qe,Qf,Qg,reduceCtorEq, *]
 |with_reducible refine fun(bn:Bool) hbn=>?_))
def J3(xs:List Snap)(id:Int):Nat→Int
 |0=>-1
 |n+1=>if(xs.getD n default).id=id then n else J3 xs id n
theorem JdU{xs:List Snap}{id:Int}{k:Nat}(h0:0<k)(hk:k≤xs.length):J3 xs id k=if(xs[k-1]'(by omega)).id=id then (k:Int)-1 else J3 xs id (k-1):=by
 obtain⟨n,rfl⟩:∃n,k=n+1:=⟨k-1,by omega⟩
 rw[J3]
 have e:xs.getD n default=xs[n]:=by simp[show n<xs.length by omega]
 simp only[Nat.add_sub_cancel,e]
 split<;>simp
theorem JdT(xs:List Snap)(id:Int):∀k,J3 xs id k<k∧-1≤J3 xs id k
 |0=>by simp[J3]
 |k+1=>by
  have:=JdT xs id k
  rw[J3]
  split<;>omega
theorem JdV(next id:Int)(xs:List Snap)(hl:Jc xs.length):CallR Tryz.prog 43 [.agg [.int .i64 next,.slice false (Ja xs)],.int .i64 id] (.val (.int .i64 (J3 xs id xs.length))):=by
 refine CallR.go2 (T:=T) Tryz.call43 Tryz.func43 rfl Tryz.ntmps43 (congrArg Array.toList Tryz.results43) (by decide) fun ts hn h0 h1=>?_
 (repeat' (first
 | (with_reducible first|refine callX.by (Zl _ _ ?_) ?_|assumption|(refine Qw hK _ ?_;clear hK K)|refine Qw ‹_› _ ?_|refine Qx ‹_› ?_|refine Qi fun K hK=>?_|refine Qj T fun K hK=>?_|refine Ql fun A B hA hB=>?_|refine Qn ?_|refine Qo ?_|refine Qq ?_|refine Qr ?_)
 | ((with_reducible first|apply Qy|apply Qz|apply QA)<;>intro hb<;>try simp only[nr] at hb)
 |simp only[go_sem,↓reduceIte,reduceIte,Qa,Qh,Qb,Qc,Qd,Qe,Qf,Qg,reduceCtorEq, *]
 |with_reducible refine fun(bn:Bool) hbn=>?_))
 refine SpecC.scopeF 0 [1,2] (fun m ts'=>∃(k:Nat),m=k∧k≤xs.length∧J3 xs id xs.length=J3 xs id k∧ts'.tmp 2=.ref 2 (ts.gen 2+1) 0∧ts'.gen 2=ts.gen 2+1∧ts'.obj 2=.box [.int .i64 next,.slice false (Ja xs)]∧ts'.tmp 5=.int .i64 (k-1)) (xs.length+1) rfl ?_ ?_
 ·intro J hM
  (repeat' (first
 | (with_reducible first|refine callX.by (Zl _ _ ?_) ?_|assumption|(refine Qw hK _ ?_;clear hK K)|refine Qw ‹_› _ ?_|refine Qx ‹_› ?_|refine Qi fun K hK=>?_|refine Qj T fun K hK=>?_|refine Ql fun A B hA hB=>?_|refine Qn ?_|refine Qo ?_|refine Qq ?_|refine Qr ?_)
 | ((with_reducible first|apply Qy|apply Qz|apply QA)<;>intro hb<;>try simp only[nr] at hb)
 |simp only[go_sem,↓reduceIte,reduceIte,Qa,Qh,Qb,Qc,Qd,Qe,Qf,Qg,reduceCtorEq, *]
 |with_reducible refine fun(bn:Bool) hbn=>?_))
  all_goals ((repeat clear hK);(repeat clear hA);(repeat clear hB))
  ·have hb0:0<xs.length:=by assumption
   have e:=JdU (id:=id) hb0 (Nat.le_refl _)
   rw[if_neg (of_decide_eq_false hb)] at e
   (refine hM.on (xs.length-1) (by omega) (by simp only[go_sem,↓reduceIte,reduceIte,Qa,Qh,Qb,Qc,Qd,Qe,Qf,Qg,reduceCtorEq, *,Jep (Nat.le_refl _) hb0 hl,-e]) ⟨xs.length-1,rfl,by omega,e,?_⟩;simp only[go_sem,↓reduceIte,reduceIte,Qa,Qh,Qb,Qc,Qd,Qe,Qf,Qg,reduceCtorEq, *,Jep (Nat.le_refl _) hb0 hl,-e];done)
  ·have hb0:0<xs.length:=by assumption
   rw[JdU (id:=id) hb0 (Nat.le_refl _),if_pos (of_decide_eq_true hb)]
  ·have hb0:xs.length=0:=by omega
   rw[hb0];rfl
 ·rintro m A hM ts' hk ⟨k,hm,f1,f2,s1,s2,s3,s4⟩
  simp only[go_sem,↓reduceIte,reduceIte,Qa,Qh,Qb,Qc,Qd,Qe,Qf,Qg,reduceCtorEq, *] at hk
  obtain rfl:=hm
  (repeat' (first
 | (with_reducible first|refine callX.by (Zl _ _ ?_) ?_|assumption|(refine Qw hK _ ?_;clear hK K)|refine Qw ‹_› _ ?_|refine Qx ‹_› ?_|refine Qi fun K hK=>?_|refine Qj T fun K hK=>?_|refine Ql fun A B hA hB=>?_|refine Qn ?_|refine Qo ?_|refine Qq ?_|refine Qr ?_)
 | ((with_reducible first|apply Qy|apply Qz|apply QA)<;>intro hb<;>try simp only[nr] at hb)
 |simp only[go_sem,↓reduceIte,reduceIte,Qa,Qh,Qb,Qc,Qd,Qe,Qf,Qg,reduceCtorEq, *]
 |with_reducible refine fun(bn:Bool) hbn=>?_))
  all_goals ((repeat clear hK);(repeat clear hA);(repeat clear hB))
  ·have hb0:0<m:=by assumption
   have e:=JdU (id:=id) hb0 f1
   rw[if_neg (of_decide_eq_false hb)] at e
   (refine hM.on (m-1) (by omega) (by simp only[go_sem,↓reduceIte,reduceIte,Qa,Qh,Qb,Qc,Qd,Qe,Qf,Qg,reduceCtorEq, *,Jep f1 hb0 hl,-e,-f2]) ⟨m-1,rfl,by omega,f2.trans e,?_⟩;simp only[go_sem,↓reduceIte,reduceIte,Qa,Qh,Qb,Qc,Qd,Qe,Qf,Qg,reduceCtorEq, *,Jep f1 hb0 hl,-e,-f2];done)
  ·have hb0:0<m:=by assumption
   rw[JdU (id:=id) hb0 f1,if_pos (of_decide_eq_true hb)]
  ·have hb0:m=0:=by omega
   rw[hb0];rfl
def VT(p:Pins):Int×List Res×Bool :=
 match (Jq p).snaps.getLast? with
 |none=>(0,[],false)
 |some s=>(s.id,s.l,true)
theorem Jkp(next:Int)(xs:List Snap)(hl:Jc xs.length):CallR Tryz.prog 29 [.agg [.int .i64 next,.slice false (Ja xs)]] (.val (.tup [.int .i64 (VT ⟨next,xs⟩).1,.slice false (Ja (VT ⟨next,xs⟩).2.1),.bool (VT ⟨next,xs⟩).2.2])):=by
 have hl2:Jc (Jq ⟨next,xs⟩).snaps.length:=Jcz hl
 refine QD (T:=T) Tryz.call29 Tryz.func29 rfl Tryz.ntmps29 (congrArg Array.toList Tryz.results29) (by decide) fun ts hn h0=>?_
 (repeat' (first
 | (with_reducible first|refine callX.by (ZM _ _ ?_) ?_|refine callX.by (Zl _ _ ?_) ?_|assumption|(refine Qw hK _ ?_;clear hK K)|refine Qw ‹_› _ ?_|refine Qx ‹_› ?_|refine Qi fun K hK=>?_|refine Qj T fun K hK=>?_|refine Qk (id:=5) T mixed [([12],[14,16,17,18,19,20,21,22,23]),([13],[14,17,18,19,20,21,22,23]),([14],[12,13,17,18,19,20,21,22,23]),([15],[18,19,20,21,22,23]),([16],[12,18,19,20,21,22,23]),([17],[12,13,14,18,19,20,21,22,23]),([18],[12,13,14,15,16,17,20,22,23,2]),([19],[12,13,14,15,16,17,20,23,2]),([20],[12,13,14,15,16,17,18,19,23,2]),([21],[12,13,14,15,16,17,2]),([22],[12,13,14,15,16,17,18,2]),([23],[12,13,14,15,16,17,18,19,20,2]),([2],[18,19,20,21,22,23])] (by kernel_rfl) fun K hK=>?_|refine Ql fun A B hA hB=>?_|refine Qn ?_|refine Qr ?_)
 | ((with_reducible first|apply Qy|apply Qz|apply QA)<;>intro hb<;>try simp only[nr] at hb)
 |simp only[go_sem,↓reduceIte,reduceIte,Qa,Qh,Qb,Qc,Qd,Qe,Qf,Qg,reduceCtorEq, *]
 |with_reducible refine fun(bn:Bool) hbn=>?_))
 ·have h0:(Jq ⟨next,xs⟩).snaps=[]:=by simpa using hb
  simp[VT,h0,Vc]
 ·simp[VT,List.getLast?_eq_getElem?,List.getElem?_eq_getElem (show(Jq ⟨next,xs⟩).snaps.length-1<(Jq ⟨next,xs⟩).snaps.length by omega)]
def J2(p:Pins)(id:Int):List Res×Bool :=
 let q:=Jq p
 let k:=J3 q.snaps id q.snaps.length
 if k<0 then ([],false) else ((q.snaps.getD k.toNat default).l,true)
theorem Jia(next id:Int)(xs:List Snap)(hl:Jc xs.length):CallR Tryz.prog 14 [.agg [.int .i64 next,.slice false (Ja xs)],.int .i64 id] (.val (.tup [.slice false (Ja (J2 ⟨next,xs⟩ id).1),.bool (J2 ⟨next,xs⟩ id).2])):=by
 have hl2:Jc (Jq ⟨next,xs⟩).snaps.length:=Jcz hl
 have hp:=JdT (Jq ⟨next,xs⟩).snaps id (Jq ⟨next,xs⟩).snaps.length
 refine CallR.go2 (T:=T) Tryz.call14 Tryz.func14 rfl Tryz.ntmps14 (congrArg Array.toList Tryz.results14) (by decide) fun ts hn h0 h1=>?_
 by_cases hneg:J3 (Jq ⟨next,xs⟩).snaps id (Jq ⟨next,xs⟩).snaps.length<0
 ·(repeat' (first
 | (with_reducible first|refine callX.by (ZM _ _ ?_) ?_|refine callX.by (JdV _ _ _ ?_) ?_|assumption|(refine Qw hK _ ?_;clear hK K)|refine Qw ‹_› _ ?_|refine Qx ‹_› ?_|refine Qi fun K hK=>?_|refine Qj T fun K hK=>?_|refine Ql fun A B hA hB=>?_|refine Qn ?_|refine Qr ?_)
 | ((with_reducible first|apply Qy|apply Qz|apply QA)<;>intro hb<;>try simp only[nr] at hb)
 |simp only[go_sem,↓reduceIte,reduceIte,Qa,Qh,Qb,Qc,Qd,Qe,Qf,Qg,reduceCtorEq, *]
 |with_reducible refine fun(bn:Bool) hbn=>?_))
  all_goals simp[J2,hneg,Vc]
 ·obtain⟨k,hk⟩:∃k:Nat,J3 (Jq ⟨next,xs⟩).snaps id (Jq ⟨next,xs⟩).snaps.length=k:=⟨_,(Int.toNat_of_nonneg (by omega)).symm⟩
  have hlt:k<(Jq ⟨next,xs⟩).snaps.length:=by omega
  (repeat' (first
 | (with_reducible first|refine callX.by (ZM _ _ ?_) ?_|refine callX.by (JdV _ _ _ ?_) ?_|assumption|(refine Qw hK _ ?_;clear hK K)|refine Qw ‹_› _ ?_|refine Qx ‹_› ?_|refine Qi fun K hK=>?_|refine Qj T fun K hK=>?_|refine Ql fun A B hA hB=>?_|refine Qn ?_|refine Qr ?_)
 | ((with_reducible first|apply Qy|apply Qz|apply QA)<;>intro hb<;>try simp only[nr] at hb)
 |simp only[go_sem,↓reduceIte,reduceIte,Qa,Qh,Qb,Qc,Qd,Qe,Qf,Qg,reduceCtorEq, *]
 |with_reducible refine fun(bn:Bool) hbn=>?_))
  all_goals simp[J2,hk,hlt,JhN]
@[go_sem] def Wd0:List (List Nat×List Nat):=[([10],[11,12,13,14,15,16,17]),([11],[10,14,15,16,17]),([12],[10,14,15,17]),([13],[10,14,15]),([14],[10,11,12,13,17]),([15],[10,11,12,13]),([16],[10,11]),([17],[10,11,12,14])]
@[go_sem] def Wd1:List (List Nat×List Nat):=[([20],[21,22,25,26,27,28,29]),([21],[20,24,25,26,27,28,29]),([22],[20,25,26,27,28,29]),([23],[]),([24],[21]),([25],[20,21,22,27,28,29]),([26],[20,21,22,27,28,29]),([27],[20,21,22,25,26]),([28],[20,21,22,25,26]),([29],[20,21,22,25,26])]
@[go_sem] theorem Jw9:Tryz.prog.eqGuardType Tryz.prog.depth 28=false:=by kernel_rfl
@[go_sem] theorem Jw8:Tryz.prog.eqGuardType Tryz.prog.depth 32=false:=by kernel_rfl
@[go_sem] theorem Jxa:Tryz.prog.eqGuardType Tryz.prog.depth 30=false:=by kernel_rfl
@[go_sem] theorem JIC:Tryz.prog.stoodInHeld 30=false:=by kernel_rfl
def Yn(n:Int):Int:=max 1 (min n 2147483647)
def YY(m x:Int):Int:=max 0 (min x m)
def z4:Four:=⟨0,0,0,0⟩
@[go_sem] theorem Jrw:z4.a0=0:=rfl
@[go_sem] theorem Jrx:z4.a1=0:=rfl
@[go_sem] theorem Jry:z4.a2=0:=rfl
@[go_sem] theorem Jrz:z4.a3=0:=rfl
def JiQ(f:Four)(k n:Int):Four:=if k=0 then { f with a0:=n } else if k=1 then { f with a1:=n } else if k=2 then { f with a2:=n } else { f with a3:=n }
theorem ZG(n:Int):CallR Tryz.prog 74 [.int .i64 n] (.val (.int .i64 (Yn n))):=by
 refine QD (T:=T) Tryz.call74 Tryz.func74 rfl Tryz.ntmps74 (congrArg Array.toList Tryz.results74) (by decide) fun ts hn h0=>?_
 (repeat' (first
 | (with_reducible first|assumption|(refine Qw hK _ ?_;clear hK K)|refine Qw ‹_› _ ?_|refine Qx ‹_› ?_|refine Qi fun K hK=>?_|refine Qj T fun K hK=>?_|refine Ql fun A B hA hB=>?_|refine Qn ?_|refine Qr ?_)
 | ((with_reducible first|apply Qy|apply Qz|apply QA)<;>intro hb<;>try simp only[nr] at hb)
 |simp only[go_sem,↓reduceIte,reduceIte,Qa,Qh,Qb,Qc,Qd,Qe,Qf,Qg,reduceCtorEq, *]
 |with_reducible refine fun(bn:Bool) hbn=>?_))
 all_goals rfl
theorem JhS(n:Int):CallR Tryz.prog 100 [.int .i64 n] (.val (.tup [.agg [.int .i64 0,.int .i64 0,.int .i64 0,.int .i64 0,.bool false,.bool false,.bool false,.bool false,.int .i64 (Yn n)],.agg [.int .i64 0,.int .i64 0,.int .i64 0,.int .i64 0,.int .i64 (Yn n)]])):=by
 have w1:=ZG n
 refine QD (T:=T) Tryz.call100 Tryz.func100 rfl Tryz.ntmps100 (congrArg Array.toList Tryz.results100) (by decide) fun ts hn h0=>?_
 (repeat' (first
 | (with_reducible first|refine callX.by (w1) ?_|refine callX.by (ZG _) ?_|assumption|(refine Qw hK _ ?_;clear hK K)|refine Qw ‹_› _ ?_|refine Qx ‹_› ?_|refine Qi fun K hK=>?_|refine Qj T fun K hK=>?_|refine Ql fun A B hA hB=>?_|refine Qn ?_|refine Qr ?_)
 | ((with_reducible first|apply Qy|apply Qz|apply QA)<;>intro hb<;>try simp only[nr] at hb)
 |simp only[go_sem,↓reduceIte,reduceIte,Qa,Qh,Qb,Qc,Qd,Qe,Qf,Qg,reduceCtorEq, *,-w1]
 |with_reducible refine fun(bn:Bool) hbn=>?_))
 all_goals trace_state
theorem Jk7(n:Int):CallR Tryz.prog 70 [.int .i64 n] (.val (.agg [.int .i64 0,.int .i64 0,.int .i64 0,.int .i64 0,.int .i64 (Yn n)])):=by
 have w1:=JhS n
 refine QD (T:=T) Tryz.call70 Tryz.func70 rfl Tryz.ntmps70 (congrArg Array.toList Tryz.results70) (by decide) fun ts hn h0=>?_
 (repeat' (first
 | (with_reducible first|refine callX.by (w1) ?_|refine callX.by (JhS _) ?_|assumption|(refine Qw hK _ ?_;clear hK K)|refine Qw ‹_› _ ?_|refine Qx ‹_› ?_|refine Qi fun K hK=>?_|refine Qj T fun K hK=>?_|refine Ql fun A B hA hB=>?_|refine Qn ?_|refine Qr ?_)
 | ((with_reducible first|apply Qy|apply Qz|apply QA)<;>intro hb<;>try simp only[nr] at hb)
 |simp only[go_sem,↓reduceIte,reduceIte,Qa,Qh,Qb,Qc,Qd,Qe,Qf,Qg,reduceCtorEq, *,-w1]
 |with_reducible refine fun(bn:Bool) hbn=>?_))
 all_goals trace_state
def Jcw(i:In):Bool:=(decide (YY i.max i.last.a0=i.last.a0) && (decide (YY i.max i.last.a1=i.last.a1) && (decide (YY i.max i.last.a2=i.last.a2) && decide (YY i.max i.last.a3=i.last.a3)))) && decide (i.max=Yn i.max)
def nrA(f:Four)(m:Int)(n:Nat):List AV:=[.int .i64 (if 0<n then YY m f.a0 else f.a0),.int .i64 (if 1<n then YY m f.a1 else f.a1),.int .i64 (if 2<n then YY m f.a2 else f.a2),.int .i64 (if 3<n then YY m f.a3 else f.a3)]
theorem JdM(f:Four)(m:Int):nrA f m 0=[.int .i64 f.a0,.int .i64 f.a1,.int .i64 f.a2,.int .i64 f.a3]:=rfl
theorem Jct(f:Four)(m:Int):nrA f m 1=[.int .i64 (max 0 (min f.a0 m)),.int .i64 f.a1,.int .i64 f.a2,.int .i64 f.a3]:=rfl
theorem Jcu(f:Four)(m:Int):nrA f m 2=[.int .i64 (max 0 (min f.a0 m)),.int .i64 (max 0 (min f.a1 m)),.int .i64 f.a2,.int .i64 f.a3]:=rfl
theorem Jcv(f:Four)(m:Int):nrA f m 3=[.int .i64 (max 0 (min f.a0 m)),.int .i64 (max 0 (min f.a1 m)),.int .i64 (max 0 (min f.a2 m)),.int .i64 f.a3]:=rfl
theorem Jfb(f:Four)(m:Int):nrA f m 4=[.int .i64 (max 0 (min f.a0 m)),.int .i64 (max 0 (min f.a1 m)),.int .i64 (max 0 (min f.a2 m)),.int .i64 (max 0 (min f.a3 m))]:=rfl
def kz:Nat→Int
 |0=>0
 |1=>1
 |2=>2
 |3=>3
 |_=>4
theorem kz0:kz 0=0:=rfl
theorem kz1:kz 1=1:=rfl
theorem kz2:kz 2=2:=rfl
theorem kz3:kz 3=3:=rfl
theorem kz4:kz 4=4:=rfl
theorem i04:(0:Int)<4∧(1:Int)<4∧(2:Int)<4∧(3:Int)<4∧¬(4:Int)<4:=by decide
theorem c04:(0:Int)<((4:Nat):Int)∧(1:Int)<((4:Nat):Int)∧(2:Int)<((4:Nat):Int)∧(3:Int)<((4:Nat):Int):=by decide
theorem p04:(0:Int)≤0∧(0:Int)≤1∧(0:Int)≤2∧(0:Int)≤3:=by decide
theorem t04:Int.toNat 0=0∧Int.toNat 1=1∧Int.toNat 2=2∧Int.toNat 3=3:=by decide
theorem w04:IntKind.i64.wrap (0+1)=1∧IntKind.i64.wrap (1+1)=2∧IntKind.i64.wrap (2+1)=3∧IntKind.i64.wrap (3+1)=4:=by decide
set_option maxHeartbeats 4000000 in
theorem JhR(i_last_a0:Int)(i_last_a1:Int)(i_last_a2:Int)(i_last_a3:Int)(i_max:Int):CallR Tryz.prog 35 [.agg [.int .i64 i_last_a0,.int .i64 i_last_a1,.int .i64 i_last_a2,.int .i64 i_last_a3,.int .i64 i_max]] (.val (.bool (Jcw (⟨⟨i_last_a0,i_last_a1,i_last_a2,i_last_a3⟩,i_max⟩:In)))):=by
 have w1:=ZG i_max
 refine QD (T:=T) Tryz.call35 Tryz.func35 rfl Tryz.ntmps35 (congrArg Array.toList Tryz.results35) (by decide) fun ts hn h0=>?_
 (repeat' (first
 | (with_reducible first|refine callX.by (ZG _) ?_|assumption|(refine Qw hK _ ?_;clear hK K)|refine Qw ‹_› _ ?_|refine Qx ‹_› ?_|refine Qi fun K hK=>?_|refine Qj T fun K hK=>?_|refine Qk (id:=5) T mixed Wd0 (by kernel_rfl) fun K hK=>?_|refine Qk (id:=7) T mixed Wd1 (by kernel_rfl) fun K hK=>?_|refine Ql fun A B hA hB=>?_|refine Qm ?_|refine Qn ?_|refine Qp ?_|refine Qr ?_)
 | ((with_reducible first|apply Qy|apply Qz|apply QA)<;>intro hb<;>try simp only[nr] at hb)
 |simp only[go_sem,↓reduceIte,reduceIte,Qa,Qh,Qb,Qc,Qd,Qe,Qf,Qg,reduceCtorEq, *,-w1]
 |with_reducible refine fun(bn:Bool) hbn=>?_))
 refine Qs [1] (fun m ts'=>∃(n:Nat),∃(g:Nat),m=4-n∧n≤4∧ts'.tmp 3=.ref 3 g 0∧ts'.gen 3=g∧ts'.obj 3=.box (nrA ⟨i_last_a0,i_last_a1,i_last_a2,i_last_a3⟩ i_max n)∧ts'.tmp 7=.int .i64 (kz n)) 4 ?_ ?_
 ·refine⟨0,ts.gen 3+1,rfl,Nat.zero_le _,?_⟩
  simp only[go_sem,↓reduceIte,reduceIte,Qa,Qh,Qb,Qc,Qd,Qe,Qf,Qg,reduceCtorEq, *,-w1,JdM,kz0]
 ·rintro m A hM ts' hk ⟨n,g,hm,f1,s1,s2,s3,s4⟩
  simp only[go_sem,↓reduceIte,reduceIte,Qa,Qh,Qb,Qc,Qd,Qe,Qf,Qg,reduceCtorEq, *] at hk
  by_cases hlt:n<4
  ·rcases(show n=0∨n=1∨n=2∨n=3 by omega) with rfl|rfl|rfl|rfl
   ·(repeat' (first
 | (with_reducible first|refine callX.by (ZG _) ?_|assumption|(refine Qw hK _ ?_;clear hK K)|refine Qw ‹_› _ ?_|refine Qx ‹_› ?_|refine Qi fun K hK=>?_|refine Qj T fun K hK=>?_|refine Qk (id:=5) T mixed Wd0 (by kernel_rfl) fun K hK=>?_|refine Qk (id:=7) T mixed Wd1 (by kernel_rfl) fun K hK=>?_|refine Ql fun A B hA hB=>?_|refine Qm ?_|refine Qn ?_|refine Qp ?_|refine Qr ?_)
 | ((with_reducible first|apply Qy|apply Qz|apply QA)<;>intro hb<;>try simp only[nr] at hb)
 |simp only[go_sem,↓reduceIte,reduceIte,Qa,Qh,Qb,Qc,Qd,Qe,Qf,Qg,reduceCtorEq, *,-w1,JdM,kz0,i04,c04,p04,t04]
 |with_reducible refine fun(bn:Bool) hbn=>?_))
    all_goals ((repeat clear hK);(repeat clear hA);(repeat clear hB))
    all_goals (refine hM.on (3) (by omega) (by simp only[go_sem,↓reduceIte,reduceIte,Qa,Qh,Qb,Qc,Qd,Qe,Qf,Qg,reduceCtorEq, *,-w1,JdM,Jct,kz0,kz1,w04]) ⟨1,g,rfl,by omega,?_⟩;simp only[go_sem,↓reduceIte,reduceIte,Qa,Qh,Qb,Qc,Qd,Qe,Qf,Qg,reduceCtorEq, *,-w1,JdM,Jct,kz0,kz1,w04];done)
   ·(repeat' (first
 | (with_reducible first|refine callX.by (ZG _) ?_|assumption|(refine Qw hK _ ?_;clear hK K)|refine Qw ‹_› _ ?_|refine Qx ‹_› ?_|refine Qi fun K hK=>?_|refine Qj T fun K hK=>?_|refine Qk (id:=5) T mixed Wd0 (by kernel_rfl) fun K hK=>?_|refine Qk (id:=7) T mixed Wd1 (by kernel_rfl) fun K hK=>?_|refine Ql fun A B hA hB=>?_|refine Qm ?_|refine Qn ?_|refine Qp ?_|refine Qr ?_)
 | ((with_reducible first|apply Qy|apply Qz|apply QA)<;>intro hb<;>try simp only[nr] at hb)
 |simp only[go_sem,↓reduceIte,reduceIte,Qa,Qh,Qb,Qc,Qd,Qe,Qf,Qg,reduceCtorEq, *,-w1,Jct,kz1,i04,c04,p04,t04]
 |with_reducible refine fun(bn:Bool) hbn=>?_))
    all_goals ((repeat clear hK);(repeat clear hA);(repeat clear hB))
    all_goals (refine hM.on (2) (by omega) (by simp only[go_sem,↓reduceIte,reduceIte,Qa,Qh,Qb,Qc,Qd,Qe,Qf,Qg,reduceCtorEq, *,-w1,Jct,Jcu,kz1,kz2,w04]) ⟨2,g,rfl,by omega,?_⟩;simp only[go_sem,↓reduceIte,reduceIte,Qa,Qh,Qb,Qc,Qd,Qe,Qf,Qg,reduceCtorEq, *,-w1,Jct,Jcu,kz1,kz2,w04];done)
   ·(repeat' (first
 | (with_reducible first|refine callX.by (ZG _) ?_|assumption|(refine Qw hK _ ?_;clear hK K)|refine Qw ‹_› _ ?_|refine Qx ‹_› ?_|refine Qi fun K hK=>?_|refine Qj T fun K hK=>?_|refine Qk (id:=5) T mixed Wd0 (by kernel_rfl) fun K hK=>?_|refine Qk (id:=7) T mixed Wd1 (by kernel_rfl) fun K hK=>?_|refine Ql fun A B hA hB=>?_|refine Qm ?_|refine Qn ?_|refine Qp ?_|refine Qr ?_)
 | ((with_reducible first|apply Qy|apply Qz|apply QA)<;>intro hb<;>try simp only[nr] at hb)
 |simp only[go_sem,↓reduceIte,reduceIte,Qa,Qh,Qb,Qc,Qd,Qe,Qf,Qg,reduceCtorEq, *,-w1,Jcu,kz2,i04,c04,p04,t04]
 |with_reducible refine fun(bn:Bool) hbn=>?_))
    all_goals ((repeat clear hK);(repeat clear hA);(repeat clear hB))
    all_goals (refine hM.on (1) (by omega) (by simp only[go_sem,↓reduceIte,reduceIte,Qa,Qh,Qb,Qc,Qd,Qe,Qf,Qg,reduceCtorEq, *,-w1,Jcu,Jcv,kz2,kz3,w04]) ⟨3,g,rfl,by omega,?_⟩;simp only[go_sem,↓reduceIte,reduceIte,Qa,Qh,Qb,Qc,Qd,Qe,Qf,Qg,reduceCtorEq, *,-w1,Jcu,Jcv,kz2,kz3,w04];done)
   ·(repeat' (first
 | (with_reducible first|refine callX.by (ZG _) ?_|assumption|(refine Qw hK _ ?_;clear hK K)|refine Qw ‹_› _ ?_|refine Qx ‹_› ?_|refine Qi fun K hK=>?_|refine Qj T fun K hK=>?_|refine Qk (id:=5) T mixed Wd0 (by kernel_rfl) fun K hK=>?_|refine Qk (id:=7) T mixed Wd1 (by kernel_rfl) fun K hK=>?_|refine Ql fun A B hA hB=>?_|refine Qm ?_|refine Qn ?_|refine Qp ?_|refine Qr ?_)
 | ((with_reducible first|apply Qy|apply Qz|apply QA)<;>intro hb<;>try simp only[nr] at hb)
 |simp only[go_sem,↓reduceIte,reduceIte,Qa,Qh,Qb,Qc,Qd,Qe,Qf,Qg,reduceCtorEq, *,-w1,Jcv,kz3,i04,c04,p04,t04]
 |with_reducible refine fun(bn:Bool) hbn=>?_))
    all_goals ((repeat clear hK);(repeat clear hA);(repeat clear hB))
    all_goals (refine hM.on (0) (by omega) (by simp only[go_sem,↓reduceIte,reduceIte,Qa,Qh,Qb,Qc,Qd,Qe,Qf,Qg,reduceCtorEq, *,-w1,Jcv,Jfb,kz3,kz4,w04]) ⟨4,g,rfl,by omega,?_⟩;simp only[go_sem,↓reduceIte,reduceIte,Qa,Qh,Qb,Qc,Qd,Qe,Qf,Qg,reduceCtorEq, *,-w1,Jcv,Jfb,kz3,kz4,w04];done)
  ·have e4:n=4:=by omega
   subst e4
   (repeat' (first
 | (with_reducible first|refine callX.by (w1) ?_|refine callX.by (ZG _) ?_|assumption|(refine Qw hK _ ?_;clear hK K)|refine Qw ‹_› _ ?_|refine Qx ‹_› ?_|refine Qi fun K hK=>?_|refine Qj T fun K hK=>?_|refine Qk (id:=5) T mixed Wd0 (by kernel_rfl) fun K hK=>?_|refine Qk (id:=7) T mixed Wd1 (by kernel_rfl) fun K hK=>?_|refine Ql fun A B hA hB=>?_|refine Qm ?_|refine Qn ?_|refine Qp ?_|refine Qr ?_)
 | ((with_reducible first|apply Qy|apply Qz|apply QA)<;>intro hb<;>try simp only[nr] at hb)
 |simp only[go_sem,↓reduceIte,reduceIte,Qa,Qh,Qb,Qc,Qd,Qe,Qf,Qg,reduceCtorEq, *,-w1,Jfb,kz4,i04]
 |with_reducible refine fun(bn:Bool) hbn=>?_))
   all_goals ((repeat clear hK);(repeat clear hA);(repeat clear hB))
   all_goals (unfold Jcw YY;simp only;rw[hb];simp)
def upV(x:Int):Value:=.iface 216 (.agg #[.int .i64 x])
def Zu(x:Int):List PanicEntry:=[{ v:=upV x,recovered:=false }]
theorem Jkf(p:Addr)(x y:Int)(w:World)(hc:w.cell? p=some (.int .i64 y))(hz:w.frozen? p=false) :
  CallsD Tryz.prog 139 #[.pointer (some p)] (.panicking (Zu x)) w fun e u' w' =>
   e=.returned (.tuple #[])∧u'=.panicking [{ v:=upV x,recovered:=true }]∧w'=w.setCell p (.int .i64 x):=by
 have hta:∀(v:Value) (w:World),(Instr.typeAssert (.iface 216 v) 20 216 false).run Tryz.prog w=.ok v w:=fun _ _=>by kernel_rfl
 have hfi:∀(x:Int) (w:World),(Instr.field 216 (.agg #[.int .i64 x]) 0).run Tryz.prog w=.ok (.int .i64 x) w:=fun _ _=>by kernel_rfl
 have hne:∀(t:TypeId) (v:Value) (w:World),(binOp BinOp.neq 20 (.iface t v) .nilIface).run Tryz.prog w=.ok (.bool true) w:=fun _ _ _=>by kernel_rfl
 have hnn:∀(w:World),(binOp BinOp.neq 20 .nilIface .nilIface).run Tryz.prog w=.ok (.bool false) w:=fun _=>by kernel_rfl
 refine callsD_of_wpS Tryz.func139 rfl fun c₀ cs hu=>?_
 apply wpS_seq
 apply wpS_region
 simp[wpOpsS,hta,hfi,hne,hnn,go_sem,recoverD,hu,Zu,Tryz.ntmps139,Exit.thenS]
 apply wpS_seq
 apply wpS_region
 simp[wpOpsS,hta,hfi,hne,hnn,go_sem,upV,Exit.thenS]
 refine wpS_cond (t:=true) (by simp[Act.eval,Array.replicate]) ?_
 simp only[if_true]
 apply wpS_region
 simp[wpOpsS,hta,hfi,hne,hnn,go_sem,hc,hz,bodyPostS,results,Tryz.results139]
theorem Jke(p:Addr)(w:World) :
  CallsD Tryz.prog 139 #[.pointer (some p)] .returning w fun e u' w'=>e=.returned (.tuple #[])∧u'=.returning∧w'=w:=by
 have hta:∀(v:Value) (w:World),(Instr.typeAssert (.iface 216 v) 20 216 false).run Tryz.prog w=.ok v w:=fun _ _=>by kernel_rfl
 have hfi:∀(x:Int) (w:World),(Instr.field 216 (.agg #[.int .i64 x]) 0).run Tryz.prog w=.ok (.int .i64 x) w:=fun _ _=>by kernel_rfl
 have hne:∀(t:TypeId) (v:Value) (w:World),(binOp BinOp.neq 20 (.iface t v) .nilIface).run Tryz.prog w=.ok (.bool true) w:=fun _ _ _=>by kernel_rfl
 have hnn:∀(w:World),(binOp BinOp.neq 20 .nilIface .nilIface).run Tryz.prog w=.ok (.bool false) w:=fun _=>by kernel_rfl
 refine callsD_of_wpS Tryz.func139 rfl fun c₀ cs hu=>?_
 apply wpS_seq
 apply wpS_region
 simp[wpOpsS,hta,hfi,hne,hnn,go_sem,recoverD,hu,Tryz.ntmps139,Exit.thenS]
 apply wpS_seq
 apply wpS_region
 simp[wpOpsS,hta,hfi,hne,hnn,go_sem,Exit.thenS]
 refine wpS_cond (t:=false) (by simp[Act.eval,Array.replicate]) ?_
 simp only[Bool.false_eq_true,if_false]
 refine wpS_of_wp (wp_skip ?_)
 cases c₀
 simp_all[bodyPostS,results,Tryz.results139]
def Zh(w:World):World:=w.alloc (.cells #[.int .i64 0] 31)
def Zg(w:World):Addr:=⟨w.heap.size,0,none⟩
theorem JgD{w:World}{p:Addr}{v y:Value}(h:w.cell? p=some y):(w.setCell p v).cell? p=some v:=by
 unfold World.cell? at h ⊢
 unfold World.setCell
 simp only[Array.getElem?_modify,if_true]
 cases hh:w.heap[p.block]? with
 |none=>rw[hh] at h;simp at h
 |some o =>
  rw[hh] at h
  cases o with
  |cells c el fr =>
   simp only[Option.map_some] at h ⊢
   by_cases hs:p.spot.isSome
   ·simp[hs] at h
   ·simp only[hs] at h ⊢
    simp only[Bool.false_eq_true,if_false] at h ⊢
    obtain⟨hlt,_⟩:=Array.getElem?_eq_some_iff.1 h
    simp[hlt]
  |_=>simp at h
theorem Jkh(g:FuncId)(caps:Array Value)(w:World)(R:Ending→World→Prop)
  (hg:∀w,(callFunc g caps).run Tryz.prog w=.ok (.enter g caps) w) (h:Calls Tryz.prog g caps (Zh w) R)
  (hR:∀e w',R e w'→w'.cell? (Zg w)=some (.int .i64 0)∧w'.frozen? (Zg w)=false∧((e=.returned (.tuple #[]))∨∃x,e=.panicked (Zu x))) :
  Calls Tryz.prog 103 #[.func (.func g) #[] caps] w fun e w''=>∃e1 w1,R e1 w1 ∧
   ((e1=.returned (.tuple #[])∧e=.returned (.int .i64 0)∧w''=w1.setCell (Zg w) (.int .i64 0))∨∃x,e1=.panicked (Zu x)∧e=.returned (.int .i64 x)∧w''=w1.setCell (Zg w) (.int .i64 x)):=by
 have hmf:∀(fn:Fn) (first cap:Array Value) (w:World),(Instr.makeFunc fn first cap).run Tryz.prog w=.ok (.func fn first cap) w:=fun _ _ _ _=>rfl
 go_enter_defers Tryz.func103,Tryz.ntmps103
 go_wp2
 rename_i K1 hK1 K0 hK0
 refine Calls.mono h ?_
 intro e1 w1 hr
 obtain⟨hc,hz,hcase⟩:=hR e1 w1 hr
 have hc':w1.cell? ⟨w.heap.size,0,none⟩=some (.int .i64 0):=hc
 have hz':w1.frozen? ⟨w.heap.size,0,none⟩=false:=hz
 rcases hcase with rfl|⟨x,rfl⟩
 ·apply hK0
  simp only[wpList]
  apply hK1
  go_wp2
  simp only[bodyPostD]
  refine leaves_cons (f:=139) (args:=#[.pointer (some ⟨w.heap.size,0,none⟩)]) (by simp) (by simp[go_sem]) ?_
  refine(Jke ⟨w.heap.size,0,none⟩ _).mono ?_
  rintro e u' w'' ⟨rfl,rfl,rfl⟩
  have hcc:=JgD (v:=.int .i64 0) hc'
  simp[Leaves,settle,results,Tryz.results103,go_sem,hcc]
  exact⟨_,w1,hr,.inl ⟨rfl,rfl⟩⟩
 ·show bodyPostD _ _ _ _ _ _
  simp only[bodyPostD]
  refine leaves_cons (f:=139) (args:=#[.pointer (some ⟨w.heap.size,0,none⟩)]) (by simp) (by simp[go_sem]) ?_
  refine(Jkf ⟨w.heap.size,0,none⟩ x 0 _ hc' hz').mono ?_
  rintro e u' w'' ⟨rfl,rfl,rfl⟩
  have hcc:=JgD (v:=.int .i64 x) hc'
  simp[Leaves,settle,results,Tryz.results103,go_sem,hcc]
  exact⟨_,w1,hr,.inr ⟨x,rfl,rfl,rfl⟩⟩
end Go.Proofs.YthjalhfmpffbjaaGreatDoor.Lg
