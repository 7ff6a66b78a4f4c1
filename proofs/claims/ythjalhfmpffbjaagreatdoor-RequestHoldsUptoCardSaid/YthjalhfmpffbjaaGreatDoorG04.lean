/- Parts of the proof, one behind the other. -/
import Derived.Tactics
import Derived.Tactics2
import Derived.Defers
import Derived.Recover
import Derived.Laws.Pointers
import Derived.Test.YthjalhfmpffbjaaGreatDoorG03
set_option linter.unusedVariables false
set_option linter.unusedSimpArgs false
set_option maxRecDepth 100000
set_option maxHeartbeats 64000000
namespace Go.Proofs.YthjalhfmpffbjaaGreatDoor.Lg
open Go
open Tryz
open Nat renaming reduceEqDiff → Qa, reduceLT → Qb, reduceLeDiff → Qc, reduceAdd → Qd, reduceMul → Qe, reduceSub → Qf, reduceBEq → Qg
open String renaming reduceEq → Qh
open SpecC renaming seqW → Qi, regW → Qj, drawW → Qk, condW → Ql, block → Qm, skip → Qn, label → Qo, exit → Qp, goto → Qq, ret → Qr, loopF → Qs
open NxK renaming out → Qw
open Nx renaming out → Qx
open condK renaming split → Qy
open gK renaming split_t → Qz, split_f → QA
def Zf(n a b:Int):Bool:=decide (a≤n) && decide (n≤b)
theorem Jg4(a b c:Int):CallR prog 78 [.int .i64 a,.int .i64 b,.int .i64 c] (.val (.bool (Zf a b c))):=by
 refine Vs call78 func78 rfl ntmps78 results78 fun ts hn h0 h1 h2=>?_
 (repeat' (first
 | (with_reducible first|assumption|(refine Qw hK _ ?_;clear hK K)|refine Qw ‹_› _ ?_|refine Qx ‹_› ?_|refine Qi fun K hK=>?_|refine Qj T fun K hK=>?_|refine Ql fun A B hA hB=>?_|refine Qn ?_|refine Qr ?_)
 |(with_reducible first|apply Qy|apply Qz|apply QA)<;>intro hb<;>try simp only[nr] at hb
 |simp only[go_sem,↓reduceIte,Qa,Qh,Qb,Qc,Qd,Qe,Qf,Qg,reduceCtorEq, *]
 |intro(bn:Bool) hbn))
 all_goals simp[Zf, *]
theorem ZJ(n:Int)(xs:List Snap)(hl:Jc xs.length):CallR prog 69 [.agg [.int .i64 n,.slice false (Ja xs)]] (.val (.int .i64 (xs.length-1))):=by
 refine Jl call69 func69 rfl ntmps69 results69 fun ts hn h0=>?_
 (repeat' (first
 | (with_reducible first|assumption|(refine Qw hK _ ?_;clear hK K)|refine Qw ‹_› _ ?_|refine Qx ‹_› ?_|refine Qi fun K hK=>?_|refine Qj T fun K hK=>?_|refine Ql fun A B hA hB=>?_|refine Qn ?_|refine Qr ?_)
 |(with_reducible first|apply Qy|apply Qz|apply QA)<;>intro hb<;>try simp only[nr] at hb
 |simp only[go_sem,↓reduceIte,Qa,Qh,Qb,Qc,Qd,Qe,Qf,Qg,reduceCtorEq, *,Jg3 hl]
 |intro(bn:Bool) hbn))
def JaH(next:Int):List Snap→Int→Bool
 | [],_=>true
 |s :: r,ahead=>Zf s.id (IntKind.i64.wrap (ahead+1)) next && Zf s.pins (if r=[] then 0 else 1) 10000 && JaH next r s.id
def ZL(p:Pins):Bool:=JaH p.next' p.snaps 0 && (Zf p.next' 0 2147483647 && decide (p.snaps.length≤1000))
theorem Jgl(next:Int)(xs:List Snap)(hl:Jc xs.length):CallR prog 37 [.agg [.int .i64 next,.slice false (Ja xs)]] (.val (.bool (ZL ⟨next,xs⟩))):=by
 refine Jl call37 func37 rfl ntmps37 results37 fun ts hn h0=>?_
 (repeat' (first
 | (with_reducible first|refine callX.by (ZJ _ _ ?_) ?_|refine callX.by (Jg4 _ _ _) ?_|assumption|(refine Qw hK _ ?_;clear hK K)|refine Qw ‹_› _ ?_|refine Qx ‹_› ?_|refine Qi fun K hK=>?_|refine Qj T fun K hK=>?_|refine Ql fun A B hA hB=>?_|refine Qm ?_|refine Qn ?_|refine Qp ?_|refine Qr ?_)
 |(with_reducible first|apply Qy|apply Qz|apply QA)<;>intro hb<;>try simp only[nr] at hb
 |simp only[go_sem,↓reduceIte,Qa,Qh,Qb,Qc,Qd,Qe,Qf,Qg,reduceCtorEq, *]
 |intro(bn:Bool) hbn))
 refine Qs [1,8,9] (fun m ts'=>∃(i:Nat),∃(a:Int),m=xs.length-i∧i≤xs.length∧JaH next xs 0=JaH next (xs.drop i) a∧ts'.tmp 3=.int .i64 a∧ts'.tmp 10=.int .i64 i) xs.length ?_ ?_
 ·refine⟨0,0,?_⟩
  simp only[go_sem,↓reduceIte,Qa,Qh,Qb,Qc,Qd,Qe,Qf,Qg,reduceCtorEq, *]
 ·rintro m A hM ts' hk ⟨i,a,hm,f1,f2,s1,s2⟩
  simp only[go_sem,↓reduceIte,Qa,Qh,Qb,Qc,Qd,Qe,Qf,Qg,reduceCtorEq, *] at hk
  by_cases hlt:i<xs.length
  ·rw[List.drop_eq_getElem_cons hlt,JaH] at f2
   have hr:(xs.drop (i+1)=[])=((i:Int)=xs.length-1):=by rw[List.drop_eq_nil_iff];apply propext;omega
   simp only[hr] at f2
   (repeat' (first
 | (with_reducible first|refine callX.by (ZJ _ _ ?_) ?_|refine callX.by (Jg4 _ _ _) ?_|assumption|(refine Qw hK _ ?_;clear hK K)|refine Qw ‹_› _ ?_|refine Qx ‹_› ?_|refine Qi fun K hK=>?_|refine Qj T fun K hK=>?_|refine Ql fun A B hA hB=>?_|refine Qm ?_|refine Qn ?_|refine Qp ?_|refine Qr ?_)
 |(with_reducible first|apply Qy|apply Qz|apply QA)<;>intro hb<;>try simp only[nr] at hb
 |simp only[go_sem,↓reduceIte,Qa,Qh,Qb,Qc,Qd,Qe,Qf,Qg,reduceCtorEq, *]
 |intro(bn:Bool) hbn))
   all_goals ((repeat clear hK);(repeat clear hA);(repeat clear hB))
   all_goals first
    | (clear hM;simp_all[ZL];done)
    | (refine hM.on (xs.length-(i+1)) (by omega) (by simp only[go_sem,↓reduceIte,Qa,Qh,Qb,Qc,Qd,Qe,Qf,Qg,reduceCtorEq, *,Jg hlt hl]) ⟨i+1,xs[i].id,rfl,by omega,by simp_all,?_⟩;simp only[go_sem,↓reduceIte,Qa,Qh,Qb,Qc,Qd,Qe,Qf,Qg,reduceCtorEq, *,Jg hlt hl];done)
  ·rw[List.drop_eq_nil_of_le (by omega),JaH] at f2
   (repeat' (first
 | (with_reducible first|refine callX.by (ZJ _ _ ?_) ?_|refine callX.by (Jg4 _ _ _) ?_|assumption|(refine Qw hK _ ?_;clear hK K)|refine Qw ‹_› _ ?_|refine Qx ‹_› ?_|refine Qi fun K hK=>?_|refine Qj T fun K hK=>?_|refine Ql fun A B hA hB=>?_|refine Qm ?_|refine Qn ?_|refine Qp ?_|refine Qr ?_)
 |(with_reducible first|apply Qy|apply Qz|apply QA)<;>intro hb<;>try simp only[nr] at hb
 |simp only[go_sem,↓reduceIte,Qa,Qh,Qb,Qc,Qd,Qe,Qf,Qg,reduceCtorEq, *]
 |intro(bn:Bool) hbn))
   all_goals ((repeat clear hK);(repeat clear hA);(repeat clear hB))
   all_goals (clear hM;simp_all[ZL])
theorem Jec(id pins:Int)(xs:List Res):CallR prog 138 [.agg [.int .i64 id,.int .i64 pins,.slice false (Ja xs)]] (.val (.bool (decide (pins=0)))):=by
 refine Jl call138 func138 rfl ntmps138 results138 fun ts hn h0=>?_
 (repeat' (first
 | (with_reducible first|assumption|(refine Qw hK _ ?_;clear hK K)|refine Qw ‹_› _ ?_|refine Qx ‹_› ?_|refine Qi fun K hK=>?_|refine Qj T fun K hK=>?_|refine Ql fun A B hA hB=>?_|refine Qn ?_|refine Qr ?_)
 |(with_reducible first|apply Qy|apply Qz|apply QA)<;>intro hb<;>try simp only[nr] at hb
 |simp only[go_sem,↓reduceIte,Qa,Qh,Qb,Qc,Qd,Qe,Qf,Qg,reduceCtorEq, *]
 |intro(bn:Bool) hbn))
def Jq(p:Pins):Pins:=if ZL p then p else ⟨0,[]⟩
theorem Jco{p:Pins}(h:Jc p.snaps.length):Jc (Jq p).snaps.length:=by
 unfold Jq;split
 ·exact h
 ·simp[Jc]
theorem ZO(next:Int)(xs:List Snap)(hl:Jc xs.length):CallR prog 42 [.agg [.int .i64 next,.slice false (Ja xs)]] (.val (Dat.av (Jq ⟨next,xs⟩))):=by
 refine Jl call42 func42 rfl ntmps42 results42 fun ts hn h0=>?_
 (repeat' (first
 | (with_reducible first|refine callX.by (Jgl _ _ ?_) ?_|assumption|(refine Qw hK _ ?_;clear hK K)|refine Qw ‹_› _ ?_|refine Qx ‹_› ?_|refine Qi fun K hK=>?_|refine Qj T fun K hK=>?_|refine Ql fun A B hA hB=>?_|refine Qn ?_|refine Qr ?_)
 |(with_reducible first|apply Qy|apply Qz|apply QA)<;>intro hb<;>try simp only[nr] at hb
 |simp only[go_sem,↓reduceIte,Qa,Qh,Qb,Qc,Qd,Qe,Qf,Qg,reduceCtorEq, *]
 |intro(bn:Bool) hbn))
 all_goals simp[Jq, *,Vp,JmY]
theorem Vf(kind ver port:Int)(name to:List UInt8)(rs:List Rule)(hs:List Int):CallR prog 149 [.agg [.int .i64 kind,.str name,.int .i64 ver,.int .i64 port,.str to,.slice false (Ja rs),.slice false (Ja hs)]] (.val (.agg [.int .i64 kind,.str name])):=by
 refine Jl call149 func149 rfl ntmps149 results149 fun ts hn h0=>?_
 (repeat' (first
 | (with_reducible first|assumption|(refine Qw hK _ ?_;clear hK K)|refine Qw ‹_› _ ?_|refine Qx ‹_› ?_|refine Qi fun K hK=>?_|refine Qj T fun K hK=>?_|refine Ql fun A B hA hB=>?_|refine Qn ?_|refine Qr ?_)
 |(with_reducible first|apply Qy|apply Qz|apply QA)<;>intro hb<;>try simp only[nr] at hb
 |simp only[go_sem,↓reduceIte,Qa,Qh,Qb,Qc,Qd,Qe,Qf,Qg,reduceCtorEq, *]
 |intro(bn:Bool) hbn))
def J5(xs:List Snap)(id:Int):Nat→Int
 |0=>-1
 |n+1=>if(xs.getD n default).id=id then n else J5 xs id n
theorem Jey{xs:List Snap}{id:Int}{k:Nat}(h0:0<k)(hk:k≤xs.length):J5 xs id k=if(xs[k-1]'(by omega)).id=id then (k:Int)-1 else J5 xs id (k-1):=by
 obtain⟨n,rfl⟩:∃n,k=n+1:=⟨k-1,by omega⟩
 rw[J5]
 have e:xs.getD n default=xs[n]:=by simp[show n<xs.length by omega]
 simp only[Nat.add_sub_cancel,e]
 split<;>simp
theorem Jex(xs:List Snap)(id:Int):∀k,J5 xs id k<k∧-1≤J5 xs id k
 |0=>by simp[J5]
 |k+1=>by
  have:=Jex xs id k
  rw[J5]
  split<;>omega
theorem Jez(next id:Int)(xs:List Snap)(hl:Jc xs.length):CallR prog 43 [.agg [.int .i64 next,.slice false (Ja xs)],.int .i64 id] (.val (.int .i64 (J5 xs id xs.length))):=by
 refine Jn call43 func43 rfl ntmps43 results43 fun ts hn h0 h1=>?_
 (repeat' (first
 | (with_reducible first|refine callX.by (ZJ _ _ ?_) ?_|assumption|(refine Qw hK _ ?_;clear hK K)|refine Qw ‹_› _ ?_|refine Qx ‹_› ?_|refine Qi fun K hK=>?_|refine Qj T fun K hK=>?_|refine Ql fun A B hA hB=>?_|refine Qn ?_|refine Qo ?_|refine Qq ?_|refine Qr ?_)
 |(with_reducible first|apply Qy|apply Qz|apply QA)<;>intro hb<;>try simp only[nr] at hb
 |simp only[go_sem,↓reduceIte,Qa,Qh,Qb,Qc,Qd,Qe,Qf,Qg,reduceCtorEq, *]
 |intro(bn:Bool) hbn))
 refine SpecC.scopeF 0 [1,2] (fun m ts'=>∃(k:Nat),m=k∧k≤xs.length∧J5 xs id xs.length=J5 xs id k∧ts'.tmp 2=.ref 2 (ts.gen 2+1) 0∧ts'.gen 2=ts.gen 2+1∧ts'.obj 2=.box [.int .i64 next,.slice false (Ja xs)]∧ts'.tmp 5=.int .i64 (k-1)) (xs.length+1) rfl ?_ ?_
 ·intro J hM
  (repeat' (first
 | (with_reducible first|refine callX.by (ZJ _ _ ?_) ?_|assumption|(refine Qw hK _ ?_;clear hK K)|refine Qw ‹_› _ ?_|refine Qx ‹_› ?_|refine Qi fun K hK=>?_|refine Qj T fun K hK=>?_|refine Ql fun A B hA hB=>?_|refine Qn ?_|refine Qo ?_|refine Qq ?_|refine Qr ?_)
 |(with_reducible first|apply Qy|apply Qz|apply QA)<;>intro hb<;>try simp only[nr] at hb
 |simp only[go_sem,↓reduceIte,Qa,Qh,Qb,Qc,Qd,Qe,Qf,Qg,reduceCtorEq, *]
 |intro(bn:Bool) hbn))
  all_goals ((repeat clear hK);(repeat clear hA);(repeat clear hB))
  ·have hb0:0<xs.length:=by assumption
   have e:=Jey (id:=id) hb0 (Nat.le_refl _)
   rw[if_neg (of_decide_eq_false hb)] at e
   (refine hM.on (xs.length-1) (by omega) (by simp only[go_sem,↓reduceIte,Qa,Qh,Qb,Qc,Qd,Qe,Qf,Qg,reduceCtorEq, *,Jfh (Nat.le_refl _) hb0 hl,-e]) ⟨xs.length-1,rfl,by omega,e,?_⟩;simp only[go_sem,↓reduceIte,Qa,Qh,Qb,Qc,Qd,Qe,Qf,Qg,reduceCtorEq, *,Jfh (Nat.le_refl _) hb0 hl,-e];done)
  ·have hb0:0<xs.length:=by assumption
   rw[Jey (id:=id) hb0 (Nat.le_refl _),if_pos (of_decide_eq_true hb)]
  ·have hb0:xs.length=0:=by omega
   rw[hb0];rfl
 ·rintro m A hM ts' hk ⟨k,hm,f1,f2,s1,s2,s3,s4⟩
  simp only[go_sem,↓reduceIte,Qa,Qh,Qb,Qc,Qd,Qe,Qf,Qg,reduceCtorEq, *] at hk
  obtain rfl:=hm
  (repeat' (first
 | (with_reducible first|refine callX.by (ZJ _ _ ?_) ?_|assumption|(refine Qw hK _ ?_;clear hK K)|refine Qw ‹_› _ ?_|refine Qx ‹_› ?_|refine Qi fun K hK=>?_|refine Qj T fun K hK=>?_|refine Ql fun A B hA hB=>?_|refine Qn ?_|refine Qo ?_|refine Qq ?_|refine Qr ?_)
 |(with_reducible first|apply Qy|apply Qz|apply QA)<;>intro hb<;>try simp only[nr] at hb
 |simp only[go_sem,↓reduceIte,Qa,Qh,Qb,Qc,Qd,Qe,Qf,Qg,reduceCtorEq, *]
 |intro(bn:Bool) hbn))
  all_goals ((repeat clear hK);(repeat clear hA);(repeat clear hB))
  ·have hb0:0<m:=by assumption
   have e:=Jey (id:=id) hb0 f1
   rw[if_neg (of_decide_eq_false hb)] at e
   (refine hM.on (m-1) (by omega) (by simp only[go_sem,↓reduceIte,Qa,Qh,Qb,Qc,Qd,Qe,Qf,Qg,reduceCtorEq, *,Jfh f1 hb0 hl,-e,-f2]) ⟨m-1,rfl,by omega,f2.trans e,?_⟩;simp only[go_sem,↓reduceIte,Qa,Qh,Qb,Qc,Qd,Qe,Qf,Qg,reduceCtorEq, *,Jfh f1 hb0 hl,-e,-f2];done)
  ·have hb0:0<m:=by assumption
   rw[Jey (id:=id) hb0 f1,if_pos (of_decide_eq_true hb)]
  ·have hb0:m=0:=by omega
   rw[hb0];rfl
def JJ(p:Pins):Int×List Res×Bool :=
 match (Jq p).snaps.getLast? with
 |none=>(0,[],false)
 |some s=>(s.id,s.l,true)
theorem JfE(next:Int)(xs:List Snap)(hl:Jc xs.length):CallR prog 29 [.agg [.int .i64 next,.slice false (Ja xs)]] (.val (.tup [.int .i64 (JJ ⟨next,xs⟩).1,.slice false (Ja (JJ ⟨next,xs⟩).2.1),.bool (JJ ⟨next,xs⟩).2.2])):=by
 have hl2:Jc (Jq ⟨next,xs⟩).snaps.length:=Jco hl
 refine Jl call29 func29 rfl ntmps29 results29 fun ts hn h0=>?_
 (repeat' (first
 | (with_reducible first|refine callX.by (ZO _ _ ?_) ?_|refine callX.by (ZJ _ _ ?_) ?_|assumption|(refine Qw hK _ ?_;clear hK K)|refine Qw ‹_› _ ?_|refine Qx ‹_› ?_|refine Qi fun K hK=>?_|refine Qj T fun K hK=>?_|refine Qk (id:=5) T mixed [([12],[14,16,17,18,19,20,21,22,23]),([13],[14,17,18,19,20,21,22,23]),([14],[12,13,17,18,19,20,21,22,23]),([15],[18,19,20,21,22,23]),([16],[12,18,19,20,21,22,23]),([17],[12,13,14,18,19,20,21,22,23]),([18],[12,13,14,15,16,17,20,22,23,2]),([19],[12,13,14,15,16,17,20,23,2]),([20],[12,13,14,15,16,17,18,19,23,2]),([21],[12,13,14,15,16,17,2]),([22],[12,13,14,15,16,17,18,2]),([23],[12,13,14,15,16,17,18,19,20,2]),([2],[18,19,20,21,22,23])] (by kernel_rfl) fun K hK=>?_|refine Ql fun A B hA hB=>?_|refine Qn ?_|refine Qr ?_)
 |(with_reducible first|apply Qy|apply Qz|apply QA)<;>intro hb<;>try simp only[nr] at hb
 |simp only[go_sem,↓reduceIte,Qa,Qh,Qb,Qc,Qd,Qe,Qf,Qg,reduceCtorEq, *]
 |intro(bn:Bool) hbn))
 ·have h0:(Jq ⟨next,xs⟩).snaps=[]:=by simpa using hb
  simp[JJ,h0,Vp]
 ·simp[JJ,List.getLast?_eq_getElem?,List.getElem?_eq_getElem (show(Jq ⟨next,xs⟩).snaps.length-1<(Jq ⟨next,xs⟩).snaps.length by omega)]
def VO(p:Pins)(id:Int):List Res×Bool :=
 let q:=Jq p
 let k:=J5 q.snaps id q.snaps.length
 if k<0 then ([],false) else ((q.snaps.getD k.toNat default).l,true)
theorem Jgm(next id:Int)(xs:List Snap)(hl:Jc xs.length):CallR prog 14 [.agg [.int .i64 next,.slice false (Ja xs)],.int .i64 id] (.val (.tup [.slice false (Ja (VO ⟨next,xs⟩ id).1),.bool (VO ⟨next,xs⟩ id).2])):=by
 have hl2:Jc (Jq ⟨next,xs⟩).snaps.length:=Jco hl
 have hp:=Jex (Jq ⟨next,xs⟩).snaps id (Jq ⟨next,xs⟩).snaps.length
 refine Jn call14 func14 rfl ntmps14 results14 fun ts hn h0 h1=>?_
 by_cases hneg:J5 (Jq ⟨next,xs⟩).snaps id (Jq ⟨next,xs⟩).snaps.length<0
 ·(repeat' (first
 | (with_reducible first|refine callX.by (ZO _ _ ?_) ?_|refine callX.by (Jez _ _ _ ?_) ?_|assumption|(refine Qw hK _ ?_;clear hK K)|refine Qw ‹_› _ ?_|refine Qx ‹_› ?_|refine Qi fun K hK=>?_|refine Qj T fun K hK=>?_|refine Ql fun A B hA hB=>?_|refine Qn ?_|refine Qr ?_)
 |(with_reducible first|apply Qy|apply Qz|apply QA)<;>intro hb<;>try simp only[nr] at hb
 |simp only[go_sem,↓reduceIte,Qa,Qh,Qb,Qc,Qd,Qe,Qf,Qg,reduceCtorEq, *]
 |intro(bn:Bool) hbn))
  all_goals simp[VO,hneg,Vp]
 ·obtain⟨k,hk⟩:∃k:Nat,J5 (Jq ⟨next,xs⟩).snaps id (Jq ⟨next,xs⟩).snaps.length=k:=⟨_,(Int.toNat_of_nonneg (by omega)).symm⟩
  have hlt:k<(Jq ⟨next,xs⟩).snaps.length:=by omega
  (repeat' (first
 | (with_reducible first|refine callX.by (ZO _ _ ?_) ?_|refine callX.by (Jez _ _ _ ?_) ?_|assumption|(refine Qw hK _ ?_;clear hK K)|refine Qw ‹_› _ ?_|refine Qx ‹_› ?_|refine Qi fun K hK=>?_|refine Qj T fun K hK=>?_|refine Ql fun A B hA hB=>?_|refine Qn ?_|refine Qr ?_)
 |(with_reducible first|apply Qy|apply Qz|apply QA)<;>intro hb<;>try simp only[nr] at hb
 |simp only[go_sem,↓reduceIte,Qa,Qh,Qb,Qc,Qd,Qe,Qf,Qg,reduceCtorEq, *]
 |intro(bn:Bool) hbn))
  all_goals simp[VO,hk,hlt,Ji5]
@[go_sem] def Wd0:List (List Nat×List Nat):=[([10],[11,12,13,14,15,16,17]),([11],[10,14,15,16,17]),([12],[10,14,15,17]),([13],[10,14,15]),([14],[10,11,12,13,17]),([15],[10,11,12,13]),([16],[10,11]),([17],[10,11,12,14])]
@[go_sem] def Wd1:List (List Nat×List Nat):=[([20],[21,22,25,26,27,28,29]),([21],[20,24,25,26,27,28,29]),([22],[20,25,26,27,28,29]),([23],[]),([24],[21]),([25],[20,21,22,27,28,29]),([26],[20,21,22,27,28,29]),([27],[20,21,22,25,26]),([28],[20,21,22,25,26]),([29],[20,21,22,25,26])]
@[go_sem] theorem JvV:Tryz.prog.eqGuardType Tryz.prog.depth 28=false:=by kernel_rfl
@[go_sem] theorem JvU:Tryz.prog.eqGuardType Tryz.prog.depth 32=false:=by kernel_rfl
@[go_sem] theorem JvW:Tryz.prog.eqGuardType Tryz.prog.depth 30=false:=by kernel_rfl
@[go_sem] theorem JFc:Tryz.prog.stoodInHeld 30=false:=by kernel_rfl
def J9(n:Int):Int:=max 1 (min n 2147483647)
def Ya(m x:Int):Int:=max 0 (min x m)
def z4:Four:=⟨0,0,0,0⟩
@[go_sem] theorem Jmz:z4.a0=0:=rfl
@[go_sem] theorem JmA:z4.a1=0:=rfl
@[go_sem] theorem JmB:z4.a2=0:=rfl
@[go_sem] theorem JmC:z4.a3=0:=rfl
def Z6(f:Four)(k:Int):Int:=if k=0 then f.a0 else if k=1 then f.a1 else if k=2 then f.a2 else f.a3
def JbA(f:Four)(k n:Int):Four:=if k=0 then { f with a0:=n } else if k=1 then { f with a1:=n } else if k=2 then { f with a2:=n } else { f with a3:=n }
theorem Jbl(n:Int):CallR prog 74 [.int .i64 n] (.val (.int .i64 (J9 n))):=by
 refine Jl call74 func74 rfl ntmps74 results74 fun ts hn h0=>?_
 (repeat' (first
 | (with_reducible first|assumption|(refine Qw hK _ ?_;clear hK K)|refine Qw ‹_› _ ?_|refine Qx ‹_› ?_|refine Qi fun K hK=>?_|refine Qj T fun K hK=>?_|refine Ql fun A B hA hB=>?_|refine Qn ?_|refine Qr ?_)
 |(with_reducible first|apply Qy|apply Qz|apply QA)<;>intro hb<;>try simp only[nr] at hb
 |simp only[go_sem,↓reduceIte,Qa,Qh,Qb,Qc,Qd,Qe,Qf,Qg,reduceCtorEq, *]
 |intro(bn:Bool) hbn))
 all_goals rfl
theorem Jja(n:Int):CallR prog 100 [.int .i64 n] (.val (.tup [.agg [.int .i64 0,.int .i64 0,.int .i64 0,.int .i64 0,.bool false,.bool false,.bool false,.bool false,.int .i64 (J9 n)],.agg [.int .i64 0,.int .i64 0,.int .i64 0,.int .i64 0,.int .i64 (J9 n)]])):=by
 have w1:=Jbl n
 refine Jl call100 func100 rfl ntmps100 results100 fun ts hn h0=>?_
 (repeat' (first
 | (with_reducible first|refine callX.by (w1) ?_|assumption|(refine Qw hK _ ?_;clear hK K)|refine Qw ‹_› _ ?_|refine Qx ‹_› ?_|refine Qi fun K hK=>?_|refine Qj T fun K hK=>?_|refine Ql fun A B hA hB=>?_|refine Qn ?_|refine Qr ?_)
 |(with_reducible first|apply Qy|apply Qz|apply QA)<;>intro hb<;>try simp only[nr] at hb
 |simp only[go_sem,↓reduceIte,Qa,Qh,Qb,Qc,Qd,Qe,Qf,Qg,reduceCtorEq, *,-w1]
 |intro(bn:Bool) hbn))
 all_goals trace_state
theorem Jn0(n:Int):CallR prog 70 [.int .i64 n] (.val (.agg [.int .i64 0,.int .i64 0,.int .i64 0,.int .i64 0,.int .i64 (J9 n)])):=by
 have w1:=Jja n
 refine Jl call70 func70 rfl ntmps70 results70 fun ts hn h0=>?_
 (repeat' (first
 | (with_reducible first|refine callX.by (w1) ?_|assumption|(refine Qw hK _ ?_;clear hK K)|refine Qw ‹_› _ ?_|refine Qx ‹_› ?_|refine Qi fun K hK=>?_|refine Qj T fun K hK=>?_|refine Ql fun A B hA hB=>?_|refine Qn ?_|refine Qr ?_)
 |(with_reducible first|apply Qy|apply Qz|apply QA)<;>intro hb<;>try simp only[nr] at hb
 |simp only[go_sem,↓reduceIte,Qa,Qh,Qb,Qc,Qd,Qe,Qf,Qg,reduceCtorEq, *,-w1]
 |intro(bn:Bool) hbn))
 all_goals trace_state
theorem Jpc(k:Int):CallR prog 96 [.int .i64 k] (.val (.bool (decide (0≤k∧k<4)))):=by
 refine Jl call96 func96 rfl ntmps96 results96 fun ts hn h0=>?_
 (repeat' (first
 | (with_reducible first|assumption|(refine Qw hK _ ?_;clear hK K)|refine Qw ‹_› _ ?_|refine Qx ‹_› ?_|refine Qi fun K hK=>?_|refine Qj T fun K hK=>?_|refine Ql fun A B hA hB=>?_|refine Qn ?_|refine Qr ?_)
 |(with_reducible first|apply Qy|apply Qz|apply QA)<;>intro hb<;>try simp only[nr] at hb
 |simp only[go_sem,↓reduceIte,Qa,Qh,Qb,Qc,Qd,Qe,Qf,Qg,reduceCtorEq, *]
 |intro(bn:Bool) hbn))
 all_goals (rw[Bool.eq_iff_iff];simp_all)
def YF(i:In):Bool:=(decide (Ya i.max i.last.a0=i.last.a0) && (decide (Ya i.max i.last.a1=i.last.a1) && (decide (Ya i.max i.last.a2=i.last.a2) && decide (Ya i.max i.last.a3=i.last.a3)))) && decide (i.max=J9 i.max)
def nrA(f:Four)(m:Int)(n:Nat):List AV:=[.int .i64 (if 0<n then Ya m f.a0 else f.a0),.int .i64 (if 1<n then Ya m f.a1 else f.a1),.int .i64 (if 2<n then Ya m f.a2 else f.a2),.int .i64 (if 3<n then Ya m f.a3 else f.a3)]
theorem Jeq(f:Four)(m:Int):nrA f m 0=[.int .i64 f.a0,.int .i64 f.a1,.int .i64 f.a2,.int .i64 f.a3]:=rfl
theorem Jc9(f:Four)(m:Int):nrA f m 1=[.int .i64 (max 0 (min f.a0 m)),.int .i64 f.a1,.int .i64 f.a2,.int .i64 f.a3]:=rfl
theorem Jda(f:Four)(m:Int):nrA f m 2=[.int .i64 (max 0 (min f.a0 m)),.int .i64 (max 0 (min f.a1 m)),.int .i64 f.a2,.int .i64 f.a3]:=rfl
theorem Jdb(f:Four)(m:Int):nrA f m 3=[.int .i64 (max 0 (min f.a0 m)),.int .i64 (max 0 (min f.a1 m)),.int .i64 (max 0 (min f.a2 m)),.int .i64 f.a3]:=rfl
theorem Jf8(f:Four)(m:Int):nrA f m 4=[.int .i64 (max 0 (min f.a0 m)),.int .i64 (max 0 (min f.a1 m)),.int .i64 (max 0 (min f.a2 m)),.int .i64 (max 0 (min f.a3 m))]:=rfl
def kz:Nat→Int
 |0=>0
 |1=>1
 |2=>2
 |3=>3
 |_=>4
theorem kz0:kz 0=0:=rfl
theorem kz1:kz 1=1:=rfl
theorem kz2:kz 2=2:=rfl
theorem kz3:kz 3=3:=rfl
theorem kz4:kz 4=4:=rfl
theorem YD:(0:Int)<4∧(1:Int)<4∧(2:Int)<4∧(3:Int)<4∧¬(4:Int)<4:=by decide
theorem YO:(0:Int)<((4:Nat):Int)∧(1:Int)<((4:Nat):Int)∧(2:Int)<((4:Nat):Int)∧(3:Int)<((4:Nat):Int):=by decide
theorem YU:(0:Int)≤0∧(0:Int)≤1∧(0:Int)≤2∧(0:Int)≤3:=by decide
theorem YX:Int.toNat 0=0∧Int.toNat 1=1∧Int.toNat 2=2∧Int.toNat 3=3:=by decide
theorem w04:IntKind.i64.wrap (0+1)=1∧IntKind.i64.wrap (1+1)=2∧IntKind.i64.wrap (2+1)=3∧IntKind.i64.wrap (3+1)=4:=by decide
theorem Jga(Lr Ls:Int)(Lt Lu LB:Int):CallR prog 35 [.agg [.int .i64 Lr,.int .i64 Ls,.int .i64 Lt,.int .i64 Lu,.int .i64 LB]] (.val (.bool (YF (⟨⟨Lr,Ls,Lt,Lu⟩,LB⟩:In)))):=by
 have w1:=Jbl LB
 refine Jl call35 func35 rfl ntmps35 results35 fun ts hn h0=>?_
 (repeat' (first
 | (with_reducible first|refine callX.by (Jbl _) ?_|assumption|(refine Qw hK _ ?_;clear hK K)|refine Qw ‹_› _ ?_|refine Qx ‹_› ?_|refine Qi fun K hK=>?_|refine Qj T fun K hK=>?_|refine Qk (id:=5) T mixed Wd0 (by kernel_rfl) fun K hK=>?_|refine Qk (id:=7) T mixed Wd1 (by kernel_rfl) fun K hK=>?_|refine Ql fun A B hA hB=>?_|refine Qm ?_|refine Qn ?_|refine Qp ?_|refine Qr ?_)
 |(with_reducible first|apply Qy|apply Qz|apply QA)<;>intro hb<;>try simp only[nr] at hb
 |simp only[go_sem,↓reduceIte,Qa,Qh,Qb,Qc,Qd,Qe,Qf,Qg,reduceCtorEq, *,-w1]
 |intro(bn:Bool) hbn))
 refine Qs [1] (fun m ts'=>∃(n:Nat),∃(g:Nat),m=4-n∧n≤4∧ts'.tmp 3=.ref 3 g 0∧ts'.gen 3=g∧ts'.obj 3=.box (nrA ⟨Lr,Ls,Lt,Lu⟩ LB n)∧ts'.tmp 7=.int .i64 (kz n)) 4 ?_ ?_
 ·refine⟨0,ts.gen 3+1,rfl,Nat.zero_le _,?_⟩
  simp only[go_sem,↓reduceIte,Qa,Qh,Qb,Qc,Qd,Qe,Qf,Qg,reduceCtorEq, *,-w1,Jeq,kz0]
 ·rintro m A hM ts' hk ⟨n,g,hm,f1,s1,s2,s3,s4⟩
  simp only[go_sem,↓reduceIte,Qa,Qh,Qb,Qc,Qd,Qe,Qf,Qg,reduceCtorEq, *] at hk
  by_cases hlt:n<4
  ·rcases(show n=0∨n=1∨n=2∨n=3 by omega) with rfl|rfl|rfl|rfl
   ·(repeat' (first
 | (with_reducible first|refine callX.by (Jbl _) ?_|assumption|(refine Qw hK _ ?_;clear hK K)|refine Qw ‹_› _ ?_|refine Qx ‹_› ?_|refine Qi fun K hK=>?_|refine Qj T fun K hK=>?_|refine Qk (id:=5) T mixed Wd0 (by kernel_rfl) fun K hK=>?_|refine Qk (id:=7) T mixed Wd1 (by kernel_rfl) fun K hK=>?_|refine Ql fun A B hA hB=>?_|refine Qm ?_|refine Qn ?_|refine Qp ?_|refine Qr ?_)
 |(with_reducible first|apply Qy|apply Qz|apply QA)<;>intro hb<;>try simp only[nr] at hb
 |simp only[go_sem,↓reduceIte,Qa,Qh,Qb,Qc,Qd,Qe,Qf,Qg,reduceCtorEq, *,-w1,Jeq,kz0,YD,YO,YU,YX]
 |intro(bn:Bool) hbn))
    all_goals ((repeat clear hK);(repeat clear hA);(repeat clear hB))
    all_goals (refine hM.on (3) (by omega) (by simp only[go_sem,↓reduceIte,Qa,Qh,Qb,Qc,Qd,Qe,Qf,Qg,reduceCtorEq, *,-w1,Jeq,Jc9,kz0,kz1,w04]) ⟨1,g,rfl,by omega,?_⟩;simp only[go_sem,↓reduceIte,Qa,Qh,Qb,Qc,Qd,Qe,Qf,Qg,reduceCtorEq, *,-w1,Jeq,Jc9,kz0,kz1,w04];done)
   ·(repeat' (first
 | (with_reducible first|refine callX.by (Jbl _) ?_|assumption|(refine Qw hK _ ?_;clear hK K)|refine Qw ‹_› _ ?_|refine Qx ‹_› ?_|refine Qi fun K hK=>?_|refine Qj T fun K hK=>?_|refine Qk (id:=5) T mixed Wd0 (by kernel_rfl) fun K hK=>?_|refine Qk (id:=7) T mixed Wd1 (by kernel_rfl) fun K hK=>?_|refine Ql fun A B hA hB=>?_|refine Qm ?_|refine Qn ?_|refine Qp ?_|refine Qr ?_)
 |(with_reducible first|apply Qy|apply Qz|apply QA)<;>intro hb<;>try simp only[nr] at hb
 |simp only[go_sem,↓reduceIte,Qa,Qh,Qb,Qc,Qd,Qe,Qf,Qg,reduceCtorEq, *,-w1,Jc9,kz1,YD,YO,YU,YX]
 |intro(bn:Bool) hbn))
    all_goals ((repeat clear hK);(repeat clear hA);(repeat clear hB))
    all_goals (refine hM.on (2) (by omega) (by simp only[go_sem,↓reduceIte,Qa,Qh,Qb,Qc,Qd,Qe,Qf,Qg,reduceCtorEq, *,-w1,Jc9,Jda,kz1,kz2,w04]) ⟨2,g,rfl,by omega,?_⟩;simp only[go_sem,↓reduceIte,Qa,Qh,Qb,Qc,Qd,Qe,Qf,Qg,reduceCtorEq, *,-w1,Jc9,Jda,kz1,kz2,w04];done)
   ·(repeat' (first
 | (with_reducible first|refine callX.by (Jbl _) ?_|assumption|(refine Qw hK _ ?_;clear hK K)|refine Qw ‹_› _ ?_|refine Qx ‹_› ?_|refine Qi fun K hK=>?_|refine Qj T fun K hK=>?_|refine Qk (id:=5) T mixed Wd0 (by kernel_rfl) fun K hK=>?_|refine Qk (id:=7) T mixed Wd1 (by kernel_rfl) fun K hK=>?_|refine Ql fun A B hA hB=>?_|refine Qm ?_|refine Qn ?_|refine Qp ?_|refine Qr ?_)
 |(with_reducible first|apply Qy|apply Qz|apply QA)<;>intro hb<;>try simp only[nr] at hb
 |simp only[go_sem,↓reduceIte,Qa,Qh,Qb,Qc,Qd,Qe,Qf,Qg,reduceCtorEq, *,-w1,Jda,kz2,YD,YO,YU,YX]
 |intro(bn:Bool) hbn))
    all_goals ((repeat clear hK);(repeat clear hA);(repeat clear hB))
    all_goals (refine hM.on (1) (by omega) (by simp only[go_sem,↓reduceIte,Qa,Qh,Qb,Qc,Qd,Qe,Qf,Qg,reduceCtorEq, *,-w1,Jda,Jdb,kz2,kz3,w04]) ⟨3,g,rfl,by omega,?_⟩;simp only[go_sem,↓reduceIte,Qa,Qh,Qb,Qc,Qd,Qe,Qf,Qg,reduceCtorEq, *,-w1,Jda,Jdb,kz2,kz3,w04];done)
   ·(repeat' (first
 | (with_reducible first|refine callX.by (Jbl _) ?_|assumption|(refine Qw hK _ ?_;clear hK K)|refine Qw ‹_› _ ?_|refine Qx ‹_› ?_|refine Qi fun K hK=>?_|refine Qj T fun K hK=>?_|refine Qk (id:=5) T mixed Wd0 (by kernel_rfl) fun K hK=>?_|refine Qk (id:=7) T mixed Wd1 (by kernel_rfl) fun K hK=>?_|refine Ql fun A B hA hB=>?_|refine Qm ?_|refine Qn ?_|refine Qp ?_|refine Qr ?_)
 |(with_reducible first|apply Qy|apply Qz|apply QA)<;>intro hb<;>try simp only[nr] at hb
 |simp only[go_sem,↓reduceIte,Qa,Qh,Qb,Qc,Qd,Qe,Qf,Qg,reduceCtorEq, *,-w1,Jdb,kz3,YD,YO,YU,YX]
 |intro(bn:Bool) hbn))
    all_goals ((repeat clear hK);(repeat clear hA);(repeat clear hB))
    all_goals (refine hM.on (0) (by omega) (by simp only[go_sem,↓reduceIte,Qa,Qh,Qb,Qc,Qd,Qe,Qf,Qg,reduceCtorEq, *,-w1,Jdb,Jf8,kz3,kz4,w04]) ⟨4,g,rfl,by omega,?_⟩;simp only[go_sem,↓reduceIte,Qa,Qh,Qb,Qc,Qd,Qe,Qf,Qg,reduceCtorEq, *,-w1,Jdb,Jf8,kz3,kz4,w04];done)
  ·have e4:n=4:=by omega
   subst e4
   (repeat' (first
 | (with_reducible first|refine callX.by (w1) ?_|assumption|(refine Qw hK _ ?_;clear hK K)|refine Qw ‹_› _ ?_|refine Qx ‹_› ?_|refine Qi fun K hK=>?_|refine Qj T fun K hK=>?_|refine Qk (id:=5) T mixed Wd0 (by kernel_rfl) fun K hK=>?_|refine Qk (id:=7) T mixed Wd1 (by kernel_rfl) fun K hK=>?_|refine Ql fun A B hA hB=>?_|refine Qm ?_|refine Qn ?_|refine Qp ?_|refine Qr ?_)
 |(with_reducible first|apply Qy|apply Qz|apply QA)<;>intro hb<;>try simp only[nr] at hb
 |simp only[go_sem,↓reduceIte,Qa,Qh,Qb,Qc,Qd,Qe,Qf,Qg,reduceCtorEq, *,-w1,Jf8,kz4,YD]
 |intro(bn:Bool) hbn))
   all_goals ((repeat clear hK);(repeat clear hA);(repeat clear hB))
   all_goals (unfold YF Ya;simp only;rw[hb];simp)
def Vq(i:In):In:=if YF i=true then i else ⟨z4,J9 i.max⟩
theorem Jpb(Lr Ls:Int)(Lt Lu LB:Int):CallR prog 95 [.agg [.int .i64 Lr,.int .i64 Ls,.int .i64 Lt,.int .i64 Lu,.int .i64 LB]] (.val (.agg [.int .i64 (Vq (⟨⟨Lr,Ls,Lt,Lu⟩,LB⟩:In)).last.a0,.int .i64 (Vq (⟨⟨Lr,Ls,Lt,Lu⟩,LB⟩:In)).last.a1,.int .i64 (Vq (⟨⟨Lr,Ls,Lt,Lu⟩,LB⟩:In)).last.a2,.int .i64 (Vq (⟨⟨Lr,Ls,Lt,Lu⟩,LB⟩:In)).last.a3,.int .i64 (Vq (⟨⟨Lr,Ls,Lt,Lu⟩,LB⟩:In)).max])):=by
 have w1:=Jga Lr Ls Lt Lu LB
 have w2:=Jja LB
 unfold Vq
 cases hb0:YF (⟨⟨Lr,Ls,Lt,Lu⟩,LB⟩:In)
 ·rw[hb0] at w1
  refine Jl call95 func95 rfl ntmps95 results95 fun ts hn h0=>?_
  (repeat' (first
 | (with_reducible first|refine callX.by (w1) ?_|refine callX.by (w2) ?_|assumption|(refine Qw hK _ ?_;clear hK K)|refine Qw ‹_› _ ?_|refine Qx ‹_› ?_|refine Qi fun K hK=>?_|refine Qj T fun K hK=>?_|refine Ql fun A B hA hB=>?_|refine Qn ?_|refine Qr ?_)
 |(with_reducible first|apply Qy|apply Qz|apply QA)<;>intro hb<;>try simp only[nr] at hb
 |simp only[go_sem,↓reduceIte,Qa,Qh,Qb,Qc,Qd,Qe,Qf,Qg,reduceCtorEq, *,-w1,-w2]
 |intro(bn:Bool) hbn))
  all_goals first|rfl|exact⟨rfl,rfl,rfl,rfl⟩
 ·rw[hb0] at w1
  refine Jl call95 func95 rfl ntmps95 results95 fun ts hn h0=>?_
  (repeat' (first
 | (with_reducible first|refine callX.by (w1) ?_|refine callX.by (w2) ?_|assumption|(refine Qw hK _ ?_;clear hK K)|refine Qw ‹_› _ ?_|refine Qx ‹_› ?_|refine Qi fun K hK=>?_|refine Qj T fun K hK=>?_|refine Ql fun A B hA hB=>?_|refine Qn ?_|refine Qr ?_)
 |(with_reducible first|apply Qy|apply Qz|apply QA)<;>intro hb<;>try simp only[nr] at hb
 |simp only[go_sem,↓reduceIte,Qa,Qh,Qb,Qc,Qd,Qe,Qf,Qg,reduceCtorEq, *,-w1,-w2]
 |intro(bn:Bool) hbn))
  all_goals first|rfl|trace_state
theorem Ji2(i:In):YF (Vq i)=true:=by
 unfold Vq
 split
 ·assumption
 ·have h1:1≤J9 i.max∧J9 i.max≤2147483647:=by unfold J9;omega
  have h2:J9 (J9 i.max)=J9 i.max:=by unfold J9;omega
  have h3:Ya (J9 i.max) 0=0:=by unfold Ya;omega
  simp only[YF,Jmz,JmA,JmB,JmC,h2,h3,decide_true,Bool.and_self]
theorem Ji9{i:In}(h:YF i=true):(0≤i.last.a0∧i.last.a0≤i.max)∧(0≤i.last.a1∧i.last.a1≤i.max)∧(0≤i.last.a2∧i.last.a2≤i.max)∧(0≤i.last.a3∧i.last.a3≤i.max)∧1≤i.max∧i.max≤2147483647:=by
 simp only[YF,Bool.and_eq_true,decide_eq_true_eq] at h
 obtain⟨⟨h1,h2,h3,h4⟩,h5⟩:=h
 have hb:1≤i.max∧i.max≤2147483647:=by unfold J9 at h5;omega
 have key:∀x:Int,Ya i.max x=x→0≤x∧x≤i.max:=fun x hx=>by unfold Ya at hx;omega
 exact⟨key _ h1,key _ h2,key _ h3,key _ h4,hb⟩
def VX(i:In)(k n:Int):In×Int :=
 if ¬(0≤k∧k<4) then (Vq i,4) else if n≠0∧n=Z6 (Vq i).last k then (Vq i,9) else if n≠Z6 (Vq i).last k+1∨(Vq i).max<n then (Vq i,11) else (⟨JbA (Vq i).last k n,(Vq i).max⟩,0)
theorem Jbm(Lr Ls:Int)(Lt Lu LB:Int)(k n:Int):CallR prog 65 [.agg [.int .i64 Lr,.int .i64 Ls,.int .i64 Lt,.int .i64 Lu,.int .i64 LB],.int .i64 k,.int .i64 n] (.val (.tup [.agg [.int .i64 (VX (⟨⟨Lr,Ls,Lt,Lu⟩,LB⟩:In) k n).1.last.a0,.int .i64 (VX (⟨⟨Lr,Ls,Lt,Lu⟩,LB⟩:In) k n).1.last.a1,.int .i64 (VX (⟨⟨Lr,Ls,Lt,Lu⟩,LB⟩:In) k n).1.last.a2,.int .i64 (VX (⟨⟨Lr,Ls,Lt,Lu⟩,LB⟩:In) k n).1.last.a3,.int .i64 (VX (⟨⟨Lr,Ls,Lt,Lu⟩,LB⟩:In) k n).1.max],.int .i64 (VX (⟨⟨Lr,Ls,Lt,Lu⟩,LB⟩:In) k n).2])):=by
 have w1:=Jpb Lr Ls Lt Lu LB
 have w2:=Jpc k
 have hr:=Ji9 (Ji2 (⟨⟨Lr,Ls,Lt,Lu⟩,LB⟩:In))
 unfold VX
 generalize Vq (⟨⟨Lr,Ls,Lt,Lu⟩,LB⟩:In)=j at *
 obtain⟨⟨l0,l1,l2,l3⟩,m⟩:=j
 simp only at hr w1 ⊢
 obtain⟨⟨r0,q0⟩,⟨r1,q1⟩,⟨r2,q2⟩,⟨r3,q3⟩,rm,qm⟩:=hr
 by_cases hk4:0≤k∧k<4
 rotate_left
 ·rw[if_pos hk4]
  rw[decide_eq_false hk4] at w2
  refine Vs call65 func65 rfl ntmps65 results65 fun ts hn h0 h1 h2=>?_
  (repeat' (first
 | (with_reducible first|refine callX.by (w1) ?_|refine callX.by (w2) ?_|assumption|(refine Qw hK _ ?_;clear hK K)|refine Qw ‹_› _ ?_|refine Qx ‹_› ?_|refine Qi fun K hK=>?_|refine Qj T fun K hK=>?_|refine Ql fun A B hA hB=>?_|refine Qm ?_|refine Qn ?_|refine Qr ?_)
 |(with_reducible first|apply Qy|apply Qz|apply QA)<;>intro hb<;>try simp only[nr] at hb
 |simp only[go_sem,↓reduceIte,Qa,Qh,Qb,Qc,Qd,Qe,Qf,Qg,reduceCtorEq, *,-w1,-w2,-hk4]
 |intro(bn:Bool) hbn))
  all_goals trace_state
 ·rw[if_neg (by simpa using hk4)]
  rw[decide_eq_true hk4] at w2
  have hx:∃x:Int,x=Z6 ⟨l0,l1,l2,l3⟩ k∧IntKind.i64.wrap (x+1)=x+1∧0≤x:=by
   refine⟨_,rfl,IntWalk.i64_in _ ?_,?_⟩
   all_goals (unfold Z6;simp only;repeat' split)
   all_goals omega
  obtain⟨x,hx1,hx2,hx3⟩:=hx
  have n1:¬(1:Int)=0:=by decide
  have n2:¬(2:Int)=0∧¬(2:Int)=1:=by decide
  have n3:¬(3:Int)=0∧¬(3:Int)=1∧¬(3:Int)=2:=by decide
  rcases(show k=0∨k=1∨k=2∨k=3 by omega) with rfl|rfl|rfl|rfl
  all_goals
   simp only[Z6,JbA,if_true,n1,n2,n3,if_false] at hx1 ⊢
   subst hx1
   clear r0 q0 r1 q1 r2 q2 r3 q3 hk4
   by_cases h0:n=0
   ·rw[if_neg (fun h=>h.1 h0),if_pos (.inl (by omega))]
    have hne:¬(0:Int)=x+1:=by omega
    subst h0
    refine Vs call65 func65 rfl ntmps65 results65 fun ts hn h0 h1 h2=>?_
    (repeat' (first
 | (with_reducible first|refine callX.by (w1) ?_|refine callX.by (w2) ?_|assumption|(refine Qw hK _ ?_;clear hK K)|refine Qw ‹_› _ ?_|refine Qx ‹_› ?_|refine Qi fun K hK=>?_|refine Qj T fun K hK=>?_|refine Ql fun A B hA hB=>?_|refine Qm ?_|refine Qn ?_|refine Qr ?_)
 |(with_reducible first|apply Qy|apply Qz|apply QA)<;>intro hb<;>try simp only[nr] at hb
 |simp only[go_sem,↓reduceIte,Qa,Qh,Qb,Qc,Qd,Qe,Qf,Qg,reduceCtorEq, *,-w1,-w2,YD,YO,YU,YX]
 |intro(bn:Bool) hbn))
    all_goals trace_state
   ·by_cases h1:n=x
    ·rw[if_pos ⟨h0,h1⟩]
     subst h1
     refine Vs call65 func65 rfl ntmps65 results65 fun ts hn h0 h1 h2=>?_
     (repeat' (first
 | (with_reducible first|refine callX.by (w1) ?_|refine callX.by (w2) ?_|assumption|(refine Qw hK _ ?_;clear hK K)|refine Qw ‹_› _ ?_|refine Qx ‹_› ?_|refine Qi fun K hK=>?_|refine Qj T fun K hK=>?_|refine Ql fun A B hA hB=>?_|refine Qm ?_|refine Qn ?_|refine Qr ?_)
 |(with_reducible first|apply Qy|apply Qz|apply QA)<;>intro hb<;>try simp only[nr] at hb
 |simp only[go_sem,↓reduceIte,Qa,Qh,Qb,Qc,Qd,Qe,Qf,Qg,reduceCtorEq, *,-w1,-w2,YD,YO,YU,YX]
 |intro(bn:Bool) hbn))
     all_goals trace_state
    ·rw[if_neg (fun h=>h1 h.2)]
     by_cases h2:n=x+1
     ·have hx0:¬x+1=0:=by omega
      have hx4:¬x+1=x:=by omega
      by_cases h3:m<n
      ·rw[if_pos (.inr h3)]
       subst h2
       refine Vs call65 func65 rfl ntmps65 results65 fun ts hn h0 h1 h2=>?_
       (repeat' (first
 | (with_reducible first|refine callX.by (w1) ?_|refine callX.by (w2) ?_|assumption|(refine Qw hK _ ?_;clear hK K)|refine Qw ‹_› _ ?_|refine Qx ‹_› ?_|refine Qi fun K hK=>?_|refine Qj T fun K hK=>?_|refine Ql fun A B hA hB=>?_|refine Qm ?_|refine Qn ?_|refine Qr ?_)
 |(with_reducible first|apply Qy|apply Qz|apply QA)<;>intro hb<;>try simp only[nr] at hb
 |simp only[go_sem,↓reduceIte,Qa,Qh,Qb,Qc,Qd,Qe,Qf,Qg,reduceCtorEq, *,-w1,-w2,YD,YO,YU,YX]
 |intro(bn:Bool) hbn))
       all_goals trace_state
      ·rw[if_neg (fun h=>h.elim (fun h=>h h2) h3)]
       subst h2
       refine Vs call65 func65 rfl ntmps65 results65 fun ts hn h0 h1 h2=>?_
       (repeat' (first
 | (with_reducible first|refine callX.by (w1) ?_|refine callX.by (w2) ?_|assumption|(refine Qw hK _ ?_;clear hK K)|refine Qw ‹_› _ ?_|refine Qx ‹_› ?_|refine Qi fun K hK=>?_|refine Qj T fun K hK=>?_|refine Ql fun A B hA hB=>?_|refine Qm ?_|refine Qn ?_|refine Qr ?_)
 |(with_reducible first|apply Qy|apply Qz|apply QA)<;>intro hb<;>try simp only[nr] at hb
 |simp only[go_sem,↓reduceIte,Qa,Qh,Qb,Qc,Qd,Qe,Qf,Qg,reduceCtorEq, *,-w1,-w2,YD,YO,YU,YX]
 |intro(bn:Bool) hbn))
       all_goals trace_state
     ·rw[if_pos (.inl h2)]
      refine Vs call65 func65 rfl ntmps65 results65 fun ts hn h0 h1 h2=>?_
      (repeat' (first
 | (with_reducible first|refine callX.by (w1) ?_|refine callX.by (w2) ?_|assumption|(refine Qw hK _ ?_;clear hK K)|refine Qw ‹_› _ ?_|refine Qx ‹_› ?_|refine Qi fun K hK=>?_|refine Qj T fun K hK=>?_|refine Ql fun A B hA hB=>?_|refine Qm ?_|refine Qn ?_|refine Qr ?_)
 |(with_reducible first|apply Qy|apply Qz|apply QA)<;>intro hb<;>try simp only[nr] at hb
 |simp only[go_sem,↓reduceIte,Qa,Qh,Qb,Qc,Qd,Qe,Qf,Qg,reduceCtorEq, *,-w1,-w2,YD,YO,YU,YX]
 |intro(bn:Bool) hbn))
      all_goals trace_state
def upV(x:Int):Value:=.iface 216 (.agg #[.int .i64 x])
def ZA(x:Int):List PanicEntry:=[{ v:=upV x,recovered:=false }]
theorem Jnq(p:Addr)(x y:Int)(w:World)(hc:w.cell? p=some (.int .i64 y))(hz:w.frozen? p=false) :
  CallsD prog 139 #[.pointer (some p)] (.panicking (ZA x)) w fun e u' w' =>
   e=.returned (.tuple #[])∧u'=.panicking [{ v:=upV x,recovered:=true }]∧w'=w.setCell p (.int .i64 x):=by
 have hta:∀(v:Value) (w:World),(Instr.typeAssert (.iface 216 v) 20 216 false).run prog w=.ok v w:=fun _ _=>by kernel_rfl
 have hfi:∀(x:Int) (w:World),(Instr.field 216 (.agg #[.int .i64 x]) 0).run prog w=.ok (.int .i64 x) w:=fun _ _=>by kernel_rfl
 have hne:∀(t:TypeId) (v:Value) (w:World),(binOp BinOp.neq 20 (.iface t v) .nilIface).run prog w=.ok (.bool true) w:=fun _ _ _=>by kernel_rfl
 have hnn:∀(w:World),(binOp BinOp.neq 20 .nilIface .nilIface).run prog w=.ok (.bool false) w:=fun _=>by kernel_rfl
 refine callsD_of_wpS func139 rfl fun c₀ cs hu=>?_
 apply wpS_seq
 apply wpS_region
 simp[wpOpsS,hta,hfi,hne,hnn,go_sem,recoverD,hu,ZA,ntmps139,Exit.thenS]
 apply wpS_seq
 apply wpS_region
 simp[wpOpsS,hta,hfi,hne,hnn,go_sem,upV,Exit.thenS]
 refine wpS_cond (t:=true) (by simp[Act.eval,Array.replicate]) ?_
 simp only[if_true]
 apply wpS_region
 simp[wpOpsS,hta,hfi,hne,hnn,go_sem,hc,hz,bodyPostS,results,results139]
theorem Jnp(p:Addr)(w:World) :
  CallsD prog 139 #[.pointer (some p)] .returning w fun e u' w'=>e=.returned (.tuple #[])∧u'=.returning∧w'=w:=by
 have hta:∀(v:Value) (w:World),(Instr.typeAssert (.iface 216 v) 20 216 false).run prog w=.ok v w:=fun _ _=>by kernel_rfl
 have hfi:∀(x:Int) (w:World),(Instr.field 216 (.agg #[.int .i64 x]) 0).run prog w=.ok (.int .i64 x) w:=fun _ _=>by kernel_rfl
 have hne:∀(t:TypeId) (v:Value) (w:World),(binOp BinOp.neq 20 (.iface t v) .nilIface).run prog w=.ok (.bool true) w:=fun _ _ _=>by kernel_rfl
 have hnn:∀(w:World),(binOp BinOp.neq 20 .nilIface .nilIface).run prog w=.ok (.bool false) w:=fun _=>by kernel_rfl
 refine callsD_of_wpS func139 rfl fun c₀ cs hu=>?_
 apply wpS_seq
 apply wpS_region
 simp[wpOpsS,hta,hfi,hne,hnn,go_sem,recoverD,hu,ntmps139,Exit.thenS]
 apply wpS_seq
 apply wpS_region
 simp[wpOpsS,hta,hfi,hne,hnn,go_sem,Exit.thenS]
 refine wpS_cond (t:=false) (by simp[Act.eval,Array.replicate]) ?_
 simp only[Bool.false_eq_true,if_false]
 refine wpS_of_wp (wp_skip ?_)
 cases c₀
 simp_all[bodyPostS,results,results139]
def VK(w:World):World:=w.alloc (.cells #[.int .i64 0] 31)
def Yi(w:World):Addr:=⟨w.heap.size,0,none⟩
theorem JhK{w:World}{p:Addr}{v y:Value}(h:w.cell? p=some y):(w.setCell p v).cell? p=some v:=by
 unfold World.cell? at h ⊢
 unfold World.setCell
 simp only[Array.getElem?_modify,if_true]
 cases hh:w.heap[p.block]? with
 |none=>rw[hh] at h;simp at h
 |some o =>
  rw[hh] at h
  cases o with
  |cells c el fr =>
   simp only[Option.map_some] at h ⊢
   by_cases hs:p.spot.isSome
   ·simp[hs] at h
   ·simp only[hs] at h ⊢
    simp only[Bool.false_eq_true,if_false] at h ⊢
    obtain⟨hlt,_⟩:=Array.getElem?_eq_some_iff.1 h
    simp[hlt]
  |_=>simp at h
theorem JhE(g:FuncId)(caps:Array Value)(w:World)(R:Ending→World→Prop)
  (hg:∀w,(callFunc g caps).run prog w=.ok (.enter g caps) w) (h:Calls prog g caps (VK w) R)
  (hR:∀e w',R e w'→w'.cell? (Yi w)=some (.int .i64 0)∧w'.frozen? (Yi w)=false∧((e=.returned (.tuple #[]))∨∃x,e=.panicked (ZA x))) :
  Calls prog 103 #[.func (.func g) #[] caps] w fun e w''=>∃e1 w1,R e1 w1 ∧
   ((e1=.returned (.tuple #[])∧e=.returned (.int .i64 0)∧w''=w1.setCell (Yi w) (.int .i64 0))∨∃x,e1=.panicked (ZA x)∧e=.returned (.int .i64 x)∧w''=w1.setCell (Yi w) (.int .i64 x)):=by
 have hmf:∀(fn:Fn) (first cap:Array Value) (w:World),(Instr.makeFunc fn first cap).run prog w=.ok (.func fn first cap) w:=fun _ _ _ _=>rfl
 go_enter_defers func103,ntmps103
 go_wp2
 rename_i K1 hK1 K0 hK0
 refine Calls.mono h ?_
 intro e1 w1 hr
 obtain⟨hc,hz,hcase⟩:=hR e1 w1 hr
 have hc':w1.cell? ⟨w.heap.size,0,none⟩=some (.int .i64 0):=hc
 have hz':w1.frozen? ⟨w.heap.size,0,none⟩=false:=hz
 rcases hcase with rfl|⟨x,rfl⟩
 ·apply hK0
  simp only[wpList]
  apply hK1
  go_wp2
  simp only[bodyPostD]
  refine leaves_cons (f:=139) (args:=#[.pointer (some ⟨w.heap.size,0,none⟩)]) (by simp) (by simp[go_sem]) ?_
  refine(Jnp ⟨w.heap.size,0,none⟩ _).mono ?_
  rintro e u' w'' ⟨rfl,rfl,rfl⟩
  have hcc:=JhK (v:=.int .i64 0) hc'
  simp[Leaves,settle,results,results103,go_sem,hcc]
  exact⟨_,w1,hr,.inl ⟨rfl,rfl⟩⟩
 ·show bodyPostD _ _ _ _ _ _
  simp only[bodyPostD]
  refine leaves_cons (f:=139) (args:=#[.pointer (some ⟨w.heap.size,0,none⟩)]) (by simp) (by simp[go_sem]) ?_
  refine(Jnq ⟨w.heap.size,0,none⟩ x 0 _ hc' hz').mono ?_
  rintro e u' w'' ⟨rfl,rfl,rfl⟩
  have hcc:=JhK (v:=.int .i64 x) hc'
  simp[Leaves,settle,results,results103,go_sem,hcc]
  exact⟨_,w1,hr,.inr ⟨x,rfl,rfl,rfl⟩⟩
end Go.Proofs.YthjalhfmpffbjaaGreatDoor.Lg
