/- Parts of the proof, one behind the other. -/
import Derived.Tactics
import Derived.Tactics2
import Derived.Defers
import Derived.Recover
import Derived.Laws.Pointers
import Derived.Test.YthjalhfmpffbjaaGreatDoorG03
namespace Go.Proofs.YthjalhfmpffbjaaGreatDoor.Lg
set_option maxRecDepth 100000
set_option maxHeartbeats 64000000
set_option linter.unusedVariables false
set_option linter.unusedSimpArgs false
open Go
open Nat renaming reduceEqDiff → Qa, reduceLT → Qb, reduceLeDiff → Qc, reduceAdd → Qd, reduceMul → Qe, reduceSub → Qf, reduceBEq → Qg
open String renaming reduceEq → Qh
open SpecC renaming seqW → Qi, regW → Qj, drawW → Qk, condW → Ql, block → Qm, skip → Qn, label → Qo, exit → Qp, goto → Qq, ret → Qr, loopF → Qs
open NxK renaming out → Qw
open Nx renaming out → Qx
open condK renaming split → Qy
open gK renaming split_t → Qz, split_f → QA
def Zi(n a b:Int):Bool:=decide (a≤n) && decide (n≤b)
theorem JgW(a b c:Int):CallR Tryz.prog 78 [.int .i64 a,.int .i64 b,.int .i64 c] (.val (.bool (Zi a b c))):=by
 refine J1 Tryz.call78 Tryz.func78 rfl Tryz.ntmps78 Tryz.results78 fun ts hn h0 h1 h2=>?_
 (repeat' (first
 | (with_reducible first|assumption|(refine Qw hK _ ?_;clear hK K)|refine Qw ‹_› _ ?_|refine Qx ‹_› ?_|refine Qi fun K hK=>?_|refine Qj T fun K hK=>?_|refine Ql fun A B hA hB=>?_|refine Qn ?_|refine Qr ?_)
 |(with_reducible first|apply Qy|apply Qz|apply QA)<;>intro hb<;>try simp only[nr] at hb
 |simp only[go_sem,↓reduceIte,Qa,Qh,Qb,Qc,Qd,Qe,Qf,Qg,reduceCtorEq, *]
 |intro(bn:Bool) hbn))
 all_goals simp[Zi, *]
theorem ZM(n:Int)(xs:List Snap)(hl:Jc xs.length):CallR Tryz.prog 69 [.agg [.int .i64 n,.slice false (Ja xs)]] (.val (.int .i64 (xs.length-1))):=by
 refine Jl Tryz.call69 Tryz.func69 rfl Tryz.ntmps69 Tryz.results69 fun ts hn h0=>?_
 (repeat' (first
 | (with_reducible first|assumption|(refine Qw hK _ ?_;clear hK K)|refine Qw ‹_› _ ?_|refine Qx ‹_› ?_|refine Qi fun K hK=>?_|refine Qj T fun K hK=>?_|refine Ql fun A B hA hB=>?_|refine Qn ?_|refine Qr ?_)
 |(with_reducible first|apply Qy|apply Qz|apply QA)<;>intro hb<;>try simp only[nr] at hb
 |simp only[go_sem,↓reduceIte,Qa,Qh,Qb,Qc,Qd,Qe,Qf,Qg,reduceCtorEq, *,JgV hl]
 |intro(bn:Bool) hbn))
def JaG(next:Int):List Snap→Int→Bool
 | [],_=>true
 |s :: r,ahead=>Zi s.id (IntKind.i64.wrap (ahead+1)) next && Zi s.pins (if r=[] then 0 else 1) 10000 && JaG next r s.id
def ZP(p:Pins):Bool:=JaG p.next' p.snaps 0 && (Zi p.next' 0 2147483647 && decide (p.snaps.length≤1000))
theorem Jf9(next:Int)(xs:List Snap)(hl:Jc xs.length):CallR Tryz.prog 37 [.agg [.int .i64 next,.slice false (Ja xs)]] (.val (.bool (ZP ⟨next,xs⟩))):=by
 refine Jl Tryz.call37 Tryz.func37 rfl Tryz.ntmps37 Tryz.results37 fun ts hn h0=>?_
 (repeat' (first
 | (with_reducible first|refine callX.by (ZM _ _ ?_) ?_|refine callX.by (JgW _ _ _) ?_|assumption|(refine Qw hK _ ?_;clear hK K)|refine Qw ‹_› _ ?_|refine Qx ‹_› ?_|refine Qi fun K hK=>?_|refine Qj T fun K hK=>?_|refine Ql fun A B hA hB=>?_|refine Qm ?_|refine Qn ?_|refine Qp ?_|refine Qr ?_)
 |(with_reducible first|apply Qy|apply Qz|apply QA)<;>intro hb<;>try simp only[nr] at hb
 |simp only[go_sem,↓reduceIte,Qa,Qh,Qb,Qc,Qd,Qe,Qf,Qg,reduceCtorEq, *]
 |intro(bn:Bool) hbn))
 refine Qs [1,8,9] (fun m ts'=>∃(i:Nat),∃(a:Int),m=xs.length-i∧i≤xs.length∧JaG next xs 0=JaG next (xs.drop i) a∧ts'.tmp 3=.int .i64 a∧ts'.tmp 10=.int .i64 i) xs.length ?_ ?_
 ·refine⟨0,0,?_⟩
  simp only[go_sem,↓reduceIte,Qa,Qh,Qb,Qc,Qd,Qe,Qf,Qg,reduceCtorEq, *]
 ·rintro m A hM ts' hk ⟨i,a,hm,f1,f2,s1,s2⟩
  simp only[go_sem,↓reduceIte,Qa,Qh,Qb,Qc,Qd,Qe,Qf,Qg,reduceCtorEq, *] at hk
  by_cases hlt:i<xs.length
  ·rw[List.drop_eq_getElem_cons hlt,JaG] at f2
   have hr:(xs.drop (i+1)=[])=((i:Int)=xs.length-1):=by rw[List.drop_eq_nil_iff];apply propext;omega
   simp only[hr] at f2
   (repeat' (first
 | (with_reducible first|refine callX.by (ZM _ _ ?_) ?_|refine callX.by (JgW _ _ _) ?_|assumption|(refine Qw hK _ ?_;clear hK K)|refine Qw ‹_› _ ?_|refine Qx ‹_› ?_|refine Qi fun K hK=>?_|refine Qj T fun K hK=>?_|refine Ql fun A B hA hB=>?_|refine Qm ?_|refine Qn ?_|refine Qp ?_|refine Qr ?_)
 |(with_reducible first|apply Qy|apply Qz|apply QA)<;>intro hb<;>try simp only[nr] at hb
 |simp only[go_sem,↓reduceIte,Qa,Qh,Qb,Qc,Qd,Qe,Qf,Qg,reduceCtorEq, *]
 |intro(bn:Bool) hbn))
   all_goals ((repeat clear hK);(repeat clear hA);(repeat clear hB))
   all_goals first
    | (clear hM;simp_all[ZP];done)
    | (refine hM.on (xs.length-(i+1)) (by omega) (by simp only[go_sem,↓reduceIte,Qa,Qh,Qb,Qc,Qd,Qe,Qf,Qg,reduceCtorEq, *,Jh hlt hl]) ⟨i+1,xs[i].id,rfl,by omega,by simp_all,?_⟩;simp only[go_sem,↓reduceIte,Qa,Qh,Qb,Qc,Qd,Qe,Qf,Qg,reduceCtorEq, *,Jh hlt hl];done)
  ·rw[List.drop_eq_nil_of_le (by omega),JaG] at f2
   (repeat' (first
 | (with_reducible first|refine callX.by (ZM _ _ ?_) ?_|refine callX.by (JgW _ _ _) ?_|assumption|(refine Qw hK _ ?_;clear hK K)|refine Qw ‹_› _ ?_|refine Qx ‹_› ?_|refine Qi fun K hK=>?_|refine Qj T fun K hK=>?_|refine Ql fun A B hA hB=>?_|refine Qm ?_|refine Qn ?_|refine Qp ?_|refine Qr ?_)
 |(with_reducible first|apply Qy|apply Qz|apply QA)<;>intro hb<;>try simp only[nr] at hb
 |simp only[go_sem,↓reduceIte,Qa,Qh,Qb,Qc,Qd,Qe,Qf,Qg,reduceCtorEq, *]
 |intro(bn:Bool) hbn))
   all_goals ((repeat clear hK);(repeat clear hA);(repeat clear hB))
   all_goals (clear hM;simp_all[ZP])
theorem Jec(id pins:Int)(xs:List Res):CallR Tryz.prog 138 [.agg [.int .i64 id,.int .i64 pins,.slice false (Ja xs)]] (.val (.bool (decide (pins=0)))):=by
 refine Jl Tryz.call138 Tryz.func138 rfl Tryz.ntmps138 Tryz.results138 fun ts hn h0=>?_
 (repeat' (first
 | (with_reducible first|assumption|(refine Qw hK _ ?_;clear hK K)|refine Qw ‹_› _ ?_|refine Qx ‹_› ?_|refine Qi fun K hK=>?_|refine Qj T fun K hK=>?_|refine Ql fun A B hA hB=>?_|refine Qn ?_|refine Qr ?_)
 |(with_reducible first|apply Qy|apply Qz|apply QA)<;>intro hb<;>try simp only[nr] at hb
 |simp only[go_sem,↓reduceIte,Qa,Qh,Qb,Qc,Qd,Qe,Qf,Qg,reduceCtorEq, *]
 |intro(bn:Bool) hbn))
def Jq(p:Pins):Pins:=if ZP p then p else ⟨0,[]⟩
theorem Jcr{p:Pins}(h:Jc p.snaps.length):Jc (Jq p).snaps.length:=by
 unfold Jq;split
 ·exact h
 ·simp[Jc]
theorem ZT(next:Int)(xs:List Snap)(hl:Jc xs.length):CallR Tryz.prog 42 [.agg [.int .i64 next,.slice false (Ja xs)]] (.val (Dat.av (Jq ⟨next,xs⟩))):=by
 refine Jl Tryz.call42 Tryz.func42 rfl Tryz.ntmps42 Tryz.results42 fun ts hn h0=>?_
 (repeat' (first
 | (with_reducible first|refine callX.by (Jf9 _ _ ?_) ?_|assumption|(refine Qw hK _ ?_;clear hK K)|refine Qw ‹_› _ ?_|refine Qx ‹_› ?_|refine Qi fun K hK=>?_|refine Qj T fun K hK=>?_|refine Ql fun A B hA hB=>?_|refine Qn ?_|refine Qr ?_)
 |(with_reducible first|apply Qy|apply Qz|apply QA)<;>intro hb<;>try simp only[nr] at hb
 |simp only[go_sem,↓reduceIte,Qa,Qh,Qb,Qc,Qd,Qe,Qf,Qg,reduceCtorEq, *]
 |intro(bn:Bool) hbn))
 all_goals simp[Jq, *,J8,JmU]
theorem Vg(kind ver port:Int)(name to:List UInt8)(rs:List Rule)(hs:List Int):CallR Tryz.prog 149 [.agg [.int .i64 kind,.str name,.int .i64 ver,.int .i64 port,.str to,.slice false (Ja rs),.slice false (Ja hs)]] (.val (.agg [.int .i64 kind,.str name])):=by
 refine Jl Tryz.call149 Tryz.func149 rfl Tryz.ntmps149 Tryz.results149 fun ts hn h0=>?_
 (repeat' (first
 | (with_reducible first|assumption|(refine Qw hK _ ?_;clear hK K)|refine Qw ‹_› _ ?_|refine Qx ‹_› ?_|refine Qi fun K hK=>?_|refine Qj T fun K hK=>?_|refine Ql fun A B hA hB=>?_|refine Qn ?_|refine Qr ?_)
 |(with_reducible first|apply Qy|apply Qz|apply QA)<;>intro hb<;>try simp only[nr] at hb
 |simp only[go_sem,↓reduceIte,Qa,Qh,Qb,Qc,Qd,Qe,Qf,Qg,reduceCtorEq, *]
 |intro(bn:Bool) hbn))
def J6(xs:List Snap)(id:Int):Nat→Int
 |0=>-1
 |n+1=>if(xs.getD n default).id=id then n else J6 xs id n
theorem Jez{xs:List Snap}{id:Int}{k:Nat}(h0:0<k)(hk:k≤xs.length):J6 xs id k=if(xs[k-1]'(by omega)).id=id then (k:Int)-1 else J6 xs id (k-1):=by
 obtain⟨n,rfl⟩:∃n,k=n+1:=⟨k-1,by omega⟩
 rw[J6]
 have e:xs.getD n default=xs[n]:=by simp[show n<xs.length by omega]
 simp only[Nat.add_sub_cancel,e]
 split<;>simp
theorem Jey(xs:List Snap)(id:Int):∀k,J6 xs id k<k∧-1≤J6 xs id k
 |0=>by simp[J6]
 |k+1=>by
  have:=Jey xs id k
  rw[J6]
  split<;>omega
theorem JeA(next id:Int)(xs:List Snap)(hl:Jc xs.length):CallR Tryz.prog 43 [.agg [.int .i64 next,.slice false (Ja xs)],.int .i64 id] (.val (.int .i64 (J6 xs id xs.length))):=by
 refine Jm Tryz.call43 Tryz.func43 rfl Tryz.ntmps43 Tryz.results43 fun ts hn h0 h1=>?_
 (repeat' (first
 | (with_reducible first|refine callX.by (ZM _ _ ?_) ?_|assumption|(refine Qw hK _ ?_;clear hK K)|refine Qw ‹_› _ ?_|refine Qx ‹_› ?_|refine Qi fun K hK=>?_|refine Qj T fun K hK=>?_|refine Ql fun A B hA hB=>?_|refine Qn ?_|refine Qo ?_|refine Qq ?_|refine Qr ?_)
 |(with_reducible first|apply Qy|apply Qz|apply QA)<;>intro hb<;>try simp only[nr] at hb
 |simp only[go_sem,↓reduceIte,Qa,Qh,Qb,Qc,Qd,Qe,Qf,Qg,reduceCtorEq, *]
 |intro(bn:Bool) hbn))
 refine SpecC.scopeF 0 [1,2] (fun m ts'=>∃(k:Nat),m=k∧k≤xs.length∧J6 xs id xs.length=J6 xs id k∧ts'.tmp 2=.ref 2 (ts.gen 2+1) 0∧ts'.gen 2=ts.gen 2+1∧ts'.obj 2=.box [.int .i64 next,.slice false (Ja xs)]∧ts'.tmp 5=.int .i64 (k-1)) (xs.length+1) rfl ?_ ?_
 ·intro J hM
  (repeat' (first
 | (with_reducible first|refine callX.by (ZM _ _ ?_) ?_|assumption|(refine Qw hK _ ?_;clear hK K)|refine Qw ‹_› _ ?_|refine Qx ‹_› ?_|refine Qi fun K hK=>?_|refine Qj T fun K hK=>?_|refine Ql fun A B hA hB=>?_|refine Qn ?_|refine Qo ?_|refine Qq ?_|refine Qr ?_)
 |(with_reducible first|apply Qy|apply Qz|apply QA)<;>intro hb<;>try simp only[nr] at hb
 |simp only[go_sem,↓reduceIte,Qa,Qh,Qb,Qc,Qd,Qe,Qf,Qg,reduceCtorEq, *]
 |intro(bn:Bool) hbn))
  all_goals ((repeat clear hK);(repeat clear hA);(repeat clear hB))
  ·have hb0:0<xs.length:=by assumption
   have e:=Jez (id:=id) hb0 (Nat.le_refl _)
   rw[if_neg (of_decide_eq_false hb)] at e
   (refine hM.on (xs.length-1) (by omega) (by simp only[go_sem,↓reduceIte,Qa,Qh,Qb,Qc,Qd,Qe,Qf,Qg,reduceCtorEq, *,Je9 (Nat.le_refl _) hb0 hl,-e]) ⟨xs.length-1,rfl,by omega,e,?_⟩;simp only[go_sem,↓reduceIte,Qa,Qh,Qb,Qc,Qd,Qe,Qf,Qg,reduceCtorEq, *,Je9 (Nat.le_refl _) hb0 hl,-e];done)
  ·have hb0:0<xs.length:=by assumption
   rw[Jez (id:=id) hb0 (Nat.le_refl _),if_pos (of_decide_eq_true hb)]
  ·have hb0:xs.length=0:=by omega
   rw[hb0];rfl
 ·rintro m A hM ts' hk ⟨k,hm,f1,f2,s1,s2,s3,s4⟩
  simp only[go_sem,↓reduceIte,Qa,Qh,Qb,Qc,Qd,Qe,Qf,Qg,reduceCtorEq, *] at hk
  obtain rfl:=hm
  (repeat' (first
 | (with_reducible first|refine callX.by (ZM _ _ ?_) ?_|assumption|(refine Qw hK _ ?_;clear hK K)|refine Qw ‹_› _ ?_|refine Qx ‹_› ?_|refine Qi fun K hK=>?_|refine Qj T fun K hK=>?_|refine Ql fun A B hA hB=>?_|refine Qn ?_|refine Qo ?_|refine Qq ?_|refine Qr ?_)
 |(with_reducible first|apply Qy|apply Qz|apply QA)<;>intro hb<;>try simp only[nr] at hb
 |simp only[go_sem,↓reduceIte,Qa,Qh,Qb,Qc,Qd,Qe,Qf,Qg,reduceCtorEq, *]
 |intro(bn:Bool) hbn))
  all_goals ((repeat clear hK);(repeat clear hA);(repeat clear hB))
  ·have hb0:0<m:=by assumption
   have e:=Jez (id:=id) hb0 f1
   rw[if_neg (of_decide_eq_false hb)] at e
   (refine hM.on (m-1) (by omega) (by simp only[go_sem,↓reduceIte,Qa,Qh,Qb,Qc,Qd,Qe,Qf,Qg,reduceCtorEq, *,Je9 f1 hb0 hl,-e,-f2]) ⟨m-1,rfl,by omega,f2.trans e,?_⟩;simp only[go_sem,↓reduceIte,Qa,Qh,Qb,Qc,Qd,Qe,Qf,Qg,reduceCtorEq, *,Je9 f1 hb0 hl,-e,-f2];done)
  ·have hb0:0<m:=by assumption
   rw[Jez (id:=id) hb0 f1,if_pos (of_decide_eq_true hb)]
  ·have hb0:m=0:=by omega
   rw[hb0];rfl
def JI(p:Pins):Int×List Res×Bool :=
 match (Jq p).snaps.getLast? with
 |none=>(0,[],false)
 |some s=>(s.id,s.l,true)
theorem JhJ(next:Int)(xs:List Snap)(hl:Jc xs.length):CallR Tryz.prog 29 [.agg [.int .i64 next,.slice false (Ja xs)]] (.val (.tup [.int .i64 (JI ⟨next,xs⟩).1,.slice false (Ja (JI ⟨next,xs⟩).2.1),.bool (JI ⟨next,xs⟩).2.2])):=by
 have hl2:Jc (Jq ⟨next,xs⟩).snaps.length:=Jcr hl
 refine Jl Tryz.call29 Tryz.func29 rfl Tryz.ntmps29 Tryz.results29 fun ts hn h0=>?_
 (repeat' (first
 | (with_reducible first|refine callX.by (ZT _ _ ?_) ?_|refine callX.by (ZM _ _ ?_) ?_|assumption|(refine Qw hK _ ?_;clear hK K)|refine Qw ‹_› _ ?_|refine Qx ‹_› ?_|refine Qi fun K hK=>?_|refine Qj T fun K hK=>?_|refine Qk (id:=5) T mixed [([12],[14,16,17,18,19,20,21,22,23]),([13],[14,17,18,19,20,21,22,23]),([14],[12,13,17,18,19,20,21,22,23]),([15],[18,19,20,21,22,23]),([16],[12,18,19,20,21,22,23]),([17],[12,13,14,18,19,20,21,22,23]),([18],[12,13,14,15,16,17,20,22,23,2]),([19],[12,13,14,15,16,17,20,23,2]),([20],[12,13,14,15,16,17,18,19,23,2]),([21],[12,13,14,15,16,17,2]),([22],[12,13,14,15,16,17,18,2]),([23],[12,13,14,15,16,17,18,19,20,2]),([2],[18,19,20,21,22,23])] (by kernel_rfl) fun K hK=>?_|refine Ql fun A B hA hB=>?_|refine Qn ?_|refine Qr ?_)
 |(with_reducible first|apply Qy|apply Qz|apply QA)<;>intro hb<;>try simp only[nr] at hb
 |simp only[go_sem,↓reduceIte,Qa,Qh,Qb,Qc,Qd,Qe,Qf,Qg,reduceCtorEq, *]
 |intro(bn:Bool) hbn))
 ·have h0:(Jq ⟨next,xs⟩).snaps=[]:=by simpa using hb
  simp[JI,h0,J8]
 ·simp[JI,List.getLast?_eq_getElem?,List.getElem?_eq_getElem (show(Jq ⟨next,xs⟩).snaps.length-1<(Jq ⟨next,xs⟩).snaps.length by omega)]
def Zc(p:Pins)(id:Int):List Res×Bool :=
 let q:=Jq p
 let k:=J6 q.snaps id q.snaps.length
 if k<0 then ([],false) else ((q.snaps.getD k.toNat default).l,true)
theorem Jpm(next id:Int)(xs:List Snap)(hl:Jc xs.length):CallR Tryz.prog 14 [.agg [.int .i64 next,.slice false (Ja xs)],.int .i64 id] (.val (.tup [.slice false (Ja (Zc ⟨next,xs⟩ id).1),.bool (Zc ⟨next,xs⟩ id).2])):=by
 have hl2:Jc (Jq ⟨next,xs⟩).snaps.length:=Jcr hl
 have hp:=Jey (Jq ⟨next,xs⟩).snaps id (Jq ⟨next,xs⟩).snaps.length
 refine Jm Tryz.call14 Tryz.func14 rfl Tryz.ntmps14 Tryz.results14 fun ts hn h0 h1=>?_
 by_cases hneg:J6 (Jq ⟨next,xs⟩).snaps id (Jq ⟨next,xs⟩).snaps.length<0
 ·(repeat' (first
 | (with_reducible first|refine callX.by (ZT _ _ ?_) ?_|refine callX.by (JeA _ _ _ ?_) ?_|assumption|(refine Qw hK _ ?_;clear hK K)|refine Qw ‹_› _ ?_|refine Qx ‹_› ?_|refine Qi fun K hK=>?_|refine Qj T fun K hK=>?_|refine Ql fun A B hA hB=>?_|refine Qn ?_|refine Qr ?_)
 |(with_reducible first|apply Qy|apply Qz|apply QA)<;>intro hb<;>try simp only[nr] at hb
 |simp only[go_sem,↓reduceIte,Qa,Qh,Qb,Qc,Qd,Qe,Qf,Qg,reduceCtorEq, *]
 |intro(bn:Bool) hbn))
  all_goals simp[Zc,hneg,J8]
 ·obtain⟨k,hk⟩:∃k:Nat,J6 (Jq ⟨next,xs⟩).snaps id (Jq ⟨next,xs⟩).snaps.length=k:=⟨_,(Int.toNat_of_nonneg (by omega)).symm⟩
  have hlt:k<(Jq ⟨next,xs⟩).snaps.length:=by omega
  (repeat' (first
 | (with_reducible first|refine callX.by (ZT _ _ ?_) ?_|refine callX.by (JeA _ _ _ ?_) ?_|assumption|(refine Qw hK _ ?_;clear hK K)|refine Qw ‹_› _ ?_|refine Qx ‹_› ?_|refine Qi fun K hK=>?_|refine Qj T fun K hK=>?_|refine Ql fun A B hA hB=>?_|refine Qn ?_|refine Qr ?_)
 |(with_reducible first|apply Qy|apply Qz|apply QA)<;>intro hb<;>try simp only[nr] at hb
 |simp only[go_sem,↓reduceIte,Qa,Qh,Qb,Qc,Qd,Qe,Qf,Qg,reduceCtorEq, *]
 |intro(bn:Bool) hbn))
  all_goals simp[Zc,hk,hlt,JiW]
@[go_sem] def Wd0:List (List Nat×List Nat):=[([10],[11,12,13,14,15,16,17]),([11],[10,14,15,16,17]),([12],[10,14,15,17]),([13],[10,14,15]),([14],[10,11,12,13,17]),([15],[10,11,12,13]),([16],[10,11]),([17],[10,11,12,14])]
@[go_sem] def Wd1:List (List Nat×List Nat):=[([20],[21,22,25,26,27,28,29]),([21],[20,24,25,26,27,28,29]),([22],[20,25,26,27,28,29]),([23],[]),([24],[21]),([25],[20,21,22,27,28,29]),([26],[20,21,22,27,28,29]),([27],[20,21,22,25,26]),([28],[20,21,22,25,26]),([29],[20,21,22,25,26])]
@[go_sem] theorem JvO:Tryz.prog.eqGuardType Tryz.prog.depth 28=false:=by kernel_rfl
@[go_sem] theorem JvN:Tryz.prog.eqGuardType Tryz.prog.depth 32=false:=by kernel_rfl
@[go_sem] theorem JvP:Tryz.prog.eqGuardType Tryz.prog.depth 30=false:=by kernel_rfl
@[go_sem] theorem JE5:Tryz.prog.stoodInHeld 30=false:=by kernel_rfl
def Va(n:Int):Int:=max 1 (min n 2147483647)
def Ya(m x:Int):Int:=max 0 (min x m)
def z4:Four:=⟨0,0,0,0⟩
@[go_sem] theorem Jmv:z4.a0=0:=rfl
@[go_sem] theorem Jmw:z4.a1=0:=rfl
@[go_sem] theorem Jmx:z4.a2=0:=rfl
@[go_sem] theorem Jmy:z4.a3=0:=rfl
def Z9(f:Four)(k:Int):Int:=if k=0 then f.a0 else if k=1 then f.a1 else if k=2 then f.a2 else f.a3
def JbE(f:Four)(k n:Int):Four:=if k=0 then { f with a0:=n } else if k=1 then { f with a1:=n } else if k=2 then { f with a2:=n } else { f with a3:=n }
theorem Jbk(n:Int):CallR Tryz.prog 74 [.int .i64 n] (.val (.int .i64 (Va n))):=by
 refine Jl Tryz.call74 Tryz.func74 rfl Tryz.ntmps74 Tryz.results74 fun ts hn h0=>?_
 (repeat' (first
 | (with_reducible first|assumption|(refine Qw hK _ ?_;clear hK K)|refine Qw ‹_› _ ?_|refine Qx ‹_› ?_|refine Qi fun K hK=>?_|refine Qj T fun K hK=>?_|refine Ql fun A B hA hB=>?_|refine Qn ?_|refine Qr ?_)
 |(with_reducible first|apply Qy|apply Qz|apply QA)<;>intro hb<;>try simp only[nr] at hb
 |simp only[go_sem,↓reduceIte,Qa,Qh,Qb,Qc,Qd,Qe,Qf,Qg,reduceCtorEq, *]
 |intro(bn:Bool) hbn))
 all_goals rfl
theorem Ji1(n:Int):CallR Tryz.prog 100 [.int .i64 n] (.val (.tup [.agg [.int .i64 0,.int .i64 0,.int .i64 0,.int .i64 0,.bool false,.bool false,.bool false,.bool false,.int .i64 (Va n)],.agg [.int .i64 0,.int .i64 0,.int .i64 0,.int .i64 0,.int .i64 (Va n)]])):=by
 have w1:=Jbk n
 refine Jl Tryz.call100 Tryz.func100 rfl Tryz.ntmps100 Tryz.results100 fun ts hn h0=>?_
 (repeat' (first
 | (with_reducible first|refine callX.by (w1) ?_|assumption|(refine Qw hK _ ?_;clear hK K)|refine Qw ‹_› _ ?_|refine Qx ‹_› ?_|refine Qi fun K hK=>?_|refine Qj T fun K hK=>?_|refine Ql fun A B hA hB=>?_|refine Qn ?_|refine Qr ?_)
 |(with_reducible first|apply Qy|apply Qz|apply QA)<;>intro hb<;>try simp only[nr] at hb
 |simp only[go_sem,↓reduceIte,Qa,Qh,Qb,Qc,Qd,Qe,Qf,Qg,reduceCtorEq, *,-w1]
 |intro(bn:Bool) hbn))
 all_goals trace_state
theorem JnV(n:Int):CallR Tryz.prog 70 [.int .i64 n] (.val (.agg [.int .i64 0,.int .i64 0,.int .i64 0,.int .i64 0,.int .i64 (Va n)])):=by
 have w1:=Ji1 n
 refine Jl Tryz.call70 Tryz.func70 rfl Tryz.ntmps70 Tryz.results70 fun ts hn h0=>?_
 (repeat' (first
 | (with_reducible first|refine callX.by (w1) ?_|assumption|(refine Qw hK _ ?_;clear hK K)|refine Qw ‹_› _ ?_|refine Qx ‹_› ?_|refine Qi fun K hK=>?_|refine Qj T fun K hK=>?_|refine Ql fun A B hA hB=>?_|refine Qn ?_|refine Qr ?_)
 |(with_reducible first|apply Qy|apply Qz|apply QA)<;>intro hb<;>try simp only[nr] at hb
 |simp only[go_sem,↓reduceIte,Qa,Qh,Qb,Qc,Qd,Qe,Qf,Qg,reduceCtorEq, *,-w1]
 |intro(bn:Bool) hbn))
 all_goals trace_state
theorem Jo6(k:Int):CallR Tryz.prog 96 [.int .i64 k] (.val (.bool (decide (0≤k∧k<4)))):=by
 refine Jl Tryz.call96 Tryz.func96 rfl Tryz.ntmps96 Tryz.results96 fun ts hn h0=>?_
 (repeat' (first
 | (with_reducible first|assumption|(refine Qw hK _ ?_;clear hK K)|refine Qw ‹_› _ ?_|refine Qx ‹_› ?_|refine Qi fun K hK=>?_|refine Qj T fun K hK=>?_|refine Ql fun A B hA hB=>?_|refine Qn ?_|refine Qr ?_)
 |(with_reducible first|apply Qy|apply Qz|apply QA)<;>intro hb<;>try simp only[nr] at hb
 |simp only[go_sem,↓reduceIte,Qa,Qh,Qb,Qc,Qd,Qe,Qf,Qg,reduceCtorEq, *]
 |intro(bn:Bool) hbn))
 all_goals (rw[Bool.eq_iff_iff];simp_all)
def YJ(i:In):Bool:=(decide (Ya i.max i.last.a0=i.last.a0) && (decide (Ya i.max i.last.a1=i.last.a1) && (decide (Ya i.max i.last.a2=i.last.a2) && decide (Ya i.max i.last.a3=i.last.a3)))) && decide (i.max=Va i.max)
def nrA(f:Four)(m:Int)(n:Nat):List AV:=[.int .i64 (if 0<n then Ya m f.a0 else f.a0),.int .i64 (if 1<n then Ya m f.a1 else f.a1),.int .i64 (if 2<n then Ya m f.a2 else f.a2),.int .i64 (if 3<n then Ya m f.a3 else f.a3)]
theorem Jeq(f:Four)(m:Int):nrA f m 0=[.int .i64 f.a0,.int .i64 f.a1,.int .i64 f.a2,.int .i64 f.a3]:=rfl
theorem Jdf(f:Four)(m:Int):nrA f m 1=[.int .i64 (max 0 (min f.a0 m)),.int .i64 f.a1,.int .i64 f.a2,.int .i64 f.a3]:=rfl
theorem Jdg(f:Four)(m:Int):nrA f m 2=[.int .i64 (max 0 (min f.a0 m)),.int .i64 (max 0 (min f.a1 m)),.int .i64 f.a2,.int .i64 f.a3]:=rfl
theorem Jdh(f:Four)(m:Int):nrA f m 3=[.int .i64 (max 0 (min f.a0 m)),.int .i64 (max 0 (min f.a1 m)),.int .i64 (max 0 (min f.a2 m)),.int .i64 f.a3]:=rfl
theorem JfW(f:Four)(m:Int):nrA f m 4=[.int .i64 (max 0 (min f.a0 m)),.int .i64 (max 0 (min f.a1 m)),.int .i64 (max 0 (min f.a2 m)),.int .i64 (max 0 (min f.a3 m))]:=rfl
def kz:Nat→Int
 |0=>0
 |1=>1
 |2=>2
 |3=>3
 |_=>4
theorem kz0:kz 0=0:=rfl
theorem kz1:kz 1=1:=rfl
theorem kz2:kz 2=2:=rfl
theorem kz3:kz 3=3:=rfl
theorem kz4:kz 4=4:=rfl
theorem YH:(0:Int)<4∧(1:Int)<4∧(2:Int)<4∧(3:Int)<4∧¬(4:Int)<4:=by decide
theorem YS:(0:Int)<((4:Nat):Int)∧(1:Int)<((4:Nat):Int)∧(2:Int)<((4:Nat):Int)∧(3:Int)<((4:Nat):Int):=by decide
theorem YY:(0:Int)≤0∧(0:Int)≤1∧(0:Int)≤2∧(0:Int)≤3:=by decide
theorem Y0:Int.toNat 0=0∧Int.toNat 1=1∧Int.toNat 2=2∧Int.toNat 3=3:=by decide
theorem w04:IntKind.i64.wrap (0+1)=1∧IntKind.i64.wrap (1+1)=2∧IntKind.i64.wrap (2+1)=3∧IntKind.i64.wrap (3+1)=4:=by decide
theorem JfY(Lr Ls:Int)(Lt Lu LB:Int):CallR Tryz.prog 35 [.agg [.int .i64 Lr,.int .i64 Ls,.int .i64 Lt,.int .i64 Lu,.int .i64 LB]] (.val (.bool (YJ (⟨⟨Lr,Ls,Lt,Lu⟩,LB⟩:In)))):=by
 have w1:=Jbk LB
 refine Jl Tryz.call35 Tryz.func35 rfl Tryz.ntmps35 Tryz.results35 fun ts hn h0=>?_
 (repeat' (first
 | (with_reducible first|refine callX.by (Jbk _) ?_|assumption|(refine Qw hK _ ?_;clear hK K)|refine Qw ‹_› _ ?_|refine Qx ‹_› ?_|refine Qi fun K hK=>?_|refine Qj T fun K hK=>?_|refine Qk (id:=5) T mixed Wd0 (by kernel_rfl) fun K hK=>?_|refine Qk (id:=7) T mixed Wd1 (by kernel_rfl) fun K hK=>?_|refine Ql fun A B hA hB=>?_|refine Qm ?_|refine Qn ?_|refine Qp ?_|refine Qr ?_)
 |(with_reducible first|apply Qy|apply Qz|apply QA)<;>intro hb<;>try simp only[nr] at hb
 |simp only[go_sem,↓reduceIte,Qa,Qh,Qb,Qc,Qd,Qe,Qf,Qg,reduceCtorEq, *,-w1]
 |intro(bn:Bool) hbn))
 refine Qs [1] (fun m ts'=>∃(n:Nat),∃(g:Nat),m=4-n∧n≤4∧ts'.tmp 3=.ref 3 g 0∧ts'.gen 3=g∧ts'.obj 3=.box (nrA ⟨Lr,Ls,Lt,Lu⟩ LB n)∧ts'.tmp 7=.int .i64 (kz n)) 4 ?_ ?_
 ·refine⟨0,ts.gen 3+1,rfl,Nat.zero_le _,?_⟩
  simp only[go_sem,↓reduceIte,Qa,Qh,Qb,Qc,Qd,Qe,Qf,Qg,reduceCtorEq, *,-w1,Jeq,kz0]
 ·rintro m A hM ts' hk ⟨n,g,hm,f1,s1,s2,s3,s4⟩
  simp only[go_sem,↓reduceIte,Qa,Qh,Qb,Qc,Qd,Qe,Qf,Qg,reduceCtorEq, *] at hk
  by_cases hlt:n<4
  ·rcases(show n=0∨n=1∨n=2∨n=3 by omega) with rfl|rfl|rfl|rfl
   ·(repeat' (first
 | (with_reducible first|refine callX.by (Jbk _) ?_|assumption|(refine Qw hK _ ?_;clear hK K)|refine Qw ‹_› _ ?_|refine Qx ‹_› ?_|refine Qi fun K hK=>?_|refine Qj T fun K hK=>?_|refine Qk (id:=5) T mixed Wd0 (by kernel_rfl) fun K hK=>?_|refine Qk (id:=7) T mixed Wd1 (by kernel_rfl) fun K hK=>?_|refine Ql fun A B hA hB=>?_|refine Qm ?_|refine Qn ?_|refine Qp ?_|refine Qr ?_)
 |(with_reducible first|apply Qy|apply Qz|apply QA)<;>intro hb<;>try simp only[nr] at hb
 |simp only[go_sem,↓reduceIte,Qa,Qh,Qb,Qc,Qd,Qe,Qf,Qg,reduceCtorEq, *,-w1,Jeq,kz0,YH,YS,YY,Y0]
 |intro(bn:Bool) hbn))
    all_goals ((repeat clear hK);(repeat clear hA);(repeat clear hB))
    all_goals (refine hM.on (3) (by omega) (by simp only[go_sem,↓reduceIte,Qa,Qh,Qb,Qc,Qd,Qe,Qf,Qg,reduceCtorEq, *,-w1,Jeq,Jdf,kz0,kz1,w04]) ⟨1,g,rfl,by omega,?_⟩;simp only[go_sem,↓reduceIte,Qa,Qh,Qb,Qc,Qd,Qe,Qf,Qg,reduceCtorEq, *,-w1,Jeq,Jdf,kz0,kz1,w04];done)
   ·(repeat' (first
 | (with_reducible first|refine callX.by (Jbk _) ?_|assumption|(refine Qw hK _ ?_;clear hK K)|refine Qw ‹_› _ ?_|refine Qx ‹_› ?_|refine Qi fun K hK=>?_|refine Qj T fun K hK=>?_|refine Qk (id:=5) T mixed Wd0 (by kernel_rfl) fun K hK=>?_|refine Qk (id:=7) T mixed Wd1 (by kernel_rfl) fun K hK=>?_|refine Ql fun A B hA hB=>?_|refine Qm ?_|refine Qn ?_|refine Qp ?_|refine Qr ?_)
 |(with_reducible first|apply Qy|apply Qz|apply QA)<;>intro hb<;>try simp only[nr] at hb
 |simp only[go_sem,↓reduceIte,Qa,Qh,Qb,Qc,Qd,Qe,Qf,Qg,reduceCtorEq, *,-w1,Jdf,kz1,YH,YS,YY,Y0]
 |intro(bn:Bool) hbn))
    all_goals ((repeat clear hK);(repeat clear hA);(repeat clear hB))
    all_goals (refine hM.on (2) (by omega) (by simp only[go_sem,↓reduceIte,Qa,Qh,Qb,Qc,Qd,Qe,Qf,Qg,reduceCtorEq, *,-w1,Jdf,Jdg,kz1,kz2,w04]) ⟨2,g,rfl,by omega,?_⟩;simp only[go_sem,↓reduceIte,Qa,Qh,Qb,Qc,Qd,Qe,Qf,Qg,reduceCtorEq, *,-w1,Jdf,Jdg,kz1,kz2,w04];done)
   ·(repeat' (first
 | (with_reducible first|refine callX.by (Jbk _) ?_|assumption|(refine Qw hK _ ?_;clear hK K)|refine Qw ‹_› _ ?_|refine Qx ‹_› ?_|refine Qi fun K hK=>?_|refine Qj T fun K hK=>?_|refine Qk (id:=5) T mixed Wd0 (by kernel_rfl) fun K hK=>?_|refine Qk (id:=7) T mixed Wd1 (by kernel_rfl) fun K hK=>?_|refine Ql fun A B hA hB=>?_|refine Qm ?_|refine Qn ?_|refine Qp ?_|refine Qr ?_)
 |(with_reducible first|apply Qy|apply Qz|apply QA)<;>intro hb<;>try simp only[nr] at hb
 |simp only[go_sem,↓reduceIte,Qa,Qh,Qb,Qc,Qd,Qe,Qf,Qg,reduceCtorEq, *,-w1,Jdg,kz2,YH,YS,YY,Y0]
 |intro(bn:Bool) hbn))
    all_goals ((repeat clear hK);(repeat clear hA);(repeat clear hB))
    all_goals (refine hM.on (1) (by omega) (by simp only[go_sem,↓reduceIte,Qa,Qh,Qb,Qc,Qd,Qe,Qf,Qg,reduceCtorEq, *,-w1,Jdg,Jdh,kz2,kz3,w04]) ⟨3,g,rfl,by omega,?_⟩;simp only[go_sem,↓reduceIte,Qa,Qh,Qb,Qc,Qd,Qe,Qf,Qg,reduceCtorEq, *,-w1,Jdg,Jdh,kz2,kz3,w04];done)
   ·(repeat' (first
 | (with_reducible first|refine callX.by (Jbk _) ?_|assumption|(refine Qw hK _ ?_;clear hK K)|refine Qw ‹_› _ ?_|refine Qx ‹_› ?_|refine Qi fun K hK=>?_|refine Qj T fun K hK=>?_|refine Qk (id:=5) T mixed Wd0 (by kernel_rfl) fun K hK=>?_|refine Qk (id:=7) T mixed Wd1 (by kernel_rfl) fun K hK=>?_|refine Ql fun A B hA hB=>?_|refine Qm ?_|refine Qn ?_|refine Qp ?_|refine Qr ?_)
 |(with_reducible first|apply Qy|apply Qz|apply QA)<;>intro hb<;>try simp only[nr] at hb
 |simp only[go_sem,↓reduceIte,Qa,Qh,Qb,Qc,Qd,Qe,Qf,Qg,reduceCtorEq, *,-w1,Jdh,kz3,YH,YS,YY,Y0]
 |intro(bn:Bool) hbn))
    all_goals ((repeat clear hK);(repeat clear hA);(repeat clear hB))
    all_goals (refine hM.on (0) (by omega) (by simp only[go_sem,↓reduceIte,Qa,Qh,Qb,Qc,Qd,Qe,Qf,Qg,reduceCtorEq, *,-w1,Jdh,JfW,kz3,kz4,w04]) ⟨4,g,rfl,by omega,?_⟩;simp only[go_sem,↓reduceIte,Qa,Qh,Qb,Qc,Qd,Qe,Qf,Qg,reduceCtorEq, *,-w1,Jdh,JfW,kz3,kz4,w04];done)
  ·have e4:n=4:=by omega
   subst e4
   (repeat' (first
 | (with_reducible first|refine callX.by (w1) ?_|assumption|(refine Qw hK _ ?_;clear hK K)|refine Qw ‹_› _ ?_|refine Qx ‹_› ?_|refine Qi fun K hK=>?_|refine Qj T fun K hK=>?_|refine Qk (id:=5) T mixed Wd0 (by kernel_rfl) fun K hK=>?_|refine Qk (id:=7) T mixed Wd1 (by kernel_rfl) fun K hK=>?_|refine Ql fun A B hA hB=>?_|refine Qm ?_|refine Qn ?_|refine Qp ?_|refine Qr ?_)
 |(with_reducible first|apply Qy|apply Qz|apply QA)<;>intro hb<;>try simp only[nr] at hb
 |simp only[go_sem,↓reduceIte,Qa,Qh,Qb,Qc,Qd,Qe,Qf,Qg,reduceCtorEq, *,-w1,JfW,kz4,YH]
 |intro(bn:Bool) hbn))
   all_goals ((repeat clear hK);(repeat clear hA);(repeat clear hB))
   all_goals (unfold YJ Ya;simp only;rw[hb];simp)
def Vr(i:In):In:=if YJ i=true then i else ⟨z4,Va i.max⟩
theorem Jo5(Lr Ls:Int)(Lt Lu LB:Int):CallR Tryz.prog 95 [.agg [.int .i64 Lr,.int .i64 Ls,.int .i64 Lt,.int .i64 Lu,.int .i64 LB]] (.val (.agg [.int .i64 (Vr (⟨⟨Lr,Ls,Lt,Lu⟩,LB⟩:In)).last.a0,.int .i64 (Vr (⟨⟨Lr,Ls,Lt,Lu⟩,LB⟩:In)).last.a1,.int .i64 (Vr (⟨⟨Lr,Ls,Lt,Lu⟩,LB⟩:In)).last.a2,.int .i64 (Vr (⟨⟨Lr,Ls,Lt,Lu⟩,LB⟩:In)).last.a3,.int .i64 (Vr (⟨⟨Lr,Ls,Lt,Lu⟩,LB⟩:In)).max])):=by
 have w1:=JfY Lr Ls Lt Lu LB
 have w2:=Ji1 LB
 unfold Vr
 cases hb0:YJ (⟨⟨Lr,Ls,Lt,Lu⟩,LB⟩:In)
 ·rw[hb0] at w1
  refine Jl Tryz.call95 Tryz.func95 rfl Tryz.ntmps95 Tryz.results95 fun ts hn h0=>?_
  (repeat' (first
 | (with_reducible first|refine callX.by (w1) ?_|refine callX.by (w2) ?_|assumption|(refine Qw hK _ ?_;clear hK K)|refine Qw ‹_› _ ?_|refine Qx ‹_› ?_|refine Qi fun K hK=>?_|refine Qj T fun K hK=>?_|refine Ql fun A B hA hB=>?_|refine Qn ?_|refine Qr ?_)
 |(with_reducible first|apply Qy|apply Qz|apply QA)<;>intro hb<;>try simp only[nr] at hb
 |simp only[go_sem,↓reduceIte,Qa,Qh,Qb,Qc,Qd,Qe,Qf,Qg,reduceCtorEq, *,-w1,-w2]
 |intro(bn:Bool) hbn))
  all_goals first|rfl|exact⟨rfl,rfl,rfl,rfl⟩
 ·rw[hb0] at w1
  refine Jl Tryz.call95 Tryz.func95 rfl Tryz.ntmps95 Tryz.results95 fun ts hn h0=>?_
  (repeat' (first
 | (with_reducible first|refine callX.by (w1) ?_|refine callX.by (w2) ?_|assumption|(refine Qw hK _ ?_;clear hK K)|refine Qw ‹_› _ ?_|refine Qx ‹_› ?_|refine Qi fun K hK=>?_|refine Qj T fun K hK=>?_|refine Ql fun A B hA hB=>?_|refine Qn ?_|refine Qr ?_)
 |(with_reducible first|apply Qy|apply Qz|apply QA)<;>intro hb<;>try simp only[nr] at hb
 |simp only[go_sem,↓reduceIte,Qa,Qh,Qb,Qc,Qd,Qe,Qf,Qg,reduceCtorEq, *,-w1,-w2]
 |intro(bn:Bool) hbn))
  all_goals first|rfl|trace_state
theorem JiT(i:In):YJ (Vr i)=true:=by
 unfold Vr
 split
 ·assumption
 ·have h1:1≤Va i.max∧Va i.max≤2147483647:=by unfold Va;omega
  have h2:Va (Va i.max)=Va i.max:=by unfold Va;omega
  have h3:Ya (Va i.max) 0=0:=by unfold Ya;omega
  simp only[YJ,Jmv,Jmw,Jmx,Jmy,h2,h3,decide_true,Bool.and_self]
theorem Ji0{i:In}(h:YJ i=true):(0≤i.last.a0∧i.last.a0≤i.max)∧(0≤i.last.a1∧i.last.a1≤i.max)∧(0≤i.last.a2∧i.last.a2≤i.max)∧(0≤i.last.a3∧i.last.a3≤i.max)∧1≤i.max∧i.max≤2147483647:=by
 simp only[YJ,Bool.and_eq_true,decide_eq_true_eq] at h
 obtain⟨⟨h1,h2,h3,h4⟩,h5⟩:=h
 have hb:1≤i.max∧i.max≤2147483647:=by unfold Va at h5;omega
 have key:∀x:Int,Ya i.max x=x→0≤x∧x≤i.max:=fun x hx=>by unfold Ya at hx;omega
 exact⟨key _ h1,key _ h2,key _ h3,key _ h4,hb⟩
def VW(i:In)(k n:Int):In×Int :=
 if ¬(0≤k∧k<4) then (Vr i,4) else if n≠0∧n=Z9 (Vr i).last k then (Vr i,9) else if n≠Z9 (Vr i).last k+1∨(Vr i).max<n then (Vr i,11) else (⟨JbE (Vr i).last k n,(Vr i).max⟩,0)
theorem Jbl(Lr Ls:Int)(Lt Lu LB:Int)(k n:Int):CallR Tryz.prog 65 [.agg [.int .i64 Lr,.int .i64 Ls,.int .i64 Lt,.int .i64 Lu,.int .i64 LB],.int .i64 k,.int .i64 n] (.val (.tup [.agg [.int .i64 (VW (⟨⟨Lr,Ls,Lt,Lu⟩,LB⟩:In) k n).1.last.a0,.int .i64 (VW (⟨⟨Lr,Ls,Lt,Lu⟩,LB⟩:In) k n).1.last.a1,.int .i64 (VW (⟨⟨Lr,Ls,Lt,Lu⟩,LB⟩:In) k n).1.last.a2,.int .i64 (VW (⟨⟨Lr,Ls,Lt,Lu⟩,LB⟩:In) k n).1.last.a3,.int .i64 (VW (⟨⟨Lr,Ls,Lt,Lu⟩,LB⟩:In) k n).1.max],.int .i64 (VW (⟨⟨Lr,Ls,Lt,Lu⟩,LB⟩:In) k n).2])):=by
 have w1:=Jo5 Lr Ls Lt Lu LB
 have w2:=Jo6 k
 have hr:=Ji0 (JiT (⟨⟨Lr,Ls,Lt,Lu⟩,LB⟩:In))
 unfold VW
 generalize Vr (⟨⟨Lr,Ls,Lt,Lu⟩,LB⟩:In)=j at *
 obtain⟨⟨l0,l1,l2,l3⟩,m⟩:=j
 simp only at hr w1 ⊢
 obtain⟨⟨r0,q0⟩,⟨r1,q1⟩,⟨r2,q2⟩,⟨r3,q3⟩,rm,qm⟩:=hr
 by_cases hk4:0≤k∧k<4
 rotate_left
 ·rw[if_pos hk4]
  rw[decide_eq_false hk4] at w2
  refine J1 Tryz.call65 Tryz.func65 rfl Tryz.ntmps65 Tryz.results65 fun ts hn h0 h1 h2=>?_
  (repeat' (first
 | (with_reducible first|refine callX.by (w1) ?_|refine callX.by (w2) ?_|assumption|(refine Qw hK _ ?_;clear hK K)|refine Qw ‹_› _ ?_|refine Qx ‹_› ?_|refine Qi fun K hK=>?_|refine Qj T fun K hK=>?_|refine Ql fun A B hA hB=>?_|refine Qm ?_|refine Qn ?_|refine Qr ?_)
 |(with_reducible first|apply Qy|apply Qz|apply QA)<;>intro hb<;>try simp only[nr] at hb
 |simp only[go_sem,↓reduceIte,Qa,Qh,Qb,Qc,Qd,Qe,Qf,Qg,reduceCtorEq, *,-w1,-w2,-hk4]
 |intro(bn:Bool) hbn))
  all_goals trace_state
 ·rw[if_neg (by simpa using hk4)]
  rw[decide_eq_true hk4] at w2
  have hx:∃x:Int,x=Z9 ⟨l0,l1,l2,l3⟩ k∧IntKind.i64.wrap (x+1)=x+1∧0≤x:=by
   refine⟨_,rfl,IntWalk.i64_in _ ?_,?_⟩
   all_goals (unfold Z9;simp only;repeat' split)
   all_goals omega
  obtain⟨x,hx1,hx2,hx3⟩:=hx
  have n1:¬(1:Int)=0:=by decide
  have n2:¬(2:Int)=0∧¬(2:Int)=1:=by decide
  have n3:¬(3:Int)=0∧¬(3:Int)=1∧¬(3:Int)=2:=by decide
  rcases(show k=0∨k=1∨k=2∨k=3 by omega) with rfl|rfl|rfl|rfl
  all_goals
   simp only[Z9,JbE,if_true,n1,n2,n3,if_false] at hx1 ⊢
   subst hx1
   clear r0 q0 r1 q1 r2 q2 r3 q3 hk4
   by_cases h0:n=0
   ·rw[if_neg (fun h=>h.1 h0),if_pos (.inl (by omega))]
    have hne:¬(0:Int)=x+1:=by omega
    subst h0
    refine J1 Tryz.call65 Tryz.func65 rfl Tryz.ntmps65 Tryz.results65 fun ts hn h0 h1 h2=>?_
    (repeat' (first
 | (with_reducible first|refine callX.by (w1) ?_|refine callX.by (w2) ?_|assumption|(refine Qw hK _ ?_;clear hK K)|refine Qw ‹_› _ ?_|refine Qx ‹_› ?_|refine Qi fun K hK=>?_|refine Qj T fun K hK=>?_|refine Ql fun A B hA hB=>?_|refine Qm ?_|refine Qn ?_|refine Qr ?_)
 |(with_reducible first|apply Qy|apply Qz|apply QA)<;>intro hb<;>try simp only[nr] at hb
 |simp only[go_sem,↓reduceIte,Qa,Qh,Qb,Qc,Qd,Qe,Qf,Qg,reduceCtorEq, *,-w1,-w2,YH,YS,YY,Y0]
 |intro(bn:Bool) hbn))
    all_goals trace_state
   ·by_cases h1:n=x
    ·rw[if_pos ⟨h0,h1⟩]
     subst h1
     refine J1 Tryz.call65 Tryz.func65 rfl Tryz.ntmps65 Tryz.results65 fun ts hn h0 h1 h2=>?_
     (repeat' (first
 | (with_reducible first|refine callX.by (w1) ?_|refine callX.by (w2) ?_|assumption|(refine Qw hK _ ?_;clear hK K)|refine Qw ‹_› _ ?_|refine Qx ‹_› ?_|refine Qi fun K hK=>?_|refine Qj T fun K hK=>?_|refine Ql fun A B hA hB=>?_|refine Qm ?_|refine Qn ?_|refine Qr ?_)
 |(with_reducible first|apply Qy|apply Qz|apply QA)<;>intro hb<;>try simp only[nr] at hb
 |simp only[go_sem,↓reduceIte,Qa,Qh,Qb,Qc,Qd,Qe,Qf,Qg,reduceCtorEq, *,-w1,-w2,YH,YS,YY,Y0]
 |intro(bn:Bool) hbn))
     all_goals trace_state
    ·rw[if_neg (fun h=>h1 h.2)]
     by_cases h2:n=x+1
     ·have hx0:¬x+1=0:=by omega
      have hx4:¬x+1=x:=by omega
      by_cases h3:m<n
      ·rw[if_pos (.inr h3)]
       subst h2
       refine J1 Tryz.call65 Tryz.func65 rfl Tryz.ntmps65 Tryz.results65 fun ts hn h0 h1 h2=>?_
       (repeat' (first
 | (with_reducible first|refine callX.by (w1) ?_|refine callX.by (w2) ?_|assumption|(refine Qw hK _ ?_;clear hK K)|refine Qw ‹_› _ ?_|refine Qx ‹_› ?_|refine Qi fun K hK=>?_|refine Qj T fun K hK=>?_|refine Ql fun A B hA hB=>?_|refine Qm ?_|refine Qn ?_|refine Qr ?_)
 |(with_reducible first|apply Qy|apply Qz|apply QA)<;>intro hb<;>try simp only[nr] at hb
 |simp only[go_sem,↓reduceIte,Qa,Qh,Qb,Qc,Qd,Qe,Qf,Qg,reduceCtorEq, *,-w1,-w2,YH,YS,YY,Y0]
 |intro(bn:Bool) hbn))
       all_goals trace_state
      ·rw[if_neg (fun h=>h.elim (fun h=>h h2) h3)]
       subst h2
       refine J1 Tryz.call65 Tryz.func65 rfl Tryz.ntmps65 Tryz.results65 fun ts hn h0 h1 h2=>?_
       (repeat' (first
 | (with_reducible first|refine callX.by (w1) ?_|refine callX.by (w2) ?_|assumption|(refine Qw hK _ ?_;clear hK K)|refine Qw ‹_› _ ?_|refine Qx ‹_› ?_|refine Qi fun K hK=>?_|refine Qj T fun K hK=>?_|refine Ql fun A B hA hB=>?_|refine Qm ?_|refine Qn ?_|refine Qr ?_)
 |(with_reducible first|apply Qy|apply Qz|apply QA)<;>intro hb<;>try simp only[nr] at hb
 |simp only[go_sem,↓reduceIte,Qa,Qh,Qb,Qc,Qd,Qe,Qf,Qg,reduceCtorEq, *,-w1,-w2,YH,YS,YY,Y0]
 |intro(bn:Bool) hbn))
       all_goals trace_state
     ·rw[if_pos (.inl h2)]
      refine J1 Tryz.call65 Tryz.func65 rfl Tryz.ntmps65 Tryz.results65 fun ts hn h0 h1 h2=>?_
      (repeat' (first
 | (with_reducible first|refine callX.by (w1) ?_|refine callX.by (w2) ?_|assumption|(refine Qw hK _ ?_;clear hK K)|refine Qw ‹_› _ ?_|refine Qx ‹_› ?_|refine Qi fun K hK=>?_|refine Qj T fun K hK=>?_|refine Ql fun A B hA hB=>?_|refine Qm ?_|refine Qn ?_|refine Qr ?_)
 |(with_reducible first|apply Qy|apply Qz|apply QA)<;>intro hb<;>try simp only[nr] at hb
 |simp only[go_sem,↓reduceIte,Qa,Qh,Qb,Qc,Qd,Qe,Qf,Qg,reduceCtorEq, *,-w1,-w2,YH,YS,YY,Y0]
 |intro(bn:Bool) hbn))
      all_goals trace_state
def upV(x:Int):Value:=.iface 216 (.agg #[.int .i64 x])
def ZC(x:Int):List PanicEntry:=[{ v:=upV x,recovered:=false }]
theorem Jnm(p:Addr)(x y:Int)(w:World)(hc:w.cell? p=some (.int .i64 y))(hz:w.frozen? p=false) :
  CallsD Tryz.prog 139 #[.pointer (some p)] (.panicking (ZC x)) w fun e u' w' =>
   e=.returned (.tuple #[])∧u'=.panicking [{ v:=upV x,recovered:=true }]∧w'=w.setCell p (.int .i64 x):=by
 have hta:∀(v:Value) (w:World),(Instr.typeAssert (.iface 216 v) 20 216 false).run Tryz.prog w=.ok v w:=fun _ _=>by kernel_rfl
 have hfi:∀(x:Int) (w:World),(Instr.field 216 (.agg #[.int .i64 x]) 0).run Tryz.prog w=.ok (.int .i64 x) w:=fun _ _=>by kernel_rfl
 have hne:∀(t:TypeId) (v:Value) (w:World),(binOp BinOp.neq 20 (.iface t v) .nilIface).run Tryz.prog w=.ok (.bool true) w:=fun _ _ _=>by kernel_rfl
 have hnn:∀(w:World),(binOp BinOp.neq 20 .nilIface .nilIface).run Tryz.prog w=.ok (.bool false) w:=fun _=>by kernel_rfl
 refine callsD_of_wpS Tryz.func139 rfl fun c₀ cs hu=>?_
 apply wpS_seq
 apply wpS_region
 simp[wpOpsS,hta,hfi,hne,hnn,go_sem,recoverD,hu,ZC,Tryz.ntmps139,Exit.thenS]
 apply wpS_seq
 apply wpS_region
 simp[wpOpsS,hta,hfi,hne,hnn,go_sem,upV,Exit.thenS]
 refine wpS_cond (t:=true) (by simp[Act.eval,Array.replicate]) ?_
 simp only[if_true]
 apply wpS_region
 simp[wpOpsS,hta,hfi,hne,hnn,go_sem,hc,hz,bodyPostS,results,Tryz.results139]
theorem Jnl(p:Addr)(w:World) :
  CallsD Tryz.prog 139 #[.pointer (some p)] .returning w fun e u' w'=>e=.returned (.tuple #[])∧u'=.returning∧w'=w:=by
 have hta:∀(v:Value) (w:World),(Instr.typeAssert (.iface 216 v) 20 216 false).run Tryz.prog w=.ok v w:=fun _ _=>by kernel_rfl
 have hfi:∀(x:Int) (w:World),(Instr.field 216 (.agg #[.int .i64 x]) 0).run Tryz.prog w=.ok (.int .i64 x) w:=fun _ _=>by kernel_rfl
 have hne:∀(t:TypeId) (v:Value) (w:World),(binOp BinOp.neq 20 (.iface t v) .nilIface).run Tryz.prog w=.ok (.bool true) w:=fun _ _ _=>by kernel_rfl
 have hnn:∀(w:World),(binOp BinOp.neq 20 .nilIface .nilIface).run Tryz.prog w=.ok (.bool false) w:=fun _=>by kernel_rfl
 refine callsD_of_wpS Tryz.func139 rfl fun c₀ cs hu=>?_
 apply wpS_seq
 apply wpS_region
 simp[wpOpsS,hta,hfi,hne,hnn,go_sem,recoverD,hu,Tryz.ntmps139,Exit.thenS]
 apply wpS_seq
 apply wpS_region
 simp[wpOpsS,hta,hfi,hne,hnn,go_sem,Exit.thenS]
 refine wpS_cond (t:=false) (by simp[Act.eval,Array.replicate]) ?_
 simp only[Bool.false_eq_true,if_false]
 refine wpS_of_wp (wp_skip ?_)
 cases c₀
 simp_all[bodyPostS,results,Tryz.results139]
def VL(w:World):World:=w.alloc (.cells #[.int .i64 0] 31)
def Ym(w:World):Addr:=⟨w.heap.size,0,none⟩
theorem JhC{w:World}{p:Addr}{v y:Value}(h:w.cell? p=some y):(w.setCell p v).cell? p=some v:=by
 unfold World.cell? at h ⊢
 unfold World.setCell
 simp only[Array.getElem?_modify,if_true]
 cases hh:w.heap[p.block]? with
 |none=>rw[hh] at h;simp at h
 |some o =>
  rw[hh] at h
  cases o with
  |cells c el fr =>
   simp only[Option.map_some] at h ⊢
   by_cases hs:p.spot.isSome
   ·simp[hs] at h
   ·simp only[hs] at h ⊢
    simp only[Bool.false_eq_true,if_false] at h ⊢
    obtain⟨hlt,_⟩:=Array.getElem?_eq_some_iff.1 h
    simp[hlt]
  |_=>simp at h
theorem Jhw(g:FuncId)(caps:Array Value)(w:World)(R:Ending→World→Prop)
  (hg:∀w,(callFunc g caps).run Tryz.prog w=.ok (.enter g caps) w) (h:Calls Tryz.prog g caps (VL w) R)
  (hR:∀e w',R e w'→w'.cell? (Ym w)=some (.int .i64 0)∧w'.frozen? (Ym w)=false∧((e=.returned (.tuple #[]))∨∃x,e=.panicked (ZC x))) :
  Calls Tryz.prog 103 #[.func (.func g) #[] caps] w fun e w''=>∃e1 w1,R e1 w1 ∧
   ((e1=.returned (.tuple #[])∧e=.returned (.int .i64 0)∧w''=w1.setCell (Ym w) (.int .i64 0))∨∃x,e1=.panicked (ZC x)∧e=.returned (.int .i64 x)∧w''=w1.setCell (Ym w) (.int .i64 x)):=by
 have hmf:∀(fn:Fn) (first cap:Array Value) (w:World),(Instr.makeFunc fn first cap).run Tryz.prog w=.ok (.func fn first cap) w:=fun _ _ _ _=>rfl
 go_enter_defers Tryz.func103,Tryz.ntmps103
 go_wp2
 rename_i K1 hK1 K0 hK0
 refine Calls.mono h ?_
 intro e1 w1 hr
 obtain⟨hc,hz,hcase⟩:=hR e1 w1 hr
 have hc':w1.cell? ⟨w.heap.size,0,none⟩=some (.int .i64 0):=hc
 have hz':w1.frozen? ⟨w.heap.size,0,none⟩=false:=hz
 rcases hcase with rfl|⟨x,rfl⟩
 ·apply hK0
  simp only[wpList]
  apply hK1
  go_wp2
  simp only[bodyPostD]
  refine leaves_cons (f:=139) (args:=#[.pointer (some ⟨w.heap.size,0,none⟩)]) (by simp) (by simp[go_sem]) ?_
  refine(Jnl ⟨w.heap.size,0,none⟩ _).mono ?_
  rintro e u' w'' ⟨rfl,rfl,rfl⟩
  have hcc:=JhC (v:=.int .i64 0) hc'
  simp[Leaves,settle,results,Tryz.results103,go_sem,hcc]
  exact⟨_,w1,hr,.inl ⟨rfl,rfl⟩⟩
 ·show bodyPostD _ _ _ _ _ _
  simp only[bodyPostD]
  refine leaves_cons (f:=139) (args:=#[.pointer (some ⟨w.heap.size,0,none⟩)]) (by simp) (by simp[go_sem]) ?_
  refine(Jnm ⟨w.heap.size,0,none⟩ x 0 _ hc' hz').mono ?_
  rintro e u' w'' ⟨rfl,rfl,rfl⟩
  have hcc:=JhC (v:=.int .i64 x) hc'
  simp[Leaves,settle,results,Tryz.results103,go_sem,hcc]
  exact⟨_,w1,hr,.inr ⟨x,rfl,rfl,rfl⟩⟩
end Go.Proofs.YthjalhfmpffbjaaGreatDoor.Lg
