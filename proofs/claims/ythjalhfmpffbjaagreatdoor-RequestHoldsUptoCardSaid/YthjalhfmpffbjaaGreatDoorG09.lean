/- Parts of the proof, one behind the other. -/
import Derived.Test.YthjalhfmpffbjaaGreatDoorG08
set_option linter.unusedVariables false
set_option linter.unusedSimpArgs false
set_option maxRecDepth 100000
set_option maxHeartbeats 64000000
namespace Go.Proofs.YthjalhfmpffbjaaGreatDoor.Lg
open Go
open Tryz
open Nat renaming reduceEqDiff → Qa, reduceLT → Qb, reduceLeDiff → Qc, reduceAdd → Qd, reduceMul → Qe, reduceSub → Qf, reduceBEq → Qg
open String renaming reduceEq → Qh
open SpecC renaming seqW → Qi, regW → Qj, drawW → Qk, condW → Ql, block → Qm, skip → Qn, exit → Qp, ret → Qr, loopF → Qs
open NxK renaming out → Qw
open Nx renaming out → Qx
open condK renaming split → Qy
open gK renaming split_t → Qz, split_f → QA
def JC{α:Type}(p:α→Bool):List α→Int→Int
 | [],_=>-1
 |x :: r,i=>if p x then i else JC p r (i+1)
theorem Jot(fn:FuncId)(caps:List AV)(hc:Caps caps)(p:Snap→Bool)(hp:∀x:Snap,CallR prog fn (.agg [.int .i64 x.id,.int .i64 x.pins,.slice false (Ja x.l)] :: caps) (.val (.bool (p x))))(xs:List Snap)(hl:Jc xs.length):CallR prog 176 [.slice false (Ja xs),.clo (.func fn) [] caps] (.val (.int .i64 (JC p xs 0))):=by
 have hca:=hc.args
 have hcp:=hc.pure
 have hcn:=hc.nrm
 refine Jn call176 func176 rfl ntmps176 results176 fun ts hn h0 h1=>?_
 (repeat' (first
 | (with_reducible first|assumption|(refine Qw hK _ ?_;clear hK K)|refine Qw ‹_› _ ?_|refine Qx ‹_› ?_|refine Qi fun K hK=>?_|refine Qj T fun K hK=>?_|refine Ql fun A B hA hB=>?_|refine Qm ?_|refine Qn ?_|refine Qp ?_|refine Qr ?_)
 |(with_reducible first|apply Qy|apply Qz|apply QA)<;>intro hb<;>try simp only[nr] at hb
 |simp only[go_sem,↓reduceIte,Qa,Qh,Qb,Qc,Qd,Qe,Qf,Qg,reduceCtorEq, *]
 |intro(bn:Bool) hbn))
 refine Qs [0,1,7] (fun m ts'=>∃(i:Nat),m=xs.length-i∧i≤xs.length∧JC p xs 0=JC p (xs.drop i) i∧ts'.tmp 8=.int .i64 i) xs.length ?_ ?_
 ·refine⟨0,?_⟩
  simp only[go_sem,↓reduceIte,Qa,Qh,Qb,Qc,Qd,Qe,Qf,Qg,reduceCtorEq, *]
 ·rintro m A hM ts' hk ⟨i,hm,f1,f2,s1⟩
  simp only[go_sem,↓reduceIte,Qa,Qh,Qb,Qc,Qd,Qe,Qf,Qg,reduceCtorEq, *] at hk
  by_cases hlt:i<xs.length
  ·rw[List.drop_eq_getElem_cons hlt,JC] at f2
   (repeat' (first
 | (with_reducible first|refine callX.by (hp _) ?_|assumption|(refine Qw hK _ ?_;clear hK K)|refine Qw ‹_› _ ?_|refine Qx ‹_› ?_|refine Qi fun K hK=>?_|refine Qj T fun K hK=>?_|refine Ql fun A B hA hB=>?_|refine Qm ?_|refine Qn ?_|refine Qp ?_|refine Qr ?_)
 |(with_reducible first|apply Qy|apply Qz|apply QA)<;>intro hb<;>try simp only[nr] at hb
 |simp only[go_sem,↓reduceIte,Qa,Qh,Qb,Qc,Qd,Qe,Qf,Qg,reduceCtorEq, *]
 |intro(bn:Bool) hbn))
   all_goals ((repeat clear hK);(repeat clear hA);(repeat clear hB))
   rw[if_neg (by simp[hb])] at f2
   (refine hM.on (xs.length-(i+1)) (by omega) (by simp only[go_sem,↓reduceIte,Qa,Qh,Qb,Qc,Qd,Qe,Qf,Qg,reduceCtorEq, *,Jg hlt hl,-f2]) ⟨i+1,rfl,by omega,f2,?_⟩;simp only[go_sem,↓reduceIte,Qa,Qh,Qb,Qc,Qd,Qe,Qf,Qg,reduceCtorEq, *,Jg hlt hl,-f2];done)
  ·rw[List.drop_eq_nil_of_le (by omega),JC] at f2
   (repeat' (first
 | (with_reducible first|assumption|(refine Qw hK _ ?_;clear hK K)|refine Qw ‹_› _ ?_|refine Qx ‹_› ?_|refine Qi fun K hK=>?_|refine Qj T fun K hK=>?_|refine Ql fun A B hA hB=>?_|refine Qm ?_|refine Qn ?_|refine Qp ?_|refine Qr ?_)
 |(with_reducible first|apply Qy|apply Qz|apply QA)<;>intro hb<;>try simp only[nr] at hb
 |simp only[go_sem,↓reduceIte,Qa,Qh,Qb,Qc,Qd,Qe,Qf,Qg,reduceCtorEq, *]
 |intro(bn:Bool) hbn))
theorem JcS{α:Type}(p:α→Bool):∀(l:List α) (i:Int),0≤i→JC p l i=-1→∀x∈l,p x=false
 | [],_,_,_=>by simp
 |x :: r,i,h0,h=>by
  rw[JC] at h
  split at h
  ·omega
  ·rename_i hp
   intro y hy
   rcases List.mem_cons.1 hy with rfl|hy
   ·simpa using hp
   ·exact JcS p r (i+1) (by omega) h y hy
theorem JcT{α:Type}(p:α→Bool):∀(l:List α) (i:Int),0≤i→JC p l i≠-1→∃k:Nat,JC p l i=i+k∧k<l.length∧(∀x∈l.take k,p x=false)∧(∀h:k<l.length,p l[k]=true)
 | [],i,_,h=>absurd rfl h
 |x :: r,i,h0,h=>by
  rw[JC] at h ⊢
  split
  ·rename_i hp;exact⟨0,by simp,by simp,by simp,by simpa using hp⟩
  ·rename_i hp
   rw[if_neg hp] at h
   obtain⟨k,h1,h2,h3,h4⟩:=JcT p r (i+1) (by omega) h
   refine⟨k+1,by rw[h1];push_cast;omega,by simpa using h2,?_,fun h=>by simpa using h4 (by simpa using h2)⟩
   intro y hy
   rw[List.take_succ_cons] at hy
   rcases List.mem_cons.1 hy with rfl|hy
   ·simpa using hp
   ·exact h3 y hy
theorem JbZ{α:Type}(q:α→Bool){xs:List α}{j:Nat}(h:j<xs.length):(xs.take (j+1)).filter q=(xs.take j).filter q++(if q xs[j] then [xs[j]] else []):=by
 rw[List.take_succ_eq_append_getElem h,List.filter_append]
 congr 1
 by_cases hq:q xs[j]<;>simp[hq]
theorem JgS{α:Type}{l:List α}{i:Nat}(x:α)(h:i<l.length):(l.set i x).take (i+1)=l.take i++[x]:=by
 rw[List.take_succ_eq_append_getElem (by simpa using h),List.take_set_of_le (Nat.le_refl i)]
 simp
theorem JhU(fn:FuncId)(caps:List AV)(hc:Caps caps)(p:Snap→Bool)(hp:∀x:Snap,CallR prog fn (.agg [.int .i64 x.id,.int .i64 x.pins,.slice false (Ja x.l)] :: caps) (.val (.bool (p x))))(xs:List Snap)(hl:Jc xs.length):CallM prog 136 3 (Ja xs) [.clo (.func fn) [] caps] (.own 3 (Ja (xs.filter fun x=>!p x))):=by
 have hca:=hc.args
 have hcp:=hc.pure
 have hcn:=hc.nrm
 refine CallM.go1 (T:=T) call136 func136 rfl ntmps136 (congrArg Array.toList results136) (by decide) fun ts hn h0 hg0 ho0 h1=>?_
 have hi:=Jot fn caps hc p hp xs hl
 by_cases hneg:JC p xs 0=-1
 ·have hf:xs.filter (fun x=>!p x)=xs:=List.filter_eq_self.2 fun x hx=>by simp[JcS p xs 0 (Int.le_refl 0) hneg x hx]
  (repeat' (first
 | (with_reducible first|refine callX.by (hi) ?_|assumption|(refine Qw hK _ ?_;clear hK K)|refine Qw ‹_› _ ?_|refine Qx ‹_› ?_|refine Qi fun K hK=>?_|refine Qj T fun K hK=>?_|refine Ql fun A B hA hB=>?_|refine Qm ?_|refine Qn ?_|refine Qp ?_|refine Qr ?_)
 |(with_reducible first|apply Qy|apply Qz|apply QA)<;>intro hb<;>try simp only[nr] at hb
 |simp only[go_sem,↓reduceIte,Qa,Qh,Qb,Qc,Qd,Qe,Qf,Qg,reduceCtorEq, *]
 |intro(bn:Bool) hbn))
 ·obtain⟨k,hk1,hk2,hk3,hk4⟩:=JcT p xs 0 (Int.le_refl 0) hneg
  rw[Int.zero_add] at hk1
  (repeat' (first
 | (with_reducible first|refine callX.by (hi) ?_|assumption|(refine Qw hK _ ?_;clear hK K)|refine Qw ‹_› _ ?_|refine Qx ‹_› ?_|refine Qi fun K hK=>?_|refine Qj T fun K hK=>?_|refine Ql fun A B hA hB=>?_|refine Qm ?_|refine Qn ?_|refine Qp ?_|refine Qr ?_)
 |(with_reducible first|apply Qy|apply Qz|apply QA)<;>intro hb<;>try simp only[nr] at hb
 |simp only[go_sem,↓reduceIte,Qa,Qh,Qb,Qc,Qd,Qe,Qf,Qg,reduceCtorEq, *]
 |intro(bn:Bool) hbn))
  refine Qs [1] (fun m ts'=>∃(i:Nat),∃(j:Nat),∃(ys:List Snap),m=xs.length-j∧i<j∧j≤xs.length∧ys.length=xs.length∧ys.take i=(xs.take j).filter (fun x=>!p x)∧ys.drop j=xs.drop j∧ts'.tmp 0=.os 0 0 xs.length∧ts'.gen 0=0∧ts'.obj 0=.arr 3 (Ja ys)∧ts'.tmp 5=.int .i64 i∧ts'.tmp 6=.int .i64 j) (xs.length-(k+1)) ?_ ?_
  ·refine⟨k,k+1,xs,rfl,by omega,by omega,rfl,?_,rfl,?_⟩
   ·rw[JbZ _ hk2,List.filter_eq_self.2 (fun x hx=>by simp[hk3 x hx]),hk4 hk2];simp
   ·simp only[go_sem,↓reduceIte,Qa,Qh,Qb,Qc,Qd,Qe,Qf,Qg,reduceCtorEq, *,Jg hk2 hl]
  ·rintro m A hM ts' hk ⟨i,j,ys,hm,f1,f2,f3,f4,f5,s1,s2,s3,s4,s5⟩
   simp only[go_sem,↓reduceIte,Qa,Qh,Qb,Qc,Qd,Qe,Qf,Qg,reduceCtorEq, *] at hk
   by_cases hlt:j<xs.length
   ·have hly:j<ys.length:=by omega
    have hj:ys[j]=xs[j]:=by
     have:=congrArg (fun l=>l[0]?) f5
     simpa[hly,hlt] using this
    have hix:i<xs.length:=by omega
    (repeat' (first
 | (with_reducible first|refine callX.by (hp _) ?_|assumption|(refine Qw hK _ ?_;clear hK K)|refine Qw ‹_› _ ?_|refine Qx ‹_› ?_|refine Qi fun K hK=>?_|refine Qj T fun K hK=>?_|refine Ql fun A B hA hB=>?_|refine Qm ?_|refine Qn ?_|refine Qp ?_|refine Qr ?_)
 |(with_reducible first|apply Qy|apply Qz|apply QA)<;>intro hb<;>try simp only[nr] at hb
 |simp only[go_sem,↓reduceIte,Qa,Qh,Qb,Qc,Qd,Qe,Qf,Qg,reduceCtorEq, *]
 |intro(bn:Bool) hbn))
    all_goals ((repeat clear hK);(repeat clear hA);(repeat clear hB))
    ·(refine hM.on (xs.length-(j+1)) (by omega) (by simp only[go_sem,↓reduceIte,Qa,Qh,Qb,Qc,Qd,Qe,Qf,Qg,reduceCtorEq, *,Jg hlt hl,Jg hix hl]) ⟨i+1,j+1,ys.set i xs[j],rfl,by omega,by omega,by simp[f3],by rw[JbZ _ hlt,←f4,hb,JgS _ (by omega)];simp,by rw[List.drop_set,if_pos (by omega)];simpa using congrArg (List.drop 1) f5,?_⟩;simp only[go_sem,↓reduceIte,Qa,Qh,Qb,Qc,Qd,Qe,Qf,Qg,reduceCtorEq, *,Jg hlt hl,Jg hix hl];done)
    ·(refine hM.on (xs.length-(j+1)) (by omega) (by simp only[go_sem,↓reduceIte,Qa,Qh,Qb,Qc,Qd,Qe,Qf,Qg,reduceCtorEq, *,Jg hlt hl]) ⟨i,j+1,ys,rfl,by omega,by omega,f3,by rw[JbZ _ hlt,←f4,hb];simp,by simpa using congrArg (List.drop 1) f5,?_⟩;simp only[go_sem,↓reduceIte,Qa,Qh,Qb,Qc,Qd,Qe,Qf,Qg,reduceCtorEq, *,Jg hlt hl];done)
   ·have hi1:i≤xs.length:=by omega
    have hi2:i+(xs.length-i)=xs.length:=by omega
    have hj2:j=xs.length:=by omega
    subst hj2
    rw[List.take_length] at f4
    (repeat' (first
 | (with_reducible first|refine callX.by (hp _) ?_|assumption|(refine Qw hK _ ?_;clear hK K)|refine Qw ‹_› _ ?_|refine Qx ‹_› ?_|refine Qi fun K hK=>?_|refine Qj T fun K hK=>?_|refine Ql fun A B hA hB=>?_|refine Qm ?_|refine Qn ?_|refine Qp ?_|refine Qr ?_)
 |(with_reducible first|apply Qy|apply Qz|apply QA)<;>intro hb<;>try simp only[nr] at hb
 |simp only[go_sem,↓reduceIte,Qa,Qh,Qb,Qc,Qd,Qe,Qf,Qg,reduceCtorEq, *]
 |intro(bn:Bool) hbn))
    all_goals ((repeat clear hK);(repeat clear hA);(repeat clear hB))
@[go_sem] def Wd2:List (List Nat×List Nat):=[([20],[21,23,24,25]),([21],[20,23,24,25]),([22],[23,24,25]),([23],[20,21,22,24]),([24],[20,21,22,23]),([25],[20,21,22])]
theorem JhV(i j:Nat)(xs:List Snap)(hl:Jc xs.length)(hij:i≤j)(hj:j≤xs.length):CallM prog 173 3 (Ja xs) [.int .i64 i,.int .i64 j] (.own 3 (Ja (xs.take i++xs.drop j))):=by
 have hi:i≤xs.length:=by omega
 refine CallM.go2 (T:=T) call173 func173 rfl ntmps173 (congrArg Array.toList results173) (by decide) fun ts hn h0 hg0 ho0 h1 h2=>?_
 by_cases hne:i=j
 ·subst hne
  (repeat' (first
 | (with_reducible first|assumption|(refine Qw hK _ ?_;clear hK K)|refine Qw ‹_› _ ?_|refine Qx ‹_› ?_|refine Qi fun K hK=>?_|refine Qj T fun K hK=>?_|refine Qk (id:=5) T mixed Wd2 (by kernel_rfl) fun K hK=>?_|refine Ql fun A B hA hB=>?_|refine Qn ?_|refine Qr ?_)
 |(with_reducible first|apply Qy|apply Qz|apply QA)<;>intro hb<;>try simp only[nr] at hb
 |simp only[go_sem,↓reduceIte,Qa,Qh,Qb,Qc,Qd,Qe,Qf,Qg,reduceCtorEq, *]
 |intro(bn:Bool) hbn))
  all_goals simp
 ·have hne2:¬(i:Int)=j:=by omega
  have htd:(xs.drop j).take (xs.length-j)=xs.drop j:=List.take_of_length_le (by simp)
  have h1:j+(xs.length-j)=xs.length:=by omega
  have h2:i+(xs.length-j)≤xs.length:=by omega
  have h3:(xs.take i++xs.drop j++xs.drop (i+(xs.length-j))).length=xs.length:=by simp;omega
  have h4:i+(xs.length-j)+(xs.length-(i+(xs.length-j)))=xs.length:=by omega
  have h5:(xs.take i++xs.drop j++xs.drop (i+(xs.length-j))).take (i+(xs.length-j))=xs.take i++xs.drop j:=by
   rw[List.take_append_of_le_length (by simp;omega)]
   exact List.take_of_length_le (by simp;omega)
  (repeat' (first
 | (with_reducible first|assumption|(refine Qw hK _ ?_;clear hK K)|refine Qw ‹_› _ ?_|refine Qx ‹_› ?_|refine Qi fun K hK=>?_|refine Qj T fun K hK=>?_|refine Qk (id:=5) T mixed Wd2 (by kernel_rfl) fun K hK=>?_|refine Ql fun A B hA hB=>?_|refine Qn ?_|refine Qr ?_)
 |(with_reducible first|apply Qy|apply Qz|apply QA)<;>intro hb<;>try simp only[nr] at hb
 |simp only[go_sem,↓reduceIte,Qa,Qh,Qb,Qc,Qd,Qe,Qf,Qg,reduceCtorEq, *]
 |intro(bn:Bool) hbn))
def Vg(p:Pins)(l:List Res):Pins×Int×Int :=
 let q:=Jq p
 if q.next'=2147483647 then (q,0,14) else
  let s:=q.snaps.filter fun x=>!decide (x.pins=0)
  if 1000≤s.length then (q,0,8) else
   (⟨IntKind.i64.wrap (q.next'+1),s++[⟨IntKind.i64.wrap (q.next'+1),0,l⟩]⟩,IntKind.i64.wrap (q.next'+1),0)
theorem JpD(next:Int)(xs:List Snap)(l:List Res)(hl:Jc xs.length):CallR prog 98 [.agg [.int .i64 next,.slice false (Ja xs)],.slice false (Ja l)] (.val (.tup [Dat.av (Vg ⟨next,xs⟩ l).1,.int .i64 (Vg ⟨next,xs⟩ l).2.1,.int .i64 (Vg ⟨next,xs⟩ l).2.2])):=by
 have hl2:Jc (Jq ⟨next,xs⟩).snaps.length:=Jco hl
 have hdel:=JhU 138 [] Caps.nil (fun s=>decide (s.pins=0)) (fun x=>Jec x.id x.pins x.l) (Jq ⟨next,xs⟩).snaps hl2
 refine Jn call98 func98 rfl ntmps98 results98 fun ts hn h0 h1=>?_
 have hr:Vt ((List.filter (fun x=>!decide (x.pins=0)) (Jq ⟨next,xs⟩).snaps).length+1) 40:=by
  refine Jqi ?_ (by decide)
  have:=List.length_filter_le (fun x=>!decide (x.pins=0)) (Jq ⟨next,xs⟩).snaps
  unfold Jc at hl2 ⊢;omega
 (repeat' (first
 | (with_reducible refine callX.mv ?_ ?_ ?_ (hdel);(focus(simp only[go_sem,↓reduceIte,Qa,Qh,Qb,Qc,Qd,Qe,Qf,Qg,reduceCtorEq, *];first|done|rfl));(focus(simp only[go_sem,↓reduceIte,Qa,Qh,Qb,Qc,Qd,Qe,Qf,Qg,reduceCtorEq, *];first|done|rfl)))
 | (with_reducible first|refine callX.by (ZO _ _ ?_) ?_|refine callX.by (JdZ _ _ ?_) ?_)
 | (with_reducible refine callX.mv ?_ ?_ ?_ (JhU ?_ ?_ ?_ ?_ ?_ ?_ ?_);(focus(simp only[go_sem,↓reduceIte,Qa,Qh,Qb,Qc,Qd,Qe,Qf,Qg,reduceCtorEq, *];first|done|rfl));(focus(simp only[go_sem,↓reduceIte,Qa,Qh,Qb,Qc,Qd,Qe,Qf,Qg,reduceCtorEq, *];first|done|rfl)))
 | (with_reducible first|refine callX.by (Jec _ _ _) ?_|assumption|(refine Qw hK _ ?_;clear hK K)|refine Qw ‹_› _ ?_|refine Qx ‹_› ?_|refine Qi fun K hK=>?_|refine Qj T fun K hK=>?_|refine Ql fun A B hA hB=>?_|refine Qn ?_|refine Qr ?_)
 |(with_reducible first|apply Qy|apply Qz|apply QA)<;>intro hb<;>try simp only[nr] at hb
 |simp only[go_sem,↓reduceIte,Qa,Qh,Qb,Qc,Qd,Qe,Qf,Qg,reduceCtorEq, *]
 |intro(bn:Bool) hbn))
 all_goals ((repeat clear hK);(repeat clear hA);(repeat clear hB))
 all_goals ((try simp only[decide_eq_true_eq,decide_eq_false_iff_not,Bool.not_eq_true'] at *);simp[Vg, *])
def J6(p:Pins)(id:Int):Pins×Int :=
 let q:=Jq p
 let k:=J5 q.snaps id q.snaps.length
 if k<0 then (q,10) else
  let s:=q.snaps.getD k.toNat default
  if s.pins=0 then (q,15) else
   let t:Snap:=⟨s.id,IntKind.i64.wrap (s.pins-1),s.l⟩
   let l:=q.snaps.set k.toNat t
   if k≠q.snaps.length-1∧t.pins=0 then (⟨q.next',l.take k.toNat++l.drop (k.toNat+1)⟩,0) else (⟨q.next',l⟩,0)
theorem Jde(next id:Int)(xs:List Snap)(hl:Jc xs.length):CallR prog 129 [.agg [.int .i64 next,.slice false (Ja xs)],.int .i64 id] (.val (.tup [Dat.av (J6 ⟨next,xs⟩ id).1,.int .i64 (J6 ⟨next,xs⟩ id).2])):=by
 have hl2:Jc (Jq ⟨next,xs⟩).snaps.length:=Jco hl
 have hp:=Jex (Jq ⟨next,xs⟩).snaps id (Jq ⟨next,xs⟩).snaps.length
 refine Jn call129 func129 rfl ntmps129 results129 fun ts hn h0 h1=>?_
 by_cases hneg:J5 (Jq ⟨next,xs⟩).snaps id (Jq ⟨next,xs⟩).snaps.length<0
 ·(repeat' (first
 | (with_reducible first|refine callX.by (ZO _ _ ?_) ?_|refine callX.by (Jez _ _ _ ?_) ?_|refine callX.by (Jec _ _ _) ?_|refine callX.by (JdZ _ _ ?_) ?_|refine callX.by (ZJ _ _ ?_) ?_)
 | (with_reducible refine callX.mv ?_ ?_ ?_ (JhV ?_ ?_ ?_ ?_ ?_ ?_);(focus(simp only[go_sem,↓reduceIte,Qa,Qh,Qb,Qc,Qd,Qe,Qf,Qg,reduceCtorEq, *];first|done|rfl));(focus(simp only[go_sem,↓reduceIte,Qa,Qh,Qb,Qc,Qd,Qe,Qf,Qg,reduceCtorEq, *];first|done|rfl)))
 | (with_reducible first|assumption|(refine Qw hK _ ?_;clear hK K)|refine Qw ‹_› _ ?_|refine Qx ‹_› ?_|refine Qi fun K hK=>?_|refine Qj T fun K hK=>?_|refine Ql fun A B hA hB=>?_|refine Qm ?_|refine Qn ?_|refine Qr ?_)
 |(with_reducible first|apply Qy|apply Qz|apply QA)<;>intro hb<;>try simp only[nr] at hb
 |simp only[go_sem,↓reduceIte,Qa,Qh,Qb,Qc,Qd,Qe,Qf,Qg,reduceCtorEq, *]
 |intro(bn:Bool) hbn))
  all_goals simp[J6,hneg]
 ·obtain⟨k,hk⟩:∃k:Nat,J5 (Jq ⟨next,xs⟩).snaps id (Jq ⟨next,xs⟩).snaps.length=k:=⟨_,(Int.toNat_of_nonneg (by omega)).symm⟩
  have hlt:k<(Jq ⟨next,xs⟩).snaps.length:=by omega
  have hw:IntKind.i64.wrap ((k:Int)+1)=((k+1:Nat):Int):=Jg hlt hl2
  have hkk:k≤k+1:=by omega
  have hk1:k+1≤(Jq ⟨next,xs⟩).snaps.length:=hlt
  (repeat' (first
 | (with_reducible first|refine callX.by (ZO _ _ ?_) ?_|refine callX.by (Jez _ _ _ ?_) ?_|refine callX.by (Jec _ _ _) ?_|refine callX.by (JdZ _ _ ?_) ?_|refine callX.by (ZJ _ _ ?_) ?_)
 | (with_reducible refine callX.mv ?_ ?_ ?_ (JhV ?_ ?_ ?_ ?_ ?_ ?_);(focus(simp only[go_sem,↓reduceIte,Qa,Qh,Qb,Qc,Qd,Qe,Qf,Qg,reduceCtorEq, *];first|done|rfl));(focus(simp only[go_sem,↓reduceIte,Qa,Qh,Qb,Qc,Qd,Qe,Qf,Qg,reduceCtorEq, *];first|done|rfl)))
 | (with_reducible first|assumption|(refine Qw hK _ ?_;clear hK K)|refine Qw ‹_› _ ?_|refine Qx ‹_› ?_|refine Qi fun K hK=>?_|refine Qj T fun K hK=>?_|refine Ql fun A B hA hB=>?_|refine Qm ?_|refine Qn ?_|refine Qr ?_)
 |(with_reducible first|apply Qy|apply Qz|apply QA)<;>intro hb<;>try simp only[nr] at hb
 |simp only[go_sem,↓reduceIte,Qa,Qh,Qb,Qc,Qd,Qe,Qf,Qg,reduceCtorEq, *]
 |intro(bn:Bool) hbn))
  all_goals ((repeat clear hK);(repeat clear hA);(repeat clear hB))
  all_goals ((try simp only[JnA,Jnz] at *);simp[J6,Ji5,List.take_of_length_le, *])
def Jd6(x:Rule):Bool:=decide (x.split.length≤20) && decide (x.host.length≤100) && decide (x.pfx.length≤100)
def JbY(r:Res):Bool:=r.rules'.all Jd6 && (decide (r.rules'.length≤20) && decide (r.hosts.length≤20) && decide (r.name.length≤100) && decide (r.to'.length≤100))
theorem JfJ(Ln:Int)(Lp:List UInt8)(Lx Lq:Int)(LA:List UInt8)(r_rules:List Rule)(r_hosts:List Int)(hl:Jc r_rules.length):CallR prog 94 [.agg [.int .i64 Ln,.str Lp,.int .i64 Lx,.int .i64 Lq,.str LA,.slice false (Ja r_rules),.slice false (Ja r_hosts)]] (.val (.bool (JbY (⟨Ln,Lp,Lx,Lq,LA,r_rules,r_hosts⟩:Res)))):=by
 refine Jl call94 func94 rfl ntmps94 results94 fun ts hn h0=>?_
 (repeat' (first
 | (with_reducible first|assumption|(refine Qw hK _ ?_;clear hK K)|refine Qw ‹_› _ ?_|refine Qx ‹_› ?_|refine Qi fun K hK=>?_|refine Qj T fun K hK=>?_|refine Ql fun A B hA hB=>?_|refine Qm ?_|refine Qn ?_|refine Qp ?_|refine Qr ?_)
 |(with_reducible first|apply Qy|apply Qz|apply QA)<;>intro hb<;>try simp only[nr] at hb
 |simp only[go_sem,↓reduceIte,Qa,Qh,Qb,Qc,Qd,Qe,Qf,Qg,reduceCtorEq, *]
 |intro(bn:Bool) hbn))
 refine Qs [1] (fun m ts'=>∃(i:Nat),m=r_rules.length-i∧i≤r_rules.length∧r_rules.all Jd6=(r_rules.drop i).all Jd6∧ts'.tmp 3=.int .i64 i) r_rules.length ?_ ?_
 ·refine⟨0,?_⟩
  simp only[go_sem,↓reduceIte,Qa,Qh,Qb,Qc,Qd,Qe,Qf,Qg,reduceCtorEq, *]
 ·rintro m A hM ts' hk ⟨i,hm,f1,f2,s1⟩
  simp only[go_sem,↓reduceIte,Qa,Qh,Qb,Qc,Qd,Qe,Qf,Qg,reduceCtorEq, *] at hk
  by_cases hlt:i<r_rules.length
  ·rw[List.drop_eq_getElem_cons hlt,List.all_cons,Jd6] at f2
   (repeat' (first
 | (with_reducible first|assumption|(refine Qw hK _ ?_;clear hK K)|refine Qw ‹_› _ ?_|refine Qx ‹_› ?_|refine Qi fun K hK=>?_|refine Qj T fun K hK=>?_|refine Ql fun A B hA hB=>?_|refine Qm ?_|refine Qn ?_|refine Qp ?_|refine Qr ?_)
 |(with_reducible first|apply Qy|apply Qz|apply QA)<;>intro hb<;>try simp only[nr] at hb
 |simp only[go_sem,↓reduceIte,Qa,Qh,Qb,Qc,Qd,Qe,Qf,Qg,reduceCtorEq, *]
 |intro(bn:Bool) hbn))
   all_goals ((repeat clear hK);(repeat clear hA);(repeat clear hB))
   all_goals first
    | (clear hM;(simp only[JbY,f2];rw[Bool.eq_iff_iff];simp only[Bool.and_eq_true,Bool.or_eq_true,Bool.not_eq_true',Bool.false_eq_true,decide_eq_true_eq,decide_eq_false_iff_not,true_and,and_true,true_iff,false_iff,iff_true,iff_false,true_or,or_true,false_or,or_false] at *;omega))
    | (refine hM.on (r_rules.length-(i+1)) (by omega) (by simp only[go_sem,↓reduceIte,Qa,Qh,Qb,Qc,Qd,Qe,Qf,Qg,reduceCtorEq, *,Jg hlt hl,-f2]) ⟨i+1,rfl,by omega,by clear hM;grind,?_⟩;simp only[go_sem,↓reduceIte,Qa,Qh,Qb,Qc,Qd,Qe,Qf,Qg,reduceCtorEq, *,Jg hlt hl,-f2];done)
  ·rw[List.drop_eq_nil_of_le (by omega),List.all_nil] at f2
   (repeat' (first
 | (with_reducible first|assumption|(refine Qw hK _ ?_;clear hK K)|refine Qw ‹_› _ ?_|refine Qx ‹_› ?_|refine Qi fun K hK=>?_|refine Qj T fun K hK=>?_|refine Ql fun A B hA hB=>?_|refine Qm ?_|refine Qn ?_|refine Qp ?_|refine Qr ?_)
 |(with_reducible first|apply Qy|apply Qz|apply QA)<;>intro hb<;>try simp only[nr] at hb
 |simp only[go_sem,↓reduceIte,Qa,Qh,Qb,Qc,Qd,Qe,Qf,Qg,reduceCtorEq, *]
 |intro(bn:Bool) hbn))
   all_goals ((repeat clear hK);(repeat clear hA);(repeat clear hB))
   all_goals (clear hM;(simp only[JbY,f2];rw[Bool.eq_iff_iff];simp only[Bool.and_eq_true,Bool.or_eq_true,Bool.not_eq_true',Bool.false_eq_true,decide_eq_true_eq,decide_eq_false_iff_not,true_and,and_true,true_iff,false_iff,iff_true,iff_false,true_or,or_true,false_or,or_false] at *;omega))
theorem ZV{α}{xs ys:List α}{i:Nat}(h:xs.take i=ys.take i)(h1:i<xs.length)(h2:i<ys.length)(h3:xs[i]=ys[i]):xs.take (i+1)=ys.take (i+1):=by
 rw[List.take_succ_eq_append_getElem h1,List.take_succ_eq_append_getElem h2,h,h3]
theorem ZU{α}{xs ys:List α}{i:Nat}(h:xs.take i=ys.take i)(h1:¬i<xs.length)(h2:xs.length=ys.length):xs=ys:=by
 rwa [List.take_of_length_le (by omega),List.take_of_length_le (by omega)] at h
theorem ZW{α}{xs ys:List α}{i:Nat}(h1:i<xs.length)(h2:i<ys.length)(h3:¬xs[i]=ys[i]):¬xs=ys:=by
 rintro rfl;exact h3 rfl
@[go_sem] def Wd3:List (List Nat×List Nat):=[([18],[19,22,23,24,25,26,27,28,29,30,31,32,33,34,35,36,37,38,39,40,41,42,43,44,45,46,47,48,49,50,51,52,53,54,55,56]),([19],[18,22,23,24,25,26,27,28,29,30,31,32,33,34,35,36,37,38,39,40,41,42,43,44,45,46,47,48,49,50,51,52,53,54,55,56]),([20],[23,24,25,26,27,28,29,30,31,32,33,34,35,36,37,38,39,40,41,42,43,44,45,46,47,48,49,50,51,52,53,54,55,56]),([21],[23,24,25,26,27,29,30,31,32,33,34,35,36,37,38,39,40,41,42,43,44,45,46,47,48,49,50,51,52,53,54,55,56]),([22],[18,19,23,24,25,26,27,30,31,32,33,34,35,36,37,38,39,40,41,42,43,44,45,46,47,48,49,50,51,52,53,54,55,56]),([23],[18,19,20,21,22,24,27,28,29,30,31,32,33,34,35,36,37,38,39,40,41,42,43,44,45,46,47,48,49,50,51,52,53,54,55,56]),([24],[18,19,20,21,22,23,27,28,29,30,31,32,33,34,35,36,37,38,39,40,41,42,43,44,45,46,47,48,49,50,51,52,53,54,55,56]),([25],[18,19,20,21,22,28,29,30,31,32,33,34,35,36,37,38,39,40,41,42,43,44,45,46,47,48,49,50,51,52,53,54,55,56]),([26],[18,19,20,21,22,29,30,31,32,33,34,35,36,37,38,39,40,41,42,43,44,45,46,47,48,49,50,51,52,53,54,55,56]),([27],[18,19,20,21,22,23,24,30,31,32,33,34,35,36,37,38,39,40,41,42,43,44,45,46,47,48,49,50,51,52,53,54,55,56]),([28],[18,19,20,23,24,25,43,44,45,46,47,48,49,50,51,52,53,54,55,56]),([29],[18,19,20,21,23,24,25,26]),([30],[18,19,20,21,22,23,24,25,26,27,31,34,35,36,37,38,39,40,41,42,43,44,45,46,47,48,49,50,51,52,53,54,55,56]),([31],[18,19,20,21,22,23,24,25,26,27,30,34,35,36,37,38,39,40,41,42,43,44,45,46,47,48,49,50,51,52,53,54,55,56]),([32],[18,19,20,21,22,23,24,25,26,27,35,36,37,38,39,40,41,42,43,44,45,46,47,48,49,50,51,52,53,54,55,56]),([33],[18,19,20,21,22,23,24,25,26,27,35,36,37,38,39,41,42,43,44,45,46,47,48,49,50,51,52,53,54,55,56]),([34],[18,19,20,21,22,23,24,25,26,27,30,31,35,36,37,38,39,42,43,44,45,46,47,48,49,50,51,52,53,54,55,56]),([35],[18,19,20,21,22,23,24,25,26,27,30,31,32,33,34,36,39,40,41,42,43,44,45,46,47,48,49,50,51,52,53,54,55,56]),([36],[18,19,20,21,22,23,24,25,26,27,30,31,32,33,34,35,39,40,41,42,43,44,45,46,47,48,49,50,51,52,53,54,55,56]),([37],[18,19,20,21,22,23,24,25,26,27,30,31,32,33,34,40,41,42,43,44,45,46,47,48,49,50,51,52,53,54,55,56]),([38],[18,19,20,21,22,23,24,25,26,27,30,31,32,33,34,41,42,43,44,45,46,47,48,49,50,51,52,53,54,55,56]),([39],[18,19,20,21,22,23,24,25,26,27,30,31,32,33,34,35,36,42,43,44,45,46,47,48,49,50,51,52,53,54,55,56]),([40],[18,19,20,21,22,23,24,25,26,27,30,31,32,35,36,37,43,44,45,46,47,48,49,50,51,52,53,54,55,56]),([41],[18,19,20,21,22,23,24,25,26,27,30,31,32,33,35,36,37,38]),([42],[18,19,20,21,22,23,24,25,26,27,30,31,32,33,34,35,36,37,38,39]),([43],[18,19,20,21,22,23,24,25,26,27,28,30,31,32,33,34,35,36,37,38,39,40,44,47,48,49,50,51,52,53,54,55,56]),([44],[18,19,20,21,22,23,24,25,26,27,28,30,31,32,33,34,35,36,37,38,39,40,43,47,48,49,50,51,52,53,54,55,56]),([45],[18,19,20,21,22,23,24,25,26,27,28,30,31,32,33,34,35,36,37,38,39,40,48,49,50,51,52,53,54,55,56]),([46],[18,19,20,21,22,23,24,25,26,27,28,30,31,32,33,34,35,36,37,38,39,40,49,50,51,52,53,54,55,56]),([47],[18,19,20,21,22,23,24,25,26,27,28,30,31,32,33,34,35,36,37,38,39,40,43,44,49,50,51,52,53,54,56]),([48],[18,19,20,21,22,23,24,25,26,27,28,30,31,32,33,34,35,36,37,38,39,40,43,44,45,49,50,51,52,53,54]),([49],[18,19,20,21,22,23,24,25,26,27,28,30,31,32,33,34,35,36,37,38,39,40,43,44,45,46,47,48,50,53,54,55,56]),([50],[18,19,20,21,22,23,24,25,26,27,28,30,31,32,33,34,35,36,37,38,39,40,43,44,45,46,47,48,49,53,54,55,56]),([51],[18,19,20,21,22,23,24,25,26,27,28,30,31,32,33,34,35,36,37,38,39,40,43,44,45,46,47,48,54,55,56]),([52],[18,19,20,21,22,23,24,25,26,27,28,30,31,32,33,34,35,36,37,38,39,40,43,44,45,46,47,48,55,56]),([53],[18,19,20,21,22,23,24,25,26,27,28,30,31,32,33,34,35,36,37,38,39,40,43,44,45,46,47,48,49,50,56]),([54],[18,19,20,21,22,23,24,25,26,27,28,30,31,32,33,34,35,36,37,38,39,40,43,44,45,46,47,48,49,50,51]),([55],[18,19,20,21,22,23,24,25,26,27,28,30,31,32,33,34,35,36,37,38,39,40,43,44,45,46,49,50,51,52]),([56],[18,19,20,21,22,23,24,25,26,27,28,30,31,32,33,34,35,36,37,38,39,40,43,44,45,46,47,49,50,51,52,53])]
@[go_sem] def Wd4:List (List Nat×List Nat):=[([67],[68,71,72,73,74,75,76,77,78,79,80,81,82]),([68],[67,71,72,73,74,75,76,77,78,79,80,81,82]),([69],[72,73,74,75,76,77,78,79,80,81,82]),([70],[72,74,75,76,77,78,79,80,81,82]),([71],[67,68,72,75,76,77,78,79,80,81,82]),([72],[67,68,69,70,71,75,76,77,78,79,80,81,82]),([73],[67,68,69,75,76,77,78,79,80,81,82]),([74],[67,68,69,70,75,76,77,78,79,80,81,82]),([75],[67,68,69,70,71,72,73,74,76,79,80,81,82]),([76],[67,68,69,70,71,72,73,74,75,79,80,81,82]),([77],[67,68,69,70,71,72,73,74,80,81,82]),([78],[67,68,69,70,71,72,73,74,80,82]),([79],[67,68,69,70,71,72,73,74,75,76,80]),([80],[67,68,69,70,71,72,73,74,75,76,77,78,79]),([81],[67,68,69,70,71,72,73,74,75,76,77]),([82],[67,68,69,70,71,72,73,74,75,76,77,78])]
theorem JeS(xs ys:List Rule)(hl:Jc xs.length)(hs:∀x∈xs,VR x):CallR prog 131 [.slice false (Ja xs),.slice false (Ja ys)] (.val (.bool (decide (xs=ys)))):=by
 refine Jn call131 func131 rfl ntmps131 results131 fun ts hn h0 h1=>?_
 by_cases hll:xs.length=ys.length
 ·(repeat' (first
 | (with_reducible first|assumption|(refine Qw hK _ ?_;clear hK K)|refine Qw ‹_› _ ?_|refine Qx ‹_› ?_|refine Qi fun K hK=>?_|refine Qj T fun K hK=>?_|refine Qk (id:=6) T mixed Wd3 (by kernel_rfl) fun K hK=>?_|refine Qk (id:=11) T mixed Wd4 (by kernel_rfl) fun K hK=>?_|refine Ql fun A B hA hB=>?_|refine Qm ?_|refine Qn ?_|refine Qp ?_|refine Qr ?_)
 |(with_reducible first|apply Qy|apply Qz|apply QA)<;>intro hb<;>try simp only[nr] at hb
 |simp only[go_sem,↓reduceIte,Qa,Qh,Qb,Qc,Qd,Qe,Qf,Qg,reduceCtorEq, *]
 |intro(bn:Bool) hbn))
  refine Qs [0,1] (fun m ts'=>∃(i:Nat),m=xs.length-i∧i≤xs.length∧xs.take i=ys.take i∧ts'.tmp 5=.int .i64 i) xs.length ?_ ?_
  ·refine⟨0,?_⟩
   simp only[go_sem,↓reduceIte,Qa,Qh,Qb,Qc,Qd,Qe,Qf,Qg,reduceCtorEq, *]
  ·rintro m A hM ts' hk ⟨i,hm,f1,f2,s1⟩
   simp only[go_sem,↓reduceIte,Qa,Qh,Qb,Qc,Qd,Qe,Qf,Qg,reduceCtorEq, *] at hk
   by_cases hlt:i<xs.length
   ·have hlu:i<ys.length:=by omega
    have hne:=ZW hlt hlu
    rw[Jh7] at hne
    have hsm:=hs xs[i] (List.getElem_mem hlt)
    have hsl:=hsm.2.2.1
    (repeat' (first
 | (with_reducible first|assumption|(refine Qw hK _ ?_;clear hK K)|refine Qw ‹_› _ ?_|refine Qx ‹_› ?_|refine Qi fun K hK=>?_|refine Qj T fun K hK=>?_|refine Qk (id:=6) T mixed Wd3 (by kernel_rfl) fun K hK=>?_|refine Qk (id:=11) T mixed Wd4 (by kernel_rfl) fun K hK=>?_|refine Ql fun A B hA hB=>?_|refine Qm ?_|refine Qn ?_|refine Qp ?_|refine Qr ?_)
 |(with_reducible first|apply Qy|apply Qz|apply QA)<;>intro hb<;>try simp only[nr] at hb
 |simp only[go_sem,↓reduceIte,Qa,Qh,Qb,Qc,Qd,Qe,Qf,Qg,reduceCtorEq, *]
 |intro(bn:Bool) hbn))
    iterate 3 (focus(clear hM;all_goals ((repeat clear hK);(repeat clear hA);(repeat clear hB));grind))
    ·have hls:xs[i].split.length=ys[i].split.length:=by clear hM hK;grind
     refine Qs [0,1,5] (fun m ts'=>∃(j:Nat),m=xs[i].split.length-j∧j≤xs[i].split.length∧xs[i].split.take j=ys[i].split.take j∧ts'.tmp 6=.int .i64 j) xs[i].split.length ?_ ?_
     ·refine⟨0,?_⟩
      simp only[go_sem,↓reduceIte,Qa,Qh,Qb,Qc,Qd,Qe,Qf,Qg,reduceCtorEq, *]
     ·revert hM
      intro hM0
      rintro m A hM ts' hk ⟨j,hm,f1,f2,s1⟩
      simp only[go_sem,↓reduceIte,Qa,Qh,Qb,Qc,Qd,Qe,Qf,Qg,reduceCtorEq, *] at hk
      by_cases hjt:j<xs[i].split.length
      ·have hju:j<ys[i].split.length:=by omega
       have hne2:=ZW hjt hju
       rw[Jd4] at hne2
       (repeat' (first
 | (with_reducible first|assumption|(refine Qw hK _ ?_;clear hK K)|refine Qw ‹_› _ ?_|refine Qx ‹_› ?_|refine Qi fun K hK=>?_|refine Qj T fun K hK=>?_|refine Qk (id:=6) T mixed Wd3 (by kernel_rfl) fun K hK=>?_|refine Qk (id:=11) T mixed Wd4 (by kernel_rfl) fun K hK=>?_|refine Ql fun A B hA hB=>?_|refine Qm ?_|refine Qn ?_|refine Qp ?_|refine Qr ?_)
 |(with_reducible first|apply Qy|apply Qz|apply QA)<;>intro hb<;>try simp only[nr] at hb
 |simp only[go_sem,↓reduceIte,Qa,Qh,Qb,Qc,Qd,Qe,Qf,Qg,reduceCtorEq, *]
 |intro(bn:Bool) hbn))
       all_goals ((repeat clear hK);(repeat clear hA);(repeat clear hB))
       all_goals first
        | (refine hM.on (xs[i].split.length-(j+1)) (by omega) (by simp only[go_sem,↓reduceIte,Qa,Qh,Qb,Qc,Qd,Qe,Qf,Qg,reduceCtorEq, *,Jg hjt hsl]) ⟨j+1,rfl,by omega,by clear hM hM0;apply ZV f2 hjt hju;rw[Jd4];grind,?_⟩;simp only[go_sem,↓reduceIte,Qa,Qh,Qb,Qc,Qd,Qe,Qf,Qg,reduceCtorEq, *,Jg hjt hsl];done)
        | (clear hM hM0;grind)
      ·have hju:¬j<ys[i].split.length:=by omega
       have:=ZU f2 hjt hls
       (repeat' (first
 | (with_reducible first|assumption|(refine Qw hK _ ?_;clear hK K)|refine Qw ‹_› _ ?_|refine Qx ‹_› ?_|refine Qi fun K hK=>?_|refine Qj T fun K hK=>?_|refine Qk (id:=6) T mixed Wd3 (by kernel_rfl) fun K hK=>?_|refine Qk (id:=11) T mixed Wd4 (by kernel_rfl) fun K hK=>?_|refine Ql fun A B hA hB=>?_|refine Qm ?_|refine Qn ?_|refine Qp ?_|refine Qr ?_)
 |(with_reducible first|apply Qy|apply Qz|apply QA)<;>intro hb<;>try simp only[nr] at hb
 |simp only[go_sem,↓reduceIte,Qa,Qh,Qb,Qc,Qd,Qe,Qf,Qg,reduceCtorEq, *]
 |intro(bn:Bool) hbn))
       all_goals ((repeat clear hK);(repeat clear hA);(repeat clear hB))
       all_goals (clear hM;revert hM0;intro hM)
       all_goals first
        | (refine hM.on (xs.length-(i+1)) (by omega) (by simp only[go_sem,↓reduceIte,Qa,Qh,Qb,Qc,Qd,Qe,Qf,Qg,reduceCtorEq, *,Jg hlt hl]) ⟨i+1,rfl,by omega,by clear hM;apply ZV ‹_› hlt hlu;rw[Jh7];grind,?_⟩;simp only[go_sem,↓reduceIte,Qa,Qh,Qb,Qc,Qd,Qe,Qf,Qg,reduceCtorEq, *,Jg hlt hl];done)
   ·have:=ZU f2 hlt hll
    (repeat' (first
 | (with_reducible first|assumption|(refine Qw hK _ ?_;clear hK K)|refine Qw ‹_› _ ?_|refine Qx ‹_› ?_|refine Qi fun K hK=>?_|refine Qj T fun K hK=>?_|refine Qk (id:=6) T mixed Wd3 (by kernel_rfl) fun K hK=>?_|refine Qk (id:=11) T mixed Wd4 (by kernel_rfl) fun K hK=>?_|refine Ql fun A B hA hB=>?_|refine Qm ?_|refine Qn ?_|refine Qp ?_|refine Qr ?_)
 |(with_reducible first|apply Qy|apply Qz|apply QA)<;>intro hb<;>try simp only[nr] at hb
 |simp only[go_sem,↓reduceIte,Qa,Qh,Qb,Qc,Qd,Qe,Qf,Qg,reduceCtorEq, *]
 |intro(bn:Bool) hbn))
    all_goals ((repeat clear hK);(repeat clear hA);(repeat clear hB))
    all_goals (clear hM;grind)
 ·have:¬xs=ys:=by rintro rfl;exact hll rfl
  (repeat' (first
 | (with_reducible first|assumption|(refine Qw hK _ ?_;clear hK K)|refine Qw ‹_› _ ?_|refine Qx ‹_› ?_|refine Qi fun K hK=>?_|refine Qj T fun K hK=>?_|refine Qk (id:=6) T mixed Wd3 (by kernel_rfl) fun K hK=>?_|refine Qk (id:=11) T mixed Wd4 (by kernel_rfl) fun K hK=>?_|refine Ql fun A B hA hB=>?_|refine Qm ?_|refine Qn ?_|refine Qp ?_|refine Qr ?_)
 |(with_reducible first|apply Qy|apply Qz|apply QA)<;>intro hb<;>try simp only[nr] at hb
 |simp only[go_sem,↓reduceIte,Qa,Qh,Qb,Qc,Qd,Qe,Qf,Qg,reduceCtorEq, *]
 |intro(bn:Bool) hbn))
  all_goals ((repeat clear hK);(repeat clear hA);(repeat clear hB))
  all_goals grind
end Go.Proofs.YthjalhfmpffbjaaGreatDoor.Lg
