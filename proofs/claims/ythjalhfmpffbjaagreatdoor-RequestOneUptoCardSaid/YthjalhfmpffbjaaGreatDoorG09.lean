/- Parts of the proof, one behind the other. -/
import Derived.Test.YthjalhfmpffbjaaGreatDoorG08
namespace Go.Proofs.YthjalhfmpffbjaaGreatDoor.Lg
set_option maxRecDepth 100000
set_option maxHeartbeats 64000000
set_option linter.unusedVariables false
set_option linter.unusedSimpArgs false
open Go
open Nat renaming reduceEqDiff → Qa, reduceLT → Qb, reduceLeDiff → Qc, reduceAdd → Qd, reduceMul → Qe, reduceSub → Qf, reduceBEq → Qg
open String renaming reduceEq → Qh
open SpecC renaming seqW → Qi, regW → Qj, drawW → Qk, condW → Ql, block → Qm, skip → Qn, exit → Qp, ret → Qr, loopF → Qs
open NxK renaming out → Qw
open Nx renaming out → Qx
open condK renaming split → Qy
open gK renaming split_t → Qz, split_f → QA
open List renaming getElem_mem → QC
def JC{α:Type}(p:α→Bool):List α→Int→Int
 | [],_=>-1
 |x :: r,i=>if p x then i else JC p r (i+1)
theorem Joo(fn:FuncId)(caps:List AV)(hc:Caps caps)(p:Snap→Bool)(hp:∀x:Snap,CallR Tryz.prog fn (.agg [.int .i64 x.id,.int .i64 x.pins,.slice false (Ja x.l)] :: caps) (.val (.bool (p x))))(xs:List Snap)(hl:Jc xs.length):CallR Tryz.prog 176 [.slice false (Ja xs),.clo (.func fn) [] caps] (.val (.int .i64 (JC p xs 0))):=by
 have hca:=hc.args
 have hcp:=hc.pure
 have hcn:=hc.nrm
 refine Jm Tryz.call176 Tryz.func176 rfl Tryz.ntmps176 Tryz.results176 fun ts hn h0 h1=>?_
 (repeat' (first
 | (with_reducible first|assumption|(refine Qw hK _ ?_;clear hK K)|refine Qw ‹_› _ ?_|refine Qx ‹_› ?_|refine Qi fun K hK=>?_|refine Qj T fun K hK=>?_|refine Ql fun A B hA hB=>?_|refine Qm ?_|refine Qn ?_|refine Qp ?_|refine Qr ?_)
 |(with_reducible first|apply Qy|apply Qz|apply QA)<;>intro hb<;>try simp only[nr] at hb
 |simp only[go_sem,↓reduceIte,Qa,Qh,Qb,Qc,Qd,Qe,Qf,Qg,reduceCtorEq, *]
 |intro(bn:Bool) hbn))
 refine Qs [0,1,7] (fun m ts'=>∃(i:Nat),m=xs.length-i∧i≤xs.length∧JC p xs 0=JC p (xs.drop i) i∧ts'.tmp 8=.int .i64 i) xs.length ?_ ?_
 ·refine⟨0,?_⟩
  simp only[go_sem,↓reduceIte,Qa,Qh,Qb,Qc,Qd,Qe,Qf,Qg,reduceCtorEq, *]
 ·rintro m A hM ts' hk ⟨i,hm,f1,f2,s1⟩
  simp only[go_sem,↓reduceIte,Qa,Qh,Qb,Qc,Qd,Qe,Qf,Qg,reduceCtorEq, *] at hk
  by_cases hlt:i<xs.length
  ·rw[List.drop_eq_getElem_cons hlt,JC] at f2
   (repeat' (first
 | (with_reducible first|refine callX.by (hp _) ?_|assumption|(refine Qw hK _ ?_;clear hK K)|refine Qw ‹_› _ ?_|refine Qx ‹_› ?_|refine Qi fun K hK=>?_|refine Qj T fun K hK=>?_|refine Ql fun A B hA hB=>?_|refine Qm ?_|refine Qn ?_|refine Qp ?_|refine Qr ?_)
 |(with_reducible first|apply Qy|apply Qz|apply QA)<;>intro hb<;>try simp only[nr] at hb
 |simp only[go_sem,↓reduceIte,Qa,Qh,Qb,Qc,Qd,Qe,Qf,Qg,reduceCtorEq, *]
 |intro(bn:Bool) hbn))
   all_goals ((repeat clear hK);(repeat clear hA);(repeat clear hB))
   rw[if_neg (by simp[hb])] at f2
   (refine hM.on (xs.length-(i+1)) (by omega) (by simp only[go_sem,↓reduceIte,Qa,Qh,Qb,Qc,Qd,Qe,Qf,Qg,reduceCtorEq, *,Jh hlt hl,-f2]) ⟨i+1,rfl,by omega,f2,?_⟩;simp only[go_sem,↓reduceIte,Qa,Qh,Qb,Qc,Qd,Qe,Qf,Qg,reduceCtorEq, *,Jh hlt hl,-f2];done)
  ·rw[List.drop_eq_nil_of_le (by omega),JC] at f2
   (repeat' (first
 | (with_reducible first|assumption|(refine Qw hK _ ?_;clear hK K)|refine Qw ‹_› _ ?_|refine Qx ‹_› ?_|refine Qi fun K hK=>?_|refine Qj T fun K hK=>?_|refine Ql fun A B hA hB=>?_|refine Qm ?_|refine Qn ?_|refine Qp ?_|refine Qr ?_)
 |(with_reducible first|apply Qy|apply Qz|apply QA)<;>intro hb<;>try simp only[nr] at hb
 |simp only[go_sem,↓reduceIte,Qa,Qh,Qb,Qc,Qd,Qe,Qf,Qg,reduceCtorEq, *]
 |intro(bn:Bool) hbn))
theorem JcY{α:Type}(p:α→Bool):∀(l:List α) (i:Int),0≤i→JC p l i=-1→∀x∈l,p x=false
 | [],_,_,_=>by simp
 |x :: r,i,h0,h=>by
  rw[JC] at h
  split at h
  ·omega
  ·rename_i hp
   intro y hy
   rcases List.mem_cons.1 hy with rfl|hy
   ·simpa using hp
   ·exact JcY p r (i+1) (by omega) h y hy
theorem JcZ{α:Type}(p:α→Bool):∀(l:List α) (i:Int),0≤i→JC p l i≠-1→∃k:Nat,JC p l i=i+k∧k<l.length∧(∀x∈l.take k,p x=false)∧(∀h:k<l.length,p l[k]=true)
 | [],i,_,h=>absurd rfl h
 |x :: r,i,h0,h=>by
  rw[JC] at h ⊢
  split
  ·rename_i hp;exact⟨0,by simp,by simp,by simp,by simpa using hp⟩
  ·rename_i hp
   rw[if_neg hp] at h
   obtain⟨k,h1,h2,h3,h4⟩:=JcZ p r (i+1) (by omega) h
   refine⟨k+1,by rw[h1];push_cast;omega,by simpa using h2,?_,fun h=>by simpa using h4 (by simpa using h2)⟩
   intro y hy
   rw[List.take_succ_cons] at hy
   rcases List.mem_cons.1 hy with rfl|hy
   ·simpa using hp
   ·exact h3 y hy
theorem Jb2{α:Type}(q:α→Bool){xs:List α}{j:Nat}(h:j<xs.length):(xs.take (j+1)).filter q=(xs.take j).filter q++(if q xs[j] then [xs[j]] else []):=by
 rw[List.take_succ_eq_append_getElem h,List.filter_append]
 congr 1
 by_cases hq:q xs[j]<;>simp[hq]
theorem JgJ{α:Type}{l:List α}{i:Nat}(x:α)(h:i<l.length):(l.set i x).take (i+1)=l.take i++[x]:=by
 rw[List.take_succ_eq_append_getElem (by simpa using h),List.take_set_of_le (Nat.le_refl i)]
 simp
theorem JhN(fn:FuncId)(caps:List AV)(hc:Caps caps)(p:Snap→Bool)(hp:∀x:Snap,CallR Tryz.prog fn (.agg [.int .i64 x.id,.int .i64 x.pins,.slice false (Ja x.l)] :: caps) (.val (.bool (p x))))(xs:List Snap)(hl:Jc xs.length):CallM Tryz.prog 136 3 (Ja xs) [.clo (.func fn) [] caps] (.own 3 (Ja (xs.filter fun x=>!p x))):=by
 have hca:=hc.args
 have hcp:=hc.pure
 have hcn:=hc.nrm
 refine CallM.go1 (T:=T) Tryz.call136 Tryz.func136 rfl Tryz.ntmps136 (congrArg Array.toList Tryz.results136) (by decide) fun ts hn h0 hg0 ho0 h1=>?_
 have hi:=Joo fn caps hc p hp xs hl
 by_cases hneg:JC p xs 0=-1
 ·have hf:xs.filter (fun x=>!p x)=xs:=List.filter_eq_self.2 fun x hx=>by simp[JcY p xs 0 (Int.le_refl 0) hneg x hx]
  (repeat' (first
 | (with_reducible first|refine callX.by (hi) ?_|assumption|(refine Qw hK _ ?_;clear hK K)|refine Qw ‹_› _ ?_|refine Qx ‹_› ?_|refine Qi fun K hK=>?_|refine Qj T fun K hK=>?_|refine Ql fun A B hA hB=>?_|refine Qm ?_|refine Qn ?_|refine Qp ?_|refine Qr ?_)
 |(with_reducible first|apply Qy|apply Qz|apply QA)<;>intro hb<;>try simp only[nr] at hb
 |simp only[go_sem,↓reduceIte,Qa,Qh,Qb,Qc,Qd,Qe,Qf,Qg,reduceCtorEq, *]
 |intro(bn:Bool) hbn))
 ·obtain⟨k,hk1,hk2,hk3,hk4⟩:=JcZ p xs 0 (Int.le_refl 0) hneg
  rw[Int.zero_add] at hk1
  (repeat' (first
 | (with_reducible first|refine callX.by (hi) ?_|assumption|(refine Qw hK _ ?_;clear hK K)|refine Qw ‹_› _ ?_|refine Qx ‹_› ?_|refine Qi fun K hK=>?_|refine Qj T fun K hK=>?_|refine Ql fun A B hA hB=>?_|refine Qm ?_|refine Qn ?_|refine Qp ?_|refine Qr ?_)
 |(with_reducible first|apply Qy|apply Qz|apply QA)<;>intro hb<;>try simp only[nr] at hb
 |simp only[go_sem,↓reduceIte,Qa,Qh,Qb,Qc,Qd,Qe,Qf,Qg,reduceCtorEq, *]
 |intro(bn:Bool) hbn))
  refine Qs [1] (fun m ts'=>∃(i:Nat),∃(j:Nat),∃(ys:List Snap),m=xs.length-j∧i<j∧j≤xs.length∧ys.length=xs.length∧ys.take i=(xs.take j).filter (fun x=>!p x)∧ys.drop j=xs.drop j∧ts'.tmp 0=.os 0 0 xs.length∧ts'.gen 0=0∧ts'.obj 0=.arr 3 (Ja ys)∧ts'.tmp 5=.int .i64 i∧ts'.tmp 6=.int .i64 j) (xs.length-(k+1)) ?_ ?_
  ·refine⟨k,k+1,xs,rfl,by omega,by omega,rfl,?_,rfl,?_⟩
   ·rw[Jb2 _ hk2,List.filter_eq_self.2 (fun x hx=>by simp[hk3 x hx]),hk4 hk2];simp
   ·simp only[go_sem,↓reduceIte,Qa,Qh,Qb,Qc,Qd,Qe,Qf,Qg,reduceCtorEq, *,Jh hk2 hl]
  ·rintro m A hM ts' hk ⟨i,j,ys,hm,f1,f2,f3,f4,f5,s1,s2,s3,s4,s5⟩
   simp only[go_sem,↓reduceIte,Qa,Qh,Qb,Qc,Qd,Qe,Qf,Qg,reduceCtorEq, *] at hk
   by_cases hlt:j<xs.length
   ·have hly:j<ys.length:=by omega
    have hj:ys[j]=xs[j]:=by
     have:=congrArg (fun l=>l[0]?) f5
     simpa[hly,hlt] using this
    have hix:i<xs.length:=by omega
    (repeat' (first
 | (with_reducible first|refine callX.by (hp _) ?_|assumption|(refine Qw hK _ ?_;clear hK K)|refine Qw ‹_› _ ?_|refine Qx ‹_› ?_|refine Qi fun K hK=>?_|refine Qj T fun K hK=>?_|refine Ql fun A B hA hB=>?_|refine Qm ?_|refine Qn ?_|refine Qp ?_|refine Qr ?_)
 |(with_reducible first|apply Qy|apply Qz|apply QA)<;>intro hb<;>try simp only[nr] at hb
 |simp only[go_sem,↓reduceIte,Qa,Qh,Qb,Qc,Qd,Qe,Qf,Qg,reduceCtorEq, *]
 |intro(bn:Bool) hbn))
    all_goals ((repeat clear hK);(repeat clear hA);(repeat clear hB))
    ·(refine hM.on (xs.length-(j+1)) (by omega) (by simp only[go_sem,↓reduceIte,Qa,Qh,Qb,Qc,Qd,Qe,Qf,Qg,reduceCtorEq, *,Jh hlt hl,Jh hix hl]) ⟨i+1,j+1,ys.set i xs[j],rfl,by omega,by omega,by simp[f3],by rw[Jb2 _ hlt,←f4,hb,JgJ _ (by omega)];simp,by rw[List.drop_set,if_pos (by omega)];simpa using congrArg (List.drop 1) f5,?_⟩;simp only[go_sem,↓reduceIte,Qa,Qh,Qb,Qc,Qd,Qe,Qf,Qg,reduceCtorEq, *,Jh hlt hl,Jh hix hl];done)
    ·(refine hM.on (xs.length-(j+1)) (by omega) (by simp only[go_sem,↓reduceIte,Qa,Qh,Qb,Qc,Qd,Qe,Qf,Qg,reduceCtorEq, *,Jh hlt hl]) ⟨i,j+1,ys,rfl,by omega,by omega,f3,by rw[Jb2 _ hlt,←f4,hb];simp,by simpa using congrArg (List.drop 1) f5,?_⟩;simp only[go_sem,↓reduceIte,Qa,Qh,Qb,Qc,Qd,Qe,Qf,Qg,reduceCtorEq, *,Jh hlt hl];done)
   ·have hi1:i≤xs.length:=by omega
    have hi2:i+(xs.length-i)=xs.length:=by omega
    have hj2:j=xs.length:=by omega
    subst hj2
    rw[List.take_length] at f4
    (repeat' (first
 | (with_reducible first|refine callX.by (hp _) ?_|assumption|(refine Qw hK _ ?_;clear hK K)|refine Qw ‹_› _ ?_|refine Qx ‹_› ?_|refine Qi fun K hK=>?_|refine Qj T fun K hK=>?_|refine Ql fun A B hA hB=>?_|refine Qm ?_|refine Qn ?_|refine Qp ?_|refine Qr ?_)
 |(with_reducible first|apply Qy|apply Qz|apply QA)<;>intro hb<;>try simp only[nr] at hb
 |simp only[go_sem,↓reduceIte,Qa,Qh,Qb,Qc,Qd,Qe,Qf,Qg,reduceCtorEq, *]
 |intro(bn:Bool) hbn))
    all_goals ((repeat clear hK);(repeat clear hA);(repeat clear hB))
@[go_sem] def Wd2:List (List Nat×List Nat):=[([20],[21,23,24,25]),([21],[20,23,24,25]),([22],[23,24,25]),([23],[20,21,22,24]),([24],[20,21,22,23]),([25],[20,21,22])]
theorem JhO(i j:Nat)(xs:List Snap)(hl:Jc xs.length)(hij:i≤j)(hj:j≤xs.length):CallM Tryz.prog 173 3 (Ja xs) [.int .i64 i,.int .i64 j] (.own 3 (Ja (xs.take i++xs.drop j))):=by
 have hi:i≤xs.length:=by omega
 refine CallM.go2 (T:=T) Tryz.call173 Tryz.func173 rfl Tryz.ntmps173 (congrArg Array.toList Tryz.results173) (by decide) fun ts hn h0 hg0 ho0 h1 h2=>?_
 by_cases hne:i=j
 ·subst hne
  (repeat' (first
 | (with_reducible first|assumption|(refine Qw hK _ ?_;clear hK K)|refine Qw ‹_› _ ?_|refine Qx ‹_› ?_|refine Qi fun K hK=>?_|refine Qj T fun K hK=>?_|refine Qk (id:=5) T mixed Wd2 (by kernel_rfl) fun K hK=>?_|refine Ql fun A B hA hB=>?_|refine Qn ?_|refine Qr ?_)
 |(with_reducible first|apply Qy|apply Qz|apply QA)<;>intro hb<;>try simp only[nr] at hb
 |simp only[go_sem,↓reduceIte,Qa,Qh,Qb,Qc,Qd,Qe,Qf,Qg,reduceCtorEq, *]
 |intro(bn:Bool) hbn))
  all_goals simp
 ·have hne2:¬(i:Int)=j:=by omega
  have htd:(xs.drop j).take (xs.length-j)=xs.drop j:=List.take_of_length_le (by simp)
  have h1:j+(xs.length-j)=xs.length:=by omega
  have h2:i+(xs.length-j)≤xs.length:=by omega
  have h3:(xs.take i++xs.drop j++xs.drop (i+(xs.length-j))).length=xs.length:=by simp;omega
  have h4:i+(xs.length-j)+(xs.length-(i+(xs.length-j)))=xs.length:=by omega
  have h5:(xs.take i++xs.drop j++xs.drop (i+(xs.length-j))).take (i+(xs.length-j))=xs.take i++xs.drop j:=by
   rw[List.take_append_of_le_length (by simp;omega)]
   exact List.take_of_length_le (by simp;omega)
  (repeat' (first
 | (with_reducible first|assumption|(refine Qw hK _ ?_;clear hK K)|refine Qw ‹_› _ ?_|refine Qx ‹_› ?_|refine Qi fun K hK=>?_|refine Qj T fun K hK=>?_|refine Qk (id:=5) T mixed Wd2 (by kernel_rfl) fun K hK=>?_|refine Ql fun A B hA hB=>?_|refine Qn ?_|refine Qr ?_)
 |(with_reducible first|apply Qy|apply Qz|apply QA)<;>intro hb<;>try simp only[nr] at hb
 |simp only[go_sem,↓reduceIte,Qa,Qh,Qb,Qc,Qd,Qe,Qf,Qg,reduceCtorEq, *]
 |intro(bn:Bool) hbn))
def Vt(p:Pins)(l:List Res):Pins×Int×Int :=
 let q:=Jq p
 if q.next'=2147483647 then (q,0,14) else
  let s:=q.snaps.filter fun x=>!decide (x.pins=0)
  if 1000≤s.length then (q,0,8) else
   (⟨IntKind.i64.wrap (q.next'+1),s++[⟨IntKind.i64.wrap (q.next'+1),0,l⟩]⟩,IntKind.i64.wrap (q.next'+1),0)
theorem Jpu(next:Int)(xs:List Snap)(l:List Res)(hl:Jc xs.length):CallR Tryz.prog 98 [.agg [.int .i64 next,.slice false (Ja xs)],.slice false (Ja l)] (.val (.tup [Dat.av (Vt ⟨next,xs⟩ l).1,.int .i64 (Vt ⟨next,xs⟩ l).2.1,.int .i64 (Vt ⟨next,xs⟩ l).2.2])):=by
 have hl2:Jc (Jq ⟨next,xs⟩).snaps.length:=Jcr hl
 have hdel:=JhN 138 [] Caps.nil (fun s=>decide (s.pins=0)) (fun x=>Jec x.id x.pins x.l) (Jq ⟨next,xs⟩).snaps hl2
 refine Jm Tryz.call98 Tryz.func98 rfl Tryz.ntmps98 Tryz.results98 fun ts hn h0 h1=>?_
 have hr:VC ((List.filter (fun x=>!decide (x.pins=0)) (Jq ⟨next,xs⟩).snaps).length+1) 40:=by
  refine Jp8 ?_ (by decide)
  have:=List.length_filter_le (fun x=>!decide (x.pins=0)) (Jq ⟨next,xs⟩).snaps
  unfold Jc at hl2 ⊢;omega
 (repeat' (first
 | (with_reducible refine callX.mv ?_ ?_ ?_ (hdel);(focus(simp only[go_sem,↓reduceIte,Qa,Qh,Qb,Qc,Qd,Qe,Qf,Qg,reduceCtorEq, *];first|done|rfl));(focus(simp only[go_sem,↓reduceIte,Qa,Qh,Qb,Qc,Qd,Qe,Qf,Qg,reduceCtorEq, *];first|done|rfl)))
 | (with_reducible first|refine callX.by (ZT _ _ ?_) ?_|refine callX.by (Jd0 _ _ ?_) ?_)
 | (with_reducible refine callX.mv ?_ ?_ ?_ (JhN ?_ ?_ ?_ ?_ ?_ ?_ ?_);(focus(simp only[go_sem,↓reduceIte,Qa,Qh,Qb,Qc,Qd,Qe,Qf,Qg,reduceCtorEq, *];first|done|rfl));(focus(simp only[go_sem,↓reduceIte,Qa,Qh,Qb,Qc,Qd,Qe,Qf,Qg,reduceCtorEq, *];first|done|rfl)))
 | (with_reducible first|refine callX.by (Jec _ _ _) ?_|assumption|(refine Qw hK _ ?_;clear hK K)|refine Qw ‹_› _ ?_|refine Qx ‹_› ?_|refine Qi fun K hK=>?_|refine Qj T fun K hK=>?_|refine Ql fun A B hA hB=>?_|refine Qn ?_|refine Qr ?_)
 |(with_reducible first|apply Qy|apply Qz|apply QA)<;>intro hb<;>try simp only[nr] at hb
 |simp only[go_sem,↓reduceIte,Qa,Qh,Qb,Qc,Qd,Qe,Qf,Qg,reduceCtorEq, *]
 |intro(bn:Bool) hbn))
 all_goals ((repeat clear hK);(repeat clear hA);(repeat clear hB))
 all_goals ((try simp only[decide_eq_true_eq,decide_eq_false_iff_not,Bool.not_eq_true'] at *);simp[Vt, *])
def Vh(p:Pins)(id:Int):Pins×Int :=
 let q:=Jq p
 let k:=J6 q.snaps id q.snaps.length
 if k<0 then (q,10) else
  let s:=q.snaps.getD k.toNat default
  if s.pins=0 then (q,15) else
   let t:Snap:=⟨s.id,IntKind.i64.wrap (s.pins-1),s.l⟩
   let l:=q.snaps.set k.toNat t
   if k≠q.snaps.length-1∧t.pins=0 then (⟨q.next',l.take k.toNat++l.drop (k.toNat+1)⟩,0) else (⟨q.next',l⟩,0)
theorem Jdj(next id:Int)(xs:List Snap)(hl:Jc xs.length):CallR Tryz.prog 129 [.agg [.int .i64 next,.slice false (Ja xs)],.int .i64 id] (.val (.tup [Dat.av (Vh ⟨next,xs⟩ id).1,.int .i64 (Vh ⟨next,xs⟩ id).2])):=by
 have hl2:Jc (Jq ⟨next,xs⟩).snaps.length:=Jcr hl
 have hp:=Jey (Jq ⟨next,xs⟩).snaps id (Jq ⟨next,xs⟩).snaps.length
 refine Jm Tryz.call129 Tryz.func129 rfl Tryz.ntmps129 Tryz.results129 fun ts hn h0 h1=>?_
 by_cases hneg:J6 (Jq ⟨next,xs⟩).snaps id (Jq ⟨next,xs⟩).snaps.length<0
 ·(repeat' (first
 | (with_reducible first|refine callX.by (ZT _ _ ?_) ?_|refine callX.by (JeA _ _ _ ?_) ?_|refine callX.by (Jec _ _ _) ?_|refine callX.by (Jd0 _ _ ?_) ?_|refine callX.by (ZM _ _ ?_) ?_)
 | (with_reducible refine callX.mv ?_ ?_ ?_ (JhO ?_ ?_ ?_ ?_ ?_ ?_);(focus(simp only[go_sem,↓reduceIte,Qa,Qh,Qb,Qc,Qd,Qe,Qf,Qg,reduceCtorEq, *];first|done|rfl));(focus(simp only[go_sem,↓reduceIte,Qa,Qh,Qb,Qc,Qd,Qe,Qf,Qg,reduceCtorEq, *];first|done|rfl)))
 | (with_reducible first|assumption|(refine Qw hK _ ?_;clear hK K)|refine Qw ‹_› _ ?_|refine Qx ‹_› ?_|refine Qi fun K hK=>?_|refine Qj T fun K hK=>?_|refine Ql fun A B hA hB=>?_|refine Qm ?_|refine Qn ?_|refine Qr ?_)
 |(with_reducible first|apply Qy|apply Qz|apply QA)<;>intro hb<;>try simp only[nr] at hb
 |simp only[go_sem,↓reduceIte,Qa,Qh,Qb,Qc,Qd,Qe,Qf,Qg,reduceCtorEq, *]
 |intro(bn:Bool) hbn))
  all_goals simp[Vh,hneg]
 ·obtain⟨k,hk⟩:∃k:Nat,J6 (Jq ⟨next,xs⟩).snaps id (Jq ⟨next,xs⟩).snaps.length=k:=⟨_,(Int.toNat_of_nonneg (by omega)).symm⟩
  have hlt:k<(Jq ⟨next,xs⟩).snaps.length:=by omega
  have hw:IntKind.i64.wrap ((k:Int)+1)=((k+1:Nat):Int):=Jh hlt hl2
  have hkk:k≤k+1:=by omega
  have hk1:k+1≤(Jq ⟨next,xs⟩).snaps.length:=hlt
  (repeat' (first
 | (with_reducible first|refine callX.by (ZT _ _ ?_) ?_|refine callX.by (JeA _ _ _ ?_) ?_|refine callX.by (Jec _ _ _) ?_|refine callX.by (Jd0 _ _ ?_) ?_|refine callX.by (ZM _ _ ?_) ?_)
 | (with_reducible refine callX.mv ?_ ?_ ?_ (JhO ?_ ?_ ?_ ?_ ?_ ?_);(focus(simp only[go_sem,↓reduceIte,Qa,Qh,Qb,Qc,Qd,Qe,Qf,Qg,reduceCtorEq, *];first|done|rfl));(focus(simp only[go_sem,↓reduceIte,Qa,Qh,Qb,Qc,Qd,Qe,Qf,Qg,reduceCtorEq, *];first|done|rfl)))
 | (with_reducible first|assumption|(refine Qw hK _ ?_;clear hK K)|refine Qw ‹_› _ ?_|refine Qx ‹_› ?_|refine Qi fun K hK=>?_|refine Qj T fun K hK=>?_|refine Ql fun A B hA hB=>?_|refine Qm ?_|refine Qn ?_|refine Qr ?_)
 |(with_reducible first|apply Qy|apply Qz|apply QA)<;>intro hb<;>try simp only[nr] at hb
 |simp only[go_sem,↓reduceIte,Qa,Qh,Qb,Qc,Qd,Qe,Qf,Qg,reduceCtorEq, *]
 |intro(bn:Bool) hbn))
  all_goals ((repeat clear hK);(repeat clear hA);(repeat clear hB))
  all_goals ((try simp only[Jnw,Jnv] at *);simp[Vh,JiW,List.take_of_length_le, *])
def Jd6(x:Rule):Bool:=decide (x.split.length≤20) && decide (x.host.length≤100) && decide (x.pfx.length≤100)
def Jb1(r:Res):Bool:=r.rules'.all Jd6 && (decide (r.rules'.length≤20) && decide (r.hosts.length≤20) && decide (r.name.length≤100) && decide (r.to'.length≤100))
theorem Jfx(Ln:Int)(Lp:List UInt8)(Lx Lq:Int)(LA:List UInt8)(r_rules:List Rule)(r_hosts:List Int)(hl:Jc r_rules.length):CallR Tryz.prog 94 [.agg [.int .i64 Ln,.str Lp,.int .i64 Lx,.int .i64 Lq,.str LA,.slice false (Ja r_rules),.slice false (Ja r_hosts)]] (.val (.bool (Jb1 (⟨Ln,Lp,Lx,Lq,LA,r_rules,r_hosts⟩:Res)))):=by
 refine Jl Tryz.call94 Tryz.func94 rfl Tryz.ntmps94 Tryz.results94 fun ts hn h0=>?_
 (repeat' (first
 | (with_reducible first|assumption|(refine Qw hK _ ?_;clear hK K)|refine Qw ‹_› _ ?_|refine Qx ‹_› ?_|refine Qi fun K hK=>?_|refine Qj T fun K hK=>?_|refine Ql fun A B hA hB=>?_|refine Qm ?_|refine Qn ?_|refine Qp ?_|refine Qr ?_)
 |(with_reducible first|apply Qy|apply Qz|apply QA)<;>intro hb<;>try simp only[nr] at hb
 |simp only[go_sem,↓reduceIte,Qa,Qh,Qb,Qc,Qd,Qe,Qf,Qg,reduceCtorEq, *]
 |intro(bn:Bool) hbn))
 refine Qs [1] (fun m ts'=>∃(i:Nat),m=r_rules.length-i∧i≤r_rules.length∧r_rules.all Jd6=(r_rules.drop i).all Jd6∧ts'.tmp 3=.int .i64 i) r_rules.length ?_ ?_
 ·refine⟨0,?_⟩
  simp only[go_sem,↓reduceIte,Qa,Qh,Qb,Qc,Qd,Qe,Qf,Qg,reduceCtorEq, *]
 ·rintro m A hM ts' hk ⟨i,hm,f1,f2,s1⟩
  simp only[go_sem,↓reduceIte,Qa,Qh,Qb,Qc,Qd,Qe,Qf,Qg,reduceCtorEq, *] at hk
  by_cases hlt:i<r_rules.length
  ·rw[List.drop_eq_getElem_cons hlt,List.all_cons,Jd6] at f2
   (repeat' (first
 | (with_reducible first|assumption|(refine Qw hK _ ?_;clear hK K)|refine Qw ‹_› _ ?_|refine Qx ‹_› ?_|refine Qi fun K hK=>?_|refine Qj T fun K hK=>?_|refine Ql fun A B hA hB=>?_|refine Qm ?_|refine Qn ?_|refine Qp ?_|refine Qr ?_)
 |(with_reducible first|apply Qy|apply Qz|apply QA)<;>intro hb<;>try simp only[nr] at hb
 |simp only[go_sem,↓reduceIte,Qa,Qh,Qb,Qc,Qd,Qe,Qf,Qg,reduceCtorEq, *]
 |intro(bn:Bool) hbn))
   all_goals ((repeat clear hK);(repeat clear hA);(repeat clear hB))
   all_goals first
    | (clear hM;(simp only[Jb1,f2];rw[Bool.eq_iff_iff];simp only[Bool.and_eq_true,Bool.or_eq_true,Bool.not_eq_true',Bool.false_eq_true,decide_eq_true_eq,decide_eq_false_iff_not,true_and,and_true,true_iff,false_iff,iff_true,iff_false,true_or,or_true,false_or,or_false] at *;omega))
    | (refine hM.on (r_rules.length-(i+1)) (by omega) (by simp only[go_sem,↓reduceIte,Qa,Qh,Qb,Qc,Qd,Qe,Qf,Qg,reduceCtorEq, *,Jh hlt hl,-f2]) ⟨i+1,rfl,by omega,by clear hM;grind,?_⟩;simp only[go_sem,↓reduceIte,Qa,Qh,Qb,Qc,Qd,Qe,Qf,Qg,reduceCtorEq, *,Jh hlt hl,-f2];done)
  ·rw[List.drop_eq_nil_of_le (by omega),List.all_nil] at f2
   (repeat' (first
 | (with_reducible first|assumption|(refine Qw hK _ ?_;clear hK K)|refine Qw ‹_› _ ?_|refine Qx ‹_› ?_|refine Qi fun K hK=>?_|refine Qj T fun K hK=>?_|refine Ql fun A B hA hB=>?_|refine Qm ?_|refine Qn ?_|refine Qp ?_|refine Qr ?_)
 |(with_reducible first|apply Qy|apply Qz|apply QA)<;>intro hb<;>try simp only[nr] at hb
 |simp only[go_sem,↓reduceIte,Qa,Qh,Qb,Qc,Qd,Qe,Qf,Qg,reduceCtorEq, *]
 |intro(bn:Bool) hbn))
   all_goals ((repeat clear hK);(repeat clear hA);(repeat clear hB))
   all_goals (clear hM;(simp only[Jb1,f2];rw[Bool.eq_iff_iff];simp only[Bool.and_eq_true,Bool.or_eq_true,Bool.not_eq_true',Bool.false_eq_true,decide_eq_true_eq,decide_eq_false_iff_not,true_and,and_true,true_iff,false_iff,iff_true,iff_false,true_or,or_true,false_or,or_false] at *;omega))
theorem JcA{α}{xs ys:List α}{i:Nat}(h:xs.take i=ys.take i)(h1:i<xs.length)(h2:i<ys.length)(h3:xs[i]=ys[i]):xs.take (i+1)=ys.take (i+1):=by
 rw[List.take_succ_eq_append_getElem h1,List.take_succ_eq_append_getElem h2,h,h3]
theorem Jcz{α}{xs ys:List α}{i:Nat}(h:xs.take i=ys.take i)(h1:¬i<xs.length)(h2:xs.length=ys.length):xs=ys:=by
 rwa [List.take_of_length_le (by omega),List.take_of_length_le (by omega)] at h
theorem JcB{α}{xs ys:List α}{i:Nat}(h1:i<xs.length)(h2:i<ys.length)(h3:¬xs[i]=ys[i]):¬xs=ys:=by
 rintro rfl;exact h3 rfl
theorem Jbf{α:Type}(p:α→Bool)(xs:List α):decide (0≤JC p xs 0)=xs.any p:=by
 by_cases h:JC p xs 0=-1
 ·have hn:=JcY p xs 0 (Int.le_refl _) h
  have h2:xs.any p=false:=List.any_eq_false.2 fun x hx=>by simp[hn x hx]
  rw[h,h2];decide
 ·obtain⟨k,h1,h2,h3,h4⟩:=JcZ p xs 0 (Int.le_refl _) h
  have h5:xs.any p=true:=List.any_eq_true.2 ⟨xs[k],QC h2,h4 h2⟩
  rw[h1,h5];simp
section closures
theorem Joe(fn:FuncId)(caps:List AV)(hc:Caps caps)(p:Weight→Bool)(xs:List Weight)(hp:∀x∈xs,CallR Tryz.prog fn (.agg [.str x.cluster,.int .i64 x.w] :: caps) (.val (.bool (p x))))(hl:Jc xs.length):CallR Tryz.prog 243 [.slice false (Ja xs),.clo (.func fn) [] caps] (.val (.int .i64 (JC p xs 0))):=by
 have hca:=hc.args
 have hcp:=hc.pure
 have hcn:=hc.nrm
 refine Jm Tryz.call243 Tryz.func243 rfl Tryz.ntmps243 Tryz.results243 fun ts hn h0 h1=>?_
 (repeat' (first
 | (with_reducible first|assumption|(refine Qw hK _ ?_;clear hK K)|refine Qw ‹_› _ ?_|refine Qx ‹_› ?_|refine Qi fun K hK=>?_|refine Qj T fun K hK=>?_|refine Ql fun A B hA hB=>?_|refine Qm ?_|refine Qn ?_|refine Qp ?_|refine Qr ?_)
 |(with_reducible first|apply Qy|apply Qz|apply QA)<;>intro hb<;>try simp only[nr] at hb
 |simp only[go_sem,↓reduceIte,Qa,Qh,Qb,Qc,Qd,Qe,Qf,Qg,reduceCtorEq, *,-hp]
 |intro(bn:Bool) hbn))
 refine Qs [0,1,7] (fun m ts'=>∃(i:Nat),m=xs.length-i∧i≤xs.length∧JC p xs 0=JC p (xs.drop i) i∧ts'.tmp 8=.int .i64 i) xs.length ?_ ?_
 ·refine⟨0,?_⟩
  simp only[go_sem,↓reduceIte,Qa,Qh,Qb,Qc,Qd,Qe,Qf,Qg,reduceCtorEq, *,-hp]
 ·rintro m A hM ts' hk ⟨i,hm,f1,f2,s1⟩
  simp only[go_sem,↓reduceIte,Qa,Qh,Qb,Qc,Qd,Qe,Qf,Qg,reduceCtorEq, *] at hk
  by_cases hlt:i<xs.length
  ·rw[List.drop_eq_getElem_cons hlt,JC] at f2
   have hpi:=hp _ (QC hlt)
   (repeat' (first
 | (with_reducible first|refine callX.by (hpi) ?_|assumption|(refine Qw hK _ ?_;clear hK K)|refine Qw ‹_› _ ?_|refine Qx ‹_› ?_|refine Qi fun K hK=>?_|refine Qj T fun K hK=>?_|refine Ql fun A B hA hB=>?_|refine Qm ?_|refine Qn ?_|refine Qp ?_|refine Qr ?_)
 |(with_reducible first|apply Qy|apply Qz|apply QA)<;>intro hb<;>try simp only[nr] at hb
 |simp only[go_sem,↓reduceIte,Qa,Qh,Qb,Qc,Qd,Qe,Qf,Qg,reduceCtorEq, *,-hp,-hpi]
 |intro(bn:Bool) hbn))
   all_goals ((repeat clear hK);(repeat clear hA);(repeat clear hB))
   rw[if_neg (by simp[hb])] at f2
   (refine hM.on (xs.length-(i+1)) (by omega) (by simp only[go_sem,↓reduceIte,Qa,Qh,Qb,Qc,Qd,Qe,Qf,Qg,reduceCtorEq, *,Jh hlt hl,-f2,-hp,-hpi]) ⟨i+1,rfl,by omega,f2,?_⟩;simp only[go_sem,↓reduceIte,Qa,Qh,Qb,Qc,Qd,Qe,Qf,Qg,reduceCtorEq, *,Jh hlt hl,-f2,-hp,-hpi];done)
  ·rw[List.drop_eq_nil_of_le (by omega),JC] at f2
   (repeat' (first
 | (with_reducible first|assumption|(refine Qw hK _ ?_;clear hK K)|refine Qw ‹_› _ ?_|refine Qx ‹_› ?_|refine Qi fun K hK=>?_|refine Qj T fun K hK=>?_|refine Ql fun A B hA hB=>?_|refine Qm ?_|refine Qn ?_|refine Qp ?_|refine Qr ?_)
 |(with_reducible first|apply Qy|apply Qz|apply QA)<;>intro hb<;>try simp only[nr] at hb
 |simp only[go_sem,↓reduceIte,Qa,Qh,Qb,Qc,Qd,Qe,Qf,Qg,reduceCtorEq, *,-hp]
 |intro(bn:Bool) hbn))
theorem Jau(fn:FuncId)(caps:List AV)(hc:Caps caps)(p:Weight→Bool)(xs:List Weight)(hp:∀x∈xs,CallR Tryz.prog fn (.agg [.str x.cluster,.int .i64 x.w] :: caps) (.val (.bool (p x))))(hl:Jc xs.length):CallR Tryz.prog 223 [.slice false (Ja xs),.clo (.func fn) [] caps] (.val (.bool (xs.any p))):=by
 have hca:=hc.args
 have hcp:=hc.pure
 have hcn:=hc.nrm
 have hi:=Joe fn caps hc p xs hp hl
 have ha:=Jbf p xs
 refine Jm Tryz.call223 Tryz.func223 rfl Tryz.ntmps223 Tryz.results223 fun ts hn h0 h1=>?_
 (repeat' (first
 | (with_reducible first|refine callX.by (hi) ?_|assumption|(refine Qw hK _ ?_;clear hK K)|refine Qw ‹_› _ ?_|refine Qx ‹_› ?_|refine Qi fun K hK=>?_|refine Qj T fun K hK=>?_|refine Ql fun A B hA hB=>?_|refine Qn ?_|refine Qr ?_)
 |(with_reducible first|apply Qy|apply Qz|apply QA)<;>intro hb<;>try simp only[nr] at hb
 |simp only[go_sem,↓reduceIte,Qa,Qh,Qb,Qc,Qd,Qe,Qf,Qg,reduceCtorEq, *,-hp,-hi]
 |intro(bn:Bool) hbn))
theorem Jod(fn:FuncId)(caps:List AV)(hc:Caps caps)(p:Rule→Bool)(xs:List Rule)(hp:∀x∈xs,CallR Tryz.prog fn (.agg [.str x.host,.str x.pfx,.slice false (Ja x.split)] :: caps) (.val (.bool (p x))))(hl:Jc xs.length):CallR Tryz.prog 244 [.slice false (Ja xs),.clo (.func fn) [] caps] (.val (.int .i64 (JC p xs 0))):=by
 have hca:=hc.args
 have hcp:=hc.pure
 have hcn:=hc.nrm
 refine Jm Tryz.call244 Tryz.func244 rfl Tryz.ntmps244 Tryz.results244 fun ts hn h0 h1=>?_
 (repeat' (first
 | (with_reducible first|assumption|(refine Qw hK _ ?_;clear hK K)|refine Qw ‹_› _ ?_|refine Qx ‹_› ?_|refine Qi fun K hK=>?_|refine Qj T fun K hK=>?_|refine Ql fun A B hA hB=>?_|refine Qm ?_|refine Qn ?_|refine Qp ?_|refine Qr ?_)
 |(with_reducible first|apply Qy|apply Qz|apply QA)<;>intro hb<;>try simp only[nr] at hb
 |simp only[go_sem,↓reduceIte,Qa,Qh,Qb,Qc,Qd,Qe,Qf,Qg,reduceCtorEq, *,-hp]
 |intro(bn:Bool) hbn))
 refine Qs [0,1,7] (fun m ts'=>∃(i:Nat),m=xs.length-i∧i≤xs.length∧JC p xs 0=JC p (xs.drop i) i∧ts'.tmp 8=.int .i64 i) xs.length ?_ ?_
 ·refine⟨0,?_⟩
  simp only[go_sem,↓reduceIte,Qa,Qh,Qb,Qc,Qd,Qe,Qf,Qg,reduceCtorEq, *,-hp]
 ·rintro m A hM ts' hk ⟨i,hm,f1,f2,s1⟩
  simp only[go_sem,↓reduceIte,Qa,Qh,Qb,Qc,Qd,Qe,Qf,Qg,reduceCtorEq, *] at hk
  by_cases hlt:i<xs.length
  ·rw[List.drop_eq_getElem_cons hlt,JC] at f2
   have hpi:=hp _ (QC hlt)
   (repeat' (first
 | (with_reducible first|refine callX.by (hpi) ?_|assumption|(refine Qw hK _ ?_;clear hK K)|refine Qw ‹_› _ ?_|refine Qx ‹_› ?_|refine Qi fun K hK=>?_|refine Qj T fun K hK=>?_|refine Ql fun A B hA hB=>?_|refine Qm ?_|refine Qn ?_|refine Qp ?_|refine Qr ?_)
 |(with_reducible first|apply Qy|apply Qz|apply QA)<;>intro hb<;>try simp only[nr] at hb
 |simp only[go_sem,↓reduceIte,Qa,Qh,Qb,Qc,Qd,Qe,Qf,Qg,reduceCtorEq, *,-hp,-hpi]
 |intro(bn:Bool) hbn))
   all_goals ((repeat clear hK);(repeat clear hA);(repeat clear hB))
   rw[if_neg (by simp[hb])] at f2
   (refine hM.on (xs.length-(i+1)) (by omega) (by simp only[go_sem,↓reduceIte,Qa,Qh,Qb,Qc,Qd,Qe,Qf,Qg,reduceCtorEq, *,Jh hlt hl,-f2,-hp,-hpi]) ⟨i+1,rfl,by omega,f2,?_⟩;simp only[go_sem,↓reduceIte,Qa,Qh,Qb,Qc,Qd,Qe,Qf,Qg,reduceCtorEq, *,Jh hlt hl,-f2,-hp,-hpi];done)
  ·rw[List.drop_eq_nil_of_le (by omega),JC] at f2
   (repeat' (first
 | (with_reducible first|assumption|(refine Qw hK _ ?_;clear hK K)|refine Qw ‹_› _ ?_|refine Qx ‹_› ?_|refine Qi fun K hK=>?_|refine Qj T fun K hK=>?_|refine Ql fun A B hA hB=>?_|refine Qm ?_|refine Qn ?_|refine Qp ?_|refine Qr ?_)
 |(with_reducible first|apply Qy|apply Qz|apply QA)<;>intro hb<;>try simp only[nr] at hb
 |simp only[go_sem,↓reduceIte,Qa,Qh,Qb,Qc,Qd,Qe,Qf,Qg,reduceCtorEq, *,-hp]
 |intro(bn:Bool) hbn))
theorem Jat(fn:FuncId)(caps:List AV)(hc:Caps caps)(p:Rule→Bool)(xs:List Rule)(hp:∀x∈xs,CallR Tryz.prog fn (.agg [.str x.host,.str x.pfx,.slice false (Ja x.split)] :: caps) (.val (.bool (p x))))(hl:Jc xs.length):CallR Tryz.prog 227 [.slice false (Ja xs),.clo (.func fn) [] caps] (.val (.bool (xs.any p))):=by
 have hca:=hc.args
 have hcp:=hc.pure
 have hcn:=hc.nrm
 have hi:=Jod fn caps hc p xs hp hl
 have ha:=Jbf p xs
 refine Jm Tryz.call227 Tryz.func227 rfl Tryz.ntmps227 Tryz.results227 fun ts hn h0 h1=>?_
 (repeat' (first
 | (with_reducible first|refine callX.by (hi) ?_|assumption|(refine Qw hK _ ?_;clear hK K)|refine Qw ‹_› _ ?_|refine Qx ‹_› ?_|refine Qi fun K hK=>?_|refine Qj T fun K hK=>?_|refine Ql fun A B hA hB=>?_|refine Qn ?_|refine Qr ?_)
 |(with_reducible first|apply Qy|apply Qz|apply QA)<;>intro hb<;>try simp only[nr] at hb
 |simp only[go_sem,↓reduceIte,Qa,Qh,Qb,Qc,Qd,Qe,Qf,Qg,reduceCtorEq, *,-hp,-hi]
 |intro(bn:Bool) hbn))
end closures
def ZD(n most:Int):Bool:=decide (0≤n) && decide (n≤most)
theorem JcF(n most:Int):CallR Tryz.prog 192 [.int .i64 n,.int .i64 most] (.val (.bool (ZD n most))):=by
 refine Jm Tryz.call192 Tryz.func192 rfl Tryz.ntmps192 Tryz.results192 fun ts hn h0 h1=>?_
 (repeat' (first
 | (with_reducible first|assumption|(refine Qw hK _ ?_;clear hK K)|refine Qw ‹_› _ ?_|refine Qx ‹_› ?_|refine Qi fun K hK=>?_|refine Qj T fun K hK=>?_|refine Ql fun A B hA hB=>?_|refine Qn ?_|refine Qr ?_)
 |(with_reducible first|apply Qy|apply Qz|apply QA)<;>intro hb<;>try simp only[nr] at hb
 |simp only[go_sem,↓reduceIte,Qa,Qh,Qb,Qc,Qd,Qe,Qf,Qg,reduceCtorEq, *]
 |intro(bn:Bool) hbn))
 all_goals ((repeat clear hK);(repeat clear hA);(repeat clear hB))
 all_goals (simp only[ZD];rw[Bool.eq_iff_iff];simp only[Bool.and_eq_true,Bool.or_eq_true,Bool.not_eq_true',Bool.false_eq_true,decide_eq_true_eq,decide_eq_false_iff_not,true_and,and_true,true_iff,false_iff,iff_true,iff_false,true_or,or_true,false_or,or_false] at *;omega)
theorem JdE(LD:List UInt8)(Mf:Int):CallR Tryz.prog 224 [.agg [.str LD,.int .i64 Mf]] (.val (.bool (!ZD Mf 100))):=by
 refine Jl Tryz.call224 Tryz.func224 rfl Tryz.ntmps224 Tryz.results224 fun ts hn h0=>?_
 (repeat' (first
 | (with_reducible first|refine callX.by (JcF _ _) ?_|assumption|(refine Qw hK _ ?_;clear hK K)|refine Qw ‹_› _ ?_|refine Qx ‹_› ?_|refine Qi fun K hK=>?_|refine Qj T fun K hK=>?_|refine Ql fun A B hA hB=>?_|refine Qn ?_|refine Qr ?_)
 |(with_reducible first|apply Qy|apply Qz|apply QA)<;>intro hb<;>try simp only[nr] at hb
 |simp only[go_sem,↓reduceIte,Qa,Qh,Qb,Qc,Qd,Qe,Qf,Qg,reduceCtorEq, *]
 |intro(bn:Bool) hbn))
theorem JjU(LD:List UInt8)(Mf:Int):CallR Tryz.prog 245 [.agg [.str LD,.int .i64 Mf]] (.val (.bool (!Yy LD))):=by
 refine Jl Tryz.call245 Tryz.func245 rfl Tryz.ntmps245 Tryz.results245 fun ts hn h0=>?_
 (repeat' (first
 | (with_reducible first|refine callX.by (Jcj _) ?_|assumption|(refine Qw hK _ ?_;clear hK K)|refine Qw ‹_› _ ?_|refine Qx ‹_› ?_|refine Qi fun K hK=>?_|refine Qj T fun K hK=>?_|refine Ql fun A B hA hB=>?_|refine Qn ?_|refine Qr ?_)
 |(with_reducible first|apply Qy|apply Qz|apply QA)<;>intro hb<;>try simp only[nr] at hb
 |simp only[go_sem,↓reduceIte,Qa,Qh,Qb,Qc,Qd,Qe,Qf,Qg,reduceCtorEq, *]
 |intro(bn:Bool) hbn))
theorem Jro(LD:List UInt8)(Mf:Int):CallR Tryz.prog 246 [.agg [.str LD,.int .i64 Mf]] (.val (.bool (decide (0<Mf)))):=by
 refine Jl Tryz.call246 Tryz.func246 rfl Tryz.ntmps246 Tryz.results246 fun ts hn h0=>?_
 (repeat' (first
 | (with_reducible first|assumption|(refine Qw hK _ ?_;clear hK K)|refine Qw ‹_› _ ?_|refine Qx ‹_› ?_|refine Qi fun K hK=>?_|refine Qj T fun K hK=>?_|refine Ql fun A B hA hB=>?_|refine Qn ?_|refine Qr ?_)
 |(with_reducible first|apply Qy|apply Qz|apply QA)<;>intro hb<;>try simp only[nr] at hb
 |simp only[go_sem,↓reduceIte,Qa,Qh,Qb,Qc,Qd,Qe,Qf,Qg,reduceCtorEq, *]
 |intro(bn:Bool) hbn))
def Jmp(x:Rule):Bool:=x.split.any fun w=>decide (0<w.w)
theorem JdI(x_host LF:List UInt8)(x_split:List Weight)(hl:Jc x_split.length):CallR Tryz.prog 231 [.agg [.str x_host,.str LF,.slice false (Ja x_split)]] (.val (.bool (Jmp (⟨x_host,LF,x_split⟩:Rule)))):=by
 have h:=Jau 246 [] Caps.nil (fun w=>decide (0<w.w)) x_split (fun w _=>Jro w.cluster w.w) hl
 refine Jl Tryz.call231 Tryz.func231 rfl Tryz.ntmps231 Tryz.results231 fun ts hn h0=>?_
 (repeat' (first
 | (with_reducible first|refine callX.by (h) ?_|assumption|(refine Qw hK _ ?_;clear hK K)|refine Qw ‹_› _ ?_|refine Qx ‹_› ?_|refine Qi fun K hK=>?_|refine Qj T fun K hK=>?_|refine Ql fun A B hA hB=>?_|refine Qn ?_|refine Qr ?_)
 |(with_reducible first|apply Qy|apply Qz|apply QA)<;>intro hb<;>try simp only[nr] at hb
 |simp only[go_sem,↓reduceIte,Qa,Qh,Qb,Qc,Qd,Qe,Qf,Qg,reduceCtorEq, *,-h]
 |intro(bn:Bool) hbn))
 all_goals rfl
def Jds(x:Rule):Bool:=JcX x.host && (JaJ x.pfx && !(x.split.any fun w=>!Yy w.cluster))
theorem Jqf(x_host LF:List UInt8)(x_split:List Weight)(hh:Jc x_host.length)(hl:Jc x_split.length):CallR Tryz.prog 229 [.agg [.str x_host,.str LF,.slice false (Ja x_split)]] (.val (.bool (Jds (⟨x_host,LF,x_split⟩:Rule)))):=by
 have h:=Jau 245 [] Caps.nil (fun w=>!Yy w.cluster) x_split (fun w _=>JjU w.cluster w.w) hl
 refine Jl Tryz.call229 Tryz.func229 rfl Tryz.ntmps229 Tryz.results229 fun ts hn h0=>?_
 (repeat' (first
 | (with_reducible first|refine callX.by (h) ?_|refine callX.by (Jit _ ?_) ?_|refine callX.by (Jjs _) ?_|refine callX.by (Jau _ _ ?_ _ _ ?_ ?_) ?_|refine callX.by (JjU _ _) ?_|assumption|(refine Qw hK _ ?_;clear hK K)|refine Qw ‹_› _ ?_|refine Qx ‹_› ?_|refine Qi fun K hK=>?_|refine Qj T fun K hK=>?_|refine Ql fun A B hA hB=>?_|refine Qn ?_|refine Qr ?_)
 |(with_reducible first|apply Qy|apply Qz|apply QA)<;>intro hb<;>try simp only[nr] at hb
 |simp only[go_sem,↓reduceIte,Qa,Qh,Qb,Qc,Qd,Qe,Qf,Qg,reduceCtorEq, *,-h]
 |intro(bn:Bool) hbn))
 all_goals ((repeat clear hK);(repeat clear hA);(repeat clear hB))
 all_goals (clear h;simp_all[Jds])
theorem JiU(x_host LF:List UInt8)(x_split:List Weight)(hh:Jc x_host.length)(hl:Jc x_split.length):CallR Tryz.prog 228 [.agg [.str x_host,.str LF,.slice false (Ja x_split)]] (.val (.bool (!Jds (⟨x_host,LF,x_split⟩:Rule)))):=by
 refine Jl Tryz.call228 Tryz.func228 rfl Tryz.ntmps228 Tryz.results228 fun ts hn h0=>?_
 (repeat' (first
 | (with_reducible first|refine callX.by (Jqf _ _ _ ?_ ?_) ?_|assumption|(refine Qw hK _ ?_;clear hK K)|refine Qw ‹_› _ ?_|refine Qx ‹_› ?_|refine Qi fun K hK=>?_|refine Qj T fun K hK=>?_|refine Ql fun A B hA hB=>?_|refine Qn ?_|refine Qr ?_)
 |(with_reducible first|apply Qy|apply Qz|apply QA)<;>intro hb<;>try simp only[nr] at hb
 |simp only[go_sem,↓reduceIte,Qa,Qh,Qb,Qc,Qd,Qe,Qf,Qg,reduceCtorEq, *]
 |intro(bn:Bool) hbn))
theorem JiM(k:Int):CallR Tryz.prog 226 [.int .i64 k] (.val (.agg [.bool (decide (k=0)),.bool (decide (k=0) || decide (k=2)),.bool (decide (k=1)),.bool (decide (k=3))])):=by
 refine Jl Tryz.call226 Tryz.func226 rfl Tryz.ntmps226 Tryz.results226 fun ts hn h0=>?_
 (repeat' (first
 | (with_reducible first|assumption|(refine Qw hK _ ?_;clear hK K)|refine Qw ‹_› _ ?_|refine Qx ‹_› ?_|refine Qi fun K hK=>?_|refine Qj T fun K hK=>?_|refine Ql fun A B hA hB=>?_|refine Qn ?_|refine Qr ?_)
 |(with_reducible first|apply Qy|apply Qz|apply QA)<;>intro hb<;>try simp only[nr] at hb
 |simp only[go_sem,↓reduceIte,Qa,Qh,Qb,Qc,Qd,Qe,Qf,Qg,reduceCtorEq, *]
 |intro(bn:Bool) hbn))
 all_goals ((repeat clear hK);(repeat clear hA);(repeat clear hB))
 all_goals simp_all
def JfP(r:Res):Bool:=!((decide (r.kind=0) || decide (r.kind=2)) && !Yy r.to') && !(r.rules'.any fun x=>!Jds x)
theorem Jo0(Ln:Int)(Lp:List UInt8)(Lx Lq:Int)(LA:List UInt8)(r_rules:List Rule)(r_hosts:List Int)(hl:Jc r_rules.length)(hs:∀x∈r_rules,Yh x):CallR Tryz.prog 196 [.agg [.int .i64 Ln,.str Lp,.int .i64 Lx,.int .i64 Lq,.str LA,.slice false (Ja r_rules),.slice false (Ja r_hosts)]] (.val (.bool (JfP (⟨Ln,Lp,Lx,Lq,LA,r_rules,r_hosts⟩:Res)))):=by
 have h:=Jat 228 [] Caps.nil (fun x=>!Jds x) r_rules (fun x hx=>JiU x.host x.pfx x.split (hs x hx).1 (hs x hx).2.2.1) hl
 refine Jl Tryz.call196 Tryz.func196 rfl Tryz.ntmps196 Tryz.results196 fun ts hn h0=>?_
 (repeat' (first
 | (with_reducible first|refine callX.by (h) ?_|refine callX.by (JiM _) ?_|refine callX.by (Jcj _) ?_|refine callX.by (Jat _ _ ?_ _ _ ?_ ?_) ?_|refine callX.by (JiU _ _ _ ?_ ?_) ?_|assumption|(refine Qw hK _ ?_;clear hK K)|refine Qw ‹_› _ ?_|refine Qx ‹_› ?_|refine Qi fun K hK=>?_|refine Qj T fun K hK=>?_|refine Ql fun A B hA hB=>?_|refine Qn ?_|refine Qr ?_)
 |(with_reducible first|apply Qy|apply Qz|apply QA)<;>intro hb<;>try simp only[nr] at hb
 |simp only[go_sem,↓reduceIte,Qa,Qh,Qb,Qc,Qd,Qe,Qf,Qg,reduceCtorEq, *,-h]
 |intro(bn:Bool) hbn))
 all_goals ((repeat clear hK);(repeat clear hA);(repeat clear hB))
 all_goals (clear h hs;simp_all[JfP])
 all_goals (intros;omega)
end Go.Proofs.YthjalhfmpffbjaaGreatDoor.Lg
