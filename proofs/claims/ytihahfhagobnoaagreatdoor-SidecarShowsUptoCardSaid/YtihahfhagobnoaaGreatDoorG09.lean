/- Parts of the proof, one behind the other. -/
import Derived.Test.YtihahfhagobnoaaGreatDoorG08
namespace Go.Proofs.YtihahfhagobnoaaGreatDoor.Lg
set_option maxRecDepth 100000
set_option linter.unusedVariables false
set_option linter.unusedSimpArgs false
open Go
open Nat renaming reduceEqDiff → Qa, reduceLT → Qb, reduceLeDiff → Qc, reduceAdd → Qd, reduceMul → Qe, reduceSub → Qf, reduceBEq → Qg
open String renaming reduceEq → Qh
open SpecC renaming seqW → Qi, regW → Qj, drawW → Qk, condW → Ql, block → Qm, skip → Qn, exit → Qp, ret → Qr, loopF → Qs
open NxK renaming out → Qw
open Nx renaming out → Qx
open condK renaming split → Qy
open gK renaming split_t → Qz, split_f → QA
open List renaming getElem_mem → QC
open CallR renaming go1 → QD
def JF{α:Type}(p:α→Bool):List α→Int→Int
 | [],_=>-1
 |x :: r,i=>if p x then i else JF p r (i+1)
theorem JcO(fn:FuncId)(caps:List AV)(hc:Caps caps)(p:Snap→Bool)(hp:∀x:Snap,CallR Tryz.prog fn (.agg [.int .i64 x.id,.int .i64 x.pins,.slice false (Ja x.l)] :: caps) (.val (.bool (p x))))(xs:List Snap)(hl:Jc xs.length):CallR Tryz.prog 167 [.slice false (Ja xs),.clo (.func fn) [] caps] (.val (.int .i64 (JF p xs 0))):=by
 have hca:=hc.args
 have hcp:=hc.pure
 have hcn:=hc.nrm
 refine CallR.go2 (T:=T) Tryz.call167 Tryz.func167 rfl Tryz.ntmps167 (congrArg Array.toList Tryz.results167) (by decide) fun ts hn h0 h1=>?_
 (repeat' (first
 | (with_reducible first|assumption|(refine Qw hK _ ?_;clear hK K)|refine Qw ‹_› _ ?_|refine Qx ‹_› ?_|refine Qi fun K hK=>?_|refine Qj T fun K hK=>?_|refine Ql fun A B hA hB=>?_|refine Qm ?_|refine Qn ?_|refine Qp ?_|refine Qr ?_)
 | ((with_reducible first|apply Qy|apply Qz|apply QA)<;>intro hb<;>try simp only[nr] at hb)
 |simp only[go_sem,↓reduceIte,reduceIte,Qa,Qh,Qb,Qc,Qd,Qe,Qf,Qg,reduceCtorEq, *]
 |with_reducible refine fun(bn:Bool) hbn=>?_))
 refine Qs [0,1,7] (fun m ts'=>∃(i:Nat),m=xs.length-i∧i≤xs.length∧JF p xs 0=JF p (xs.drop i) i∧ts'.tmp 8=.int .i64 i) xs.length ?_ ?_
 ·refine⟨0,?_⟩
  simp only[go_sem,↓reduceIte,reduceIte,Qa,Qh,Qb,Qc,Qd,Qe,Qf,Qg,reduceCtorEq, *]
 ·rintro m A hM ts' hk ⟨i,hm,f1,f2,s1⟩
  simp only[go_sem,↓reduceIte,reduceIte,Qa,Qh,Qb,Qc,Qd,Qe,Qf,Qg,reduceCtorEq, *] at hk
  by_cases hlt:i<xs.length
  ·rw[List.drop_eq_getElem_cons hlt,JF] at f2
   (repeat' (first
 | (with_reducible first|refine callX.by (hp _) ?_|assumption|(refine Qw hK _ ?_;clear hK K)|refine Qw ‹_› _ ?_|refine Qx ‹_› ?_|refine Qi fun K hK=>?_|refine Qj T fun K hK=>?_|refine Ql fun A B hA hB=>?_|refine Qm ?_|refine Qn ?_|refine Qp ?_|refine Qr ?_)
 | ((with_reducible first|apply Qy|apply Qz|apply QA)<;>intro hb<;>try simp only[nr] at hb)
 |simp only[go_sem,↓reduceIte,reduceIte,Qa,Qh,Qb,Qc,Qd,Qe,Qf,Qg,reduceCtorEq, *]
 |with_reducible refine fun(bn:Bool) hbn=>?_))
   all_goals ((repeat clear hK);(repeat clear hA);(repeat clear hB))
   rw[if_neg (by simp[hb])] at f2
   (refine hM.on (xs.length-(i+1)) (by omega) (by simp only[go_sem,↓reduceIte,reduceIte,Qa,Qh,Qb,Qc,Qd,Qe,Qf,Qg,reduceCtorEq, *,Jf hlt hl,-f2]) ⟨i+1,rfl,by omega,f2,?_⟩;simp only[go_sem,↓reduceIte,reduceIte,Qa,Qh,Qb,Qc,Qd,Qe,Qf,Qg,reduceCtorEq, *,Jf hlt hl,-f2];done)
  ·rw[List.drop_eq_nil_of_le (by omega),JF] at f2
   (repeat' (first
 | (with_reducible first|assumption|(refine Qw hK _ ?_;clear hK K)|refine Qw ‹_› _ ?_|refine Qx ‹_› ?_|refine Qi fun K hK=>?_|refine Qj T fun K hK=>?_|refine Ql fun A B hA hB=>?_|refine Qm ?_|refine Qn ?_|refine Qp ?_|refine Qr ?_)
 | ((with_reducible first|apply Qy|apply Qz|apply QA)<;>intro hb<;>try simp only[nr] at hb)
 |simp only[go_sem,↓reduceIte,reduceIte,Qa,Qh,Qb,Qc,Qd,Qe,Qf,Qg,reduceCtorEq, *]
 |with_reducible refine fun(bn:Bool) hbn=>?_))
theorem JcM{α:Type}(p:α→Bool):∀(l:List α) (i:Int),0≤i→JF p l i=-1→∀x∈l,p x=false
 | [],_,_,_=>by simp
 |x :: r,i,h0,h=>by
  rw[JF] at h
  split at h
  ·omega
  ·rename_i hp
   intro y hy
   rcases List.mem_cons.1 hy with rfl|hy
   ·simpa using hp
   ·exact JcM p r (i+1) (by omega) h y hy
theorem JcN{α:Type}(p:α→Bool):∀(l:List α) (i:Int),0≤i→JF p l i≠-1→∃k:Nat,JF p l i=i+k∧k<l.length∧(∀x∈l.take k,p x=false)∧(∀h:k<l.length,p l[k]=true)
 | [],i,_,h=>absurd rfl h
 |x :: r,i,h0,h=>by
  rw[JF] at h ⊢
  split
  ·rename_i hp;exact⟨0,by simp,by simp,by simp,by simpa using hp⟩
  ·rename_i hp
   rw[if_neg hp] at h
   obtain⟨k,h1,h2,h3,h4⟩:=JcN p r (i+1) (by omega) h
   refine⟨k+1,by rw[h1];push_cast;omega,by simpa using h2,?_,fun h=>by simpa using h4 (by simpa using h2)⟩
   intro y hy
   rw[List.take_succ_cons] at hy
   rcases List.mem_cons.1 hy with rfl|hy
   ·simpa using hp
   ·exact h3 y hy
theorem Z8{α:Type}(q:α→Bool){xs:List α}{j:Nat}(h:j<xs.length):(xs.take (j+1)).filter q=(xs.take j).filter q++(if q xs[j] then [xs[j]] else []):=by
 rw[List.take_succ_eq_append_getElem h,List.filter_append]
 congr 1
 by_cases hq:q xs[j]<;>simp[hq]
theorem JeP{α:Type}{l:List α}{i:Nat}(x:α)(h:i<l.length):(l.set i x).take (i+1)=l.take i++[x]:=by
 rw[List.take_succ_eq_append_getElem (by simpa using h),List.take_set_of_le (Nat.le_refl i)]
 simp
theorem Jhr(fn:FuncId)(caps:List AV)(hc:Caps caps)(p:Snap→Bool)(hp:∀x:Snap,CallR Tryz.prog fn (.agg [.int .i64 x.id,.int .i64 x.pins,.slice false (Ja x.l)] :: caps) (.val (.bool (p x))))(xs:List Snap)(hl:Jc xs.length):CallM Tryz.prog 124 3 (Ja xs) [.clo (.func fn) [] caps] (.own 3 (Ja (xs.filter fun x=>!p x))):=by
 have hca:=hc.args
 have hcp:=hc.pure
 have hcn:=hc.nrm
 refine CallM.go1 (T:=T) Tryz.call124 Tryz.func124 rfl Tryz.ntmps124 (congrArg Array.toList Tryz.results124) (by decide) fun ts hn h0 hg0 ho0 h1=>?_
 have hi:=JcO fn caps hc p hp xs hl
 by_cases hneg:JF p xs 0=-1
 ·have hf:xs.filter (fun x=>!p x)=xs:=List.filter_eq_self.2 fun x hx=>by simp[JcM p xs 0 (Int.le_refl 0) hneg x hx]
  (repeat' (first
 | (with_reducible first|refine callX.by (hi) ?_|refine callX.by (JcO _ _ ?_ _ ?_ _ ?_) ?_|assumption|(refine Qw hK _ ?_;clear hK K)|refine Qw ‹_› _ ?_|refine Qx ‹_› ?_|refine Qi fun K hK=>?_|refine Qj T fun K hK=>?_|refine Ql fun A B hA hB=>?_|refine Qm ?_|refine Qn ?_|refine Qp ?_|refine Qr ?_)
 | ((with_reducible first|apply Qy|apply Qz|apply QA)<;>intro hb<;>try simp only[nr] at hb)
 |simp only[go_sem,↓reduceIte,reduceIte,Qa,Qh,Qb,Qc,Qd,Qe,Qf,Qg,reduceCtorEq, *]
 |with_reducible refine fun(bn:Bool) hbn=>?_))
 ·obtain⟨k,hk1,hk2,hk3,hk4⟩:=JcN p xs 0 (Int.le_refl 0) hneg
  rw[Int.zero_add] at hk1
  (repeat' (first
 | (with_reducible first|refine callX.by (hi) ?_|refine callX.by (JcO _ _ ?_ _ ?_ _ ?_) ?_|assumption|(refine Qw hK _ ?_;clear hK K)|refine Qw ‹_› _ ?_|refine Qx ‹_› ?_|refine Qi fun K hK=>?_|refine Qj T fun K hK=>?_|refine Ql fun A B hA hB=>?_|refine Qm ?_|refine Qn ?_|refine Qp ?_|refine Qr ?_)
 | ((with_reducible first|apply Qy|apply Qz|apply QA)<;>intro hb<;>try simp only[nr] at hb)
 |simp only[go_sem,↓reduceIte,reduceIte,Qa,Qh,Qb,Qc,Qd,Qe,Qf,Qg,reduceCtorEq, *]
 |with_reducible refine fun(bn:Bool) hbn=>?_))
  refine Qs [1] (fun m ts'=>∃(i:Nat),∃(j:Nat),∃(ys:List Snap),m=xs.length-j∧i<j∧j≤xs.length∧ys.length=xs.length∧ys.take i=(xs.take j).filter (fun x=>!p x)∧ys.drop j=xs.drop j∧ts'.tmp 0=.os 0 0 xs.length∧ts'.gen 0=0∧ts'.obj 0=.arr 3 (Ja ys)∧ts'.tmp 5=.int .i64 i∧ts'.tmp 6=.int .i64 j) (xs.length-(k+1)) ?_ ?_
  ·refine⟨k,k+1,xs,rfl,by omega,by omega,rfl,?_,rfl,?_⟩
   ·rw[Z8 _ hk2,List.filter_eq_self.2 (fun x hx=>by simp[hk3 x hx]),hk4 hk2];simp
   ·simp only[go_sem,↓reduceIte,reduceIte,Qa,Qh,Qb,Qc,Qd,Qe,Qf,Qg,reduceCtorEq, *,Jf hk2 hl]
  ·rintro m A hM ts' hk ⟨i,j,ys,hm,f1,f2,f3,f4,f5,s1,s2,s3,s4,s5⟩
   simp only[go_sem,↓reduceIte,reduceIte,Qa,Qh,Qb,Qc,Qd,Qe,Qf,Qg,reduceCtorEq, *] at hk
   by_cases hlt:j<xs.length
   ·have hly:j<ys.length:=by omega
    have hj:ys[j]=xs[j]:=by
     have:=congrArg (fun l=>l[0]?) f5
     simpa[hly,hlt] using this
    have hix:i<xs.length:=by omega
    (repeat' (first
 | (with_reducible first|refine callX.by (hp _) ?_|refine callX.by (JcO _ _ ?_ _ ?_ _ ?_) ?_|assumption|(refine Qw hK _ ?_;clear hK K)|refine Qw ‹_› _ ?_|refine Qx ‹_› ?_|refine Qi fun K hK=>?_|refine Qj T fun K hK=>?_|refine Ql fun A B hA hB=>?_|refine Qm ?_|refine Qn ?_|refine Qp ?_|refine Qr ?_)
 | ((with_reducible first|apply Qy|apply Qz|apply QA)<;>intro hb<;>try simp only[nr] at hb)
 |simp only[go_sem,↓reduceIte,reduceIte,Qa,Qh,Qb,Qc,Qd,Qe,Qf,Qg,reduceCtorEq, *]
 |with_reducible refine fun(bn:Bool) hbn=>?_))
    all_goals ((repeat clear hK);(repeat clear hA);(repeat clear hB))
    ·(refine hM.on (xs.length-(j+1)) (by omega) (by simp only[go_sem,↓reduceIte,reduceIte,Qa,Qh,Qb,Qc,Qd,Qe,Qf,Qg,reduceCtorEq, *,Jf hlt hl,Jf hix hl]) ⟨i+1,j+1,ys.set i xs[j],rfl,by omega,by omega,by simp[f3],by rw[Z8 _ hlt,←f4,hb,JeP _ (by omega)];simp,by rw[List.drop_set,if_pos (by omega)];simpa using congrArg (List.drop 1) f5,?_⟩;simp only[go_sem,↓reduceIte,reduceIte,Qa,Qh,Qb,Qc,Qd,Qe,Qf,Qg,reduceCtorEq, *,Jf hlt hl,Jf hix hl];done)
    ·(refine hM.on (xs.length-(j+1)) (by omega) (by simp only[go_sem,↓reduceIte,reduceIte,Qa,Qh,Qb,Qc,Qd,Qe,Qf,Qg,reduceCtorEq, *,Jf hlt hl]) ⟨i,j+1,ys,rfl,by omega,by omega,f3,by rw[Z8 _ hlt,←f4,hb];simp,by simpa using congrArg (List.drop 1) f5,?_⟩;simp only[go_sem,↓reduceIte,reduceIte,Qa,Qh,Qb,Qc,Qd,Qe,Qf,Qg,reduceCtorEq, *,Jf hlt hl];done)
   ·have hi1:i≤xs.length:=by omega
    have hi2:i+(xs.length-i)=xs.length:=by omega
    have hj2:j=xs.length:=by omega
    subst hj2
    rw[List.take_length] at f4
    (repeat' (first
 | (with_reducible first|refine callX.by (hp _) ?_|refine callX.by (JcO _ _ ?_ _ ?_ _ ?_) ?_|assumption|(refine Qw hK _ ?_;clear hK K)|refine Qw ‹_› _ ?_|refine Qx ‹_› ?_|refine Qi fun K hK=>?_|refine Qj T fun K hK=>?_|refine Ql fun A B hA hB=>?_|refine Qm ?_|refine Qn ?_|refine Qp ?_|refine Qr ?_)
 | ((with_reducible first|apply Qy|apply Qz|apply QA)<;>intro hb<;>try simp only[nr] at hb)
 |simp only[go_sem,↓reduceIte,reduceIte,Qa,Qh,Qb,Qc,Qd,Qe,Qf,Qg,reduceCtorEq, *]
 |with_reducible refine fun(bn:Bool) hbn=>?_))
    all_goals ((repeat clear hK);(repeat clear hA);(repeat clear hB))
def Vh(p:Pins)(l:List Res):Pins×Int×Int :=
 let q:=Jr p
 if q.next'=2147483647 then (q,0,14) else
  let s:=q.snaps.filter fun x=>!decide (x.pins=0)
  if 1000≤s.length then (q,0,8) else
   (⟨IntKind.i64.wrap (q.next'+1),s++[⟨IntKind.i64.wrap (q.next'+1),0,l⟩]⟩,IntKind.i64.wrap (q.next'+1),0)
theorem Jen(next:Int)(xs:List Snap)(l:List Res)(hl:Jc xs.length):CallR Tryz.prog 86 [.agg [.int .i64 next,.slice false (Ja xs)],.slice false (Ja l)] (.val (.tup [Dat.av (Vh ⟨next,xs⟩ l).1,.int .i64 (Vh ⟨next,xs⟩ l).2.1,.int .i64 (Vh ⟨next,xs⟩ l).2.2])):=by
 have hl2:Jc (Jr ⟨next,xs⟩).snaps.length:=Jc8 hl
 have hdel:=Jhr 125 [] Caps.nil (fun s=>decide (s.pins=0)) (fun x=>Jh6 x.id x.pins x.l) (Jr ⟨next,xs⟩).snaps hl2
 refine CallR.go2 (T:=T) Tryz.call86 Tryz.func86 rfl Tryz.ntmps86 (congrArg Array.toList Tryz.results86) (by decide) fun ts hn h0 h1=>?_
 have hr:Vl ((List.filter (fun x=>!decide (x.pins=0)) (Jr ⟨next,xs⟩).snaps).length+1) 40:=by
  refine JnF ?_ (by decide)
  have:=List.length_filter_le (fun x=>!decide (x.pins=0)) (Jr ⟨next,xs⟩).snaps
  unfold Jc at hl2 ⊢;omega
 (repeat' (first
 | (with_reducible refine callX.mv ?_ ?_ ?_ (hdel);(focus(simp only[go_sem,↓reduceIte,reduceIte,Qa,Qh,Qb,Qc,Qd,Qe,Qf,Qg,reduceCtorEq, *];first|done|rfl));(focus(simp only[go_sem,↓reduceIte,reduceIte,Qa,Qh,Qb,Qc,Qd,Qe,Qf,Qg,reduceCtorEq, *];first|done|rfl)))
 | (with_reducible first|refine callX.by (JaI _ _ ?_) ?_|refine callX.by (Jhh _ _ ?_) ?_)
 | (with_reducible refine callX.mv ?_ ?_ ?_ (Jhr ?_ ?_ ?_ ?_ ?_ ?_ ?_);(focus(simp only[go_sem,↓reduceIte,reduceIte,Qa,Qh,Qb,Qc,Qd,Qe,Qf,Qg,reduceCtorEq, *];first|done|rfl));(focus(simp only[go_sem,↓reduceIte,reduceIte,Qa,Qh,Qb,Qc,Qd,Qe,Qf,Qg,reduceCtorEq, *];first|done|rfl)))
 | (with_reducible first|refine callX.by (Jh6 _ _ _) ?_|assumption|(refine Qw hK _ ?_;clear hK K)|refine Qw ‹_› _ ?_|refine Qx ‹_› ?_|refine Qi fun K hK=>?_|refine Qj T fun K hK=>?_|refine Ql fun A B hA hB=>?_|refine Qn ?_|refine Qr ?_)
 | ((with_reducible first|apply Qy|apply Qz|apply QA)<;>intro hb<;>try simp only[nr] at hb)
 |simp only[go_sem,↓reduceIte,reduceIte,Qa,Qh,Qb,Qc,Qd,Qe,Qf,Qg,reduceCtorEq, *]
 |with_reducible refine fun(bn:Bool) hbn=>?_))
 all_goals ((repeat clear hK);(repeat clear hA);(repeat clear hB))
 all_goals ((try simp only[decide_eq_true_eq,decide_eq_false_iff_not,Bool.not_eq_true'] at *);simp[Vh, *])
def JdT(x:Rule):Bool:=decide (x.split.length≤20) && decide (x.host.length≤100) && decide (x.pfx.length≤100)
def JbM(r:Res):Bool:=r.rules'.all JdT && (decide (r.rules'.length≤20) && decide (r.hosts.length≤20) && decide (r.name.length≤100) && decide (r.to'.length≤100))
theorem Jfm(r_kind:Int)(r_name:List UInt8)(r_ver:Int)(r_port:Int)(r_to:List UInt8)(r_rules:List Rule)(r_hosts:List Int)(hl:Jc r_rules.length):CallR Tryz.prog 73 [.agg [.int .i64 r_kind,.str r_name,.int .i64 r_ver,.int .i64 r_port,.str r_to,.slice false (Ja r_rules),.slice false (Ja r_hosts)]] (.val (.bool (JbM (⟨r_kind,r_name,r_ver,r_port,r_to,r_rules,r_hosts⟩:Res)))):=by
 refine QD (T:=T) Tryz.call73 Tryz.func73 rfl Tryz.ntmps73 (congrArg Array.toList Tryz.results73) (by decide) fun ts hn h0=>?_
 (repeat' (first
 | (with_reducible first|assumption|(refine Qw hK _ ?_;clear hK K)|refine Qw ‹_› _ ?_|refine Qx ‹_› ?_|refine Qi fun K hK=>?_|refine Qj T fun K hK=>?_|refine Ql fun A B hA hB=>?_|refine Qm ?_|refine Qn ?_|refine Qp ?_|refine Qr ?_)
 | ((with_reducible first|apply Qy|apply Qz|apply QA)<;>intro hb<;>try simp only[nr] at hb)
 |simp only[go_sem,↓reduceIte,reduceIte,Qa,Qh,Qb,Qc,Qd,Qe,Qf,Qg,reduceCtorEq, *]
 |with_reducible refine fun(bn:Bool) hbn=>?_))
 refine Qs [1] (fun m ts'=>∃(i:Nat),m=r_rules.length-i∧i≤r_rules.length∧r_rules.all JdT=(r_rules.drop i).all JdT∧ts'.tmp 3=.int .i64 i) r_rules.length ?_ ?_
 ·refine⟨0,?_⟩
  simp only[go_sem,↓reduceIte,reduceIte,Qa,Qh,Qb,Qc,Qd,Qe,Qf,Qg,reduceCtorEq, *]
 ·rintro m A hM ts' hk ⟨i,hm,f1,f2,s1⟩
  simp only[go_sem,↓reduceIte,reduceIte,Qa,Qh,Qb,Qc,Qd,Qe,Qf,Qg,reduceCtorEq, *] at hk
  by_cases hlt:i<r_rules.length
  ·rw[List.drop_eq_getElem_cons hlt,List.all_cons,JdT] at f2
   (repeat' (first
 | (with_reducible first|assumption|(refine Qw hK _ ?_;clear hK K)|refine Qw ‹_› _ ?_|refine Qx ‹_› ?_|refine Qi fun K hK=>?_|refine Qj T fun K hK=>?_|refine Ql fun A B hA hB=>?_|refine Qm ?_|refine Qn ?_|refine Qp ?_|refine Qr ?_)
 | ((with_reducible first|apply Qy|apply Qz|apply QA)<;>intro hb<;>try simp only[nr] at hb)
 |simp only[go_sem,↓reduceIte,reduceIte,Qa,Qh,Qb,Qc,Qd,Qe,Qf,Qg,reduceCtorEq, *]
 |with_reducible refine fun(bn:Bool) hbn=>?_))
   all_goals ((repeat clear hK);(repeat clear hA);(repeat clear hB))
   all_goals first
    | (clear hM;(simp only[JbM,f2];rw[Bool.eq_iff_iff];simp only[Bool.and_eq_true,Bool.or_eq_true,Bool.not_eq_true',Bool.false_eq_true,decide_eq_true_eq,decide_eq_false_iff_not,true_and,and_true,true_iff,false_iff,iff_true,iff_false,true_or,or_true,false_or,or_false] at *;omega))
    | (refine hM.on (r_rules.length-(i+1)) (by omega) (by simp only[go_sem,↓reduceIte,reduceIte,Qa,Qh,Qb,Qc,Qd,Qe,Qf,Qg,reduceCtorEq, *,Jf hlt hl,-f2]) ⟨i+1,rfl,by omega,by clear hM;grind,?_⟩;simp only[go_sem,↓reduceIte,reduceIte,Qa,Qh,Qb,Qc,Qd,Qe,Qf,Qg,reduceCtorEq, *,Jf hlt hl,-f2];done)
  ·rw[List.drop_eq_nil_of_le (by omega),List.all_nil] at f2
   (repeat' (first
 | (with_reducible first|assumption|(refine Qw hK _ ?_;clear hK K)|refine Qw ‹_› _ ?_|refine Qx ‹_› ?_|refine Qi fun K hK=>?_|refine Qj T fun K hK=>?_|refine Ql fun A B hA hB=>?_|refine Qm ?_|refine Qn ?_|refine Qp ?_|refine Qr ?_)
 | ((with_reducible first|apply Qy|apply Qz|apply QA)<;>intro hb<;>try simp only[nr] at hb)
 |simp only[go_sem,↓reduceIte,reduceIte,Qa,Qh,Qb,Qc,Qd,Qe,Qf,Qg,reduceCtorEq, *]
 |with_reducible refine fun(bn:Bool) hbn=>?_))
   all_goals ((repeat clear hK);(repeat clear hA);(repeat clear hB))
   all_goals (clear hM;(simp only[JbM,f2];rw[Bool.eq_iff_iff];simp only[Bool.and_eq_true,Bool.or_eq_true,Bool.not_eq_true',Bool.false_eq_true,decide_eq_true_eq,decide_eq_false_iff_not,true_and,and_true,true_iff,false_iff,iff_true,iff_false,true_or,or_true,false_or,or_false] at *;omega))
theorem ZY{α}{xs ys:List α}{i:Nat}(h:xs.take i=ys.take i)(h1:i<xs.length)(h2:i<ys.length)(h3:xs[i]=ys[i]):xs.take (i+1)=ys.take (i+1):=by
 rw[List.take_succ_eq_append_getElem h1,List.take_succ_eq_append_getElem h2,h,h3]
theorem ZX{α}{xs ys:List α}{i:Nat}(h:xs.take i=ys.take i)(h1:¬i<xs.length)(h2:xs.length=ys.length):xs=ys:=by
 rwa [List.take_of_length_le (by omega),List.take_of_length_le (by omega)] at h
theorem ZZ{α}{xs ys:List α}{i:Nat}(h1:i<xs.length)(h2:i<ys.length)(h3:¬xs[i]=ys[i]):¬xs=ys:=by
 rintro rfl;exact h3 rfl
@[go_sem] def Wd2:List (List Nat×List Nat):=[([18],[19,22,23,24,25,26,27,28,29,30,31,32,33,34,35,36,37,38,39,40,41,42,43,44,45,46,47,48,49,50,51,52,53,54,55,56]),([19],[18,22,23,24,25,26,27,28,29,30,31,32,33,34,35,36,37,38,39,40,41,42,43,44,45,46,47,48,49,50,51,52,53,54,55,56]),([20],[23,24,25,26,27,28,29,30,31,32,33,34,35,36,37,38,39,40,41,42,43,44,45,46,47,48,49,50,51,52,53,54,55,56]),([21],[23,24,25,26,27,29,30,31,32,33,34,35,36,37,38,39,40,41,42,43,44,45,46,47,48,49,50,51,52,53,54,55,56]),([22],[18,19,23,24,25,26,27,30,31,32,33,34,35,36,37,38,39,40,41,42,43,44,45,46,47,48,49,50,51,52,53,54,55,56]),([23],[18,19,20,21,22,24,27,28,29,30,31,32,33,34,35,36,37,38,39,40,41,42,43,44,45,46,47,48,49,50,51,52,53,54,55,56]),([24],[18,19,20,21,22,23,27,28,29,30,31,32,33,34,35,36,37,38,39,40,41,42,43,44,45,46,47,48,49,50,51,52,53,54,55,56]),([25],[18,19,20,21,22,28,29,30,31,32,33,34,35,36,37,38,39,40,41,42,43,44,45,46,47,48,49,50,51,52,53,54,55,56]),([26],[18,19,20,21,22,29,30,31,32,33,34,35,36,37,38,39,40,41,42,43,44,45,46,47,48,49,50,51,52,53,54,55,56]),([27],[18,19,20,21,22,23,24,30,31,32,33,34,35,36,37,38,39,40,41,42,43,44,45,46,47,48,49,50,51,52,53,54,55,56]),([28],[18,19,20,23,24,25,43,44,45,46,47,48,49,50,51,52,53,54,55,56]),([29],[18,19,20,21,23,24,25,26]),([30],[18,19,20,21,22,23,24,25,26,27,31,34,35,36,37,38,39,40,41,42,43,44,45,46,47,48,49,50,51,52,53,54,55,56]),([31],[18,19,20,21,22,23,24,25,26,27,30,34,35,36,37,38,39,40,41,42,43,44,45,46,47,48,49,50,51,52,53,54,55,56]),([32],[18,19,20,21,22,23,24,25,26,27,35,36,37,38,39,40,41,42,43,44,45,46,47,48,49,50,51,52,53,54,55,56]),([33],[18,19,20,21,22,23,24,25,26,27,35,36,37,38,39,41,42,43,44,45,46,47,48,49,50,51,52,53,54,55,56]),([34],[18,19,20,21,22,23,24,25,26,27,30,31,35,36,37,38,39,42,43,44,45,46,47,48,49,50,51,52,53,54,55,56]),([35],[18,19,20,21,22,23,24,25,26,27,30,31,32,33,34,36,39,40,41,42,43,44,45,46,47,48,49,50,51,52,53,54,55,56]),([36],[18,19,20,21,22,23,24,25,26,27,30,31,32,33,34,35,39,40,41,42,43,44,45,46,47,48,49,50,51,52,53,54,55,56]),([37],[18,19,20,21,22,23,24,25,26,27,30,31,32,33,34,40,41,42,43,44,45,46,47,48,49,50,51,52,53,54,55,56]),([38],[18,19,20,21,22,23,24,25,26,27,30,31,32,33,34,41,42,43,44,45,46,47,48,49,50,51,52,53,54,55,56]),([39],[18,19,20,21,22,23,24,25,26,27,30,31,32,33,34,35,36,42,43,44,45,46,47,48,49,50,51,52,53,54,55,56]),([40],[18,19,20,21,22,23,24,25,26,27,30,31,32,35,36,37,43,44,45,46,47,48,49,50,51,52,53,54,55,56]),([41],[18,19,20,21,22,23,24,25,26,27,30,31,32,33,35,36,37,38]),([42],[18,19,20,21,22,23,24,25,26,27,30,31,32,33,34,35,36,37,38,39]),([43],[18,19,20,21,22,23,24,25,26,27,28,30,31,32,33,34,35,36,37,38,39,40,44,47,48,49,50,51,52,53,54,55,56]),([44],[18,19,20,21,22,23,24,25,26,27,28,30,31,32,33,34,35,36,37,38,39,40,43,47,48,49,50,51,52,53,54,55,56]),([45],[18,19,20,21,22,23,24,25,26,27,28,30,31,32,33,34,35,36,37,38,39,40,48,49,50,51,52,53,54,55,56]),([46],[18,19,20,21,22,23,24,25,26,27,28,30,31,32,33,34,35,36,37,38,39,40,49,50,51,52,53,54,55,56]),([47],[18,19,20,21,22,23,24,25,26,27,28,30,31,32,33,34,35,36,37,38,39,40,43,44,49,50,51,52,53,54,56]),([48],[18,19,20,21,22,23,24,25,26,27,28,30,31,32,33,34,35,36,37,38,39,40,43,44,45,49,50,51,52,53,54]),([49],[18,19,20,21,22,23,24,25,26,27,28,30,31,32,33,34,35,36,37,38,39,40,43,44,45,46,47,48,50,53,54,55,56]),([50],[18,19,20,21,22,23,24,25,26,27,28,30,31,32,33,34,35,36,37,38,39,40,43,44,45,46,47,48,49,53,54,55,56]),([51],[18,19,20,21,22,23,24,25,26,27,28,30,31,32,33,34,35,36,37,38,39,40,43,44,45,46,47,48,54,55,56]),([52],[18,19,20,21,22,23,24,25,26,27,28,30,31,32,33,34,35,36,37,38,39,40,43,44,45,46,47,48,55,56]),([53],[18,19,20,21,22,23,24,25,26,27,28,30,31,32,33,34,35,36,37,38,39,40,43,44,45,46,47,48,49,50,56]),([54],[18,19,20,21,22,23,24,25,26,27,28,30,31,32,33,34,35,36,37,38,39,40,43,44,45,46,47,48,49,50,51]),([55],[18,19,20,21,22,23,24,25,26,27,28,30,31,32,33,34,35,36,37,38,39,40,43,44,45,46,49,50,51,52]),([56],[18,19,20,21,22,23,24,25,26,27,28,30,31,32,33,34,35,36,37,38,39,40,43,44,45,46,47,49,50,51,52,53])]
@[go_sem] def Wd3:List (List Nat×List Nat):=[([67],[68,71,72,73,74,75,76,77,78,79,80,81,82]),([68],[67,71,72,73,74,75,76,77,78,79,80,81,82]),([69],[72,73,74,75,76,77,78,79,80,81,82]),([70],[72,74,75,76,77,78,79,80,81,82]),([71],[67,68,72,75,76,77,78,79,80,81,82]),([72],[67,68,69,70,71,75,76,77,78,79,80,81,82]),([73],[67,68,69,75,76,77,78,79,80,81,82]),([74],[67,68,69,70,75,76,77,78,79,80,81,82]),([75],[67,68,69,70,71,72,73,74,76,79,80,81,82]),([76],[67,68,69,70,71,72,73,74,75,79,80,81,82]),([77],[67,68,69,70,71,72,73,74,80,81,82]),([78],[67,68,69,70,71,72,73,74,80,82]),([79],[67,68,69,70,71,72,73,74,75,76,80]),([80],[67,68,69,70,71,72,73,74,75,76,77,78,79]),([81],[67,68,69,70,71,72,73,74,75,76,77]),([82],[67,68,69,70,71,72,73,74,75,76,77,78])]
set_option maxHeartbeats 4000000 in
theorem JeD(xs ys:List Rule)(hl:Jc xs.length)(hs:∀x∈xs,Yw x):CallR Tryz.prog 130 [.slice false (Ja xs),.slice false (Ja ys)] (.val (.bool (decide (xs=ys)))):=by
 refine CallR.go2 (T:=T) Tryz.call130 Tryz.func130 rfl Tryz.ntmps130 (congrArg Array.toList Tryz.results130) (by decide) fun ts hn h0 h1=>?_
 by_cases hll:xs.length=ys.length
 ·(repeat' (first
 | (with_reducible first|assumption|(refine Qw hK _ ?_;clear hK K)|refine Qw ‹_› _ ?_|refine Qx ‹_› ?_|refine Qi fun K hK=>?_|refine Qj T fun K hK=>?_|refine Qk (id:=6) T mixed Wd2 (by kernel_rfl) fun K hK=>?_|refine Qk (id:=11) T mixed Wd3 (by kernel_rfl) fun K hK=>?_|refine Ql fun A B hA hB=>?_|refine Qm ?_|refine Qn ?_|refine Qp ?_|refine Qr ?_)
 | ((with_reducible first|apply Qy|apply Qz|apply QA)<;>intro hb<;>try simp only[nr] at hb)
 |simp only[go_sem,↓reduceIte,reduceIte,Qa,Qh,Qb,Qc,Qd,Qe,Qf,Qg,reduceCtorEq, *]
 |with_reducible refine fun(bn:Bool) hbn=>?_))
  refine Qs [0,1] (fun m ts'=>∃(i:Nat),m=xs.length-i∧i≤xs.length∧xs.take i=ys.take i∧ts'.tmp 5=.int .i64 i) xs.length ?_ ?_
  ·refine⟨0,?_⟩
   simp only[go_sem,↓reduceIte,reduceIte,Qa,Qh,Qb,Qc,Qd,Qe,Qf,Qg,reduceCtorEq, *]
  ·rintro m A hM ts' hk ⟨i,hm,f1,f2,s1⟩
   simp only[go_sem,↓reduceIte,reduceIte,Qa,Qh,Qb,Qc,Qd,Qe,Qf,Qg,reduceCtorEq, *] at hk
   by_cases hlt:i<xs.length
   ·have hlu:i<ys.length:=by omega
    have hne:=ZZ hlt hlu
    rw[JhD] at hne
    have hsm:=hs xs[i] (QC hlt)
    have hsl:=hsm.2.2.1
    (repeat' (first
 | (with_reducible first|assumption|(refine Qw hK _ ?_;clear hK K)|refine Qw ‹_› _ ?_|refine Qx ‹_› ?_|refine Qi fun K hK=>?_|refine Qj T fun K hK=>?_|refine Qk (id:=6) T mixed Wd2 (by kernel_rfl) fun K hK=>?_|refine Qk (id:=11) T mixed Wd3 (by kernel_rfl) fun K hK=>?_|refine Ql fun A B hA hB=>?_|refine Qm ?_|refine Qn ?_|refine Qp ?_|refine Qr ?_)
 | ((with_reducible first|apply Qy|apply Qz|apply QA)<;>intro hb<;>try simp only[nr] at hb)
 |simp only[go_sem,↓reduceIte,reduceIte,Qa,Qh,Qb,Qc,Qd,Qe,Qf,Qg,reduceCtorEq, *]
 |with_reducible refine fun(bn:Bool) hbn=>?_))
    iterate 3 (focus(clear hM;all_goals ((repeat clear hK);(repeat clear hA);(repeat clear hB));grind))
    ·have hls:xs[i].split.length=ys[i].split.length:=by clear hM hK;grind
     refine Qs [0,1,5] (fun m ts'=>∃(j:Nat),m=xs[i].split.length-j∧j≤xs[i].split.length∧xs[i].split.take j=ys[i].split.take j∧ts'.tmp 6=.int .i64 j) xs[i].split.length ?_ ?_
     ·refine⟨0,?_⟩
      simp only[go_sem,↓reduceIte,reduceIte,Qa,Qh,Qb,Qc,Qd,Qe,Qf,Qg,reduceCtorEq, *]
     ·revert hM
      intro hM0
      rintro m A hM ts' hk ⟨j,hm,f1,f2,s1⟩
      simp only[go_sem,↓reduceIte,reduceIte,Qa,Qh,Qb,Qc,Qd,Qe,Qf,Qg,reduceCtorEq, *] at hk
      by_cases hjt:j<xs[i].split.length
      ·have hju:j<ys[i].split.length:=by omega
       have hne2:=ZZ hjt hju
       rw[JdQ] at hne2
       (repeat' (first
 | (with_reducible first|assumption|(refine Qw hK _ ?_;clear hK K)|refine Qw ‹_› _ ?_|refine Qx ‹_› ?_|refine Qi fun K hK=>?_|refine Qj T fun K hK=>?_|refine Qk (id:=6) T mixed Wd2 (by kernel_rfl) fun K hK=>?_|refine Qk (id:=11) T mixed Wd3 (by kernel_rfl) fun K hK=>?_|refine Ql fun A B hA hB=>?_|refine Qm ?_|refine Qn ?_|refine Qp ?_|refine Qr ?_)
 | ((with_reducible first|apply Qy|apply Qz|apply QA)<;>intro hb<;>try simp only[nr] at hb)
 |simp only[go_sem,↓reduceIte,reduceIte,Qa,Qh,Qb,Qc,Qd,Qe,Qf,Qg,reduceCtorEq, *]
 |with_reducible refine fun(bn:Bool) hbn=>?_))
       all_goals ((repeat clear hK);(repeat clear hA);(repeat clear hB))
       all_goals first
        | (refine hM.on (xs[i].split.length-(j+1)) (by omega) (by simp only[go_sem,↓reduceIte,reduceIte,Qa,Qh,Qb,Qc,Qd,Qe,Qf,Qg,reduceCtorEq, *,Jf hjt hsl]) ⟨j+1,rfl,by omega,by clear hM hM0;apply ZY f2 hjt hju;rw[JdQ];grind,?_⟩;simp only[go_sem,↓reduceIte,reduceIte,Qa,Qh,Qb,Qc,Qd,Qe,Qf,Qg,reduceCtorEq, *,Jf hjt hsl];done)
        | (clear hM hM0;grind)
      ·have hju:¬j<ys[i].split.length:=by omega
       have:=ZX f2 hjt hls
       (repeat' (first
 | (with_reducible first|assumption|(refine Qw hK _ ?_;clear hK K)|refine Qw ‹_› _ ?_|refine Qx ‹_› ?_|refine Qi fun K hK=>?_|refine Qj T fun K hK=>?_|refine Qk (id:=6) T mixed Wd2 (by kernel_rfl) fun K hK=>?_|refine Qk (id:=11) T mixed Wd3 (by kernel_rfl) fun K hK=>?_|refine Ql fun A B hA hB=>?_|refine Qm ?_|refine Qn ?_|refine Qp ?_|refine Qr ?_)
 | ((with_reducible first|apply Qy|apply Qz|apply QA)<;>intro hb<;>try simp only[nr] at hb)
 |simp only[go_sem,↓reduceIte,reduceIte,Qa,Qh,Qb,Qc,Qd,Qe,Qf,Qg,reduceCtorEq, *]
 |with_reducible refine fun(bn:Bool) hbn=>?_))
       all_goals ((repeat clear hK);(repeat clear hA);(repeat clear hB))
       all_goals (clear hM;revert hM0;intro hM)
       all_goals first
        | (refine hM.on (xs.length-(i+1)) (by omega) (by simp only[go_sem,↓reduceIte,reduceIte,Qa,Qh,Qb,Qc,Qd,Qe,Qf,Qg,reduceCtorEq, *,Jf hlt hl]) ⟨i+1,rfl,by omega,by clear hM;apply ZY ‹_› hlt hlu;rw[JhD];grind,?_⟩;simp only[go_sem,↓reduceIte,reduceIte,Qa,Qh,Qb,Qc,Qd,Qe,Qf,Qg,reduceCtorEq, *,Jf hlt hl];done)
   ·have:=ZX f2 hlt hll
    (repeat' (first
 | (with_reducible first|assumption|(refine Qw hK _ ?_;clear hK K)|refine Qw ‹_› _ ?_|refine Qx ‹_› ?_|refine Qi fun K hK=>?_|refine Qj T fun K hK=>?_|refine Qk (id:=6) T mixed Wd2 (by kernel_rfl) fun K hK=>?_|refine Qk (id:=11) T mixed Wd3 (by kernel_rfl) fun K hK=>?_|refine Ql fun A B hA hB=>?_|refine Qm ?_|refine Qn ?_|refine Qp ?_|refine Qr ?_)
 | ((with_reducible first|apply Qy|apply Qz|apply QA)<;>intro hb<;>try simp only[nr] at hb)
 |simp only[go_sem,↓reduceIte,reduceIte,Qa,Qh,Qb,Qc,Qd,Qe,Qf,Qg,reduceCtorEq, *]
 |with_reducible refine fun(bn:Bool) hbn=>?_))
    all_goals ((repeat clear hK);(repeat clear hA);(repeat clear hB))
    all_goals (clear hM;grind)
 ·have:¬xs=ys:=by rintro rfl;exact hll rfl
  (repeat' (first
 | (with_reducible first|assumption|(refine Qw hK _ ?_;clear hK K)|refine Qw ‹_› _ ?_|refine Qx ‹_› ?_|refine Qi fun K hK=>?_|refine Qj T fun K hK=>?_|refine Qk (id:=6) T mixed Wd2 (by kernel_rfl) fun K hK=>?_|refine Qk (id:=11) T mixed Wd3 (by kernel_rfl) fun K hK=>?_|refine Ql fun A B hA hB=>?_|refine Qm ?_|refine Qn ?_|refine Qp ?_|refine Qr ?_)
 | ((with_reducible first|apply Qy|apply Qz|apply QA)<;>intro hb<;>try simp only[nr] at hb)
 |simp only[go_sem,↓reduceIte,reduceIte,Qa,Qh,Qb,Qc,Qd,Qe,Qf,Qg,reduceCtorEq, *]
 |with_reducible refine fun(bn:Bool) hbn=>?_))
  all_goals ((repeat clear hK);(repeat clear hA);(repeat clear hB))
  all_goals grind
theorem Ja7{α:Type}(p:α→Bool)(xs:List α):decide (0≤JF p xs 0)=xs.any p:=by
 by_cases h:JF p xs 0=-1
 ·have hn:=JcM p xs 0 (Int.le_refl _) h
  have h2:xs.any p=false:=List.any_eq_false.2 fun x hx=>by simp[hn x hx]
  rw[h,h2];decide
 ·obtain⟨k,h1,h2,h3,h4⟩:=JcN p xs 0 (Int.le_refl _) h
  have h5:xs.any p=true:=List.any_eq_true.2 ⟨xs[k],QC h2,h4 h2⟩
  rw[h1,h5];simp
section closures
theorem Jic(fn:FuncId)(caps:List AV)(hc:Caps caps)(p:Weight→Bool)(xs:List Weight)(hp:∀x∈xs,CallR Tryz.prog fn (.agg [.str x.cluster,.int .i64 x.w] :: caps) (.val (.bool (p x))))(hl:Jc xs.length):CallR Tryz.prog 190 [.slice false (Ja xs),.clo (.func fn) [] caps] (.val (.int .i64 (JF p xs 0))):=by
 have hca:=hc.args
 have hcp:=hc.pure
 have hcn:=hc.nrm
 refine CallR.go2 (T:=T) Tryz.call190 Tryz.func190 rfl Tryz.ntmps190 (congrArg Array.toList Tryz.results190) (by decide) fun ts hn h0 h1=>?_
 (repeat' (first
 | (with_reducible first|assumption|(refine Qw hK _ ?_;clear hK K)|refine Qw ‹_› _ ?_|refine Qx ‹_› ?_|refine Qi fun K hK=>?_|refine Qj T fun K hK=>?_|refine Ql fun A B hA hB=>?_|refine Qm ?_|refine Qn ?_|refine Qp ?_|refine Qr ?_)
 | ((with_reducible first|apply Qy|apply Qz|apply QA)<;>intro hb<;>try simp only[nr] at hb)
 |simp only[go_sem,↓reduceIte,reduceIte,Qa,Qh,Qb,Qc,Qd,Qe,Qf,Qg,reduceCtorEq, *,-hp]
 |with_reducible refine fun(bn:Bool) hbn=>?_))
 refine Qs [0,1,7] (fun m ts'=>∃(i:Nat),m=xs.length-i∧i≤xs.length∧JF p xs 0=JF p (xs.drop i) i∧ts'.tmp 8=.int .i64 i) xs.length ?_ ?_
 ·refine⟨0,?_⟩
  simp only[go_sem,↓reduceIte,reduceIte,Qa,Qh,Qb,Qc,Qd,Qe,Qf,Qg,reduceCtorEq, *,-hp]
 ·rintro m A hM ts' hk ⟨i,hm,f1,f2,s1⟩
  simp only[go_sem,↓reduceIte,reduceIte,Qa,Qh,Qb,Qc,Qd,Qe,Qf,Qg,reduceCtorEq, *] at hk
  by_cases hlt:i<xs.length
  ·rw[List.drop_eq_getElem_cons hlt,JF] at f2
   have hpi:=hp _ (QC hlt)
   (repeat' (first
 | (with_reducible first|refine callX.by (hpi) ?_|assumption|(refine Qw hK _ ?_;clear hK K)|refine Qw ‹_› _ ?_|refine Qx ‹_› ?_|refine Qi fun K hK=>?_|refine Qj T fun K hK=>?_|refine Ql fun A B hA hB=>?_|refine Qm ?_|refine Qn ?_|refine Qp ?_|refine Qr ?_)
 | ((with_reducible first|apply Qy|apply Qz|apply QA)<;>intro hb<;>try simp only[nr] at hb)
 |simp only[go_sem,↓reduceIte,reduceIte,Qa,Qh,Qb,Qc,Qd,Qe,Qf,Qg,reduceCtorEq, *,-hp,-hpi]
 |with_reducible refine fun(bn:Bool) hbn=>?_))
   all_goals ((repeat clear hK);(repeat clear hA);(repeat clear hB))
   rw[if_neg (by simp[hb])] at f2
   (refine hM.on (xs.length-(i+1)) (by omega) (by simp only[go_sem,↓reduceIte,reduceIte,Qa,Qh,Qb,Qc,Qd,Qe,Qf,Qg,reduceCtorEq, *,Jf hlt hl,-f2,-hp,-hpi]) ⟨i+1,rfl,by omega,f2,?_⟩;simp only[go_sem,↓reduceIte,reduceIte,Qa,Qh,Qb,Qc,Qd,Qe,Qf,Qg,reduceCtorEq, *,Jf hlt hl,-f2,-hp,-hpi];done)
  ·rw[List.drop_eq_nil_of_le (by omega),JF] at f2
   (repeat' (first
 | (with_reducible first|assumption|(refine Qw hK _ ?_;clear hK K)|refine Qw ‹_› _ ?_|refine Qx ‹_› ?_|refine Qi fun K hK=>?_|refine Qj T fun K hK=>?_|refine Ql fun A B hA hB=>?_|refine Qm ?_|refine Qn ?_|refine Qp ?_|refine Qr ?_)
 | ((with_reducible first|apply Qy|apply Qz|apply QA)<;>intro hb<;>try simp only[nr] at hb)
 |simp only[go_sem,↓reduceIte,reduceIte,Qa,Qh,Qb,Qc,Qd,Qe,Qf,Qg,reduceCtorEq, *,-hp]
 |with_reducible refine fun(bn:Bool) hbn=>?_))
theorem ZJ(fn:FuncId)(caps:List AV)(hc:Caps caps)(p:Weight→Bool)(xs:List Weight)(hp:∀x∈xs,CallR Tryz.prog fn (.agg [.str x.cluster,.int .i64 x.w] :: caps) (.val (.bool (p x))))(hl:Jc xs.length):CallR Tryz.prog 170 [.slice false (Ja xs),.clo (.func fn) [] caps] (.val (.bool (xs.any p))):=by
 have hca:=hc.args
 have hcp:=hc.pure
 have hcn:=hc.nrm
 have hi:=Jic fn caps hc p xs hp hl
 have ha:=Ja7 p xs
 refine CallR.go2 (T:=T) Tryz.call170 Tryz.func170 rfl Tryz.ntmps170 (congrArg Array.toList Tryz.results170) (by decide) fun ts hn h0 h1=>?_
 (repeat' (first
 | (with_reducible first|refine callX.by (hi) ?_|refine callX.by (Jic _ _ ?_ _ _ ?_ ?_) ?_|assumption|(refine Qw hK _ ?_;clear hK K)|refine Qw ‹_› _ ?_|refine Qx ‹_› ?_|refine Qi fun K hK=>?_|refine Qj T fun K hK=>?_|refine Ql fun A B hA hB=>?_|refine Qn ?_|refine Qr ?_)
 | ((with_reducible first|apply Qy|apply Qz|apply QA)<;>intro hb<;>try simp only[nr] at hb)
 |simp only[go_sem,↓reduceIte,reduceIte,Qa,Qh,Qb,Qc,Qd,Qe,Qf,Qg,reduceCtorEq, *,-hp,-hi]
 |with_reducible refine fun(bn:Bool) hbn=>?_))
theorem Jib(fn:FuncId)(caps:List AV)(hc:Caps caps)(p:Rule→Bool)(xs:List Rule)(hp:∀x∈xs,CallR Tryz.prog fn (.agg [.str x.host,.str x.pfx,.slice false (Ja x.split)] :: caps) (.val (.bool (p x))))(hl:Jc xs.length):CallR Tryz.prog 191 [.slice false (Ja xs),.clo (.func fn) [] caps] (.val (.int .i64 (JF p xs 0))):=by
 have hca:=hc.args
 have hcp:=hc.pure
 have hcn:=hc.nrm
 refine CallR.go2 (T:=T) Tryz.call191 Tryz.func191 rfl Tryz.ntmps191 (congrArg Array.toList Tryz.results191) (by decide) fun ts hn h0 h1=>?_
 (repeat' (first
 | (with_reducible first|assumption|(refine Qw hK _ ?_;clear hK K)|refine Qw ‹_› _ ?_|refine Qx ‹_› ?_|refine Qi fun K hK=>?_|refine Qj T fun K hK=>?_|refine Ql fun A B hA hB=>?_|refine Qm ?_|refine Qn ?_|refine Qp ?_|refine Qr ?_)
 | ((with_reducible first|apply Qy|apply Qz|apply QA)<;>intro hb<;>try simp only[nr] at hb)
 |simp only[go_sem,↓reduceIte,reduceIte,Qa,Qh,Qb,Qc,Qd,Qe,Qf,Qg,reduceCtorEq, *,-hp]
 |with_reducible refine fun(bn:Bool) hbn=>?_))
 refine Qs [0,1,7] (fun m ts'=>∃(i:Nat),m=xs.length-i∧i≤xs.length∧JF p xs 0=JF p (xs.drop i) i∧ts'.tmp 8=.int .i64 i) xs.length ?_ ?_
 ·refine⟨0,?_⟩
  simp only[go_sem,↓reduceIte,reduceIte,Qa,Qh,Qb,Qc,Qd,Qe,Qf,Qg,reduceCtorEq, *,-hp]
 ·rintro m A hM ts' hk ⟨i,hm,f1,f2,s1⟩
  simp only[go_sem,↓reduceIte,reduceIte,Qa,Qh,Qb,Qc,Qd,Qe,Qf,Qg,reduceCtorEq, *] at hk
  by_cases hlt:i<xs.length
  ·rw[List.drop_eq_getElem_cons hlt,JF] at f2
   have hpi:=hp _ (QC hlt)
   (repeat' (first
 | (with_reducible first|refine callX.by (hpi) ?_|assumption|(refine Qw hK _ ?_;clear hK K)|refine Qw ‹_› _ ?_|refine Qx ‹_› ?_|refine Qi fun K hK=>?_|refine Qj T fun K hK=>?_|refine Ql fun A B hA hB=>?_|refine Qm ?_|refine Qn ?_|refine Qp ?_|refine Qr ?_)
 | ((with_reducible first|apply Qy|apply Qz|apply QA)<;>intro hb<;>try simp only[nr] at hb)
 |simp only[go_sem,↓reduceIte,reduceIte,Qa,Qh,Qb,Qc,Qd,Qe,Qf,Qg,reduceCtorEq, *,-hp,-hpi]
 |with_reducible refine fun(bn:Bool) hbn=>?_))
   all_goals ((repeat clear hK);(repeat clear hA);(repeat clear hB))
   rw[if_neg (by simp[hb])] at f2
   (refine hM.on (xs.length-(i+1)) (by omega) (by simp only[go_sem,↓reduceIte,reduceIte,Qa,Qh,Qb,Qc,Qd,Qe,Qf,Qg,reduceCtorEq, *,Jf hlt hl,-f2,-hp,-hpi]) ⟨i+1,rfl,by omega,f2,?_⟩;simp only[go_sem,↓reduceIte,reduceIte,Qa,Qh,Qb,Qc,Qd,Qe,Qf,Qg,reduceCtorEq, *,Jf hlt hl,-f2,-hp,-hpi];done)
  ·rw[List.drop_eq_nil_of_le (by omega),JF] at f2
   (repeat' (first
 | (with_reducible first|assumption|(refine Qw hK _ ?_;clear hK K)|refine Qw ‹_› _ ?_|refine Qx ‹_› ?_|refine Qi fun K hK=>?_|refine Qj T fun K hK=>?_|refine Ql fun A B hA hB=>?_|refine Qm ?_|refine Qn ?_|refine Qp ?_|refine Qr ?_)
 | ((with_reducible first|apply Qy|apply Qz|apply QA)<;>intro hb<;>try simp only[nr] at hb)
 |simp only[go_sem,↓reduceIte,reduceIte,Qa,Qh,Qb,Qc,Qd,Qe,Qf,Qg,reduceCtorEq, *,-hp]
 |with_reducible refine fun(bn:Bool) hbn=>?_))
theorem Jav(fn:FuncId)(caps:List AV)(hc:Caps caps)(p:Rule→Bool)(xs:List Rule)(hp:∀x∈xs,CallR Tryz.prog fn (.agg [.str x.host,.str x.pfx,.slice false (Ja x.split)] :: caps) (.val (.bool (p x))))(hl:Jc xs.length):CallR Tryz.prog 174 [.slice false (Ja xs),.clo (.func fn) [] caps] (.val (.bool (xs.any p))):=by
 have hca:=hc.args
 have hcp:=hc.pure
 have hcn:=hc.nrm
 have hi:=Jib fn caps hc p xs hp hl
 have ha:=Ja7 p xs
 refine CallR.go2 (T:=T) Tryz.call174 Tryz.func174 rfl Tryz.ntmps174 (congrArg Array.toList Tryz.results174) (by decide) fun ts hn h0 h1=>?_
 (repeat' (first
 | (with_reducible first|refine callX.by (hi) ?_|refine callX.by (Jib _ _ ?_ _ _ ?_ ?_) ?_|assumption|(refine Qw hK _ ?_;clear hK K)|refine Qw ‹_› _ ?_|refine Qx ‹_› ?_|refine Qi fun K hK=>?_|refine Qj T fun K hK=>?_|refine Ql fun A B hA hB=>?_|refine Qn ?_|refine Qr ?_)
 | ((with_reducible first|apply Qy|apply Qz|apply QA)<;>intro hb<;>try simp only[nr] at hb)
 |simp only[go_sem,↓reduceIte,reduceIte,Qa,Qh,Qb,Qc,Qd,Qe,Qf,Qg,reduceCtorEq, *,-hp,-hi]
 |with_reducible refine fun(bn:Bool) hbn=>?_))
end closures
def YY(n most:Int):Bool:=decide (0≤n) && decide (n≤most)
theorem Jbw(n most:Int):CallR Tryz.prog 131 [.int .i64 n,.int .i64 most] (.val (.bool (YY n most))):=by
 refine CallR.go2 (T:=T) Tryz.call131 Tryz.func131 rfl Tryz.ntmps131 (congrArg Array.toList Tryz.results131) (by decide) fun ts hn h0 h1=>?_
 (repeat' (first
 | (with_reducible first|assumption|(refine Qw hK _ ?_;clear hK K)|refine Qw ‹_› _ ?_|refine Qx ‹_› ?_|refine Qi fun K hK=>?_|refine Qj T fun K hK=>?_|refine Ql fun A B hA hB=>?_|refine Qn ?_|refine Qr ?_)
 | ((with_reducible first|apply Qy|apply Qz|apply QA)<;>intro hb<;>try simp only[nr] at hb)
 |simp only[go_sem,↓reduceIte,reduceIte,Qa,Qh,Qb,Qc,Qd,Qe,Qf,Qg,reduceCtorEq, *]
 |with_reducible refine fun(bn:Bool) hbn=>?_))
 all_goals ((repeat clear hK);(repeat clear hA);(repeat clear hB))
 all_goals (simp only[YY];rw[Bool.eq_iff_iff];simp only[Bool.and_eq_true,Bool.or_eq_true,Bool.not_eq_true',Bool.false_eq_true,decide_eq_true_eq,decide_eq_false_iff_not,true_and,and_true,true_iff,false_iff,iff_true,iff_false,true_or,or_true,false_or,or_false] at *;omega)
theorem Jcp(w_cluster:List UInt8)(w_w:Int):CallR Tryz.prog 171 [.agg [.str w_cluster,.int .i64 w_w]] (.val (.bool (!YY w_w 100))):=by
 refine QD (T:=T) Tryz.call171 Tryz.func171 rfl Tryz.ntmps171 (congrArg Array.toList Tryz.results171) (by decide) fun ts hn h0=>?_
 (repeat' (first
 | (with_reducible first|refine callX.by (Jbw _ _) ?_|assumption|(refine Qw hK _ ?_;clear hK K)|refine Qw ‹_› _ ?_|refine Qx ‹_› ?_|refine Qi fun K hK=>?_|refine Qj T fun K hK=>?_|refine Ql fun A B hA hB=>?_|refine Qn ?_|refine Qr ?_)
 | ((with_reducible first|apply Qy|apply Qz|apply QA)<;>intro hb<;>try simp only[nr] at hb)
 |simp only[go_sem,↓reduceIte,reduceIte,Qa,Qh,Qb,Qc,Qd,Qe,Qf,Qg,reduceCtorEq, *]
 |with_reducible refine fun(bn:Bool) hbn=>?_))
theorem Jjz(w_cluster:List UInt8)(w_w:Int):CallR Tryz.prog 194 [.agg [.str w_cluster,.int .i64 w_w]] (.val (.bool (!VN w_cluster))):=by
 refine QD (T:=T) Tryz.call194 Tryz.func194 rfl Tryz.ntmps194 (congrArg Array.toList Tryz.results194) (by decide) fun ts hn h0=>?_
 (repeat' (first
 | (with_reducible first|refine callX.by (Jb8 _) ?_|assumption|(refine Qw hK _ ?_;clear hK K)|refine Qw ‹_› _ ?_|refine Qx ‹_› ?_|refine Qi fun K hK=>?_|refine Qj T fun K hK=>?_|refine Ql fun A B hA hB=>?_|refine Qn ?_|refine Qr ?_)
 | ((with_reducible first|apply Qy|apply Qz|apply QA)<;>intro hb<;>try simp only[nr] at hb)
 |simp only[go_sem,↓reduceIte,reduceIte,Qa,Qh,Qb,Qc,Qd,Qe,Qf,Qg,reduceCtorEq, *]
 |with_reducible refine fun(bn:Bool) hbn=>?_))
theorem Jkb(w_cluster:List UInt8)(w_w:Int):CallR Tryz.prog 195 [.agg [.str w_cluster,.int .i64 w_w]] (.val (.bool (decide (0<w_w)))):=by
 refine QD (T:=T) Tryz.call195 Tryz.func195 rfl Tryz.ntmps195 (congrArg Array.toList Tryz.results195) (by decide) fun ts hn h0=>?_
 (repeat' (first
 | (with_reducible first|assumption|(refine Qw hK _ ?_;clear hK K)|refine Qw ‹_› _ ?_|refine Qx ‹_› ?_|refine Qi fun K hK=>?_|refine Qj T fun K hK=>?_|refine Ql fun A B hA hB=>?_|refine Qn ?_|refine Qr ?_)
 | ((with_reducible first|apply Qy|apply Qz|apply QA)<;>intro hb<;>try simp only[nr] at hb)
 |simp only[go_sem,↓reduceIte,reduceIte,Qa,Qh,Qb,Qc,Qd,Qe,Qf,Qg,reduceCtorEq, *]
 |with_reducible refine fun(bn:Bool) hbn=>?_))
def Jkc(x:Rule):Bool:=x.split.any fun w=>decide (0<w.w)
theorem Jds(x_host:List UInt8)(x_pfx:List UInt8)(x_split:List Weight)(hl:Jc x_split.length):CallR Tryz.prog 178 [.agg [.str x_host,.str x_pfx,.slice false (Ja x_split)]] (.val (.bool (Jkc (⟨x_host,x_pfx,x_split⟩:Rule)))):=by
 have h:=ZJ 195 [] Caps.nil (fun w=>decide (0<w.w)) x_split (fun w _=>Jkb w.cluster w.w) hl
 refine QD (T:=T) Tryz.call178 Tryz.func178 rfl Tryz.ntmps178 (congrArg Array.toList Tryz.results178) (by decide) fun ts hn h0=>?_
 (repeat' (first
 | (with_reducible first|refine callX.by (h) ?_|refine callX.by (ZJ _ _ ?_ _ _ ?_ ?_) ?_|refine callX.by (Jkb _ _) ?_|assumption|(refine Qw hK _ ?_;clear hK K)|refine Qw ‹_› _ ?_|refine Qx ‹_› ?_|refine Qi fun K hK=>?_|refine Qj T fun K hK=>?_|refine Ql fun A B hA hB=>?_|refine Qn ?_|refine Qr ?_)
 | ((with_reducible first|apply Qy|apply Qz|apply QA)<;>intro hb<;>try simp only[nr] at hb)
 |simp only[go_sem,↓reduceIte,reduceIte,Qa,Qh,Qb,Qc,Qd,Qe,Qf,Qg,reduceCtorEq, *,-h]
 |with_reducible refine fun(bn:Bool) hbn=>?_))
 all_goals rfl
def Jcn(x:Rule):Bool:=JfA x.host && (Jci x.pfx && !(x.split.any fun w=>!VN w.cluster))
theorem JnH(x_host:List UInt8)(x_pfx:List UInt8)(x_split:List Weight)(hh:Jc x_host.length)(hl:Jc x_split.length):CallR Tryz.prog 176 [.agg [.str x_host,.str x_pfx,.slice false (Ja x_split)]] (.val (.bool (Jcn (⟨x_host,x_pfx,x_split⟩:Rule)))):=by
 have h:=ZJ 194 [] Caps.nil (fun w=>!VN w.cluster) x_split (fun w _=>Jjz w.cluster w.w) hl
 refine QD (T:=T) Tryz.call176 Tryz.func176 rfl Tryz.ntmps176 (congrArg Array.toList Tryz.results176) (by decide) fun ts hn h0=>?_
 (repeat' (first
 | (with_reducible first|refine callX.by (h) ?_|refine callX.by (JlO _ ?_) ?_|refine callX.by (Jna _) ?_|refine callX.by (ZJ _ _ ?_ _ _ ?_ ?_) ?_|refine callX.by (Jjz _ _) ?_|assumption|(refine Qw hK _ ?_;clear hK K)|refine Qw ‹_› _ ?_|refine Qx ‹_› ?_|refine Qi fun K hK=>?_|refine Qj T fun K hK=>?_|refine Ql fun A B hA hB=>?_|refine Qn ?_|refine Qr ?_)
 | ((with_reducible first|apply Qy|apply Qz|apply QA)<;>intro hb<;>try simp only[nr] at hb)
 |simp only[go_sem,↓reduceIte,reduceIte,Qa,Qh,Qb,Qc,Qd,Qe,Qf,Qg,reduceCtorEq, *,-h]
 |with_reducible refine fun(bn:Bool) hbn=>?_))
 all_goals ((repeat clear hK);(repeat clear hA);(repeat clear hB))
 all_goals (clear h;simp_all[Jcn])
theorem JiC(x_host:List UInt8)(x_pfx:List UInt8)(x_split:List Weight)(hh:Jc x_host.length)(hl:Jc x_split.length):CallR Tryz.prog 175 [.agg [.str x_host,.str x_pfx,.slice false (Ja x_split)]] (.val (.bool (!Jcn (⟨x_host,x_pfx,x_split⟩:Rule)))):=by
 refine QD (T:=T) Tryz.call175 Tryz.func175 rfl Tryz.ntmps175 (congrArg Array.toList Tryz.results175) (by decide) fun ts hn h0=>?_
 (repeat' (first
 | (with_reducible first|refine callX.by (JnH _ _ _ ?_ ?_) ?_|assumption|(refine Qw hK _ ?_;clear hK K)|refine Qw ‹_› _ ?_|refine Qx ‹_› ?_|refine Qi fun K hK=>?_|refine Qj T fun K hK=>?_|refine Ql fun A B hA hB=>?_|refine Qn ?_|refine Qr ?_)
 | ((with_reducible first|apply Qy|apply Qz|apply QA)<;>intro hb<;>try simp only[nr] at hb)
 |simp only[go_sem,↓reduceIte,reduceIte,Qa,Qh,Qb,Qc,Qd,Qe,Qf,Qg,reduceCtorEq, *]
 |with_reducible refine fun(bn:Bool) hbn=>?_))
theorem Jit(k:Int):CallR Tryz.prog 173 [.int .i64 k] (.val (.agg [.bool (decide (k=0)),.bool (decide (k=0) || decide (k=2)),.bool (decide (k=1)),.bool (decide (k=3))])):=by
 refine QD (T:=T) Tryz.call173 Tryz.func173 rfl Tryz.ntmps173 (congrArg Array.toList Tryz.results173) (by decide) fun ts hn h0=>?_
 (repeat' (first
 | (with_reducible first|assumption|(refine Qw hK _ ?_;clear hK K)|refine Qw ‹_› _ ?_|refine Qx ‹_› ?_|refine Qi fun K hK=>?_|refine Qj T fun K hK=>?_|refine Ql fun A B hA hB=>?_|refine Qn ?_|refine Qr ?_)
 | ((with_reducible first|apply Qy|apply Qz|apply QA)<;>intro hb<;>try simp only[nr] at hb)
 |simp only[go_sem,↓reduceIte,reduceIte,Qa,Qh,Qb,Qc,Qd,Qe,Qf,Qg,reduceCtorEq, *]
 |with_reducible refine fun(bn:Bool) hbn=>?_))
 all_goals ((repeat clear hK);(repeat clear hA);(repeat clear hB))
 all_goals simp_all
def Jbb(r:Res):Bool:=!((decide (r.kind=0) || decide (r.kind=2)) && !VN r.to') && !(r.rules'.any fun x=>!Jcn x)
theorem JmB(r_kind:Int)(r_name:List UInt8)(r_ver:Int)(r_port:Int)(r_to:List UInt8)(r_rules:List Rule)(r_hosts:List Int)(hl:Jc r_rules.length)(hs:∀x∈r_rules,Yw x):CallR Tryz.prog 135 [.agg [.int .i64 r_kind,.str r_name,.int .i64 r_ver,.int .i64 r_port,.str r_to,.slice false (Ja r_rules),.slice false (Ja r_hosts)]] (.val (.bool (Jbb (⟨r_kind,r_name,r_ver,r_port,r_to,r_rules,r_hosts⟩:Res)))):=by
 have h:=Jav 175 [] Caps.nil (fun x=>!Jcn x) r_rules (fun x hx=>JiC x.host x.pfx x.split (hs x hx).1 (hs x hx).2.2.1) hl
 refine QD (T:=T) Tryz.call135 Tryz.func135 rfl Tryz.ntmps135 (congrArg Array.toList Tryz.results135) (by decide) fun ts hn h0=>?_
 (repeat' (first
 | (with_reducible first|refine callX.by (h) ?_|refine callX.by (Jit _) ?_|refine callX.by (Jb8 _) ?_|refine callX.by (Jav _ _ ?_ _ _ ?_ ?_) ?_|refine callX.by (JiC _ _ _ ?_ ?_) ?_|assumption|(refine Qw hK _ ?_;clear hK K)|refine Qw ‹_› _ ?_|refine Qx ‹_› ?_|refine Qi fun K hK=>?_|refine Qj T fun K hK=>?_|refine Ql fun A B hA hB=>?_|refine Qn ?_|refine Qr ?_)
 | ((with_reducible first|apply Qy|apply Qz|apply QA)<;>intro hb<;>try simp only[nr] at hb)
 |simp only[go_sem,↓reduceIte,reduceIte,Qa,Qh,Qb,Qc,Qd,Qe,Qf,Qg,reduceCtorEq, *,-h]
 |with_reducible refine fun(bn:Bool) hbn=>?_))
 all_goals ((repeat clear hK);(repeat clear hA);(repeat clear hB))
 all_goals (clear h hs;simp_all[Jbb])
 all_goals (intros;omega)
end Go.Proofs.YtihahfhagobnoaaGreatDoor.Lg
