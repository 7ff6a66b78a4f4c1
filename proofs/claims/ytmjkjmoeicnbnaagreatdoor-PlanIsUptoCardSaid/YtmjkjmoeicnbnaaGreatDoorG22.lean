/- Parts of the proof, one behind the other. -/
import Derived.Test.YtmjkjmoeicnbnaaGreatDoorG21
namespace Go.Proofs.YtmjkjmoeicnbnaaGreatDoor.Lg
set_option maxRecDepth 100000
set_option linter.unusedVariables false
set_option linter.unusedSimpArgs false
open Go
open Nat renaming reduceEqDiff → Qa, reduceLT → Qb, reduceLeDiff → Qc, reduceAdd → Qd, reduceMul → Qe, reduceSub → Qf, reduceBEq → Qg
open String renaming reduceEq → Qh
open SpecC renaming seqW → Qi, regW → Qj, drawW → Qk, condW → Ql, block → Qm, skip → Qn, exit → Qp, ret → Qr, loopF → Qs
open NxK renaming out → Qw
open Nx renaming out → Qx
open condK renaming split → Qy
open gK renaming split_t → Qz, split_f → QA
theorem tget_key6{l:List Res}{k:Key}:(JF l k).isSome=true↔k∈l.map Je:=by
 unfold JF
 rw[List.find?_isSome]
 constructor
 ·rintro⟨r,hr,h⟩
  exact List.mem_map.2 ⟨r,hr,by simpa using h⟩
 ·intro h
  obtain⟨r,hr,h⟩:=List.mem_map.1 h
  exact⟨r,hr,by simpa using h⟩
theorem YA(xs:List Res)(k_kind:Int)(k_name:List UInt8)(hl:Jc xs.length):CallR Tryz.prog 76 [.slice false (Ja xs),.agg [.int .i64 k_kind,.str k_name]] (.val (.bool (JF xs (⟨k_kind,k_name⟩:Key)).isSome)):=by
 have w1:=YT xs k_kind k_name hl
 rw[JbZ] at w1
 generalize (JF xs (⟨k_kind,k_name⟩:Key)).isSome=b at *
 generalize (JF xs (⟨k_kind,k_name⟩:Key)).getD Jbb=z at *
 refine CallR.go2 (T:=T) Tryz.call76 Tryz.func76 rfl Tryz.ntmps76 (congrArg Array.toList Tryz.results76) (by decide) fun ts hn h0 h1=>?_
 (repeat' (first
 | (with_reducible first|refine callX.by (w1) ?_|refine callX.by (YT _ _ _ ?_) ?_|assumption|(refine Qw hK _ ?_;clear hK K)|refine Qw ‹_› _ ?_|refine Qx ‹_› ?_|refine Qi fun K hK=>?_|refine Qj T fun K hK=>?_|refine Ql fun A B hA hB=>?_|refine Qn ?_|refine Qr ?_)
 | ((with_reducible first|apply Qy|apply Qz|apply QA)<;>intro hb<;>try simp only[nr] at hb)
 |simp only[go_sem,↓reduceIte,reduceIte,Qa,Qh,Qb,Qc,Qd,Qe,Qf,Qg,reduceCtorEq, *,-w1]
 |with_reducible refine fun(bn:Bool) hbn=>?_))
def VC(l:List Res)(out:List Key)(k:Key):List Key:=if(JF l k).isSome=true∧¬k∈out then out++[k] else out
def V8(l:List Res)(out:List Key)(r:Res):List Key:=if Je r∈out then (Jk r).foldl (VC l) out else out
def Ja6(l:List Res)(out:List Key):List Key:=l.foldl (V8 l) out
def YN(l:List Res):Nat→List Key→List Key
 |0,out=>out
 |n+1,out=>YN l n (Ja6 l out)
def YW(l:List Res):List Key:=(l.filter fun r=>decide (r.kind=0)).map Je
def Z8(l:List Res):List Key:=YN l 4 (YW l)
theorem Jd7(l:List Res)(out:List Key)(k:Key){x:Key}(h:x∈out):x∈VC l out k:=by
 unfold VC;split
 ·exact List.mem_append_left _ h
 ·exact h
theorem Jd8(l:List Res):∀(ks out:List Key) {x:Key},x∈out→x∈ks.foldl (VC l) out
 | [],_,_,h=>h
 |k :: ks,out,_,h=>Jd8 l ks _ (Jd7 l out k h)
theorem Jil(l:List Res)(out:List Key)(r:Res){x:Key}(h:x∈out):x∈V8 l out r:=by
 unfold V8;split
 ·exact Jd8 l _ _ h
 ·exact h
theorem Jfh(l:List Res):∀(m:List Res) (out:List Key) {x:Key},x∈out→x∈m.foldl (V8 l) out
 | [],_,_,h=>h
 |r :: m,out,_,h=>Jfh l m _ (Jil l out r h)
theorem JfG(l:List Res):∀(ks out:List Key) {x:Key},x∈ks→(JF l x).isSome=true→x∈ks.foldl (VC l) out
 | [],_,_,h,_=>by simp at h
 |k :: ks,out,x,h,ht=>by
  rw[List.foldl_cons]
  rcases List.mem_cons.1 h with rfl|h
  ·refine Jd8 l ks _ ?_
   unfold VC
   split
   ·simp
   ·rename_i hn
    by_cases hx:x∈out
    ·exact hx
    ·exact absurd ⟨ht,hx⟩ hn
  ·exact JfG l ks _ h ht
theorem JhW(l:List Res):∀(m:List Res) (out:List Key) {r:Res} {x:Key},r∈m→Je r∈out→x∈Jk r→(JF l x).isSome=true→x∈m.foldl (V8 l) out
 | [],_,_,_,h,_,_,_=>by simp at h
 |q :: m,out,r,x,h,hk,hx,ht=>by
  rw[List.foldl_cons]
  rcases List.mem_cons.1 h with rfl|h
  ·refine Jfh l m _ ?_
   unfold V8
   rw[if_pos hk]
   exact JfG l _ _ hx ht
  ·exact JhW l m _ h (Jil l out q hk) hx ht
theorem Jh0(l:List Res):∀(n:Nat) (out:List Key) {x:Key},x∈out→x∈YN l n out
 |0,_,_,h=>h
 |n+1,out,_,h=>Jh0 l n _ (Jfh l l out h)
inductive RchN(l:List Res):Nat→Key→Prop
 |base (r:Res):r∈l→r.kind=0→RchN l 0 (Je r)
 |step (n:Nat) (r:Res) (x:Key):r∈l→RchN l n (Je r)→x∈Jk r→x∈l.map Je→RchN l (n+1) x
theorem JhX(l:List Res):∀(n:Nat) (out:List Key) (j:Nat),(∀x,RchN l j x→x∈out)→∀x,RchN l (j+n) x→x∈YN l n out
 |0,_,_,h,x,hx=>h x hx
 |n+1,out,j,h,x,hx=>by
  refine JhX l n (Ja6 l out) (j+1) (fun y hy=>?_) x (by rw[show j+1+n=j+(n+1) by omega];exact hx)
  cases hy with
  |step _ r _ hr hk hy hm=>exact JhW l l out hr (h _ hk) hy (tget_key6.2 hm)
theorem kind0_mem{l:List Res}{x:Key}:x∈YW l↔RchN l 0 x:=by
 unfold YW
 rw[List.mem_map]
 constructor
 ·rintro⟨r,hr,rfl⟩
  obtain⟨h1,h2⟩:=List.mem_filter.1 hr
  exact .base r h1 (by simpa using h2)
 ·intro h
  cases h with
  |base r h1 h2=>exact⟨r,List.mem_filter.2 ⟨h1,by simpa using h2⟩,rfl⟩
theorem JlZ{r:Res}{x:Key}(h:x∈Jk r):x.kind=r.kind+1∧0≤r.kind∧r.kind≤2:=by
 by_cases hs:JW r=0
 ·refine⟨(JlY hs x h).1,?_⟩
  obtain⟨h1,h2,_⟩:=JdL hs
  rw[(Jdx hs).2] at h
  rcases List.mem_append.1 h with h|h
  ·have hto:r.to'≠[]:=by
    intro e
    unfold Vg at h
    rw[if_pos e] at h
    simp at h
   rcases h1 hto with e|e<;>omega
  ·have hru:r.rules'≠[]:=by
    intro e
    rw[e] at h
    simp[JK] at h
   have:=h2 hru
   omega
 ·unfold Jk at h
  rw[if_neg hs] at h
  simp at h
theorem JlH{l:List Res}{x:Key}(h:Rch l x):∃n:Nat,n≤3∧x.kind=n∧RchN l n x:=by
 induction h with
 |base r hr hk=>exact⟨0,by omega,by simpa[Je] using hk,.base r hr hk⟩
 |step r x hr _ hx hm ih =>
  obtain⟨n,h1,h2,h3⟩:=ih
  have hk:r.kind=n:=by simpa[Je] using h2
  obtain⟨q1,q2,q3⟩:=JlZ hx
  exact⟨n+1,by omega,by omega,.step n r x hr h3 hx hm⟩
theorem JiS{l:List Res}{out:List Key}{k:Key}(P:Key→Prop)(ho:∀x∈out,P x)(hk:(JF l k).isSome=true→P k):∀x∈VC l out k,P x:=by
 unfold VC
 split
 ·rename_i h
  intro x hx
  rcases List.mem_append.1 hx with hx|hx
  ·exact ho x hx
  ·rw[List.mem_singleton] at hx;subst hx;exact hk h.1
 ·exact ho
theorem JfI{l:List Res}(P:Key→Prop):∀(ks out:List Key),(∀x∈out,P x)→(∀k∈ks,(JF l k).isSome=true→P k)→∀x∈ks.foldl (VC l) out,P x
 | [],_,ho,_=>ho
 |k :: ks,out,ho,hk=>JfI P ks _ (JiS P ho (hk k (by simp))) fun y hy=>hk y (by simp[hy])
theorem Jim{l:List Res}:∀(m:List Res) (out:List Key),(∀r∈m,r∈l)→(∀x∈out,Rch l x)→∀x∈m.foldl (V8 l) out,Rch l x
 | [],_,_,ho=>ho
 |r :: m,out,hm,ho=>by
  rw[List.foldl_cons]
  refine Jim m _ (fun q hq=>hm q (by simp[hq])) ?_
  unfold V8
  split
  ·rename_i hk
   exact JfI (Rch l) _ _ ho fun k hkr ht=>.step r k (hm r (by simp)) (ho _ hk) hkr (tget_key6.1 ht)
  ·exact ho
theorem JhZ{l:List Res}:∀(n:Nat) (out:List Key),(∀x∈out,Rch l x)→∀x∈YN l n out,Rch l x
 |0,_,ho=>ho
 |n+1,out,ho=>JhZ n _ (Jim l out (fun _ h=>h) ho)
theorem JlR(l:List Res)(x:Key):x∈Z8 l↔Rch l x:=by
 unfold Z8
 constructor
 ·refine JhZ 4 _ (fun y hy=>?_) x
  cases kind0_mem.1 hy with
  |base r h1 h2=>exact .base r h1 h2
 ·intro h
  obtain⟨n,h1,_,h3⟩:=JlH h
  have hn:∀(a b:Nat) (out:List Key),YN l (a+b) out=YN l b (YN l a out):=by
   intro a
   induction a with
   |zero=>intro b out;rw[Nat.zero_add];rfl
   |succ a ih=>intro b out;rw[Nat.succ_add];exact ih b _
  rw[show 4=n+(4-n) by omega,hn]
  exact Jh0 l _ _ (JhX l n _ 0 (fun y hy=>kind0_mem.2 hy) x (by rwa [Nat.zero_add]))
theorem JiR(l:List Res)(out:List Key)(k:Key):(VC l out k).length≤out.length+1:=by
 unfold VC;split<;>simp
theorem JfH(l:List Res):∀(ks out:List Key),(ks.foldl (VC l) out).length≤out.length+ks.length
 | [],_=>Nat.le_refl _
 |k :: ks,out=>by
  have h1:=JfH l ks (VC l out k)
  have h2:=JiR l out k
  simp only[List.foldl_cons,List.length_cons]
  omega
theorem JmK(l:List Res)(out:List Key)(r:Res):(V8 l out r).length≤out.length+33:=by
 have h1:=JfH l (Jk r) out
 have h2:=JbJ r
 unfold V8
 split<;>omega
def JaC(l:List Res)(out:List Key)(r:Res)(j:Nat):List Key:=if Je r∈out then ((Jk r).drop j).foldl (VC l) out else out
theorem Jl8{l:List Res}{p:List Key}{r:Res}{j:Nat}(h:Je r∈p)(hj:j<(Jk r).length):JaC l p r j=JaC l (VC l p (Jk r)[j]) r (j+1):=by
 unfold JaC
 rw[if_pos h,if_pos (Jd7 l p _ h),List.drop_eq_getElem_cons hj,List.foldl_cons]
theorem Jl7{l:List Res}{p:List Key}{r:Res}{j:Nat}(hj:(Jk r).length≤j):JaC l p r j=p:=by
 unfold JaC
 rw[List.drop_eq_nil_of_le hj]
 split<;>rfl
theorem Jl9{l:List Res}{p:List Key}{r:Res}{j:Nat}(h:¬Je r∈p):JaC l p r j=p:=by
 unfold JaC
 rw[if_neg h]
theorem JkD(x:Res)(l:List Res):YW (x :: l)=if x.kind=0 then Je x :: YW l else YW l:=by
 unfold YW
 rw[List.filter_cons]
 by_cases h:x.kind=0<;>simp[h]
set_option maxHeartbeats 8000000 in
theorem Jcs(xs:List Res)(hl:xs.length≤65536)(hs:∀r∈xs,Jw r):CallR Tryz.prog 85 [.slice false (Ja xs)] (.own 2 (Ja (Z8 xs))):=by
 have hsl:=Yz hl
 refine CallR.go1 (T:=T) Tryz.call85 Tryz.func85 rfl Tryz.ntmps85 (congrArg Array.toList Tryz.results85) (by decide) fun ts hn h0=>?_
 (repeat' (first
 | (with_reducible first|refine callX.by (JC _ _ _ _ _ _ _) ?_|refine callX.by (VG _ _ _ _ _ _ _ ?_ ?_ ?_ ?_) ?_|refine callX.by (JJ _ _ _ ?_) ?_|refine callX.by (YA _ _ _ ?_) ?_|assumption|(refine Qw hK _ ?_;clear hK K)|refine Qw ‹_› _ ?_|refine Qx ‹_› ?_|refine Qi fun K hK=>?_|refine Qj T fun K hK=>?_|refine Ql fun A B hA hB=>?_|refine Qm ?_|refine Qn ?_|refine Qp ?_|refine Qr ?_)
 | ((with_reducible first|apply Qy|apply Qz|apply QA)<;>intro hb<;>try simp only[nr] at hb)
 |simp only[go_sem,↓reduceIte,reduceIte,Qa,Qh,Qb,Qc,Qd,Qe,Qf,Qg,reduceCtorEq, *,-hs]
 |with_reducible refine fun(bn:Bool) hbn=>?_))
 refine SpecC.ent (Ent.virt 3 2 (by simp only[go_sem,↓reduceIte,reduceIte,Qa,Qh,Qb,Qc,Qd,Qe,Qf,Qg,reduceCtorEq, *,-hs]) (by decide)) ?_
 refine Qs [0] (fun m ts'=>∃(i:Nat),∃(g:Nat),∃(ys:List Key),m=xs.length-i∧i≤xs.length∧ys.length≤i∧YW xs=ys++YW (xs.drop i)∧ts'.tmp 3=.os 3 g ys.length∧ts'.gen 3=g∧ts'.obj 3=.arr 2 (Ja ys)∧ts'.tmp 4=.int .i64 i) xs.length ?_ ?_
 ·refine⟨0,ts.gen 3+1,[],rfl,Nat.zero_le _,Nat.le_refl _,rfl,?_⟩
  simp only[go_sem,↓reduceIte,reduceIte,Qa,Qh,Qb,Qc,Qd,Qe,Qf,Qg,reduceCtorEq, *,-hs,Vo]
 ·rintro m A hM ts' hk ⟨i,g,ys,hm,f1,f2,f3,s1,s2,s3,s4⟩
  simp only[go_sem,↓reduceIte,reduceIte,Qa,Qh,Qb,Qc,Qd,Qe,Qf,Qg,reduceCtorEq, *] at hk
  by_cases hlt:i<xs.length
  ·rw[List.drop_eq_getElem_cons hlt,JkD] at f3
   have hr:JT (ys.length+1) 24:=Vt (by omega) (by decide)
   by_cases hc:xs[i].kind=0
   ·rw[if_pos hc] at f3
    (repeat' (first
 | (with_reducible first|refine callX.by (JC _ _ _ _ _ _ _) ?_|refine callX.by (VG _ _ _ _ _ _ _ ?_ ?_ ?_ ?_) ?_|refine callX.by (JJ _ _ _ ?_) ?_|refine callX.by (YA _ _ _ ?_) ?_|assumption|(refine Qw hK _ ?_;clear hK K)|refine Qw ‹_› _ ?_|refine Qx ‹_› ?_|refine Qi fun K hK=>?_|refine Qj T fun K hK=>?_|refine Ql fun A B hA hB=>?_|refine Qm ?_|refine Qn ?_|refine Qp ?_|refine Qr ?_)
 | ((with_reducible first|apply Qy|apply Qz|apply QA)<;>intro hb<;>try simp only[nr] at hb)
 |simp only[go_sem,↓reduceIte,reduceIte,Qa,Qh,Qb,Qc,Qd,Qe,Qf,Qg,reduceCtorEq, *,-hs,-f3]
 |with_reducible refine fun(bn:Bool) hbn=>?_))
    all_goals ((repeat clear hK);(repeat clear hA);(repeat clear hB))
    all_goals (refine hM.onE (xs.length-(i+1)) (Ent.ren 3 28 ?_ ?_) ?_ ?_ ?_;(focus(simp only[go_sem,↓reduceIte,reduceIte,Qa,Qh,Qb,Qc,Qd,Qe,Qf,Qg,reduceCtorEq, *,Jd hlt hsl,List.length_append,Je,-hs,-f3];first|done|rfl));(focus(simp only[go_sem,↓reduceIte,reduceIte,Qa,Qh,Qb,Qc,Qd,Qe,Qf,Qg,reduceCtorEq, *,Jd hlt hsl,List.length_append,Je,-hs,-f3];first|done|rfl));omega;(focus(simp only[go_sem,↓reduceIte,reduceIte,Qa,Qh,Qb,Qc,Qd,Qe,Qf,Qg,reduceCtorEq, *,Jd hlt hsl,List.length_append,Je,-hs,-f3];done));refine⟨i+1,ts'.gen 3+1,ys++[Je xs[i]],rfl,by omega,by simp;omega,by rw[f3,List.append_assoc];rfl,?_⟩;simp only[go_sem,↓reduceIte,reduceIte,Qa,Qh,Qb,Qc,Qd,Qe,Qf,Qg,reduceCtorEq, *,Jd hlt hsl,List.length_append,Je,-hs,-f3];done)
   ·rw[if_neg hc] at f3
    (repeat' (first
 | (with_reducible first|refine callX.by (JC _ _ _ _ _ _ _) ?_|refine callX.by (VG _ _ _ _ _ _ _ ?_ ?_ ?_ ?_) ?_|refine callX.by (JJ _ _ _ ?_) ?_|refine callX.by (YA _ _ _ ?_) ?_|assumption|(refine Qw hK _ ?_;clear hK K)|refine Qw ‹_› _ ?_|refine Qx ‹_› ?_|refine Qi fun K hK=>?_|refine Qj T fun K hK=>?_|refine Ql fun A B hA hB=>?_|refine Qm ?_|refine Qn ?_|refine Qp ?_|refine Qr ?_)
 | ((with_reducible first|apply Qy|apply Qz|apply QA)<;>intro hb<;>try simp only[nr] at hb)
 |simp only[go_sem,↓reduceIte,reduceIte,Qa,Qh,Qb,Qc,Qd,Qe,Qf,Qg,reduceCtorEq, *,-hs,-f3]
 |with_reducible refine fun(bn:Bool) hbn=>?_))
    all_goals ((repeat clear hK);(repeat clear hA);(repeat clear hB))
    all_goals (refine hM.on (xs.length-(i+1)) (by omega) (by simp only[go_sem,↓reduceIte,reduceIte,Qa,Qh,Qb,Qc,Qd,Qe,Qf,Qg,reduceCtorEq, *,Jd hlt hsl,-hs,-f3]) ⟨i+1,g,ys,rfl,by omega,by omega,f3,?_⟩;simp only[go_sem,↓reduceIte,reduceIte,Qa,Qh,Qb,Qc,Qd,Qe,Qf,Qg,reduceCtorEq, *,Jd hlt hsl,-hs,-f3];done)
  ·rw[List.drop_eq_nil_of_le (by omega)] at f3
   have e0:YW xs=ys:=by rw[f3];simp[YW]
   clear f3 hM hm
   (repeat' (first
 | (with_reducible first|refine callX.by (JC _ _ _ _ _ _ _) ?_|refine callX.by (VG _ _ _ _ _ _ _ ?_ ?_ ?_ ?_) ?_|refine callX.by (JJ _ _ _ ?_) ?_|refine callX.by (YA _ _ _ ?_) ?_|assumption|(refine Qw hK _ ?_;clear hK K)|refine Qw ‹_› _ ?_|refine Qx ‹_› ?_|refine Qi fun K hK=>?_|refine Qj T fun K hK=>?_|refine Ql fun A B hA hB=>?_|refine Qm ?_|refine Qn ?_|refine Qp ?_|refine Qr ?_)
 | ((with_reducible first|apply Qy|apply Qz|apply QA)<;>intro hb<;>try simp only[nr] at hb)
 |simp only[go_sem,↓reduceIte,reduceIte,Qa,Qh,Qb,Qc,Qd,Qe,Qf,Qg,reduceCtorEq, *,-hs,-e0]
 |with_reducible refine fun(bn:Bool) hbn=>?_))
   refine Qs [0] (fun m ts'=>∃(n:Nat),∃(g:Nat),∃(out:List Key),m=4-n∧n≤4∧out.length≤xs.length+33*(n*xs.length)∧YN xs (4-n) out=Z8 xs∧ts'.tmp 3=.os 3 g out.length∧ts'.gen 3=g∧ts'.obj 3=.arr 2 (Ja out)∧ts'.tmp 5=.int .i64 n) 4 ?_ ?_
   ·refine⟨0,g,ys,rfl,by omega,by omega,by rw[←e0];rfl,?_⟩
    simp only[go_sem,↓reduceIte,reduceIte,Qa,Qh,Qb,Qc,Qd,Qe,Qf,Qg,reduceCtorEq, *,-hs,-e0]
   ·clear e0
    rintro m A hM ts' hk ⟨n,g,out,hm,f1,f2,f3,s1,s2,s3,s4⟩
    simp only[go_sem,↓reduceIte,reduceIte,Qa,Qh,Qb,Qc,Qd,Qe,Qf,Qg,reduceCtorEq, *] at hk
    have hMn:=hM
    have hmn:=hm
    by_cases hn4:n<4
    ·have hn4':(n:Int)<4:=by omega
     have h4s:Jc 4:=by unfold Jc;omega
     have e1:YN xs (4-(n+1)) (Ja6 xs out)=Z8 xs:=by
      rw[←f3,show 4-n=4-(n+1)+1 by omega];rfl
     clear f3 hM hm
     (repeat' (first
 | (with_reducible first|refine callX.by (JC _ _ _ _ _ _ _) ?_|refine callX.by (VG _ _ _ _ _ _ _ ?_ ?_ ?_ ?_) ?_|refine callX.by (JJ _ _ _ ?_) ?_|refine callX.by (YA _ _ _ ?_) ?_|assumption|(refine Qw hK _ ?_;clear hK K)|refine Qw ‹_› _ ?_|refine Qx ‹_› ?_|refine Qi fun K hK=>?_|refine Qj T fun K hK=>?_|refine Ql fun A B hA hB=>?_|refine Qm ?_|refine Qn ?_|refine Qp ?_|refine Qr ?_)
 | ((with_reducible first|apply Qy|apply Qz|apply QA)<;>intro hb<;>try simp only[nr] at hb)
 |simp only[go_sem,↓reduceIte,reduceIte,Qa,Qh,Qb,Qc,Qd,Qe,Qf,Qg,reduceCtorEq, *,-hs,-e1,-hMn]
 |with_reducible refine fun(bn:Bool) hbn=>?_))
     refine Qs [0,5] (fun m ts'=>∃(i:Nat),∃(g:Nat),∃(o:List Key),m=xs.length-i∧i≤xs.length∧o.length≤out.length+33*i∧(xs.drop i).foldl (V8 xs) o=Ja6 xs out∧ts'.tmp 3=.os 3 g o.length∧ts'.gen 3=g∧ts'.obj 3=.arr 2 (Ja o)∧ts'.tmp 6=.int .i64 i) xs.length ?_ ?_
     ·refine⟨0,g,out,rfl,Nat.zero_le _,by omega,rfl,?_⟩
      simp only[go_sem,↓reduceIte,reduceIte,Qa,Qh,Qb,Qc,Qd,Qe,Qf,Qg,reduceCtorEq, *,-hs,-e1,-hMn]
     ·rintro m A hM ts' hk ⟨i,g,o,hm,f1,f2,f3,s1,s2,s3,s4⟩
      simp only[go_sem,↓reduceIte,reduceIte,Qa,Qh,Qb,Qc,Qd,Qe,Qf,Qg,reduceCtorEq, *] at hk
      have hMi:=hM
      have hmi:=hm
      by_cases hlt:i<xs.length
      ·rw[List.drop_eq_getElem_cons hlt,List.foldl_cons] at f3
       have hx:=hs _ (List.getElem_mem hlt)
       have w1:=VG xs[i].kind xs[i].name xs[i].ver xs[i].port xs[i].to' xs[i].rules' xs[i].hosts hx.2.2.1 hx.2.2.2.2 hx.2.2.2.1 hx.2.1
       have w1:CallR Tryz.prog 75 [.agg [.int .i64 xs[i].kind,.str xs[i].name,.int .i64 xs[i].ver,.int .i64 xs[i].port,.str xs[i].to',.slice false (Ja xs[i].rules'),.slice false (Ja xs[i].hosts)]] (.val (.slice false (Ja (Jk xs[i])))):=w1
       have hrl:=JbJ xs[i]
       have hrs:Jc (Jk xs[i]).length:=by unfold Jc;omega
       have hbig:n*xs.length≤4*65536:=Nat.mul_le_mul (by omega) hl
       have hol:out.length≤9000000:=by omega
       have hor:o.length≤12000000:=by omega
       have hrest:=f3
       have hoo:=f2
       clear hx hM hm f3
       (repeat' (first
 | (with_reducible first|refine callX.by (w1) ?_|refine callX.by (JC _ _ _ _ _ _ _) ?_|refine callX.by (VG _ _ _ _ _ _ _ ?_ ?_ ?_ ?_) ?_|refine callX.by (JJ _ _ _ ?_) ?_|refine callX.by (YA _ _ _ ?_) ?_|assumption|(refine Qw hK _ ?_;clear hK K)|refine Qw ‹_› _ ?_|refine Qx ‹_› ?_|refine Qi fun K hK=>?_|refine Qj T fun K hK=>?_|refine Ql fun A B hA hB=>?_|refine Qm ?_|refine Qn ?_|refine Qp ?_|refine Qr ?_)
 | ((with_reducible first|apply Qy|apply Qz|apply QA)<;>intro hb<;>try simp only[nr] at hb)
 |simp only[go_sem,↓reduceIte,reduceIte,Qa,Qh,Qb,Qc,Qd,Qe,Qf,Qg,reduceCtorEq, *,-hs,-e1,-hMn,-hMi,-w1,-hrest]
 |with_reducible refine fun(bn:Bool) hbn=>?_))
       refine Qs [0,5,6,7] (fun m ts'=>∃(j:Nat),∃(g:Nat),∃(p:List Key),m=(Jk xs[i]).length-j∧j≤(Jk xs[i]).length∧p.length≤o.length+j∧JaC xs p xs[i] j=V8 xs o xs[i]∧(¬Je xs[i]∈p→j=0)∧ts'.tmp 3=.os 3 g p.length∧ts'.gen 3=g∧ts'.obj 3=.arr 2 (Ja p)∧ts'.tmp 8=.int .i64 j) (Jk xs[i]).length ?_ ?_
       ·refine⟨0,g,o,rfl,Nat.zero_le _,Nat.le_refl _,rfl,fun _=>rfl,?_⟩
        simp only[go_sem,↓reduceIte,reduceIte,Qa,Qh,Qb,Qc,Qd,Qe,Qf,Qg,reduceCtorEq, *,-hs,-e1,-hMn,-hMi,-hrest]
       ·rintro m A hM ts' hk ⟨j,g,p,hm,f1,f2,f3,f4,s1,s2,s3,s4⟩
        simp only[go_sem,↓reduceIte,reduceIte,Qa,Qh,Qb,Qc,Qd,Qe,Qf,Qg,reduceCtorEq, *] at hk
        have w2:=JJ p xs[i].kind xs[i].name (by unfold Jc;omega)
        have w2:CallR Tryz.prog 64 [.slice false (Ja p),.agg [.int .i64 xs[i].kind,.str xs[i].name]] (.val (.bool (decide (Je xs[i]∈p)))):=w2
        have hMj:=hM
        have fin:p=V8 xs o xs[i]→(xs.drop (i+1)).foldl (V8 xs) p=Ja6 xs out:=fun e=>by rw[e];exact hrest
        by_cases hin:Je xs[i]∈p
        ·rw[decide_eq_true hin] at w2
         by_cases hjl:j<(Jk xs[i]).length
         ·rw[Jl8 hin hjl] at f3
          have w3:=YA xs (Jk xs[i])[j].kind (Jk xs[i])[j].name hsl
          have w3:CallR Tryz.prog 76 [.slice false (Ja xs),.agg [.int .i64 (Jk xs[i])[j].kind,.str (Jk xs[i])[j].name]] (.val (.bool (JF xs (Jk xs[i])[j]).isSome)):=w3
          have w4:=JJ p (Jk xs[i])[j].kind (Jk xs[i])[j].name (by unfold Jc;omega)
          have w4:CallR Tryz.prog 64 [.slice false (Ja p),.agg [.int .i64 (Jk xs[i])[j].kind,.str (Jk xs[i])[j].name]] (.val (.bool (decide ((Jk xs[i])[j]∈p)))):=w4
          have hin2:=Jd7 xs p (Jk xs[i])[j] hin
          by_cases hc:(JF xs (Jk xs[i])[j]).isSome=true∧¬(Jk xs[i])[j]∈p
          ·have ea:VC xs p (Jk xs[i])[j]=p++[(Jk xs[i])[j]]:=by unfold VC;rw[if_pos hc]
           rw[ea] at f3 hin2
           obtain⟨c1,c2⟩:=hc
           rw[c1] at w3
           rw[decide_eq_false c2] at w4
           have hr:JT (p.length+1) 24:=Vt (by omega) (by decide)
           clear ea fin hrest
           (repeat' (first
 | (with_reducible first|refine callX.by (w2) ?_|refine callX.by (w3) ?_|refine callX.by (w4) ?_|refine callX.by (JC _ _ _ _ _ _ _) ?_|refine callX.by (VG _ _ _ _ _ _ _ ?_ ?_ ?_ ?_) ?_|refine callX.by (JJ _ _ _ ?_) ?_|refine callX.by (YA _ _ _ ?_) ?_|assumption|(refine Qw hK _ ?_;clear hK K)|refine Qw ‹_› _ ?_|refine Qx ‹_› ?_|refine Qi fun K hK=>?_|refine Qj T fun K hK=>?_|refine Ql fun A B hA hB=>?_|refine Qm ?_|refine Qn ?_|refine Qp ?_|refine Qr ?_)
 | ((with_reducible first|apply Qy|apply Qz|apply QA)<;>intro hb<;>try simp only[nr] at hb)
 |simp only[go_sem,↓reduceIte,reduceIte,Qa,Qh,Qb,Qc,Qd,Qe,Qf,Qg,reduceCtorEq, *,-hs,-e1,-hMn,-hMi,-hMj,-f3,-f4,-w2,-w3,-w4,-hin,-hin2,-c1,-c2]
 |with_reducible refine fun(bn:Bool) hbn=>?_))
           all_goals ((repeat clear hK);(repeat clear hA);(repeat clear hB))
           all_goals (refine hM.onE ((Jk xs[i]).length-(j+1)) (Ent.ren 3 80 ?_ ?_) ?_ ?_ ?_;(focus(simp only[go_sem,↓reduceIte,reduceIte,Qa,Qh,Qb,Qc,Qd,Qe,Qf,Qg,reduceCtorEq, *,Jd hjl hrs,List.length_append,-hs,-e1,-hMn,-hMi,-hMj,-f3,-f4,-w2,-w3,-w4,-hin,-hin2,-c1,-c2];first|done|rfl));(focus(simp only[go_sem,↓reduceIte,reduceIte,Qa,Qh,Qb,Qc,Qd,Qe,Qf,Qg,reduceCtorEq, *,Jd hjl hrs,List.length_append,-hs,-e1,-hMn,-hMi,-hMj,-f3,-f4,-w2,-w3,-w4,-hin,-hin2,-c1,-c2];first|done|rfl));omega;(focus(simp only[go_sem,↓reduceIte,reduceIte,Qa,Qh,Qb,Qc,Qd,Qe,Qf,Qg,reduceCtorEq, *,Jd hjl hrs,List.length_append,-hs,-e1,-hMn,-hMi,-hMj,-f3,-f4,-w2,-w3,-w4,-hin,-hin2,-c1,-c2];done));refine⟨j+1,ts'.gen 3+1,p++[(Jk xs[i])[j]],rfl,by omega,by simp;omega,f3,fun h=>absurd hin2 h,?_⟩;simp only[go_sem,↓reduceIte,reduceIte,Qa,Qh,Qb,Qc,Qd,Qe,Qf,Qg,reduceCtorEq, *,Jd hjl hrs,List.length_append,-hs,-e1,-hMn,-hMi,-hMj,-f3,-f4,-w2,-w3,-w4,-hin,-hin2,-c1,-c2];done)
          ·have ea:VC xs p (Jk xs[i])[j]=p:=by unfold VC;rw[if_neg hc]
           rw[ea] at f3
           clear ea fin hrest hin2
           by_cases c1:(JF xs (Jk xs[i])[j]).isSome=true
           ·have c2:(Jk xs[i])[j]∈p:=Classical.byContradiction fun h=>hc ⟨c1,h⟩
            rw[c1] at w3
            rw[decide_eq_true c2] at w4
            clear hc
            (repeat' (first
 | (with_reducible first|refine callX.by (w2) ?_|refine callX.by (w3) ?_|refine callX.by (w4) ?_|refine callX.by (JC _ _ _ _ _ _ _) ?_|refine callX.by (VG _ _ _ _ _ _ _ ?_ ?_ ?_ ?_) ?_|refine callX.by (JJ _ _ _ ?_) ?_|refine callX.by (YA _ _ _ ?_) ?_|assumption|(refine Qw hK _ ?_;clear hK K)|refine Qw ‹_› _ ?_|refine Qx ‹_› ?_|refine Qi fun K hK=>?_|refine Qj T fun K hK=>?_|refine Ql fun A B hA hB=>?_|refine Qm ?_|refine Qn ?_|refine Qp ?_|refine Qr ?_)
 | ((with_reducible first|apply Qy|apply Qz|apply QA)<;>intro hb<;>try simp only[nr] at hb)
 |simp only[go_sem,↓reduceIte,reduceIte,Qa,Qh,Qb,Qc,Qd,Qe,Qf,Qg,reduceCtorEq, *,-hs,-e1,-hMn,-hMi,-hMj,-f3,-f4,-w2,-w3,-w4,-hin,-c1,-c2]
 |with_reducible refine fun(bn:Bool) hbn=>?_))
            all_goals ((repeat clear hK);(repeat clear hA);(repeat clear hB))
            all_goals (refine hM.on ((Jk xs[i]).length-(j+1)) (by omega) (by simp only[go_sem,↓reduceIte,reduceIte,Qa,Qh,Qb,Qc,Qd,Qe,Qf,Qg,reduceCtorEq, *,Jd hjl hrs,-hs,-e1,-hMn,-hMi,-hMj,-f3,-f4,-w2,-w3,-w4,-hin,-c1,-c2]) ⟨j+1,g,p,rfl,by omega,by omega,f3,fun h=>absurd hin h,?_⟩;simp only[go_sem,↓reduceIte,reduceIte,Qa,Qh,Qb,Qc,Qd,Qe,Qf,Qg,reduceCtorEq, *,Jd hjl hrs,-hs,-e1,-hMn,-hMi,-hMj,-f3,-f4,-w2,-w3,-w4,-hin,-c1,-c2];done)
           ·have c1':(JF xs (Jk xs[i])[j]).isSome=false:=by simpa using c1
            rw[c1'] at w3
            clear hc c1 c1'
            (repeat' (first
 | (with_reducible first|refine callX.by (w2) ?_|refine callX.by (w3) ?_|refine callX.by (w4) ?_|refine callX.by (JC _ _ _ _ _ _ _) ?_|refine callX.by (VG _ _ _ _ _ _ _ ?_ ?_ ?_ ?_) ?_|refine callX.by (JJ _ _ _ ?_) ?_|refine callX.by (YA _ _ _ ?_) ?_|assumption|(refine Qw hK _ ?_;clear hK K)|refine Qw ‹_› _ ?_|refine Qx ‹_› ?_|refine Qi fun K hK=>?_|refine Qj T fun K hK=>?_|refine Ql fun A B hA hB=>?_|refine Qm ?_|refine Qn ?_|refine Qp ?_|refine Qr ?_)
 | ((with_reducible first|apply Qy|apply Qz|apply QA)<;>intro hb<;>try simp only[nr] at hb)
 |simp only[go_sem,↓reduceIte,reduceIte,Qa,Qh,Qb,Qc,Qd,Qe,Qf,Qg,reduceCtorEq, *,-hs,-e1,-hMn,-hMi,-hMj,-f3,-f4,-w2,-w3,-w4,-hin]
 |with_reducible refine fun(bn:Bool) hbn=>?_))
            all_goals ((repeat clear hK);(repeat clear hA);(repeat clear hB))
            all_goals (refine hM.on ((Jk xs[i]).length-(j+1)) (by omega) (by simp only[go_sem,↓reduceIte,reduceIte,Qa,Qh,Qb,Qc,Qd,Qe,Qf,Qg,reduceCtorEq, *,Jd hjl hrs,-hs,-e1,-hMn,-hMi,-hMj,-f3,-f4,-w2,-w3,-w4,-hin]) ⟨j+1,g,p,rfl,by omega,by omega,f3,fun h=>absurd hin h,?_⟩;simp only[go_sem,↓reduceIte,reduceIte,Qa,Qh,Qb,Qc,Qd,Qe,Qf,Qg,reduceCtorEq, *,Jd hjl hrs,-hs,-e1,-hMn,-hMi,-hMj,-f3,-f4,-w2,-w3,-w4,-hin];done)
         ·rw[Jl7 (by omega)] at f3
          have hfin:=fin f3
          clear fin hrest f3 f4
          (repeat' (first
 | (with_reducible first|refine callX.by (w2) ?_|refine callX.by (JC _ _ _ _ _ _ _) ?_|refine callX.by (VG _ _ _ _ _ _ _ ?_ ?_ ?_ ?_) ?_|refine callX.by (JJ _ _ _ ?_) ?_|refine callX.by (YA _ _ _ ?_) ?_|assumption|(refine Qw hK _ ?_;clear hK K)|refine Qw ‹_› _ ?_|refine Qx ‹_› ?_|refine Qi fun K hK=>?_|refine Qj T fun K hK=>?_|refine Ql fun A B hA hB=>?_|refine Qm ?_|refine Qn ?_|refine Qp ?_|refine Qr ?_)
 | ((with_reducible first|apply Qy|apply Qz|apply QA)<;>intro hb<;>try simp only[nr] at hb)
 |simp only[go_sem,↓reduceIte,reduceIte,Qa,Qh,Qb,Qc,Qd,Qe,Qf,Qg,reduceCtorEq, *,-hs,-e1,-hMn,-hMi,-hMj,-w2,-hin,-hfin]
 |with_reducible refine fun(bn:Bool) hbn=>?_))
          all_goals ((repeat clear hK);(repeat clear hA);(repeat clear hB))
          all_goals (clear hM;have hM:=hMi;(refine hM.on (xs.length-(i+1)) (by omega) (by simp only[go_sem,↓reduceIte,reduceIte,Qa,Qh,Qb,Qc,Qd,Qe,Qf,Qg,reduceCtorEq, *,Jd hlt hsl,-hs,-e1,-hMn,-hMi,-hMj,-w2,-hin,-hfin]) ⟨i+1,g,p,rfl,by omega,by omega,hfin,?_⟩;simp only[go_sem,↓reduceIte,reduceIte,Qa,Qh,Qb,Qc,Qd,Qe,Qf,Qg,reduceCtorEq, *,Jd hlt hsl,-hs,-e1,-hMn,-hMi,-hMj,-w2,-hin,-hfin];done))
        ·rw[decide_eq_false hin] at w2
         have hj0:=f4 hin
         subst hj0
         rw[Jl9 hin] at f3
         have hfin:=fin f3
         clear fin hrest f3 f4
         (repeat' (first
 | (with_reducible first|refine callX.by (w2) ?_|refine callX.by (JC _ _ _ _ _ _ _) ?_|refine callX.by (VG _ _ _ _ _ _ _ ?_ ?_ ?_ ?_) ?_|refine callX.by (JJ _ _ _ ?_) ?_|refine callX.by (YA _ _ _ ?_) ?_|assumption|(refine Qw hK _ ?_;clear hK K)|refine Qw ‹_› _ ?_|refine Qx ‹_› ?_|refine Qi fun K hK=>?_|refine Qj T fun K hK=>?_|refine Ql fun A B hA hB=>?_|refine Qm ?_|refine Qn ?_|refine Qp ?_|refine Qr ?_)
 | ((with_reducible first|apply Qy|apply Qz|apply QA)<;>intro hb<;>try simp only[nr] at hb)
 |simp only[go_sem,↓reduceIte,reduceIte,Qa,Qh,Qb,Qc,Qd,Qe,Qf,Qg,reduceCtorEq, *,-hs,-e1,-hMn,-hMi,-hMj,-w2,-hin,-hfin]
 |with_reducible refine fun(bn:Bool) hbn=>?_))
         all_goals ((repeat clear hK);(repeat clear hA);(repeat clear hB))
         all_goals (clear hM;have hM:=hMi;(refine hM.on (xs.length-(i+1)) (by omega) (by simp only[go_sem,↓reduceIte,reduceIte,Qa,Qh,Qb,Qc,Qd,Qe,Qf,Qg,reduceCtorEq, *,Jd hlt hsl,-hs,-e1,-hMn,-hMi,-hMj,-w2,-hin,-hfin]) ⟨i+1,g,p,rfl,by omega,by omega,hfin,?_⟩;simp only[go_sem,↓reduceIte,reduceIte,Qa,Qh,Qb,Qc,Qd,Qe,Qf,Qg,reduceCtorEq, *,Jd hlt hsl,-hs,-e1,-hMn,-hMi,-hMj,-w2,-hin,-hfin];done))
      ·rw[List.drop_eq_nil_of_le (by omega),List.foldl_nil] at f3
       have hi:i=xs.length:=by omega
       subst hi
       rw[←f3] at e1
       have hmul:(n+1)*xs.length=n*xs.length+xs.length:=by rw[Nat.add_mul,Nat.one_mul]
       clear f3
       (repeat' (first
 | (with_reducible first|refine callX.by (JC _ _ _ _ _ _ _) ?_|refine callX.by (VG _ _ _ _ _ _ _ ?_ ?_ ?_ ?_) ?_|refine callX.by (JJ _ _ _ ?_) ?_|refine callX.by (YA _ _ _ ?_) ?_|assumption|(refine Qw hK _ ?_;clear hK K)|refine Qw ‹_› _ ?_|refine Qx ‹_› ?_|refine Qi fun K hK=>?_|refine Qj T fun K hK=>?_|refine Ql fun A B hA hB=>?_|refine Qm ?_|refine Qn ?_|refine Qp ?_|refine Qr ?_)
 | ((with_reducible first|apply Qy|apply Qz|apply QA)<;>intro hb<;>try simp only[nr] at hb)
 |simp only[go_sem,↓reduceIte,reduceIte,Qa,Qh,Qb,Qc,Qd,Qe,Qf,Qg,reduceCtorEq, *,-hs,-e1,-hMn,-hMi]
 |with_reducible refine fun(bn:Bool) hbn=>?_))
       all_goals ((repeat clear hK);(repeat clear hA);(repeat clear hB))
       all_goals (clear hM;have hM:=hMn;(refine hM.on (4-(n+1)) (by omega) (by simp only[go_sem,↓reduceIte,reduceIte,Qa,Qh,Qb,Qc,Qd,Qe,Qf,Qg,reduceCtorEq, *,Jd hn4 h4s,-hs,-e1,-hMn,-hMi,-hmul]) ⟨n+1,g,o,rfl,by omega,by rw[hmul];omega,e1,?_⟩;simp only[go_sem,↓reduceIte,reduceIte,Qa,Qh,Qb,Qc,Qd,Qe,Qf,Qg,reduceCtorEq, *,Jd hn4 h4s,-hs,-e1,-hMn,-hMi,-hmul];done))
    ·have hn:n=4:=by omega
     subst hn
     have e1:Z8 xs=out:=by rw[←f3];rfl
     rw[e1]
     (repeat' (first
 | (with_reducible first|refine callX.by (JC _ _ _ _ _ _ _) ?_|refine callX.by (VG _ _ _ _ _ _ _ ?_ ?_ ?_ ?_) ?_|refine callX.by (JJ _ _ _ ?_) ?_|refine callX.by (YA _ _ _ ?_) ?_|assumption|(refine Qw hK _ ?_;clear hK K)|refine Qw ‹_› _ ?_|refine Qx ‹_› ?_|refine Qi fun K hK=>?_|refine Qj T fun K hK=>?_|refine Ql fun A B hA hB=>?_|refine Qm ?_|refine Qn ?_|refine Qp ?_|refine Qr ?_)
 | ((with_reducible first|apply Qy|apply Qz|apply QA)<;>intro hb<;>try simp only[nr] at hb)
 |simp only[go_sem,↓reduceIte,reduceIte,Qa,Qh,Qb,Qc,Qd,Qe,Qf,Qg,reduceCtorEq, *,-hs,-f3]
 |with_reducible refine fun(bn:Bool) hbn=>?_))
     all_goals trace_state
theorem JhY(l:List Res):∀(n:Nat) (out:List Key),(YN l n out).length≤out.length+n*(33*l.length)
 |0,out=>by simp[YN]
 |n+1,out=>by
  have h1:=JhY l n (Ja6 l out)
  have h2:∀(m:List Res) (o:List Key),(m.foldl (V8 l) o).length≤o.length+33*m.length:=by
   intro m
   induction m with
   |nil=>intro o;simp
   |cons r m ih =>
    intro o
    have:=ih (V8 l o r)
    have:=JmK l o r
    simp only[List.foldl_cons,List.length_cons]
    omega
  have h3:=h2 l out
  unfold YN
  have h4:(Ja6 l out).length≤out.length+33*l.length:=h3
  rw[Nat.add_mul,Nat.one_mul]
  omega
theorem JlS(l:List Res):(Z8 l).length≤l.length+4*(33*l.length):=by
 refine Nat.le_trans (JhY l 4 _) (Nat.add_le_add_right ?_ _)
 unfold YW
 rw[List.length_map]
 exact List.length_filter_le _ _
def Jcp(l:List Res):List Res:=l.filter fun r=>decide (Je r∈Z8 l)
theorem Y5(xs:List Res)(hl:xs.length≤65536)(hs:∀r∈xs,Jw r):CallR Tryz.prog 23 [.slice false (Ja xs)] (.val (.slice false (Ja (Jcp xs)))):=by
 have hsl:=Yz hl
 have w0:=(Jcs xs hl hs).frz
 have hrl:=JlS xs
 have key:CallR Tryz.prog 23 [.slice false (Ja xs)] (.own 7 (Ja (Jcp xs))):=by
  unfold Jcp
  generalize Z8 xs=K6 at *
  have hK6:Jc K6.length:=by unfold Jc;omega
  refine CallR.go1 (T:=T) Tryz.call23 Tryz.func23 rfl Tryz.ntmps23 (congrArg Array.toList Tryz.results23) (by decide) fun ts hn h0=>?_
  (repeat' (first
 | (with_reducible first|refine callX.by (w0) ?_|refine callX.by (Jcs _ ?_ ?_) ?_|refine callX.by (JC _ _ _ _ _ _ _) ?_|refine callX.by (JJ _ _ _ ?_) ?_|assumption|(refine Qw hK _ ?_;clear hK K)|refine Qw ‹_› _ ?_|refine Qx ‹_› ?_|refine Qi fun K hK=>?_|refine Qj T fun K hK=>?_|refine Ql fun A B hA hB=>?_|refine Qm ?_|refine Qn ?_|refine Qp ?_|refine Qr ?_)
 | ((with_reducible first|apply Qy|apply Qz|apply QA)<;>intro hb<;>try simp only[nr] at hb)
 |simp only[go_sem,↓reduceIte,reduceIte,Qa,Qh,Qb,Qc,Qd,Qe,Qf,Qg,reduceCtorEq, *,-hs,-w0]
 |with_reducible refine fun(bn:Bool) hbn=>?_))
  refine SpecC.ent (Ent.virt 4 7 (by simp only[go_sem,↓reduceIte,reduceIte,Qa,Qh,Qb,Qc,Qd,Qe,Qf,Qg,reduceCtorEq, *,-hs,-w0]) (by decide)) ?_
  refine Qs [0,3] (fun m ts'=>∃(i:Nat),∃(g:Nat),∃(ys:List Res),m=xs.length-i∧i≤xs.length∧ys.length≤i∧xs.filter (fun r=>decide (Je r∈K6))=ys++(xs.drop i).filter (fun r=>decide (Je r∈K6))∧ts'.tmp 4=.os 4 g ys.length∧ts'.gen 4=g∧ts'.obj 4=.arr 7 (Ja ys)∧ts'.tmp 5=.int .i64 i) xs.length ?_ ?_
  ·refine⟨0,ts.gen 4+1,[],rfl,Nat.zero_le _,Nat.le_refl _,rfl,?_⟩
   simp only[go_sem,↓reduceIte,reduceIte,Qa,Qh,Qb,Qc,Qd,Qe,Qf,Qg,reduceCtorEq, *,-hs,-w0,Vo]
  ·rintro m A hM ts' hk ⟨i,g,ys,hm,f1,f2,f3,s1,s2,s3,s4⟩
   simp only[go_sem,↓reduceIte,reduceIte,Qa,Qh,Qb,Qc,Qd,Qe,Qf,Qg,reduceCtorEq, *] at hk
   by_cases hlt:i<xs.length
   ·rw[List.drop_eq_getElem_cons hlt,List.filter_cons] at f3
    have w1:=JJ K6 xs[i].kind xs[i].name hK6
    have w1:CallR Tryz.prog 64 [.slice false (Ja K6),.agg [.int .i64 xs[i].kind,.str xs[i].name]] (.val (.bool (decide (Je xs[i]∈K6)))):=w1
    have hr:JT (ys.length+1) 104:=Vt (by omega) (by decide)
    by_cases hc:Je xs[i]∈K6
    ·rw[if_pos (by simpa using hc)] at f3
     rw[decide_eq_true hc] at w1
     (repeat' (first
 | (with_reducible first|refine callX.by (w1) ?_|refine callX.by (Jcs _ ?_ ?_) ?_|refine callX.by (JC _ _ _ _ _ _ _) ?_|refine callX.by (JJ _ _ _ ?_) ?_|assumption|(refine Qw hK _ ?_;clear hK K)|refine Qw ‹_› _ ?_|refine Qx ‹_› ?_|refine Qi fun K hK=>?_|refine Qj T fun K hK=>?_|refine Ql fun A B hA hB=>?_|refine Qm ?_|refine Qn ?_|refine Qp ?_|refine Qr ?_)
 | ((with_reducible first|apply Qy|apply Qz|apply QA)<;>intro hb<;>try simp only[nr] at hb)
 |simp only[go_sem,↓reduceIte,reduceIte,Qa,Qh,Qb,Qc,Qd,Qe,Qf,Qg,reduceCtorEq, *,-hs,-w0,-w1,-f3,-hc]
 |with_reducible refine fun(bn:Bool) hbn=>?_))
     all_goals ((repeat clear hK);(repeat clear hA);(repeat clear hB))
     all_goals (refine hM.onE (xs.length-(i+1)) (Ent.ren 4 27 ?_ ?_) ?_ ?_ ?_;(focus(simp only[go_sem,↓reduceIte,reduceIte,Qa,Qh,Qb,Qc,Qd,Qe,Qf,Qg,reduceCtorEq, *,Jd hlt hsl,List.length_append,-hs,-w0,-w1,-f3,-hc];first|done|rfl));(focus(simp only[go_sem,↓reduceIte,reduceIte,Qa,Qh,Qb,Qc,Qd,Qe,Qf,Qg,reduceCtorEq, *,Jd hlt hsl,List.length_append,-hs,-w0,-w1,-f3,-hc];first|done|rfl));omega;(focus(simp only[go_sem,↓reduceIte,reduceIte,Qa,Qh,Qb,Qc,Qd,Qe,Qf,Qg,reduceCtorEq, *,Jd hlt hsl,List.length_append,-hs,-w0,-w1,-f3,-hc];done));refine⟨i+1,ts'.gen 4+1,ys++[xs[i]],rfl,by omega,by simp;omega,by rw[f3,List.append_assoc];rfl,?_⟩;simp only[go_sem,↓reduceIte,reduceIte,Qa,Qh,Qb,Qc,Qd,Qe,Qf,Qg,reduceCtorEq, *,Jd hlt hsl,List.length_append,-hs,-w0,-w1,-f3,-hc];done)
    ·rw[if_neg (by simpa using hc)] at f3
     rw[decide_eq_false hc] at w1
     (repeat' (first
 | (with_reducible first|refine callX.by (w1) ?_|refine callX.by (Jcs _ ?_ ?_) ?_|refine callX.by (JC _ _ _ _ _ _ _) ?_|refine callX.by (JJ _ _ _ ?_) ?_|assumption|(refine Qw hK _ ?_;clear hK K)|refine Qw ‹_› _ ?_|refine Qx ‹_› ?_|refine Qi fun K hK=>?_|refine Qj T fun K hK=>?_|refine Ql fun A B hA hB=>?_|refine Qm ?_|refine Qn ?_|refine Qp ?_|refine Qr ?_)
 | ((with_reducible first|apply Qy|apply Qz|apply QA)<;>intro hb<;>try simp only[nr] at hb)
 |simp only[go_sem,↓reduceIte,reduceIte,Qa,Qh,Qb,Qc,Qd,Qe,Qf,Qg,reduceCtorEq, *,-hs,-w0,-w1,-f3,-hc]
 |with_reducible refine fun(bn:Bool) hbn=>?_))
     all_goals ((repeat clear hK);(repeat clear hA);(repeat clear hB))
     all_goals (refine hM.on (xs.length-(i+1)) (by omega) (by simp only[go_sem,↓reduceIte,reduceIte,Qa,Qh,Qb,Qc,Qd,Qe,Qf,Qg,reduceCtorEq, *,Jd hlt hsl,-hs,-w0,-w1,-f3,-hc]) ⟨i+1,g,ys,rfl,by omega,by omega,f3,?_⟩;simp only[go_sem,↓reduceIte,reduceIte,Qa,Qh,Qb,Qc,Qd,Qe,Qf,Qg,reduceCtorEq, *,Jd hlt hsl,-hs,-w0,-w1,-f3,-hc];done)
   ·rw[List.drop_eq_nil_of_le (by omega),List.filter_nil,List.append_nil] at f3
    (repeat' (first
 | (with_reducible first|refine callX.by (Jcs _ ?_ ?_) ?_|refine callX.by (JC _ _ _ _ _ _ _) ?_|refine callX.by (JJ _ _ _ ?_) ?_|assumption|(refine Qw hK _ ?_;clear hK K)|refine Qw ‹_› _ ?_|refine Qx ‹_› ?_|refine Qi fun K hK=>?_|refine Qj T fun K hK=>?_|refine Ql fun A B hA hB=>?_|refine Qm ?_|refine Qn ?_|refine Qp ?_|refine Qr ?_)
 | ((with_reducible first|apply Qy|apply Qz|apply QA)<;>intro hb<;>try simp only[nr] at hb)
 |simp only[go_sem,↓reduceIte,reduceIte,Qa,Qh,Qb,Qc,Qd,Qe,Qf,Qg,reduceCtorEq, *,-hs,-w0,-f3]
 |with_reducible refine fun(bn:Bool) hbn=>?_))
    all_goals rw[f3]
 exact key.frz
theorem Jiq(l:List Res)(k:Key):(JF l k).isSome=decide (k∈l.map Je):=by
 unfold JF
 rw[Bool.eq_iff_iff,List.find?_isSome,decide_eq_true_eq,List.mem_map]
 simp
theorem Jfj{l:List Res}{k:Key}{r:Res}(h:JF l k=some r):r∈l∧Je r=k:=by
 unfold JF at h
 exact⟨List.mem_of_find?_eq_some h,by simpa using List.find?_some h⟩
theorem JmP{l:List Res}(h:(l.map Je).Nodup){r:Res}(hr:r∈l):JF l (Je r)=some r:=by
 cases e:JF l (Je r) with
 |none =>
  have:=Jiq l (Je r)
  rw[e,decide_eq_true (List.mem_map_of_mem hr)] at this
  cases this
 |some q =>
  obtain⟨h1,h2⟩:=Jfj e
  rw[JkB h h1 hr h2]
theorem JkV{l:List Res}{k:Key}{r:Res}:r∈J0 l k↔r∈l∧Je r≠k:=by
 unfold J0
 rw[List.mem_filter]
 simp
theorem YV(xs:List Res)(hl:xs.length≤65536):CallR Tryz.prog 91 [.slice false (Ja xs)] (.own 2 (Ja (xs.map Je))):=by
 have hsl:=Yz hl
 refine CallR.go1 (T:=T) Tryz.call91 Tryz.func91 rfl Tryz.ntmps91 (congrArg Array.toList Tryz.results91) (by decide) fun ts hn h0=>?_
 (repeat' (first
 | (with_reducible first|refine callX.by (JC _ _ _ _ _ _ _) ?_|assumption|(refine Qw hK _ ?_;clear hK K)|refine Qw ‹_› _ ?_|refine Qx ‹_› ?_|refine Qi fun K hK=>?_|refine Qj T fun K hK=>?_|refine Ql fun A B hA hB=>?_|refine Qm ?_|refine Qn ?_|refine Qp ?_|refine Qr ?_)
 | ((with_reducible first|apply Qy|apply Qz|apply QA)<;>intro hb<;>try simp only[nr] at hb)
 |simp only[go_sem,↓reduceIte,reduceIte,Qa,Qh,Qb,Qc,Qd,Qe,Qf,Qg,reduceCtorEq, *]
 |with_reducible refine fun(bn:Bool) hbn=>?_))
 refine SpecC.ent (Ent.virt 3 2 (by simp only[go_sem,↓reduceIte,reduceIte,Qa,Qh,Qb,Qc,Qd,Qe,Qf,Qg,reduceCtorEq, *]) (by decide)) ?_
 refine Qs [0] (fun m ts'=>∃(i:Nat),∃(g:Nat),∃(ys:List Key),m=xs.length-i∧i≤xs.length∧ys.length≤i∧xs.map Je=ys++(xs.drop i).map Je∧ts'.tmp 3=.os 3 g ys.length∧ts'.gen 3=g∧ts'.obj 3=.arr 2 (Ja ys)∧ts'.tmp 4=.int .i64 i) xs.length ?_ ?_
 ·refine⟨0,ts.gen 3+1,[],rfl,Nat.zero_le _,Nat.le_refl _,rfl,?_⟩
  simp only[go_sem,↓reduceIte,reduceIte,Qa,Qh,Qb,Qc,Qd,Qe,Qf,Qg,reduceCtorEq, *,Vo]
 ·rintro m A hM ts' hk ⟨i,g,ys,hm,f1,f2,f3,s1,s2,s3,s4⟩
  simp only[go_sem,↓reduceIte,reduceIte,Qa,Qh,Qb,Qc,Qd,Qe,Qf,Qg,reduceCtorEq, *] at hk
  by_cases hlt:i<xs.length
  ·rw[List.drop_eq_getElem_cons hlt,List.map_cons] at f3
   have hr:JT (ys.length+1) 24:=Vt (by omega) (by decide)
   (repeat' (first
 | (with_reducible first|refine callX.by (JC _ _ _ _ _ _ _) ?_|assumption|(refine Qw hK _ ?_;clear hK K)|refine Qw ‹_› _ ?_|refine Qx ‹_› ?_|refine Qi fun K hK=>?_|refine Qj T fun K hK=>?_|refine Ql fun A B hA hB=>?_|refine Qm ?_|refine Qn ?_|refine Qp ?_|refine Qr ?_)
 | ((with_reducible first|apply Qy|apply Qz|apply QA)<;>intro hb<;>try simp only[nr] at hb)
 |simp only[go_sem,↓reduceIte,reduceIte,Qa,Qh,Qb,Qc,Qd,Qe,Qf,Qg,reduceCtorEq, *,-f3]
 |with_reducible refine fun(bn:Bool) hbn=>?_))
   all_goals ((repeat clear hK);(repeat clear hA);(repeat clear hB))
   all_goals (refine hM.onE (xs.length-(i+1)) (Ent.ren 3 18 ?_ ?_) ?_ ?_ ?_;(focus(simp only[go_sem,↓reduceIte,reduceIte,Qa,Qh,Qb,Qc,Qd,Qe,Qf,Qg,reduceCtorEq, *,Jd hlt hsl,List.length_append,Je,-f3];first|done|rfl));(focus(simp only[go_sem,↓reduceIte,reduceIte,Qa,Qh,Qb,Qc,Qd,Qe,Qf,Qg,reduceCtorEq, *,Jd hlt hsl,List.length_append,Je,-f3];first|done|rfl));omega;(focus(simp only[go_sem,↓reduceIte,reduceIte,Qa,Qh,Qb,Qc,Qd,Qe,Qf,Qg,reduceCtorEq, *,Jd hlt hsl,List.length_append,Je,-f3];done));refine⟨i+1,ts'.gen 3+1,ys++[Je xs[i]],rfl,by omega,by simp;omega,by rw[f3,List.append_assoc];rfl,?_⟩;simp only[go_sem,↓reduceIte,reduceIte,Qa,Qh,Qb,Qc,Qd,Qe,Qf,Qg,reduceCtorEq, *,Jd hlt hsl,List.length_append,Je,-f3];done)
  ·rw[List.drop_eq_nil_of_le (by omega),List.map_nil,List.append_nil] at f3
   (repeat' (first
 | (with_reducible first|refine callX.by (JC _ _ _ _ _ _ _) ?_|assumption|(refine Qw hK _ ?_;clear hK K)|refine Qw ‹_› _ ?_|refine Qx ‹_› ?_|refine Qi fun K hK=>?_|refine Qj T fun K hK=>?_|refine Ql fun A B hA hB=>?_|refine Qm ?_|refine Qn ?_|refine Qp ?_|refine Qr ?_)
 | ((with_reducible first|apply Qy|apply Qz|apply QA)<;>intro hb<;>try simp only[nr] at hb)
 |simp only[go_sem,↓reduceIte,reduceIte,Qa,Qh,Qb,Qc,Qd,Qe,Qf,Qg,reduceCtorEq, *,-f3]
 |with_reducible refine fun(bn:Bool) hbn=>?_))
   all_goals rw[f3]
theorem JlV(r:Res)(l:List Res)(k:Key):J4 (r :: l) k=(if k∈Jk r then [Je r] else [])++J4 l k:=by
 unfold J4
 rw[List.filter_cons]
 by_cases h:k∈Jk r<;>simp[h]
theorem Z9(xs:List Res)(k_kind:Int)(k_name:List UInt8)(hl:xs.length≤65536)(hs:∀r∈xs,Jw r):CallR Tryz.prog 20 [.slice false (Ja xs),.agg [.int .i64 k_kind,.str k_name]] (.own 2 (Ja (J4 xs (⟨k_kind,k_name⟩:Key)))):=by
 have hsl:=Yz hl
 refine CallR.go2 (T:=T) Tryz.call20 Tryz.func20 rfl Tryz.ntmps20 (congrArg Array.toList Tryz.results20) (by decide) fun ts hn h0 h1=>?_
 (repeat' (first
 | (with_reducible first|refine callX.by (VG _ _ _ _ _ _ _ ?_ ?_ ?_ ?_) ?_|refine callX.by (JJ _ _ _ ?_) ?_|refine callX.by (JC _ _ _ _ _ _ _) ?_|assumption|(refine Qw hK _ ?_;clear hK K)|refine Qw ‹_› _ ?_|refine Qx ‹_› ?_|refine Qi fun K hK=>?_|refine Qj T fun K hK=>?_|refine Qk (id:=5) T mixed YR (by kernel_rfl) fun K hK=>?_|refine Ql fun A B hA hB=>?_|refine Qm ?_|refine Qn ?_|refine Qp ?_|refine Qr ?_)
 | ((with_reducible first|apply Qy|apply Qz|apply QA)<;>intro hb<;>try simp only[nr] at hb)
 |simp only[go_sem,↓reduceIte,reduceIte,Qa,Qh,Qb,Qc,Qd,Qe,Qf,Qg,reduceCtorEq, *,-hs]
 |with_reducible refine fun(bn:Bool) hbn=>?_))
 refine SpecC.ent (Ent.virt 5 2 (by simp only[go_sem,↓reduceIte,reduceIte,Qa,Qh,Qb,Qc,Qd,Qe,Qf,Qg,reduceCtorEq, *,-hs]) (by decide)) ?_
 refine Qs [0,3] (fun m ts'=>∃(i:Nat),∃(g:Nat),∃(ys:List Key),m=xs.length-i∧i≤xs.length∧ys.length≤i∧J4 xs (⟨k_kind,k_name⟩:Key)=ys++J4 (xs.drop i) (⟨k_kind,k_name⟩:Key)∧ts'.tmp 5=.os 5 g ys.length∧ts'.gen 5=g∧ts'.obj 5=.arr 2 (Ja ys)∧ts'.tmp 6=.int .i64 i) xs.length ?_ ?_
 ·refine⟨0,ts.gen 5+1,[],rfl,Nat.zero_le _,Nat.le_refl _,rfl,?_⟩
  simp only[go_sem,↓reduceIte,reduceIte,Qa,Qh,Qb,Qc,Qd,Qe,Qf,Qg,reduceCtorEq, *,-hs,Vo]
 ·rintro m A hM ts' hk ⟨i,g,ys,hm,f1,f2,f3,s1,s2,s3,s4⟩
  simp only[go_sem,↓reduceIte,reduceIte,Qa,Qh,Qb,Qc,Qd,Qe,Qf,Qg,reduceCtorEq, *] at hk
  by_cases hlt:i<xs.length
  ·rw[List.drop_eq_getElem_cons hlt,JlV] at f3
   have hx:=hs _ (List.getElem_mem hlt)
   have w1:=VG xs[i].kind xs[i].name xs[i].ver xs[i].port xs[i].to' xs[i].rules' xs[i].hosts hx.2.2.1 hx.2.2.2.2 hx.2.2.2.1 hx.2.1
   have w1:CallR Tryz.prog 75 [.agg [.int .i64 xs[i].kind,.str xs[i].name,.int .i64 xs[i].ver,.int .i64 xs[i].port,.str xs[i].to',.slice false (Ja xs[i].rules'),.slice false (Ja xs[i].hosts)]] (.val (.slice false (Ja (Jk xs[i])))):=w1
   have hrl:=JbJ xs[i]
   have w2:=JJ (Jk xs[i]) k_kind k_name (by unfold Jc;omega)
   have hr:JT (ys.length+1) 24:=Vt (by omega) (by decide)
   clear hx
   by_cases hc:(⟨k_kind,k_name⟩:Key)∈Jk xs[i]
   ·rw[if_pos hc] at f3
    rw[decide_eq_true hc] at w2
    (repeat' (first
 | (with_reducible first|refine callX.by (w1) ?_|refine callX.by (w2) ?_|refine callX.by (VG _ _ _ _ _ _ _ ?_ ?_ ?_ ?_) ?_|refine callX.by (JJ _ _ _ ?_) ?_|refine callX.by (JC _ _ _ _ _ _ _) ?_|assumption|(refine Qw hK _ ?_;clear hK K)|refine Qw ‹_› _ ?_|refine Qx ‹_› ?_|refine Qi fun K hK=>?_|refine Qj T fun K hK=>?_|refine Qk (id:=5) T mixed YR (by kernel_rfl) fun K hK=>?_|refine Ql fun A B hA hB=>?_|refine Qm ?_|refine Qn ?_|refine Qp ?_|refine Qr ?_)
 | ((with_reducible first|apply Qy|apply Qz|apply QA)<;>intro hb<;>try simp only[nr] at hb)
 |simp only[go_sem,↓reduceIte,reduceIte,Qa,Qh,Qb,Qc,Qd,Qe,Qf,Qg,reduceCtorEq, *,-hs,-w1,-w2,-f3,-hc]
 |with_reducible refine fun(bn:Bool) hbn=>?_))
    all_goals ((repeat clear hK);(repeat clear hA);(repeat clear hB))
    all_goals (refine hM.onE (xs.length-(i+1)) (Ent.ren 5 27 ?_ ?_) ?_ ?_ ?_;(focus(simp only[go_sem,↓reduceIte,reduceIte,Qa,Qh,Qb,Qc,Qd,Qe,Qf,Qg,reduceCtorEq, *,Jd hlt hsl,List.length_append,Je,-hs,-w1,-w2,-f3,-hc];first|done|rfl));(focus(simp only[go_sem,↓reduceIte,reduceIte,Qa,Qh,Qb,Qc,Qd,Qe,Qf,Qg,reduceCtorEq, *,Jd hlt hsl,List.length_append,Je,-hs,-w1,-w2,-f3,-hc];first|done|rfl));omega;(focus(simp only[go_sem,↓reduceIte,reduceIte,Qa,Qh,Qb,Qc,Qd,Qe,Qf,Qg,reduceCtorEq, *,Jd hlt hsl,List.length_append,Je,-hs,-w1,-w2,-f3,-hc];done));refine⟨i+1,ts'.gen 5+1,ys++[Je xs[i]],rfl,by omega,by simp;omega,by rw[f3,List.append_assoc],?_⟩;simp only[go_sem,↓reduceIte,reduceIte,Qa,Qh,Qb,Qc,Qd,Qe,Qf,Qg,reduceCtorEq, *,Jd hlt hsl,List.length_append,Je,-hs,-w1,-w2,-f3,-hc];done)
   ·rw[if_neg hc,List.nil_append] at f3
    rw[decide_eq_false hc] at w2
    (repeat' (first
 | (with_reducible first|refine callX.by (w1) ?_|refine callX.by (w2) ?_|refine callX.by (VG _ _ _ _ _ _ _ ?_ ?_ ?_ ?_) ?_|refine callX.by (JJ _ _ _ ?_) ?_|refine callX.by (JC _ _ _ _ _ _ _) ?_|assumption|(refine Qw hK _ ?_;clear hK K)|refine Qw ‹_› _ ?_|refine Qx ‹_› ?_|refine Qi fun K hK=>?_|refine Qj T fun K hK=>?_|refine Qk (id:=5) T mixed YR (by kernel_rfl) fun K hK=>?_|refine Ql fun A B hA hB=>?_|refine Qm ?_|refine Qn ?_|refine Qp ?_|refine Qr ?_)
 | ((with_reducible first|apply Qy|apply Qz|apply QA)<;>intro hb<;>try simp only[nr] at hb)
 |simp only[go_sem,↓reduceIte,reduceIte,Qa,Qh,Qb,Qc,Qd,Qe,Qf,Qg,reduceCtorEq, *,-hs,-w1,-w2,-f3,-hc]
 |with_reducible refine fun(bn:Bool) hbn=>?_))
    all_goals ((repeat clear hK);(repeat clear hA);(repeat clear hB))
    all_goals (refine hM.on (xs.length-(i+1)) (by omega) (by simp only[go_sem,↓reduceIte,reduceIte,Qa,Qh,Qb,Qc,Qd,Qe,Qf,Qg,reduceCtorEq, *,Jd hlt hsl,-hs,-w1,-w2,-f3,-hc]) ⟨i+1,g,ys,rfl,by omega,by omega,f3,?_⟩;simp only[go_sem,↓reduceIte,reduceIte,Qa,Qh,Qb,Qc,Qd,Qe,Qf,Qg,reduceCtorEq, *,Jd hlt hsl,-hs,-w1,-w2,-f3,-hc];done)
  ·rw[List.drop_eq_nil_of_le (by omega),show J4 [] (⟨k_kind,k_name⟩:Key)=[] from rfl,List.append_nil] at f3
   (repeat' (first
 | (with_reducible first|refine callX.by (VG _ _ _ _ _ _ _ ?_ ?_ ?_ ?_) ?_|refine callX.by (JJ _ _ _ ?_) ?_|refine callX.by (JC _ _ _ _ _ _ _) ?_|assumption|(refine Qw hK _ ?_;clear hK K)|refine Qw ‹_› _ ?_|refine Qx ‹_› ?_|refine Qi fun K hK=>?_|refine Qj T fun K hK=>?_|refine Qk (id:=5) T mixed YR (by kernel_rfl) fun K hK=>?_|refine Ql fun A B hA hB=>?_|refine Qm ?_|refine Qn ?_|refine Qp ?_|refine Qr ?_)
 | ((with_reducible first|apply Qy|apply Qz|apply QA)<;>intro hb<;>try simp only[nr] at hb)
 |simp only[go_sem,↓reduceIte,reduceIte,Qa,Qh,Qb,Qc,Qd,Qe,Qf,Qg,reduceCtorEq, *,-hs,-f3]
 |with_reducible refine fun(bn:Bool) hbn=>?_))
   all_goals rw[f3]
end Go.Proofs.YtmjkjmoeicnbnaaGreatDoor.Lg
