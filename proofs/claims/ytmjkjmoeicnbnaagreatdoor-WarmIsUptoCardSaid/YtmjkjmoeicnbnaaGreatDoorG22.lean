/- Parts of the proof, one behind the other. -/
import Derived.Test.YtmjkjmoeicnbnaaGreatDoorG21
namespace Go.Proofs.YtmjkjmoeicnbnaaGreatDoor.Lg
set_option maxRecDepth 100000
set_option linter.unusedVariables false
set_option linter.unusedSimpArgs false
open Go
open Nat renaming reduceEqDiff → Qa, reduceLT → Qb, reduceLeDiff → Qc, reduceAdd → Qd, reduceMul → Qe, reduceSub → Qf, reduceBEq → Qg
open String renaming reduceEq → Qh
open SpecC renaming seqW → Qi, regW → Qj, condW → Ql, block → Qm, skip → Qn, exit → Qp, ret → Qr, loopF → Qs
open NxK renaming out → Qw
open Nx renaming out → Qx
open condK renaming split → Qy
open gK renaming split_t → Qz, split_f → QA
theorem tget_key6 {l:List Res} {k:Key}:(tget l k).isSome=true↔k∈l.map keyOf:=by
 unfold tget
 rw [List.find?_isSome]
 constructor
 ·rintro ⟨r,hr,h⟩
  exact List.mem_map.2 ⟨r,hr,by simpa using h⟩
 ·intro h
  obtain ⟨r,hr,h⟩:=List.mem_map.1 h
  exact ⟨r,hr,by simpa using h⟩
theorem there_c (xs:List Res) (k_kind:Int) (k_name:List UInt8) (hl:Small xs.length):CallR Tryz.prog 76 [.slice false (avs xs),.agg [.int .i64 k_kind,.str k_name]] (.val (.bool (tget xs (⟨k_kind,k_name⟩:Key)).isSome)):=by
 have w1:=get05_c xs k_kind k_name hl
 rw [av_Res] at w1
 generalize (tget xs (⟨k_kind,k_name⟩:Key)).isSome=b at *
 generalize (tget xs (⟨k_kind,k_name⟩:Key)).getD zRes=z at *
 refine CallR.go2 (T:=T) Tryz.call76 Tryz.func76 rfl Tryz.ntmps76 (congrArg Array.toList Tryz.results76) (by decide) fun ts hn h0 h1=>?_
 (repeat' (first
 | (with_reducible first|refine callX.by (w1) ?_|refine callX.by (get05_c _ _ _ ?_) ?_|assumption|(refine Qw hK _ ?_; clear hK K)|refine Qw ‹_› _ ?_|refine Qx ‹_› ?_|refine Qi fun K hK=>?_|refine Qj T fun K hK=>?_|refine Ql fun A B hA hB=>?_|refine Qn ?_|refine Qr ?_)
 | ((with_reducible first|apply Qy|apply Qz|apply QA)<;>intro hb<;>try simp only [nr] at hb)
 | simp only [go_sem,↓reduceIte,reduceIte,Qa,Qh,Qb,Qc,Qd,Qe,Qf,Qg,reduceCtorEq, *,-w1]
 | with_reducible refine fun (bn:Bool) hbn=>?_))
def addK (l:List Res) (out:List Key) (k:Key):List Key:=if (tget l k).isSome=true∧¬ k∈out then out++[k] else out
def stepK (l:List Res) (out:List Key) (r:Res):List Key:=if keyOf r∈out then (refsR r).foldl (addK l) out else out
def roundK (l:List Res) (out:List Key):List Key:=l.foldl (stepK l) out
def roundsK (l:List Res):Nat→List Key→List Key
 | 0,out=>out
 | n+1,out=>roundsK l n (roundK l out)
def kind0K (l:List Res):List Key:=(l.filter fun r=>decide (r.kind=0)).map keyOf
def reached06 (l:List Res):List Key:=roundsK l 4 (kind0K l)
theorem addK_sub (l:List Res) (out:List Key) (k:Key) {x:Key} (h:x∈out):x∈addK l out k:=by
 unfold addK; split
 ·exact List.mem_append_left _ h
 ·exact h
theorem addKs_sub (l:List Res):∀ (ks out:List Key) {x:Key},x∈out→x∈ks.foldl (addK l) out
 | [],_,_,h=>h
 | k :: ks,out,_,h=>addKs_sub l ks _ (addK_sub l out k h)
theorem stepK_sub (l:List Res) (out:List Key) (r:Res) {x:Key} (h:x∈out):x∈stepK l out r:=by
 unfold stepK; split
 ·exact addKs_sub l _ _ h
 ·exact h
theorem steps_sub (l:List Res):∀ (m:List Res) (out:List Key) {x:Key},x∈out→x∈m.foldl (stepK l) out
 | [],_,_,h=>h
 | r :: m,out,_,h=>steps_sub l m _ (stepK_sub l out r h)
theorem addKs_add (l:List Res):∀ (ks out:List Key) {x:Key},x∈ks→(tget l x).isSome=true→x∈ks.foldl (addK l) out
 | [],_,_,h,_=>by simp at h
 | k :: ks,out,x,h,ht=>by
  rw [List.foldl_cons]
  rcases List.mem_cons.1 h with rfl|h
  ·refine addKs_sub l ks _ ?_
   unfold addK
   split
   ·simp
   ·rename_i hn
    by_cases hx:x∈out
    ·exact hx
    ·exact absurd ⟨ht,hx⟩ hn
  ·exact addKs_add l ks _ h ht
theorem round_add (l:List Res):∀ (m:List Res) (out:List Key) {r:Res} {x:Key},r∈m→keyOf r∈out→x∈refsR r→(tget l x).isSome=true→x∈m.foldl (stepK l) out
 | [],_,_,_,h,_,_,_=>by simp at h
 | q :: m,out,r,x,h,hk,hx,ht=>by
  rw [List.foldl_cons]
  rcases List.mem_cons.1 h with rfl|h
  ·refine steps_sub l m _ ?_
   unfold stepK
   rw [if_pos hk]
   exact addKs_add l _ _ hx ht
  ·exact round_add l m _ h (stepK_sub l out q hk) hx ht
theorem rounds_sub (l:List Res):∀ (n:Nat) (out:List Key) {x:Key},x∈out→x∈roundsK l n out
 | 0,_,_,h=>h
 | n+1,out,_,h=>rounds_sub l n _ (steps_sub l l out h)
inductive RchN (l:List Res):Nat→Key→Prop
 | base (r:Res):r∈l→r.kind=0→RchN l 0 (keyOf r)
 | step (n:Nat) (r:Res) (x:Key):r∈l→RchN l n (keyOf r)→x∈refsR r→x∈l.map keyOf→RchN l (n+1) x
theorem rounds_has (l:List Res):∀ (n:Nat) (out:List Key) (j:Nat),(∀ x,RchN l j x→x∈out)→∀ x,RchN l (j+n) x→x∈roundsK l n out
 | 0,_,_,h,x,hx=>h x hx
 | n+1,out,j,h,x,hx=>by
  refine rounds_has l n (roundK l out) (j+1) (fun y hy=>?_) x (by rw [show j+1+n=j+(n+1) by omega]; exact hx)
  cases hy with
  | step _ r _ hr hk hy hm=>exact round_add l l out hr (h _ hk) hy (tget_key6.2 hm)
theorem kind0_mem {l:List Res} {x:Key}:x∈kind0K l↔RchN l 0 x:=by
 unfold kind0K
 rw [List.mem_map]
 constructor
 ·rintro ⟨r,hr,rfl⟩
  obtain ⟨h1,h2⟩:=List.mem_filter.1 hr
  exact .base r h1 (by simpa using h2)
 ·intro h
  cases h with
  | base r h1 h2=>exact ⟨r,List.mem_filter.2 ⟨h1,by simpa using h2⟩,rfl⟩
theorem refs_low {r:Res} {x:Key} (h:x∈refsR r):x.kind=r.kind+1∧0≤r.kind∧r.kind≤2:=by
 by_cases hs:saneR r=0
 ·refine ⟨(refs_kind hs x h).1,?_⟩
  obtain ⟨h1,h2,_⟩:=sane_parts hs
  rw [(refs_up hs).2] at h
  rcases List.mem_append.1 h with h|h
  ·have hto:r.to'≠[]:=by
    intro e
    unfold baseR at h
    rw [if_pos e] at h
    simp at h
   rcases h1 hto with e|e<;>omega
  ·have hru:r.rules'≠[]:=by
    intro e
    rw [e] at h
    simp [keysR] at h
   have:=h2 hru
   omega
 ·unfold refsR at h
  rw [if_neg hs] at h
  simp at h
theorem rch_depth {l:List Res} {x:Key} (h:Rch l x):∃ n:Nat,n≤3∧x.kind=n∧RchN l n x:=by
 induction h with
 | base r hr hk=>exact ⟨0,by omega,by simpa [keyOf] using hk,.base r hr hk⟩
 | step r x hr _ hx hm ih =>
  obtain ⟨n,h1,h2,h3⟩:=ih
  have hk:r.kind=n:=by simpa [keyOf] using h2
  obtain ⟨q1,q2,q3⟩:=refs_low hx
  exact ⟨n+1,by omega,by omega,.step n r x hr h3 hx hm⟩
theorem addK_sound {l:List Res} {out:List Key} {k:Key} (P:Key→Prop) (ho:∀ x∈out,P x) (hk:(tget l k).isSome=true→P k):∀ x∈addK l out k,P x:=by
 unfold addK
 split
 ·rename_i h
  intro x hx
  rcases List.mem_append.1 hx with hx|hx
  ·exact ho x hx
  ·rw [List.mem_singleton] at hx; subst hx; exact hk h.1
 ·exact ho
theorem addKs_sound {l:List Res} (P:Key→Prop):∀ (ks out:List Key),(∀ x∈out,P x)→(∀ k∈ks,(tget l k).isSome=true→P k)→∀ x∈ks.foldl (addK l) out,P x
 | [],_,ho,_=>ho
 | k :: ks,out,ho,hk=>addKs_sound P ks _ (addK_sound P ho (hk k (by simp))) fun y hy=>hk y (by simp [hy])
theorem steps_sound {l:List Res}:∀ (m:List Res) (out:List Key),(∀ r∈m,r∈l)→(∀ x∈out,Rch l x)→∀ x∈m.foldl (stepK l) out,Rch l x
 | [],_,_,ho=>ho
 | r :: m,out,hm,ho=>by
  rw [List.foldl_cons]
  refine steps_sound m _ (fun q hq=>hm q (by simp [hq])) ?_
  unfold stepK
  split
  ·rename_i hk
   exact addKs_sound (Rch l) _ _ ho fun k hkr ht=>.step r k (hm r (by simp)) (ho _ hk) hkr (tget_key6.1 ht)
  ·exact ho
theorem rounds_sound {l:List Res}:∀ (n:Nat) (out:List Key),(∀ x∈out,Rch l x)→∀ x∈roundsK l n out,Rch l x
 | 0,_,ho=>ho
 | n+1,out,ho=>rounds_sound n _ (steps_sound l out (fun _ h=>h) ho)
theorem reached06_iff (l:List Res) (x:Key):x∈reached06 l↔Rch l x:=by
 unfold reached06
 constructor
 ·refine rounds_sound 4 _ (fun y hy=>?_) x
  cases kind0_mem.1 hy with
  | base r h1 h2=>exact .base r h1 h2
 ·intro h
  obtain ⟨n,h1,_,h3⟩:=rch_depth h
  have hn:∀ (a b:Nat) (out:List Key),roundsK l (a+b) out=roundsK l b (roundsK l a out):=by
   intro a
   induction a with
   | zero=>intro b out; rw [Nat.zero_add]; rfl
   | succ a ih=>intro b out; rw [Nat.succ_add]; exact ih b _
  rw [show 4=n+(4 - n) by omega,hn]
  exact rounds_sub l _ _ (rounds_has l n _ 0 (fun y hy=>kind0_mem.2 hy) x (by rwa [Nat.zero_add]))
theorem addK_len (l:List Res) (out:List Key) (k:Key):(addK l out k).length≤out.length+1:=by
 unfold addK; split<;>simp
theorem addKs_len (l:List Res):∀ (ks out:List Key),(ks.foldl (addK l) out).length≤out.length+ks.length
 | [],_=>Nat.le_refl _
 | k :: ks,out=>by
  have h1:=addKs_len l ks (addK l out k)
  have h2:=addK_len l out k
  simp only [List.foldl_cons,List.length_cons]
  omega
theorem stepK_len (l:List Res) (out:List Key) (r:Res):(stepK l out r).length≤out.length+33:=by
 have h1:=addKs_len l (refsR r) out
 have h2:=refs_len r
 unfold stepK
 split<;>omega
def restK (l:List Res) (out:List Key) (r:Res) (j:Nat):List Key:=if keyOf r∈out then ((refsR r).drop j).foldl (addK l) out else out
theorem restK_in {l:List Res} {p:List Key} {r:Res} {j:Nat} (h:keyOf r∈p) (hj:j < (refsR r).length):restK l p r j=restK l (addK l p (refsR r)[j]) r (j+1):=by
 unfold restK
 rw [if_pos h,if_pos (addK_sub l p _ h),List.drop_eq_getElem_cons hj,List.foldl_cons]
theorem restK_end {l:List Res} {p:List Key} {r:Res} {j:Nat} (hj:(refsR r).length≤j):restK l p r j=p:=by
 unfold restK
 rw [List.drop_eq_nil_of_le hj]
 split<;>rfl
theorem restK_out {l:List Res} {p:List Key} {r:Res} {j:Nat} (h:¬ keyOf r∈p):restK l p r j=p:=by
 unfold restK
 rw [if_neg h]
theorem kind0_cons (x:Res) (l:List Res):kind0K (x :: l)=if x.kind=0 then keyOf x :: kind0K l else kind0K l:=by
 unfold kind0K
 rw [List.filter_cons]
 by_cases h:x.kind=0<;>simp [h]
set_option maxHeartbeats 8000000 in
theorem reached06_c (xs:List Res) (hl:xs.length≤65536) (hs:∀ r∈xs,SmRes r):CallR Tryz.prog 85 [.slice false (avs xs)] (.own 2 (avs (reached06 xs))):=by
 have hsl:=small_le hl
 refine CallR.go1 (T:=T) Tryz.call85 Tryz.func85 rfl Tryz.ntmps85 (congrArg Array.toList Tryz.results85) (by decide) fun ts hn h0=>?_
 (repeat' (first
 | (with_reducible first|refine callX.by (rkey3_c _ _ _ _ _ _ _) ?_|refine callX.by (refs03_c _ _ _ _ _ _ _ ?_ ?_ ?_ ?_) ?_|refine callX.by (has6_c _ _ _ ?_) ?_|refine callX.by (there_c _ _ _ ?_) ?_|assumption|(refine Qw hK _ ?_; clear hK K)|refine Qw ‹_› _ ?_|refine Qx ‹_› ?_|refine Qi fun K hK=>?_|refine Qj T fun K hK=>?_|refine Ql fun A B hA hB=>?_|refine Qm ?_|refine Qn ?_|refine Qp ?_|refine Qr ?_)
 | ((with_reducible first|apply Qy|apply Qz|apply QA)<;>intro hb<;>try simp only [nr] at hb)
 | simp only [go_sem,↓reduceIte,reduceIte,Qa,Qh,Qb,Qc,Qd,Qe,Qf,Qg,reduceCtorEq, *,-hs]
 | with_reducible refine fun (bn:Bool) hbn=>?_))
 refine SpecC.ent (Ent.virt 3 2 (by simp only [go_sem,↓reduceIte,reduceIte,Qa,Qh,Qb,Qc,Qd,Qe,Qf,Qg,reduceCtorEq, *,-hs]) (by decide)) ?_
 refine Qs [0] (fun m ts'=>∃ (i:Nat),∃ (g:Nat),∃ (ys:List Key),m=xs.length - i∧i≤xs.length∧ys.length≤i∧kind0K xs=ys++kind0K (xs.drop i)∧ts'.tmp 3=.os 3 g ys.length∧ts'.gen 3=g∧ts'.obj 3=.arr 2 (avs ys)∧ts'.tmp 4=.int .i64 i) xs.length ?_ ?_
 ·refine ⟨0,ts.gen 3+1,[],rfl,Nat.zero_le _,Nat.le_refl _,rfl,?_⟩
  simp only [go_sem,↓reduceIte,reduceIte,Qa,Qh,Qb,Qc,Qd,Qe,Qf,Qg,reduceCtorEq, *,-hs,avs_nil]
 ·rintro m A hM ts' hk ⟨i,g,ys,hm,f1,f2,f3,s1,s2,s3,s4⟩
  simp only [go_sem,↓reduceIte,reduceIte,Qa,Qh,Qb,Qc,Qd,Qe,Qf,Qg,reduceCtorEq, *] at hk
  by_cases hlt:i < xs.length
  ·rw [List.drop_eq_getElem_cons hlt,kind0_cons] at f3
   have hr:Room (ys.length+1) 24:=room_small (by omega) (by decide)
   by_cases hc:xs[i].kind=0
   ·rw [if_pos hc] at f3
    (repeat' (first
 | (with_reducible first|refine callX.by (rkey3_c _ _ _ _ _ _ _) ?_|refine callX.by (refs03_c _ _ _ _ _ _ _ ?_ ?_ ?_ ?_) ?_|refine callX.by (has6_c _ _ _ ?_) ?_|refine callX.by (there_c _ _ _ ?_) ?_|assumption|(refine Qw hK _ ?_; clear hK K)|refine Qw ‹_› _ ?_|refine Qx ‹_› ?_|refine Qi fun K hK=>?_|refine Qj T fun K hK=>?_|refine Ql fun A B hA hB=>?_|refine Qm ?_|refine Qn ?_|refine Qp ?_|refine Qr ?_)
 | ((with_reducible first|apply Qy|apply Qz|apply QA)<;>intro hb<;>try simp only [nr] at hb)
 | simp only [go_sem,↓reduceIte,reduceIte,Qa,Qh,Qb,Qc,Qd,Qe,Qf,Qg,reduceCtorEq, *,-hs,-f3]
 | with_reducible refine fun (bn:Bool) hbn=>?_))
    all_goals ((repeat clear hK); (repeat clear hA); (repeat clear hB))
    all_goals (refine hM.onE (xs.length - (i+1)) (Ent.ren 3 28 ?_ ?_) ?_ ?_ ?_; (focus (simp only [go_sem,↓reduceIte,reduceIte,Qa,Qh,Qb,Qc,Qd,Qe,Qf,Qg,reduceCtorEq, *,w64_nat hlt hsl,List.length_append,keyOf,-hs,-f3]; first|done|rfl)); (focus (simp only [go_sem,↓reduceIte,reduceIte,Qa,Qh,Qb,Qc,Qd,Qe,Qf,Qg,reduceCtorEq, *,w64_nat hlt hsl,List.length_append,keyOf,-hs,-f3]; first|done|rfl)); omega; (focus (simp only [go_sem,↓reduceIte,reduceIte,Qa,Qh,Qb,Qc,Qd,Qe,Qf,Qg,reduceCtorEq, *,w64_nat hlt hsl,List.length_append,keyOf,-hs,-f3]; done)); refine ⟨i+1,ts'.gen 3+1,ys++[keyOf xs[i]],rfl,by omega,by simp; omega,by rw [f3,List.append_assoc]; rfl,?_⟩; simp only [go_sem,↓reduceIte,reduceIte,Qa,Qh,Qb,Qc,Qd,Qe,Qf,Qg,reduceCtorEq, *,w64_nat hlt hsl,List.length_append,keyOf,-hs,-f3]; done)
   ·rw [if_neg hc] at f3
    (repeat' (first
 | (with_reducible first|refine callX.by (rkey3_c _ _ _ _ _ _ _) ?_|refine callX.by (refs03_c _ _ _ _ _ _ _ ?_ ?_ ?_ ?_) ?_|refine callX.by (has6_c _ _ _ ?_) ?_|refine callX.by (there_c _ _ _ ?_) ?_|assumption|(refine Qw hK _ ?_; clear hK K)|refine Qw ‹_› _ ?_|refine Qx ‹_› ?_|refine Qi fun K hK=>?_|refine Qj T fun K hK=>?_|refine Ql fun A B hA hB=>?_|refine Qm ?_|refine Qn ?_|refine Qp ?_|refine Qr ?_)
 | ((with_reducible first|apply Qy|apply Qz|apply QA)<;>intro hb<;>try simp only [nr] at hb)
 | simp only [go_sem,↓reduceIte,reduceIte,Qa,Qh,Qb,Qc,Qd,Qe,Qf,Qg,reduceCtorEq, *,-hs,-f3]
 | with_reducible refine fun (bn:Bool) hbn=>?_))
    all_goals ((repeat clear hK); (repeat clear hA); (repeat clear hB))
    all_goals (refine hM.on (xs.length - (i+1)) (by omega) (by simp only [go_sem,↓reduceIte,reduceIte,Qa,Qh,Qb,Qc,Qd,Qe,Qf,Qg,reduceCtorEq, *,w64_nat hlt hsl,-hs,-f3]) ⟨i+1,g,ys,rfl,by omega,by omega,f3,?_⟩; simp only [go_sem,↓reduceIte,reduceIte,Qa,Qh,Qb,Qc,Qd,Qe,Qf,Qg,reduceCtorEq, *,w64_nat hlt hsl,-hs,-f3]; done)
  ·rw [List.drop_eq_nil_of_le (by omega)] at f3
   have e0:kind0K xs=ys:=by rw [f3]; simp [kind0K]
   clear f3 hM hm
   (repeat' (first
 | (with_reducible first|refine callX.by (rkey3_c _ _ _ _ _ _ _) ?_|refine callX.by (refs03_c _ _ _ _ _ _ _ ?_ ?_ ?_ ?_) ?_|refine callX.by (has6_c _ _ _ ?_) ?_|refine callX.by (there_c _ _ _ ?_) ?_|assumption|(refine Qw hK _ ?_; clear hK K)|refine Qw ‹_› _ ?_|refine Qx ‹_› ?_|refine Qi fun K hK=>?_|refine Qj T fun K hK=>?_|refine Ql fun A B hA hB=>?_|refine Qm ?_|refine Qn ?_|refine Qp ?_|refine Qr ?_)
 | ((with_reducible first|apply Qy|apply Qz|apply QA)<;>intro hb<;>try simp only [nr] at hb)
 | simp only [go_sem,↓reduceIte,reduceIte,Qa,Qh,Qb,Qc,Qd,Qe,Qf,Qg,reduceCtorEq, *,-hs,-e0]
 | with_reducible refine fun (bn:Bool) hbn=>?_))
   refine Qs [0] (fun m ts'=>∃ (n:Nat),∃ (g:Nat),∃ (out:List Key),m=4 - n∧n≤4∧out.length≤xs.length+33 * (n * xs.length)∧roundsK xs (4 - n) out=reached06 xs∧ts'.tmp 3=.os 3 g out.length∧ts'.gen 3=g∧ts'.obj 3=.arr 2 (avs out)∧ts'.tmp 5=.int .i64 n) 4 ?_ ?_
   ·refine ⟨0,g,ys,rfl,by omega,by omega,by rw [← e0]; rfl,?_⟩
    simp only [go_sem,↓reduceIte,reduceIte,Qa,Qh,Qb,Qc,Qd,Qe,Qf,Qg,reduceCtorEq, *,-hs,-e0]
   ·clear e0
    rintro m A hM ts' hk ⟨n,g,out,hm,f1,f2,f3,s1,s2,s3,s4⟩
    simp only [go_sem,↓reduceIte,reduceIte,Qa,Qh,Qb,Qc,Qd,Qe,Qf,Qg,reduceCtorEq, *] at hk
    have hMn:=hM
    have hmn:=hm
    by_cases hn4:n < 4
    ·have hn4':(n:Int) < 4:=by omega
     have h4s:Small 4:=by unfold Small; omega
     have e1:roundsK xs (4 - (n+1)) (roundK xs out)=reached06 xs:=by
      rw [← f3,show 4 - n=4 - (n+1)+1 by omega]; rfl
     clear f3 hM hm
     (repeat' (first
 | (with_reducible first|refine callX.by (rkey3_c _ _ _ _ _ _ _) ?_|refine callX.by (refs03_c _ _ _ _ _ _ _ ?_ ?_ ?_ ?_) ?_|refine callX.by (has6_c _ _ _ ?_) ?_|refine callX.by (there_c _ _ _ ?_) ?_|assumption|(refine Qw hK _ ?_; clear hK K)|refine Qw ‹_› _ ?_|refine Qx ‹_› ?_|refine Qi fun K hK=>?_|refine Qj T fun K hK=>?_|refine Ql fun A B hA hB=>?_|refine Qm ?_|refine Qn ?_|refine Qp ?_|refine Qr ?_)
 | ((with_reducible first|apply Qy|apply Qz|apply QA)<;>intro hb<;>try simp only [nr] at hb)
 | simp only [go_sem,↓reduceIte,reduceIte,Qa,Qh,Qb,Qc,Qd,Qe,Qf,Qg,reduceCtorEq, *,-hs,-e1,-hMn]
 | with_reducible refine fun (bn:Bool) hbn=>?_))
     refine Qs [0,5] (fun m ts'=>∃ (i:Nat),∃ (g:Nat),∃ (o:List Key),m=xs.length - i∧i≤xs.length∧o.length≤out.length+33 * i∧(xs.drop i).foldl (stepK xs) o=roundK xs out∧ts'.tmp 3=.os 3 g o.length∧ts'.gen 3=g∧ts'.obj 3=.arr 2 (avs o)∧ts'.tmp 6=.int .i64 i) xs.length ?_ ?_
     ·refine ⟨0,g,out,rfl,Nat.zero_le _,by omega,rfl,?_⟩
      simp only [go_sem,↓reduceIte,reduceIte,Qa,Qh,Qb,Qc,Qd,Qe,Qf,Qg,reduceCtorEq, *,-hs,-e1,-hMn]
     ·rintro m A hM ts' hk ⟨i,g,o,hm,f1,f2,f3,s1,s2,s3,s4⟩
      simp only [go_sem,↓reduceIte,reduceIte,Qa,Qh,Qb,Qc,Qd,Qe,Qf,Qg,reduceCtorEq, *] at hk
      have hMi:=hM
      have hmi:=hm
      by_cases hlt:i < xs.length
      ·rw [List.drop_eq_getElem_cons hlt,List.foldl_cons] at f3
       have hx:=hs _ (List.getElem_mem hlt)
       have w1:=refs03_c xs[i].kind xs[i].name xs[i].ver xs[i].port xs[i].to' xs[i].rules' xs[i].hosts hx.2.2.1 hx.2.2.2.2 hx.2.2.2.1 hx.2.1
       have w1:CallR Tryz.prog 75 [.agg [.int .i64 xs[i].kind,.str xs[i].name,.int .i64 xs[i].ver,.int .i64 xs[i].port,.str xs[i].to',.slice false (avs xs[i].rules'),.slice false (avs xs[i].hosts)]] (.val (.slice false (avs (refsR xs[i])))):=w1
       have hrl:=refs_len xs[i]
       have hrs:Small (refsR xs[i]).length:=by unfold Small; omega
       have hbig:n * xs.length≤4 * 65536:=Nat.mul_le_mul (by omega) hl
       have hol:out.length≤9000000:=by omega
       have hor:o.length≤12000000:=by omega
       have hrest:=f3
       have hoo:=f2
       clear hx hM hm f3
       (repeat' (first
 | (with_reducible first|refine callX.by (w1) ?_|refine callX.by (rkey3_c _ _ _ _ _ _ _) ?_|refine callX.by (refs03_c _ _ _ _ _ _ _ ?_ ?_ ?_ ?_) ?_|refine callX.by (has6_c _ _ _ ?_) ?_|refine callX.by (there_c _ _ _ ?_) ?_|assumption|(refine Qw hK _ ?_; clear hK K)|refine Qw ‹_› _ ?_|refine Qx ‹_› ?_|refine Qi fun K hK=>?_|refine Qj T fun K hK=>?_|refine Ql fun A B hA hB=>?_|refine Qm ?_|refine Qn ?_|refine Qp ?_|refine Qr ?_)
 | ((with_reducible first|apply Qy|apply Qz|apply QA)<;>intro hb<;>try simp only [nr] at hb)
 | simp only [go_sem,↓reduceIte,reduceIte,Qa,Qh,Qb,Qc,Qd,Qe,Qf,Qg,reduceCtorEq, *,-hs,-e1,-hMn,-hMi,-w1,-hrest]
 | with_reducible refine fun (bn:Bool) hbn=>?_))
       refine Qs [0,5,6,7] (fun m ts'=>∃ (j:Nat),∃ (g:Nat),∃ (p:List Key),m=(refsR xs[i]).length - j∧j≤(refsR xs[i]).length∧p.length≤o.length+j∧restK xs p xs[i] j=stepK xs o xs[i]∧(¬ keyOf xs[i]∈p→j=0)∧ts'.tmp 3=.os 3 g p.length∧ts'.gen 3=g∧ts'.obj 3=.arr 2 (avs p)∧ts'.tmp 8=.int .i64 j) (refsR xs[i]).length ?_ ?_
       ·refine ⟨0,g,o,rfl,Nat.zero_le _,Nat.le_refl _,rfl,fun _=>rfl,?_⟩
        simp only [go_sem,↓reduceIte,reduceIte,Qa,Qh,Qb,Qc,Qd,Qe,Qf,Qg,reduceCtorEq, *,-hs,-e1,-hMn,-hMi,-hrest]
       ·rintro m A hM ts' hk ⟨j,g,p,hm,f1,f2,f3,f4,s1,s2,s3,s4⟩
        simp only [go_sem,↓reduceIte,reduceIte,Qa,Qh,Qb,Qc,Qd,Qe,Qf,Qg,reduceCtorEq, *] at hk
        have w2:=has6_c p xs[i].kind xs[i].name (by unfold Small; omega)
        have w2:CallR Tryz.prog 64 [.slice false (avs p),.agg [.int .i64 xs[i].kind,.str xs[i].name]] (.val (.bool (decide (keyOf xs[i]∈p)))):=w2
        have hMj:=hM
        have fin:p=stepK xs o xs[i]→(xs.drop (i+1)).foldl (stepK xs) p=roundK xs out:=fun e=>by rw [e]; exact hrest
        by_cases hin:keyOf xs[i]∈p
        ·rw [decide_eq_true hin] at w2
         by_cases hjl:j < (refsR xs[i]).length
         ·rw [restK_in hin hjl] at f3
          have w3:=there_c xs (refsR xs[i])[j].kind (refsR xs[i])[j].name hsl
          have w3:CallR Tryz.prog 76 [.slice false (avs xs),.agg [.int .i64 (refsR xs[i])[j].kind,.str (refsR xs[i])[j].name]] (.val (.bool (tget xs (refsR xs[i])[j]).isSome)):=w3
          have w4:=has6_c p (refsR xs[i])[j].kind (refsR xs[i])[j].name (by unfold Small; omega)
          have w4:CallR Tryz.prog 64 [.slice false (avs p),.agg [.int .i64 (refsR xs[i])[j].kind,.str (refsR xs[i])[j].name]] (.val (.bool (decide ((refsR xs[i])[j]∈p)))):=w4
          have hin2:=addK_sub xs p (refsR xs[i])[j] hin
          by_cases hc:(tget xs (refsR xs[i])[j]).isSome=true∧¬ (refsR xs[i])[j]∈p
          ·have ea:addK xs p (refsR xs[i])[j]=p++[(refsR xs[i])[j]]:=by unfold addK; rw [if_pos hc]
           rw [ea] at f3 hin2
           obtain ⟨c1,c2⟩:=hc
           rw [c1] at w3
           rw [decide_eq_false c2] at w4
           have hr:Room (p.length+1) 24:=room_small (by omega) (by decide)
           clear ea fin hrest
           (repeat' (first
 | (with_reducible first|refine callX.by (w2) ?_|refine callX.by (w3) ?_|refine callX.by (w4) ?_|refine callX.by (rkey3_c _ _ _ _ _ _ _) ?_|refine callX.by (refs03_c _ _ _ _ _ _ _ ?_ ?_ ?_ ?_) ?_|refine callX.by (has6_c _ _ _ ?_) ?_|refine callX.by (there_c _ _ _ ?_) ?_|assumption|(refine Qw hK _ ?_; clear hK K)|refine Qw ‹_› _ ?_|refine Qx ‹_› ?_|refine Qi fun K hK=>?_|refine Qj T fun K hK=>?_|refine Ql fun A B hA hB=>?_|refine Qm ?_|refine Qn ?_|refine Qp ?_|refine Qr ?_)
 | ((with_reducible first|apply Qy|apply Qz|apply QA)<;>intro hb<;>try simp only [nr] at hb)
 | simp only [go_sem,↓reduceIte,reduceIte,Qa,Qh,Qb,Qc,Qd,Qe,Qf,Qg,reduceCtorEq, *,-hs,-e1,-hMn,-hMi,-hMj,-f3,-f4,-w2,-w3,-w4,-hin,-hin2,-c1,-c2]
 | with_reducible refine fun (bn:Bool) hbn=>?_))
           all_goals ((repeat clear hK); (repeat clear hA); (repeat clear hB))
           all_goals (refine hM.onE ((refsR xs[i]).length - (j+1)) (Ent.ren 3 80 ?_ ?_) ?_ ?_ ?_; (focus (simp only [go_sem,↓reduceIte,reduceIte,Qa,Qh,Qb,Qc,Qd,Qe,Qf,Qg,reduceCtorEq, *,w64_nat hjl hrs,List.length_append,-hs,-e1,-hMn,-hMi,-hMj,-f3,-f4,-w2,-w3,-w4,-hin,-hin2,-c1,-c2]; first|done|rfl)); (focus (simp only [go_sem,↓reduceIte,reduceIte,Qa,Qh,Qb,Qc,Qd,Qe,Qf,Qg,reduceCtorEq, *,w64_nat hjl hrs,List.length_append,-hs,-e1,-hMn,-hMi,-hMj,-f3,-f4,-w2,-w3,-w4,-hin,-hin2,-c1,-c2]; first|done|rfl)); omega; (focus (simp only [go_sem,↓reduceIte,reduceIte,Qa,Qh,Qb,Qc,Qd,Qe,Qf,Qg,reduceCtorEq, *,w64_nat hjl hrs,List.length_append,-hs,-e1,-hMn,-hMi,-hMj,-f3,-f4,-w2,-w3,-w4,-hin,-hin2,-c1,-c2]; done)); refine ⟨j+1,ts'.gen 3+1,p++[(refsR xs[i])[j]],rfl,by omega,by simp; omega,f3,fun h=>absurd hin2 h,?_⟩; simp only [go_sem,↓reduceIte,reduceIte,Qa,Qh,Qb,Qc,Qd,Qe,Qf,Qg,reduceCtorEq, *,w64_nat hjl hrs,List.length_append,-hs,-e1,-hMn,-hMi,-hMj,-f3,-f4,-w2,-w3,-w4,-hin,-hin2,-c1,-c2]; done)
          ·have ea:addK xs p (refsR xs[i])[j]=p:=by unfold addK; rw [if_neg hc]
           rw [ea] at f3
           clear ea fin hrest hin2
           by_cases c1:(tget xs (refsR xs[i])[j]).isSome=true
           ·have c2:(refsR xs[i])[j]∈p:=Classical.byContradiction fun h=>hc ⟨c1,h⟩
            rw [c1] at w3
            rw [decide_eq_true c2] at w4
            clear hc
            (repeat' (first
 | (with_reducible first|refine callX.by (w2) ?_|refine callX.by (w3) ?_|refine callX.by (w4) ?_|refine callX.by (rkey3_c _ _ _ _ _ _ _) ?_|refine callX.by (refs03_c _ _ _ _ _ _ _ ?_ ?_ ?_ ?_) ?_|refine callX.by (has6_c _ _ _ ?_) ?_|refine callX.by (there_c _ _ _ ?_) ?_|assumption|(refine Qw hK _ ?_; clear hK K)|refine Qw ‹_› _ ?_|refine Qx ‹_› ?_|refine Qi fun K hK=>?_|refine Qj T fun K hK=>?_|refine Ql fun A B hA hB=>?_|refine Qm ?_|refine Qn ?_|refine Qp ?_|refine Qr ?_)
 | ((with_reducible first|apply Qy|apply Qz|apply QA)<;>intro hb<;>try simp only [nr] at hb)
 | simp only [go_sem,↓reduceIte,reduceIte,Qa,Qh,Qb,Qc,Qd,Qe,Qf,Qg,reduceCtorEq, *,-hs,-e1,-hMn,-hMi,-hMj,-f3,-f4,-w2,-w3,-w4,-hin,-c1,-c2]
 | with_reducible refine fun (bn:Bool) hbn=>?_))
            all_goals ((repeat clear hK); (repeat clear hA); (repeat clear hB))
            all_goals (refine hM.on ((refsR xs[i]).length - (j+1)) (by omega) (by simp only [go_sem,↓reduceIte,reduceIte,Qa,Qh,Qb,Qc,Qd,Qe,Qf,Qg,reduceCtorEq, *,w64_nat hjl hrs,-hs,-e1,-hMn,-hMi,-hMj,-f3,-f4,-w2,-w3,-w4,-hin,-c1,-c2]) ⟨j+1,g,p,rfl,by omega,by omega,f3,fun h=>absurd hin h,?_⟩; simp only [go_sem,↓reduceIte,reduceIte,Qa,Qh,Qb,Qc,Qd,Qe,Qf,Qg,reduceCtorEq, *,w64_nat hjl hrs,-hs,-e1,-hMn,-hMi,-hMj,-f3,-f4,-w2,-w3,-w4,-hin,-c1,-c2]; done)
           ·have c1':(tget xs (refsR xs[i])[j]).isSome=false:=by simpa using c1
            rw [c1'] at w3
            clear hc c1 c1'
            (repeat' (first
 | (with_reducible first|refine callX.by (w2) ?_|refine callX.by (w3) ?_|refine callX.by (w4) ?_|refine callX.by (rkey3_c _ _ _ _ _ _ _) ?_|refine callX.by (refs03_c _ _ _ _ _ _ _ ?_ ?_ ?_ ?_) ?_|refine callX.by (has6_c _ _ _ ?_) ?_|refine callX.by (there_c _ _ _ ?_) ?_|assumption|(refine Qw hK _ ?_; clear hK K)|refine Qw ‹_› _ ?_|refine Qx ‹_› ?_|refine Qi fun K hK=>?_|refine Qj T fun K hK=>?_|refine Ql fun A B hA hB=>?_|refine Qm ?_|refine Qn ?_|refine Qp ?_|refine Qr ?_)
 | ((with_reducible first|apply Qy|apply Qz|apply QA)<;>intro hb<;>try simp only [nr] at hb)
 | simp only [go_sem,↓reduceIte,reduceIte,Qa,Qh,Qb,Qc,Qd,Qe,Qf,Qg,reduceCtorEq, *,-hs,-e1,-hMn,-hMi,-hMj,-f3,-f4,-w2,-w3,-w4,-hin]
 | with_reducible refine fun (bn:Bool) hbn=>?_))
            all_goals ((repeat clear hK); (repeat clear hA); (repeat clear hB))
            all_goals (refine hM.on ((refsR xs[i]).length - (j+1)) (by omega) (by simp only [go_sem,↓reduceIte,reduceIte,Qa,Qh,Qb,Qc,Qd,Qe,Qf,Qg,reduceCtorEq, *,w64_nat hjl hrs,-hs,-e1,-hMn,-hMi,-hMj,-f3,-f4,-w2,-w3,-w4,-hin]) ⟨j+1,g,p,rfl,by omega,by omega,f3,fun h=>absurd hin h,?_⟩; simp only [go_sem,↓reduceIte,reduceIte,Qa,Qh,Qb,Qc,Qd,Qe,Qf,Qg,reduceCtorEq, *,w64_nat hjl hrs,-hs,-e1,-hMn,-hMi,-hMj,-f3,-f4,-w2,-w3,-w4,-hin]; done)
         ·rw [restK_end (by omega)] at f3
          have hfin:=fin f3
          clear fin hrest f3 f4
          (repeat' (first
 | (with_reducible first|refine callX.by (w2) ?_|refine callX.by (rkey3_c _ _ _ _ _ _ _) ?_|refine callX.by (refs03_c _ _ _ _ _ _ _ ?_ ?_ ?_ ?_) ?_|refine callX.by (has6_c _ _ _ ?_) ?_|refine callX.by (there_c _ _ _ ?_) ?_|assumption|(refine Qw hK _ ?_; clear hK K)|refine Qw ‹_› _ ?_|refine Qx ‹_› ?_|refine Qi fun K hK=>?_|refine Qj T fun K hK=>?_|refine Ql fun A B hA hB=>?_|refine Qm ?_|refine Qn ?_|refine Qp ?_|refine Qr ?_)
 | ((with_reducible first|apply Qy|apply Qz|apply QA)<;>intro hb<;>try simp only [nr] at hb)
 | simp only [go_sem,↓reduceIte,reduceIte,Qa,Qh,Qb,Qc,Qd,Qe,Qf,Qg,reduceCtorEq, *,-hs,-e1,-hMn,-hMi,-hMj,-w2,-hin,-hfin]
 | with_reducible refine fun (bn:Bool) hbn=>?_))
          all_goals ((repeat clear hK); (repeat clear hA); (repeat clear hB))
          all_goals (clear hM; have hM:=hMi; (refine hM.on (xs.length - (i+1)) (by omega) (by simp only [go_sem,↓reduceIte,reduceIte,Qa,Qh,Qb,Qc,Qd,Qe,Qf,Qg,reduceCtorEq, *,w64_nat hlt hsl,-hs,-e1,-hMn,-hMi,-hMj,-w2,-hin,-hfin]) ⟨i+1,g,p,rfl,by omega,by omega,hfin,?_⟩; simp only [go_sem,↓reduceIte,reduceIte,Qa,Qh,Qb,Qc,Qd,Qe,Qf,Qg,reduceCtorEq, *,w64_nat hlt hsl,-hs,-e1,-hMn,-hMi,-hMj,-w2,-hin,-hfin]; done))
        ·rw [decide_eq_false hin] at w2
         have hj0:=f4 hin
         subst hj0
         rw [restK_out hin] at f3
         have hfin:=fin f3
         clear fin hrest f3 f4
         (repeat' (first
 | (with_reducible first|refine callX.by (w2) ?_|refine callX.by (rkey3_c _ _ _ _ _ _ _) ?_|refine callX.by (refs03_c _ _ _ _ _ _ _ ?_ ?_ ?_ ?_) ?_|refine callX.by (has6_c _ _ _ ?_) ?_|refine callX.by (there_c _ _ _ ?_) ?_|assumption|(refine Qw hK _ ?_; clear hK K)|refine Qw ‹_› _ ?_|refine Qx ‹_› ?_|refine Qi fun K hK=>?_|refine Qj T fun K hK=>?_|refine Ql fun A B hA hB=>?_|refine Qm ?_|refine Qn ?_|refine Qp ?_|refine Qr ?_)
 | ((with_reducible first|apply Qy|apply Qz|apply QA)<;>intro hb<;>try simp only [nr] at hb)
 | simp only [go_sem,↓reduceIte,reduceIte,Qa,Qh,Qb,Qc,Qd,Qe,Qf,Qg,reduceCtorEq, *,-hs,-e1,-hMn,-hMi,-hMj,-w2,-hin,-hfin]
 | with_reducible refine fun (bn:Bool) hbn=>?_))
         all_goals ((repeat clear hK); (repeat clear hA); (repeat clear hB))
         all_goals (clear hM; have hM:=hMi; (refine hM.on (xs.length - (i+1)) (by omega) (by simp only [go_sem,↓reduceIte,reduceIte,Qa,Qh,Qb,Qc,Qd,Qe,Qf,Qg,reduceCtorEq, *,w64_nat hlt hsl,-hs,-e1,-hMn,-hMi,-hMj,-w2,-hin,-hfin]) ⟨i+1,g,p,rfl,by omega,by omega,hfin,?_⟩; simp only [go_sem,↓reduceIte,reduceIte,Qa,Qh,Qb,Qc,Qd,Qe,Qf,Qg,reduceCtorEq, *,w64_nat hlt hsl,-hs,-e1,-hMn,-hMi,-hMj,-w2,-hin,-hfin]; done))
      ·rw [List.drop_eq_nil_of_le (by omega),List.foldl_nil] at f3
       have hi:i=xs.length:=by omega
       subst hi
       rw [← f3] at e1
       have hmul:(n+1) * xs.length=n * xs.length+xs.length:=by rw [Nat.add_mul,Nat.one_mul]
       clear f3
       (repeat' (first
 | (with_reducible first|refine callX.by (rkey3_c _ _ _ _ _ _ _) ?_|refine callX.by (refs03_c _ _ _ _ _ _ _ ?_ ?_ ?_ ?_) ?_|refine callX.by (has6_c _ _ _ ?_) ?_|refine callX.by (there_c _ _ _ ?_) ?_|assumption|(refine Qw hK _ ?_; clear hK K)|refine Qw ‹_› _ ?_|refine Qx ‹_› ?_|refine Qi fun K hK=>?_|refine Qj T fun K hK=>?_|refine Ql fun A B hA hB=>?_|refine Qm ?_|refine Qn ?_|refine Qp ?_|refine Qr ?_)
 | ((with_reducible first|apply Qy|apply Qz|apply QA)<;>intro hb<;>try simp only [nr] at hb)
 | simp only [go_sem,↓reduceIte,reduceIte,Qa,Qh,Qb,Qc,Qd,Qe,Qf,Qg,reduceCtorEq, *,-hs,-e1,-hMn,-hMi]
 | with_reducible refine fun (bn:Bool) hbn=>?_))
       all_goals ((repeat clear hK); (repeat clear hA); (repeat clear hB))
       all_goals (clear hM; have hM:=hMn; (refine hM.on (4 - (n+1)) (by omega) (by simp only [go_sem,↓reduceIte,reduceIte,Qa,Qh,Qb,Qc,Qd,Qe,Qf,Qg,reduceCtorEq, *,w64_nat hn4 h4s,-hs,-e1,-hMn,-hMi,-hmul]) ⟨n+1,g,o,rfl,by omega,by rw [hmul]; omega,e1,?_⟩; simp only [go_sem,↓reduceIte,reduceIte,Qa,Qh,Qb,Qc,Qd,Qe,Qf,Qg,reduceCtorEq, *,w64_nat hn4 h4s,-hs,-e1,-hMn,-hMi,-hmul]; done))
    ·have hn:n=4:=by omega
     subst hn
     have e1:reached06 xs=out:=by rw [← f3]; rfl
     rw [e1]
     (repeat' (first
 | (with_reducible first|refine callX.by (rkey3_c _ _ _ _ _ _ _) ?_|refine callX.by (refs03_c _ _ _ _ _ _ _ ?_ ?_ ?_ ?_) ?_|refine callX.by (has6_c _ _ _ ?_) ?_|refine callX.by (there_c _ _ _ ?_) ?_|assumption|(refine Qw hK _ ?_; clear hK K)|refine Qw ‹_› _ ?_|refine Qx ‹_› ?_|refine Qi fun K hK=>?_|refine Qj T fun K hK=>?_|refine Ql fun A B hA hB=>?_|refine Qm ?_|refine Qn ?_|refine Qp ?_|refine Qr ?_)
 | ((with_reducible first|apply Qy|apply Qz|apply QA)<;>intro hb<;>try simp only [nr] at hb)
 | simp only [go_sem,↓reduceIte,reduceIte,Qa,Qh,Qb,Qc,Qd,Qe,Qf,Qg,reduceCtorEq, *,-hs,-f3]
 | with_reducible refine fun (bn:Bool) hbn=>?_))
     all_goals trace_state
end Go.Proofs.YtmjkjmoeicnbnaaGreatDoor.Lg
