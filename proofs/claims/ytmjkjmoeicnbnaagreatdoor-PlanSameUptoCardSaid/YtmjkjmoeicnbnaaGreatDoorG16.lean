/- Parts of the proof, one behind the other. -/
import Derived.Test.YtmjkjmoeicnbnaaGreatDoorG15
namespace Go.Proofs.YtmjkjmoeicnbnaaGreatDoor.Lg
set_option maxRecDepth 100000
set_option linter.unusedVariables false
set_option linter.unusedSimpArgs false
open Go
open Nat renaming reduceEqDiff → Qa, reduceLT → Qb, reduceLeDiff → Qc, reduceAdd → Qd, reduceMul → Qe, reduceSub → Qf, reduceBEq → Qg
open String renaming reduceEq → Qh
open SpecC renaming seqW → Qi, regW → Qj, condW → Ql, block → Qm, skip → Qn, exit → Qp, ret → Qr, loopF → Qs
open NxK renaming out → Qw
open condK renaming split → Qy
open gK renaming split_t → Qz, split_f → QA
def patchR (l adds:List Res) (gone:List Key):List Res:=adds.foldl withR (gone.foldl twithout l)
theorem side_len (l:List Res) (k:Key):(sideR l k (-1)).length+(sideR l k 1).length≤l.length:=by
 induction l with
 | nil=>simp [sideR]
 | cons x l ih =>
  simp only [sideR,List.filter_cons] at ih ⊢
  by_cases h1:kcmp (keyOf x) k=-1
  ·have h2:¬ kcmp (keyOf x) k=1:=by omega
   simp [h1] at ih ⊢
   omega
  ·by_cases h2:kcmp (keyOf x) k=1
   ·simp [h2] at ih ⊢
    omega
   ·simp [h1,h2] at ih ⊢
    omega
theorem withR_len (l:List Res) (r:Res):(withR l r).length≤l.length+1:=by
 have:=side_len l (keyOf r)
 simp only [withR,List.length_append,List.length_singleton]
 omega
theorem withR_mem {l:List Res} {r x:Res} (h:x∈withR l r):x=r∨x∈l:=by
 simp only [withR,sideR,List.mem_append,List.mem_filter,List.mem_singleton] at h
 rcases h with (h|h)|h
 ·exact .inr h.1
 ·exact .inl h
 ·exact .inr h.1
theorem twithout_len (l:List Res) (k:Key):(twithout l k).length≤l.length:=by unfold twithout; exact List.length_filter_le _ _
theorem twithout_mem {l:List Res} {k:Key} {x:Res} (h:x∈twithout l k):x∈l:=by unfold twithout at h; exact (List.mem_filter.1 h).1
theorem withouts_len (l:List Res):∀ gone:List Key,(gone.foldl twithout l).length≤l.length
 | []=>Nat.le_refl _
 | k :: g=>Nat.le_trans (withouts_len (twithout l k) g) (twithout_len l k)
theorem withs_len (l:List Res):∀ adds:List Res,(adds.foldl withR l).length≤l.length+adds.length
 | []=>Nat.le_refl _
 | r :: a=>by
  have h1:=withs_len (withR l r) a
  have h2:=withR_len l r
  simp only [List.foldl_cons,List.length_cons]
  omega
theorem patchR_len (l adds:List Res) (gone:List Key):(patchR l adds gone).length≤l.length+adds.length:=Nat.le_trans (withs_len _ _) (Nat.add_le_add_right (withouts_len l gone) _)
theorem patchR_mem {l adds:List Res} {gone:List Key} {x:Res} (h:x∈patchR l adds gone):x∈l∨x∈adds:=by
 have h1:∀ (adds l:List Res),x∈adds.foldl withR l→x∈l∨x∈adds:=by
  intro adds
  induction adds with
  | nil=>exact fun l h=>.inl h
  | cons r a ih =>
   intro l h
   rcases ih _ h with h|h
   ·rcases withR_mem h with rfl|h
    ·exact .inr (by simp)
    ·exact .inl h
   ·exact .inr (List.mem_cons_of_mem _ h)
 have h2:∀ (gone:List Key) (l:List Res),x∈gone.foldl twithout l→x∈l:=by
  intro gone
  induction gone with
  | nil=>exact fun l h=>h
  | cons k g ih=>exact fun l h=>twithout_mem (ih _ h)
 rcases h1 _ _ h with h|h
 ·exact .inl (h2 _ _ h)
 ·exact .inr h
theorem tpatch_c (xs adds:List Res) (gone:List Key) (hx:Small xs.length) (ha:Small adds.length) (hg:Small gone.length) (hl:Small (xs.length+adds.length)) :
  CallR Tryz.prog 102 [.slice false (avs xs),.slice false (avs adds),.slice false (avs gone)] (.val (.slice false (avs (patchR xs adds gone)))):=by
 refine CallR.go3 (T:=T) Tryz.call102 Tryz.func102 rfl Tryz.ntmps102 (congrArg Array.toList Tryz.results102) (by decide) fun ts hn h0 h1 h2=>?_
 (repeat' (first
 | (with_reducible first|refine callX.by (twithout_c _ _ _ ?_) ?_|refine callX.by (with_c _ _ ?_ ?_) ?_|assumption|(refine Qw hK _ ?_; clear hK K)|refine Qw ‹_› _ ?_|refine Nx.out ‹_› ?_|refine Qi fun K hK=>?_|refine Qj T fun K hK=>?_|refine Ql fun A B hA hB=>?_|refine Qm ?_|refine Qn ?_|refine Qp ?_|refine Qr ?_)
 | ((with_reducible first|apply Qy|apply Qz|apply QA)<;>intro hb<;>try simp only [nr] at hb)
 | simp only [go_sem,↓reduceIte,reduceIte,Qa,Qh,Qb,Qc,Qd,Qe,Qf,Qg,reduceCtorEq, *]
 | with_reducible refine fun (bn:Bool) hbn=>?_))
 refine Qs [1,11,12] (fun m ts'=>∃ (i:Nat),∃ (ys:List Res),m=gone.length - i∧i≤gone.length∧ys.length≤xs.length∧(gone.drop i).foldl twithout ys=gone.foldl twithout xs∧ts'.tmp 0=.slice false (avs ys)∧ts'.tmp 13=.int .i64 i) gone.length ?_ ?_
 ·refine ⟨0,xs,rfl,Nat.zero_le _,Nat.le_refl _,rfl,?_⟩
  simp only [go_sem,↓reduceIte,reduceIte,Qa,Qh,Qb,Qc,Qd,Qe,Qf,Qg,reduceCtorEq, *]
 ·rintro m A hM ts' hk ⟨i,ys,hm,f1,f2,f3,s1,s2⟩
  simp only [go_sem,↓reduceIte,reduceIte,Qa,Qh,Qb,Qc,Qd,Qe,Qf,Qg,reduceCtorEq, *] at hk
  by_cases hlt:i < gone.length
  ·rw [List.drop_eq_getElem_cons hlt,List.foldl_cons] at f3
   have hys:Small ys.length:=by unfold Small at hx ⊢; omega
   have w1:=(twithout_c ys gone[i].kind gone[i].name hys).frz
   have hle:=twithout_len ys gone[i]
   (repeat' (first
 | (with_reducible first|refine callX.by (w1) ?_|refine callX.by (twithout_c _ _ _ ?_) ?_|refine callX.by (with_c _ _ ?_ ?_) ?_|assumption|(refine Qw hK _ ?_; clear hK K)|refine Qw ‹_› _ ?_|refine Nx.out ‹_› ?_|refine Qi fun K hK=>?_|refine Qj T fun K hK=>?_|refine Ql fun A B hA hB=>?_|refine Qm ?_|refine Qn ?_|refine Qp ?_|refine Qr ?_)
 | ((with_reducible first|apply Qy|apply Qz|apply QA)<;>intro hb<;>try simp only [nr] at hb)
 | simp only [go_sem,↓reduceIte,reduceIte,Qa,Qh,Qb,Qc,Qd,Qe,Qf,Qg,reduceCtorEq, *,-f3,-w1]
 | with_reducible refine fun (bn:Bool) hbn=>?_))
   all_goals ((repeat clear hK); (repeat clear hA); (repeat clear hB))
   all_goals (refine hM.on (gone.length - (i+1)) (by omega) (by simp only [go_sem,↓reduceIte,reduceIte,Qa,Qh,Qb,Qc,Qd,Qe,Qf,Qg,reduceCtorEq, *,w64_nat hlt hg,-f3,-w1]) ⟨i+1,twithout ys gone[i],rfl,by omega,by omega,f3,?_⟩; simp only [go_sem,↓reduceIte,reduceIte,Qa,Qh,Qb,Qc,Qd,Qe,Qf,Qg,reduceCtorEq, *,w64_nat hlt hg,-f3,-w1]; done)
  ·rw [List.drop_eq_nil_of_le (by omega),List.foldl_nil] at f3
   subst f3
   (repeat' (first
 | (with_reducible first|refine callX.by (twithout_c _ _ _ ?_) ?_|refine callX.by (with_c _ _ ?_ ?_) ?_|assumption|(refine Qw hK _ ?_; clear hK K)|refine Qw ‹_› _ ?_|refine Nx.out ‹_› ?_|refine Qi fun K hK=>?_|refine Qj T fun K hK=>?_|refine Ql fun A B hA hB=>?_|refine Qm ?_|refine Qn ?_|refine Qp ?_|refine Qr ?_)
 | ((with_reducible first|apply Qy|apply Qz|apply QA)<;>intro hb<;>try simp only [nr] at hb)
 | simp only [go_sem,↓reduceIte,reduceIte,Qa,Qh,Qb,Qc,Qd,Qe,Qf,Qg,reduceCtorEq, *]
 | with_reducible refine fun (bn:Bool) hbn=>?_))
   clear hM hm
   refine Qs [21,22] (fun m ts'=>∃ (j:Nat),∃ (zs:List Res),m=adds.length - j∧j≤adds.length∧zs.length≤xs.length+j∧(adds.drop j).foldl withR zs=patchR xs adds gone∧ts'.tmp 0=.slice false (avs zs)∧ts'.tmp 23=.int .i64 j) adds.length ?_ ?_
   ·refine ⟨0,gone.foldl twithout xs,rfl,Nat.zero_le _,by omega,rfl,?_⟩
    simp only [go_sem,↓reduceIte,reduceIte,Qa,Qh,Qb,Qc,Qd,Qe,Qf,Qg,reduceCtorEq, *]
   ·rintro m A hM ts' hk ⟨j,zs,hm,f1,f2,f3,s1,s2⟩
    simp only [go_sem,↓reduceIte,reduceIte,Qa,Qh,Qb,Qc,Qd,Qe,Qf,Qg,reduceCtorEq, *] at hk
    by_cases hlt2:j < adds.length
    ·rw [List.drop_eq_getElem_cons hlt2,List.foldl_cons] at f3
     have hle:=withR_len zs adds[j]
     have hzs:Small zs.length:=by unfold Small at hl ⊢; omega
     have hzr:Small (withR zs adds[j]).length:=by unfold Small at hl ⊢; omega
     have w1:=(with_c zs adds[j] hzs hzr).frz
     (repeat' (first
 | (with_reducible first|refine callX.by (w1) ?_|refine callX.by (twithout_c _ _ _ ?_) ?_|refine callX.by (with_c _ _ ?_ ?_) ?_|assumption|(refine Qw hK _ ?_; clear hK K)|refine Qw ‹_› _ ?_|refine Nx.out ‹_› ?_|refine Qi fun K hK=>?_|refine Qj T fun K hK=>?_|refine Ql fun A B hA hB=>?_|refine Qm ?_|refine Qn ?_|refine Qp ?_|refine Qr ?_)
 | ((with_reducible first|apply Qy|apply Qz|apply QA)<;>intro hb<;>try simp only [nr] at hb)
 | simp only [go_sem,↓reduceIte,reduceIte,Qa,Qh,Qb,Qc,Qd,Qe,Qf,Qg,reduceCtorEq, *,-f3,-w1]
 | with_reducible refine fun (bn:Bool) hbn=>?_))
     all_goals ((repeat clear hK); (repeat clear hA); (repeat clear hB))
     all_goals (refine hM.on (adds.length - (j+1)) (by omega) (by simp only [go_sem,↓reduceIte,reduceIte,Qa,Qh,Qb,Qc,Qd,Qe,Qf,Qg,reduceCtorEq, *,w64_nat hlt2 ha,-f3,-w1]) ⟨j+1,withR zs adds[j],rfl,by omega,by omega,f3,?_⟩; simp only [go_sem,↓reduceIte,reduceIte,Qa,Qh,Qb,Qc,Qd,Qe,Qf,Qg,reduceCtorEq, *,w64_nat hlt2 ha,-f3,-w1]; done)
    ·rw [List.drop_eq_nil_of_le (by omega),List.foldl_nil] at f3
     subst f3
     (repeat' (first
 | (with_reducible first|refine callX.by (twithout_c _ _ _ ?_) ?_|refine callX.by (with_c _ _ ?_ ?_) ?_|assumption|(refine Qw hK _ ?_; clear hK K)|refine Qw ‹_› _ ?_|refine Nx.out ‹_› ?_|refine Qi fun K hK=>?_|refine Qj T fun K hK=>?_|refine Ql fun A B hA hB=>?_|refine Qm ?_|refine Qn ?_|refine Qp ?_|refine Qr ?_)
 | ((with_reducible first|apply Qy|apply Qz|apply QA)<;>intro hb<;>try simp only [nr] at hb)
 | simp only [go_sem,↓reduceIte,reduceIte,Qa,Qh,Qb,Qc,Qd,Qe,Qf,Qg,reduceCtorEq, *]
 | with_reducible refine fun (bn:Bool) hbn=>?_))
end Go.Proofs.YtmjkjmoeicnbnaaGreatDoor.Lg
namespace Go.Proofs.YtmjkjmoeicnbnaaGreatDoor.Lg
set_option maxRecDepth 100000
set_option linter.unusedVariables false
set_option linter.unusedSimpArgs false
open Go
theorem kcmp_r1 (a b:Key):-1≤kcmp a b∧kcmp a b≤1:=by
 have:=cb_rng a.name b.name
 rw [kcmp_def]; repeat' split
 all_goals omega
theorem refs_lo {r:Res} {x:Key} (h:x∈refsR r):x.kind=r.kind+1∧0≤r.kind∧r.kind≤2:=by
 by_cases hs:saneR r=0
 ·refine ⟨(refs_kind hs x h).1,?_⟩
  obtain ⟨h1,h2,_⟩:=sane_parts hs
  rw [(refs_up hs).2] at h
  rcases List.mem_append.1 h with h|h
  ·have hto:r.to'≠[]:=by
    intro e
    unfold baseR at h
    rw [if_pos e] at h
    simp at h
   rcases h1 hto with e|e<;>omega
  ·have hru:r.rules'≠[]:=by
    intro e
    rw [e] at h
    simp [keysR] at h
   have:=h2 hru
   omega
 ·unfold refsR at h
  rw [if_neg hs] at h
  simp at h
theorem res_ext {l m:List Res} (hl:Up (l.map keyOf)) (hm:Up (m.map keyOf)) (h:∀ x,x∈l↔x∈m):l=m:=by
 have hk:l.map keyOf=m.map keyOf:=up_ext hl hm fun k=>by
  simp only [List.mem_map]
  exact ⟨fun ⟨r,h1,h2⟩=>⟨r,(h r).1 h1,h2⟩,fun ⟨r,h1,h2⟩=>⟨r,(h r).2 h1,h2⟩⟩
 have hlen:l.length=m.length:=by simpa using congrArg List.length hk
 refine List.ext_getElem hlen fun i h1 h2=>?_
 refine key_inj (up_nodup hm) ((h _).1 (List.getElem_mem h1)) (List.getElem_mem h2) ?_
 have e:(l.map keyOf)[i]'(by simpa using h1)=(m.map keyOf)[i]'(by simpa using h2):=by simp [hk]
 simpa using e
theorem up_sub {l m:List Res} (h:Up (l.map keyOf)) (hs:m.Sublist l):Up (m.map keyOf):=by
 unfold Up at *
 exact h.sublist (hs.map _)
theorem mem_with {l:List Res} {r x:Res}:x∈withR l r↔x=r∨(x∈l∧keyOf x≠keyOf r):=by
 have hr:=kcmp_r1 (keyOf x) (keyOf r)
 have hz:kcmp (keyOf x) (keyOf r)=0↔keyOf x=keyOf r:=⟨kcmp_zero _ _,fun e=>by rw [e]; have:=kcmp_swap (keyOf r) (keyOf r); omega⟩
 simp only [withR,sideR,List.mem_append,List.mem_filter,List.mem_singleton,decide_eq_true_eq]
 rw [show (keyOf x≠keyOf r)↔¬ kcmp (keyOf x) (keyOf r)=0 from (not_congr hz).symm]
 constructor
 ·rintro ((⟨h1,h2⟩|h)|⟨h1,h2⟩)
  ·exact .inr ⟨h1,by omega⟩
  ·exact .inl h
  ·exact .inr ⟨h1,by omega⟩
 ·rintro (h|⟨h1,h2⟩)
  ·exact .inl (.inr h)
  ·by_cases h3:kcmp (keyOf x) (keyOf r)=-1
   ·exact .inl (.inl ⟨h1,h3⟩)
   ·exact .inr ⟨h1,by omega⟩
theorem with_up {l:List Res} {r:Res} (h:Up (l.map keyOf)):Up ((withR l r).map keyOf):=by
 unfold Up at *
 unfold withR sideR
 rw [List.map_append,List.map_append,List.pairwise_append,List.pairwise_append]
 refine ⟨⟨h.sublist (List.filter_sublist.map _),by simp,?_⟩,h.sublist (List.filter_sublist.map _),?_⟩
 ·intro a ha b hb
  simp only [List.mem_map,List.mem_filter,decide_eq_true_eq] at ha
  obtain ⟨x,⟨_,hx⟩,rfl⟩:=ha
  have:b=keyOf r:=by simpa using hb
  subst this; omega
 ·intro a ha b hb
  simp only [List.mem_append,List.mem_map,List.mem_filter,decide_eq_true_eq,List.mem_singleton] at ha hb
  obtain ⟨y,⟨_,hy⟩,rfl⟩:=hb
  have hy':kcmp (keyOf r) (keyOf y) < 0:=by have:=kcmp_swap (keyOf y) (keyOf r); omega
  rcases ha with ⟨x,⟨_,hx⟩,rfl⟩|⟨x,rfl,rfl⟩
  ·exact kcmp_trans _ (keyOf r) _ (by omega) hy'
  ·exact hy'
theorem patch_up {l:List Res} (h:Up (l.map keyOf)) (adds:List Res) (gone:List Key):Up ((patchR l adds gone).map keyOf):=by
 have h1:∀ (gone:List Key) (l:List Res),Up (l.map keyOf)→Up ((gone.foldl twithout l).map keyOf):=by
  intro gone
  induction gone with
  | nil=>exact fun l h=>h
  | cons k g ih=>exact fun l h=>ih _ (up_sub h List.filter_sublist)
 have h2:∀ (adds:List Res) (l:List Res),Up (l.map keyOf)→Up ((adds.foldl withR l).map keyOf):=by
  intro adds
  induction adds with
  | nil=>exact fun l h=>h
  | cons r a ih=>exact fun l h=>ih _ (with_up h)
 exact h2 _ _ (h1 _ _ h)
theorem mem_withs {x:Res}:∀ (adds:List Res) (l:List Res),(adds.map keyOf).Nodup→(x∈adds.foldl withR l↔x∈adds∨(x∈l∧keyOf x ∉ adds.map keyOf))
 | [],l,_=>by simp
 | r :: a,l,h=>by
  rw [List.map_cons,List.nodup_cons] at h
  rw [List.foldl_cons,mem_withs a (withR l r) h.2,mem_with,List.mem_cons,List.map_cons,List.mem_cons,not_or]
  constructor
  ·rintro (h1|⟨h1|⟨h1,h2⟩,h3⟩)
   ·exact .inl (.inr h1)
   ·exact .inl (.inl h1)
   ·exact .inr ⟨h1,h2,h3⟩
  ·rintro ((h1|h1)|⟨h1,h2,h3⟩)
   ·subst h1; exact .inr ⟨.inl rfl,h.1⟩
   ·exact .inl h1
   ·exact .inr ⟨.inr ⟨h1,h2⟩,h3⟩
theorem mem_withouts {x:Res}:∀ (gone:List Key) (l:List Res),x∈gone.foldl twithout l↔x∈l∧keyOf x ∉ gone
 | [],l=>by simp
 | k :: g,l=>by
  rw [List.foldl_cons,mem_withouts g,mem_without,List.mem_cons,not_or,and_assoc]
theorem mem_patch {l adds:List Res} {gone:List Key} (h:(adds.map keyOf).Nodup) {x:Res}:x∈patchR l adds gone↔x∈adds∨(x∈l∧keyOf x ∉ gone∧keyOf x ∉ adds.map keyOf):=by
 unfold patchR
 rw [mem_withs _ _ h,mem_withouts,and_assoc]
def diffA (a b:List Res):List Res:=b.filter fun r=>!decide (tget a (keyOf r)=some r)
def diffG (a b:List Res):List Key:=(a.map keyOf).filter fun k=>!(tget b k).isSome
theorem tget_iff {a:List Res} (h:Up (a.map keyOf)) (r:Res):tget a (keyOf r)=some r↔r∈a:=⟨fun e=>(tget_in e).1,fun e=>tget_key (up_nodup h) e⟩
theorem mem_diffA {a b:List Res} (h:Up (a.map keyOf)) {r:Res}:r∈diffA a b↔r∈b∧r ∉ a:=by
 unfold diffA
 rw [List.mem_filter]
 simp only [Bool.not_eq_true',decide_eq_false_iff_not,tget_iff h]
theorem mem_diffG {a b:List Res} {k:Key}:k∈diffG a b↔k∈a.map keyOf∧k ∉ b.map keyOf:=by
 unfold diffG
 rw [List.mem_filter,tget_is]
 simp
theorem diffA_sub (a b:List Res):(diffA a b).Sublist b:=List.filter_sublist
theorem diffG_sub (a b:List Res):(diffG a b).Sublist (a.map keyOf):=List.filter_sublist
theorem sub_nodup {b m:List Res} (h:Up (b.map keyOf)) (hs:m.Sublist b):(m.map keyOf).Nodup:=up_nodup (up_sub h hs)
theorem filter_len {α:Type} [DecidableEq α] {l:List α} (h:l.Nodup) {G:List α} (hG:G.Sublist l):(l.filter fun k=>!decide (k∈G)).length+G.length=l.length:=by
 induction hG with
 | slnil=>simp
 | @cons l1 l2 a hs ih =>
  rw [List.nodup_cons] at h
  have hn:a ∉ l1:=fun hx=>h.1 (hs.subset hx)
  rw [List.filter_cons_of_pos (by simpa using hn)]
  have:=ih h.2
  simp only [List.length_cons]; omega
 | @cons_cons l1 l2 a hs ih =>
  rw [List.nodup_cons] at h
  rw [List.filter_cons_of_neg (by simp)]
  have e:(l2.filter fun k=>!decide (k∈a :: l1))=l2.filter fun k=>!decide (k∈l1):=List.filter_congr fun x hx=>by
   have:x≠a:=fun e=>h.1 (e▸hx)
   simp [this]
  rw [e]
  have:=ih h.2
  simp only [List.length_cons]; omega
structure Part (a b A:List Res) (G:List Key):Prop where
 ha:Up (a.map keyOf)
 hb:Up (b.map keyOf)
 hA:A.Sublist (diffA a b)
 hG:G.Sublist (diffG a b)
section step
variable {a b A:List Res} {G:List Key}
theorem Part.mem (h:Part a b A G) {x:Res}:x∈patchR a A G↔x∈A∨(x∈a∧keyOf x ∉ G∧keyOf x ∉ A.map keyOf):=mem_patch (sub_nodup h.hb (h.hA.trans (diffA_sub a b)))
theorem Part.up (h:Part a b A G):Up ((patchR a A G).map keyOf):=patch_up h.ha _ _
theorem Part.memA (h:Part a b A G) {r:Res} (hr:r∈A):r∈b∧r ∉ a:=(mem_diffA h.ha).1 (h.hA.subset hr)
theorem Part.memG (h:Part a b A G) {k:Key} (hk:k∈G):k∈a.map keyOf∧k ∉ b.map keyOf:=mem_diffG.1 (h.hG.subset hk)
theorem Part.stepA (h:Part a b A G) {r:Res}:r∈diffA (patchR a A G) b↔r∈diffA a b∧r ∉ A:=by
 rw [mem_diffA h.up,mem_diffA h.ha,h.mem]
 constructor
 ·rintro ⟨h1,h2⟩
  have hrA:r ∉ A:=fun h=>h2 (.inl h)
  refine ⟨⟨h1,fun hra=>h2 (.inr ⟨hra,fun hg=>(h.memG hg).2 (List.mem_map_of_mem h1),fun hk=>?_⟩)⟩,hrA⟩
  obtain ⟨y,hy,e⟩:=List.mem_map.1 hk
  rw [key_inj (up_nodup h.hb) (h.memA hy).1 h1 e] at hy
  exact hrA hy
 ·rintro ⟨⟨h1,h2⟩,h3⟩
  exact ⟨h1,fun h=>h.elim h3 fun h=>h2 h.1⟩
theorem Part.stepG (h:Part a b A G) {k:Key}:k∈diffG (patchR a A G) b↔k∈diffG a b∧k ∉ G:=by
 rw [mem_diffG,mem_diffG]
 simp only [List.mem_map (f:=keyOf),h.mem]
 constructor
 ·rintro ⟨⟨x,hx|⟨h1,h2,_⟩,rfl⟩,h4⟩
  ·exact absurd ⟨x,(h.memA hx).1,rfl⟩ h4
  ·exact ⟨⟨⟨x,h1,rfl⟩,h4⟩,h2⟩
 ·rintro ⟨⟨⟨x,h1,rfl⟩,h2⟩,h3⟩
  refine ⟨⟨x,.inr ⟨h1,h3,fun hk=>?_⟩,rfl⟩,h2⟩
  obtain ⟨y,hy,e⟩:=hk
  exact h2 ⟨y,(h.memA hy).1,e⟩
theorem Part.lenA (h:Part a b A G):(diffA (patchR a A G) b).length+A.length=(diffA a b).length:=by
 have e:diffA (patchR a A G) b=(diffA a b).filter fun r=>!decide (r∈A):=by
  refine res_ext (up_sub h.hb (diffA_sub _ _)) (up_sub h.hb (List.filter_sublist.trans (diffA_sub _ _))) fun x=>?_
  rw [h.stepA,List.mem_filter]
  simp
 rw [e]
 exact filter_len (List.Pairwise.of_map keyOf (fun _ _ h e=>h (congrArg keyOf e)) (sub_nodup h.hb (diffA_sub a b))) h.hA
theorem Part.lenG (h:Part a b A G):(diffG (patchR a A G) b).length+G.length=(diffG a b).length:=by
 have hu:Up (diffG a b):=List.Pairwise.sublist (diffG_sub a b) h.ha
 have e:diffG (patchR a A G) b=(diffG a b).filter fun k=>!decide (k∈G):=by
  refine up_ext (List.Pairwise.sublist (diffG_sub _ b) h.up) (List.Pairwise.sublist List.filter_sublist hu) fun k=>?_
  rw [h.stepG,List.mem_filter]
  simp
 rw [e]
 exact filter_len (up_nodup hu) h.hG
end step
end Go.Proofs.YtmjkjmoeicnbnaaGreatDoor.Lg
namespace Go.Proofs.YtmjkjmoeicnbnaaGreatDoor.Lg
set_option maxRecDepth 100000
set_option linter.unusedVariables false
set_option linter.unusedSimpArgs false
open Go
open Nat renaming reduceEqDiff → Qa, reduceLT → Qb, reduceLeDiff → Qc, reduceAdd → Qd, reduceMul → Qe, reduceSub → Qf, reduceBEq → Qg
open String renaming reduceEq → Qh
open SpecC renaming seqW → Qi, regW → Qj, drawW → Qk, condW → Ql, skip → Qn, ret → Qr
open NxK renaming out → Qw
open condK renaming split → Qy
open gK renaming split_t → Qz, split_f → QA
@[go_sem] def Wd8:List (List Nat×List Nat):=[([7],[8,9,11,12,4]),([8],[7,6,11,12,4]),([9],[7,11,12,4]),([10],[4]),([6],[8,4]),([11],[7,8,9,12,4]),([12],[7,8,9,11,4]),([4],[7,8,9,10,6,11,12]),([4],[12])]
theorem mget_idx (l:List Res) (k:Key):mget (idxM l) k=tget l k:=by
 induction l with
 | nil=>rfl
 | cons r l ih =>
  unfold idxM
  rw [mget_mput,ih]
  unfold tget
  rw [List.find?_cons]
  by_cases h:k=keyOf r
  ·subst h; simp
  ·have h':¬ keyOf r=k:=fun e=>h e.symm
   simp [h,h']
theorem caps_mapR (M:List (Key × Res)):Caps [.ro [.mp (mks M) (mvs M)]]:=⟨by simp only [go_sem,Bool.and_self],by simp only [go_sem]⟩
theorem diff1_c (M:List (Key × Res)) (r_kind:Int) (r_name:List UInt8) (r_ver:Int) (r_port:Int) (r_to:List UInt8) (r_rules:List Rule) (r_hosts:List Int) (hM:∀ p∈M,SmRes p.2):CallR Tryz.prog 119 [.agg [.int .i64 r_kind,.str r_name,.int .i64 r_ver,.int .i64 r_port,.str r_to,.slice false (avs r_rules),.slice false (avs r_hosts)],.ro [.mp (mks M) (mvs M)]] (.val (.bool (!decide (mget M (keyOf (⟨r_kind,r_name,r_ver,r_port,r_to,r_rules,r_hosts⟩:Res))=some (⟨r_kind,r_name,r_ver,r_port,r_to,r_rules,r_hosts⟩:Res))))):=by
 cases hix:ixOf (keyOf (⟨r_kind,r_name,r_ver,r_port,r_to,r_rules,r_hosts⟩:Res)) M with
 | some j =>
  obtain ⟨hj,hg⟩:=ix_get hix
  obtain ⟨q1,q2,q3,q4,q5⟩:=hM _ (List.getElem_mem hj)
  have w1:=sameP_c (M[j]).2.kind (M[j]).2.name (M[j]).2.ver (M[j]).2.port (M[j]).2.to' (M[j]).2.rules' (M[j]).2.hosts r_kind r_name r_ver r_port r_to r_rules r_hosts q5 q3 q4
  have hv:∀ z:AV,lookA false z (mvs M) (some j)=.agg [.int .i64 (M[j]).2.kind,.str (M[j]).2.name,.int .i64 (M[j]).2.ver,.int .i64 (M[j]).2.port,.str (M[j]).2.to',.slice false (avs (M[j]).2.rules'),.slice false (avs (M[j]).2.hosts)]:=fun z=>by
   have:(mvs M).getD j .any=Dat.av (M[j]).2:=by simp [mvs,avs,hj]
   exact this
  rw [hg]
  clear hM q1 q2 q3 q4 q5 hg
  have hix':ixOf (⟨r_kind,r_name⟩:Key) M=some j:=hix
  refine CallR.go2 (T:=T) Tryz.call119 Tryz.func119 rfl Tryz.ntmps119 (congrArg Array.toList Tryz.results119) (by decide) fun ts hn h0 h1=>?_
  (repeat' (first
 | (with_reducible first|refine callX.by (w1) ?_|refine callX.by (rkey_c _ _ _ _ _ _ _) ?_|refine callX.by (sameP_c _ _ _ _ _ _ _ _ _ _ _ _ _ _ ?_ ?_ ?_) ?_|refine callX.by awqm ?_|assumption|(refine Qw hK _ ?_; clear hK K)|refine Qw ‹_› _ ?_|refine Nx.out ‹_› ?_|refine Qi fun K hK=>?_|refine Qj T fun K hK=>?_|refine Qk (id:=1) T mixed Wd8 (by kernel_rfl) fun K hK=>?_|refine Ql fun A B hA hB=>?_|refine Qn ?_|refine Qr ?_)
 | ((with_reducible first|apply Qy|apply Qz|apply QA)<;>intro hb<;>try simp only [nr] at hb)
 | simp only [go_sem,↓reduceIte,reduceIte,Qa,Qh,Qb,Qc,Qd,Qe,Qf,Qg,reduceCtorEq, *,-w1,-hix]
 | with_reducible refine fun (bn:Bool) hbn=>?_))
  all_goals trace_state
 | none =>
  rw [ix_none hix]
  have hix':ixOf (⟨r_kind,r_name⟩:Key) M=none:=hix
  clear hM
  refine CallR.go2 (T:=T) Tryz.call119 Tryz.func119 rfl Tryz.ntmps119 (congrArg Array.toList Tryz.results119) (by decide) fun ts hn h0 h1=>?_
  (repeat' (first
 | (with_reducible first|refine callX.by (rkey_c _ _ _ _ _ _ _) ?_|refine callX.by (sameP_c _ _ _ _ _ _ _ _ _ _ _ _ _ _ ?_ ?_ ?_) ?_|refine callX.by awqm ?_|assumption|(refine Qw hK _ ?_; clear hK K)|refine Qw ‹_› _ ?_|refine Nx.out ‹_› ?_|refine Qi fun K hK=>?_|refine Qj T fun K hK=>?_|refine Qk (id:=1) T mixed Wd8 (by kernel_rfl) fun K hK=>?_|refine Ql fun A B hA hB=>?_|refine Qn ?_|refine Qr ?_)
 | ((with_reducible first|apply Qy|apply Qz|apply QA)<;>intro hb<;>try simp only [nr] at hb)
 | simp only [go_sem,↓reduceIte,reduceIte,Qa,Qh,Qb,Qc,Qd,Qe,Qf,Qg,reduceCtorEq, *,-hix]
 | with_reducible refine fun (bn:Bool) hbn=>?_))
  all_goals trace_state
theorem diff2_c (M:List (Key × Res)) (k_kind:Int) (k_name:List UInt8):CallR Tryz.prog 121 [.agg [.int .i64 k_kind,.str k_name],.ro [.mp (mks M) (mvs M)]] (.val (.bool (mget M (⟨k_kind,k_name⟩:Key)).isSome)):=by
 rw [← ix_isSome]
 cases hix:ixOf (⟨k_kind,k_name⟩:Key) M with
 | some j =>
  obtain ⟨hj,hg⟩:=ix_get hix
  have hv:∀ z:AV,lookA false z (mvs M) (some j)=.agg [.int .i64 (M[j]).2.kind,.str (M[j]).2.name,.int .i64 (M[j]).2.ver,.int .i64 (M[j]).2.port,.str (M[j]).2.to',.slice false (avs (M[j]).2.rules'),.slice false (avs (M[j]).2.hosts)]:=fun z=>by
   have:(mvs M).getD j .any=Dat.av (M[j]).2:=by simp [mvs,avs,hj]
   exact this
  refine CallR.go2 (T:=T) Tryz.call121 Tryz.func121 rfl Tryz.ntmps121 (congrArg Array.toList Tryz.results121) (by decide) fun ts hn h0 h1=>?_
  (repeat' (first
 | (with_reducible first|assumption|(refine Qw hK _ ?_; clear hK K)|refine Qw ‹_› _ ?_|refine Nx.out ‹_› ?_|refine Qi fun K hK=>?_|refine Qj T fun K hK=>?_|refine Ql fun A B hA hB=>?_|refine Qn ?_|refine Qr ?_)
 | ((with_reducible first|apply Qy|apply Qz|apply QA)<;>intro hb<;>try simp only [nr] at hb)
 | simp only [go_sem,↓reduceIte,reduceIte,Qa,Qh,Qb,Qc,Qd,Qe,Qf,Qg,reduceCtorEq, *,-hg]
 | with_reducible refine fun (bn:Bool) hbn=>?_))
  all_goals trace_state
 | none =>
  refine CallR.go2 (T:=T) Tryz.call121 Tryz.func121 rfl Tryz.ntmps121 (congrArg Array.toList Tryz.results121) (by decide) fun ts hn h0 h1=>?_
  (repeat' (first
 | (with_reducible first|assumption|(refine Qw hK _ ?_; clear hK K)|refine Qw ‹_› _ ?_|refine Nx.out ‹_› ?_|refine Qi fun K hK=>?_|refine Qj T fun K hK=>?_|refine Ql fun A B hA hB=>?_|refine Qn ?_|refine Qr ?_)
 | ((with_reducible first|apply Qy|apply Qz|apply QA)<;>intro hb<;>try simp only [nr] at hb)
 | simp only [go_sem,↓reduceIte,reduceIte,Qa,Qh,Qb,Qc,Qd,Qe,Qf,Qg,reduceCtorEq, *]
 | with_reducible refine fun (bn:Bool) hbn=>?_))
  all_goals trace_state
theorem idx_mem {l:List Res} {p:Key × Res} (h:p∈idxM l):p.2∈l:=by
 induction l with
 | nil=>simp [idxM] at h
 | cons r l ih =>
  unfold idxM mput at h
  split at h
  ·rcases List.mem_or_eq_of_mem_set h with h|rfl
   ·exact List.mem_cons_of_mem _ (ih h)
   ·exact List.mem_cons_self
  ·rcases List.mem_append.1 h with h|h
   ·exact List.mem_cons_of_mem _ (ih h)
   ·rw [List.mem_singleton] at h; subst h; exact List.mem_cons_self
theorem diff_c (xs ys:List Res) (hl:Small xs.length) (hl2:Small ys.length) (hs:∀ r∈xs,SmRes r):CallR Tryz.prog 58 [.slice false (avs xs),.slice false (avs ys)] (.val (.tup [.slice false (avs (diffA xs ys)),.slice false (avs (diffG xs ys))])):=by
 have w1:=index_c xs hl
 have w2:=index_c ys hl2
 have hf:=tfilter_c 119 [.ro [.mp (mks (idxM xs)) (mvs (idxM xs))]] (caps_mapR _) (fun r=>!decide (mget (idxM xs) (keyOf r)=some r)) ys (fun x _=>diff1_c (idxM xs) x.kind x.name x.ver x.port x.to' x.rules' x.hosts fun p hp=>hs _ (idx_mem hp)) hl2
 have hkl:Small (xs.map keyOf).length:=by simpa using hl
 have hlk:(xs.map keyOf).length=xs.length:=List.length_map _
 have hd:=deleteFKey_c 121 [.ro [.mp (mks (idxM ys)) (mvs (idxM ys))]] (caps_mapR _) (fun k=>(mget (idxM ys) k).isSome) (xs.map keyOf) (fun x _=>diff2_c (idxM ys) x.kind x.name) hkl
 have e1:ys.filter (fun r=>!decide (mget (idxM xs) (keyOf r)=some r))=diffA xs ys:=by unfold diffA; simp only [mget_idx]
 have e2:(xs.map keyOf).filter (fun x=>!(mget (idxM ys) x).isSome)=diffG xs ys:=by unfold diffG; simp only [mget_idx]
 rw [e1] at hf
 rw [e2] at hd
 have htk:(xs.map keyOf).take xs.length=xs.map keyOf:=List.take_of_length_le (by omega)
 clear e1 e2 hs
 generalize idxM xs=M1 at *
 generalize idxM ys=M2 at *
 refine CallR.go2 (T:=T) Tryz.call58 Tryz.func58 rfl Tryz.ntmps58 (congrArg Array.toList Tryz.results58) (by decide) fun ts hn h0 h1=>?_
 (repeat' (first
 | (with_reducible first|refine callX.by (w1) ?_|refine callX.by (w2) ?_|refine callX.by (hf) ?_)
 | (with_reducible refine callX.mv ?_ ?_ ?_ (hd); (focus (simp only [go_sem,↓reduceIte,reduceIte,Qa,Qh,Qb,Qc,Qd,Qe,Qf,Qg,reduceCtorEq, *,-w1,-w2,-hf,-hd]; first|done|rfl)); (focus (simp only [go_sem,↓reduceIte,reduceIte,Qa,Qh,Qb,Qc,Qd,Qe,Qf,Qg,reduceCtorEq, *,-w1,-w2,-hf,-hd]; first|done|rfl)))
 | (with_reducible first|refine callX.by (index_c _ ?_) ?_|refine callX.by (tfilter_c _ _ ?_ _ _ ?_ ?_) ?_|refine callX.by (tkeys_c _ ?_) ?_)
 | (with_reducible refine callX.mv ?_ ?_ ?_ (deleteFKey_c ?_ ?_ ?_ ?_ ?_ ?_ ?_); (focus (simp only [go_sem,↓reduceIte,reduceIte,Qa,Qh,Qb,Qc,Qd,Qe,Qf,Qg,reduceCtorEq, *,-w1,-w2,-hf,-hd]; first|done|rfl)); (focus (simp only [go_sem,↓reduceIte,reduceIte,Qa,Qh,Qb,Qc,Qd,Qe,Qf,Qg,reduceCtorEq, *,-w1,-w2,-hf,-hd]; first|done|rfl)))
 | (with_reducible first|assumption|(refine Qw hK _ ?_; clear hK K)|refine Qw ‹_› _ ?_|refine Nx.out ‹_› ?_|refine Qi fun K hK=>?_|refine Qj T fun K hK=>?_|refine Ql fun A B hA hB=>?_|refine Qn ?_|refine Qr ?_)
 | ((with_reducible first|apply Qy|apply Qz|apply QA)<;>intro hb<;>try simp only [nr] at hb)
 | simp only [go_sem,↓reduceIte,reduceIte,Qa,Qh,Qb,Qc,Qd,Qe,Qf,Qg,reduceCtorEq, *,-w1,-w2,-hf,-hd]
 | with_reducible refine fun (bn:Bool) hbn=>?_))
 all_goals trace_state
def earlyP (b D:List Res) (k:Int):List Res:=(tkind D k).filter fun r=>decide (keyOf r∈(reachR b).map keyOf)
def offK (G:List Key) (k:Int):List Key:=G.filter fun x=>decide (x.kind=k)
def freeK (a:List Res) (held G:List Key) (k:Int):List Key:=(offK G k).filter fun x=>!(decide (x∈held) || decide (0 < (referrers a x).length))
def candAt (a b:List Res) (held:List Key) (i:Nat):Step :=
 if i < 3 then ⟨3 - i,earlyP b (diffA a b) (3 - i),[]⟩
 else if i=3 then ⟨0,tkind (diffA a b) 0,offK (diffG a b) 0⟩
 else if i < 7 then ⟨7 - i,tkind (diffA a b) (7 - i),[]⟩
 else ⟨i - 6,[],freeK a held (diffG a b) (i - 6)⟩
def fullP (s:Step):Bool:=decide (0 < s.adds.length+s.gone.length)
def firstC (a b:List Res) (held:List Key):Nat→Nat→Option Step
 | 0,_=>none
 | n+1,i=>if fullP (candAt a b held i)=true then some (candAt a b held i) else firstC a b held n (i+1)
def nextP (a b:List Res) (held:List Key):Option Step:=firstC a b held 10 0
def applyP (a:List Res) (s:Step):List Res:=patchR a s.adds s.gone
def runP (b:List Res) (held:List Key):Nat→List Res→List Step
 | 0,_=>[]
 | n+1,a=>match nextP a b held with
  | none=>[]
  | some s=>s :: runP b held n (applyP a s)
theorem first_some {a b:List Res} {held:List Key} {s:Step}:∀ {n i:Nat},firstC a b held n i=some s→∃ j,i≤j∧j < i+n∧s=candAt a b held j∧fullP s=true∧∀ m,i≤m→m < j→fullP (candAt a b held m)=false
 | 0,i,h=>by cases h
 | n+1,i,h=>by
  unfold firstC at h
  split at h
  ·rename_i hf
   cases h
   exact ⟨i,Nat.le_refl _,by omega,rfl,hf,fun m h1 h2=>by omega⟩
  ·rename_i hf
   obtain ⟨j,h1,h2,h3,h4,h5⟩:=first_some h
   refine ⟨j,by omega,by omega,h3,h4,fun m m1 m2=>?_⟩
   by_cases hm:m=i
   ·rw [hm]; simpa using hf
   ·exact h5 m (by omega) m2
theorem first_none {a b:List Res} {held:List Key}:∀ {n i:Nat},firstC a b held n i=none→∀ m,i≤m→m < i+n→fullP (candAt a b held m)=false
 | 0,i,_,m,h1,h2=>by omega
 | n+1,i,h,m,h1,h2=>by
  unfold firstC at h
  split at h
  ·cases h
  ·rename_i hf
   by_cases hm:m=i
   ·rw [hm]; simpa using hf
   ·exact first_none h m (by omega) (by omega)
theorem mem_tkind {D:List Res} {k:Int} {r:Res}:r∈tkind D k↔r∈D∧r.kind=k:=by
 unfold tkind
 rw [List.mem_filter,decide_eq_true_eq]
theorem mem_off {G:List Key} {k:Int} {x:Key}:x∈offK G k↔x∈G∧x.kind=k:=by
 unfold offK
 rw [List.mem_filter,decide_eq_true_eq]
theorem mem_free {a:List Res} {held G:List Key} {k:Int} {x:Key}:x∈freeK a held G k↔x∈G∧x.kind=k∧x ∉ held∧¬ ∃ r∈a,x∈refsR r:=by
 unfold freeK
 rw [List.mem_filter,mem_off,← ref_pos,and_assoc]
 simp
theorem early_sub (b D:List Res) (k:Int):(earlyP b D k).Sublist D:=List.filter_sublist.trans List.filter_sublist
theorem free_sub (a:List Res) (held G:List Key) (k:Int):(freeK a held G k).Sublist G:=List.filter_sublist.trans List.filter_sublist
theorem fullP_no {s:Step}:fullP s=false↔s.adds=[]∧s.gone=[]:=by
 unfold fullP
 rw [decide_eq_false_iff_not,← List.length_eq_zero_iff,← List.length_eq_zero_iff]
 omega
theorem cand_part {a b:List Res} (ha:Up (a.map keyOf)) (hb:Up (b.map keyOf)) (held:List Key) (i:Nat):Part a b (candAt a b held i).adds (candAt a b held i).gone:=by
 unfold candAt
 split
 ·exact ⟨ha,hb,early_sub _ _ _,List.nil_sublist _⟩
 ·split
  ·exact ⟨ha,hb,List.filter_sublist,List.filter_sublist⟩
  ·split
   ·exact ⟨ha,hb,List.filter_sublist,List.nil_sublist _⟩
   ·exact ⟨ha,hb,List.nil_sublist _,free_sub _ _ _ _⟩
theorem next_some {a b:List Res} {held:List Key} {s:Step} (h:nextP a b held=some s):∃ j,j < 10∧s=candAt a b held j∧fullP s=true∧∀ m,m < j→fullP (candAt a b held m)=false:=by
 obtain ⟨j,_,h2,h3,h4,h5⟩:=first_some h
 exact ⟨j,by omega,h3,h4,fun m hm=>h5 m (Nat.zero_le _) hm⟩
theorem next_none {a b:List Res} {held:List Key} (h:nextP a b held=none) (m:Nat) (hm:m < 10):fullP (candAt a b held m)=false:=first_none h m (Nat.zero_le _) (by omega)
theorem next_part {a b:List Res} {held:List Key} {s:Step} (ha:Up (a.map keyOf)) (hb:Up (b.map keyOf)) (h:nextP a b held=some s):Part a b s.adds s.gone:=by
 obtain ⟨j,_,h2,_⟩:=next_some h
 rw [h2]; exact cand_part ha hb held j
def Kin (l:List Res):Prop:=∀ r∈l,0≤r.kind∧r.kind≤3
theorem no_door {a b:List Res} {held:List Key} (h:fullP (candAt a b held 3)=false):(∀ r∈diffA a b,r.kind≠0)∧∀ k∈diffG a b,k.kind≠0:=by
 obtain ⟨h1,h2⟩:=fullP_no.1 h
 rw [candAt,if_neg (by omega),if_pos rfl] at h1 h2
 refine ⟨fun r hr hk=>?_,fun k hr hk=>?_⟩
 ·have hm:r∈tkind (diffA a b) 0:=mem_tkind.2 ⟨hr,hk⟩
  dsimp only at h1; rw [h1] at hm; simp at hm
 ·have hm:k∈offK (diffG a b) 0:=mem_off.2 ⟨hr,hk⟩
  dsimp only at h2; rw [h2] at hm; simp at hm
theorem no_late {a b:List Res} {held:List Key} {i:Nat} (hi:3 < i∧i < 7) (h:fullP (candAt a b held i)=false) {r:Res} (hr:r∈diffA a b):r.kind≠7 - i:=fun hk=>by
 have:=(fullP_no.1 h).1
 rw [candAt,if_neg (by omega),if_neg (by omega),if_pos hi.2] at this
 have hm:r∈tkind (diffA a b) (7 - i):=mem_tkind.2 ⟨hr,hk⟩
 dsimp only at this; rw [this] at hm; simp at hm
theorem no_free {a b:List Res} {held:List Key} {i:Nat} (hi:7≤i) (h:fullP (candAt a b held i)=false) {k:Key} (hr:k∈diffG a b) (hk:k.kind=i - 6):k∈held∨∃ r∈a,k∈refsR r:=Classical.byContradiction fun hn=>by
 rw [not_or] at hn
 have:=(fullP_no.1 h).2
 rw [candAt,if_neg (by omega),if_neg (by omega),if_neg (by omega)] at this
 have hm:k∈freeK a held (diffG a b) (i - 6):=mem_free.2 ⟨hr,hk,hn.1,hn.2⟩
 dsimp only at this; rw [this] at hm; simp at hm
theorem none_A {a b:List Res} {held:List Key} (ha:Up (a.map keyOf)) (hb:Kin b) (h:nextP a b held=none):diffA a b=[]:=by
 rw [List.eq_nil_iff_forall_not_mem]
 intro r hr
 have hk:=hb r ((mem_diffA ha).1 hr).1
 have h0:=(no_door (next_none h 3 (by omega))).1 r hr
 have h1:=no_late (i:=6) (by omega) (next_none h 6 (by omega)) hr
 have h2:=no_late (i:=5) (by omega) (next_none h 5 (by omega)) hr
 have h3:=no_late (i:=4) (by omega) (next_none h 4 (by omega)) hr
 omega
theorem kin_key {a:List Res} (ha:Kin a) {k:Key} (h:k∈a.map keyOf):0≤k.kind∧k.kind≤3:=by
 obtain ⟨r,hr,rfl⟩:=List.mem_map.1 h
 exact ha r hr
theorem none_G {a b:List Res} {held:List Key} (ha:Kin a) (h:nextP a b held=none) {k:Key} (hk:k∈diffG a b):k.kind≠0∧(k∈held∨∃ r∈a,k∈refsR r):=by
 have hr:=kin_key ha (mem_diffG.1 hk).1
 have h0:=(no_door (next_none h 3 (by omega))).2 k hk
 refine ⟨h0,?_⟩
 by_cases h1:k.kind=1
 ·exact no_free (i:=7) (by omega) (next_none h 7 (by omega)) hk (by omega)
 ·by_cases h2:k.kind=2
  ·exact no_free (i:=8) (by omega) (next_none h 8 (by omega)) hk (by omega)
  ·exact no_free (i:=9) (by omega) (next_none h 9 (by omega)) hk (by omega)
theorem diff_self {a:List Res} (ha:Up (a.map keyOf)):diffA a a=[]∧diffG a a=[]:=by
 constructor
 ·rw [List.eq_nil_iff_forall_not_mem]; intro r hr; have:=(mem_diffA ha).1 hr; exact this.2 this.1
 ·rw [List.eq_nil_iff_forall_not_mem]; intro r hr; have:=mem_diffG.1 hr; exact this.2 this.1
theorem next_of_nil {a b:List Res} (held:List Key) (h1:diffA a b=[]) (h2:diffG a b=[]):nextP a b held=none:=by
 cases h:nextP a b held with
 | none=>rfl
 | some s =>
  obtain ⟨j,_,h3,h4,_⟩:=next_some h
  exfalso
  have:fullP s=false:=by
   rw [h3,fullP_no]
   unfold candAt
   simp only [h1,h2,earlyP,tkind,offK,freeK]
   repeat' split
   all_goals simp
  rw [this] at h4; cases h4
inductive Chain (b:List Res) (held:List Key):List Res→List Step→List Res→Prop
 | nil (a:List Res):nextP a b held=none→Chain b held a [] a
 | cons (a:List Res) (s:Step) (l:List Step) (e:List Res):nextP a b held=some s→Chain b held (applyP a s) l e→Chain b held a (s :: l) e
theorem full_pos {s:Step} (h:fullP s=true):0 < s.adds.length+s.gone.length:=by simpa [fullP] using h
theorem next_less {a b:List Res} {held:List Key} {s:Step} (ha:Up (a.map keyOf)) (hb:Up (b.map keyOf)) (h:nextP a b held=some s) :
  (diffA (applyP a s) b).length+s.adds.length=(diffA a b).length∧(diffG (applyP a s) b).length+s.gone.length=(diffG a b).length∧0 < s.adds.length+s.gone.length∧Up ((applyP a s).map keyOf):=by
 have hp:=next_part ha hb h
 obtain ⟨_,_,_,h4,_⟩:=next_some h
 exact ⟨hp.lenA,hp.lenG,full_pos h4,hp.up⟩
theorem run_chain {b:List Res} {held:List Key} (hb:Up (b.map keyOf)):∀ (n:Nat) (a:List Res),Up (a.map keyOf)→(diffA a b).length+(diffG a b).length < n→∃ e,Chain b held a (runP b held n a) e
 | 0,a,_,h=>by omega
 | n+1,a,ha,h=>by
  unfold runP
  cases hn:nextP a b held with
  | none=>exact ⟨a,.nil a hn⟩
  | some s =>
   obtain ⟨h1,h2,h3,h4⟩:=next_less ha hb hn
   obtain ⟨e,he⟩:=run_chain (held:=held) hb n (applyP a s) h4 (by omega)
   exact ⟨e,.cons a s _ e hn he⟩
theorem chain_end {b:List Res} {held:List Key} {a e:List Res} {l:List Step} (h:Chain b held a l e):nextP e b held=none:=by
 induction h with
 | nil a h=>exact h
 | cons a s l e _ _ ih=>exact ih
theorem chain_up {b:List Res} {held:List Key} (hb:Up (b.map keyOf)) {a e:List Res} {l:List Step} (h:Chain b held a l e) (ha:Up (a.map keyOf)):Up (e.map keyOf):=by
 induction h with
 | nil a h=>exact ha
 | cons a s l e h1 _ ih=>exact ih (next_less ha hb h1).2.2.2
theorem chain_len {b:List Res} {held:List Key} (hb:Up (b.map keyOf)) {a e:List Res} {l:List Step} (h:Chain b held a l e) (ha:Up (a.map keyOf)) :
  (l.map fun s=>s.adds.length).sum+(diffA e b).length=(diffA a b).length∧(l.map fun s=>s.gone.length).sum+(diffG e b).length=(diffG a b).length:=by
 induction h with
 | nil a h=>simp
 | cons a s l e h1 _ ih =>
  obtain ⟨q1,q2,_,q4⟩:=next_less ha hb h1
  have:=ih q4
  simp only [List.map_cons,List.sum_cons]
  omega
theorem chain_size {b:List Res} {held:List Key} (hb:Up (b.map keyOf)) {a e:List Res} {l:List Step} (h:Chain b held a l e) (ha:Up (a.map keyOf)):l.length≤(diffA a b).length+(diffG a b).length:=by
 induction h with
 | nil a h=>simp
 | cons a s l e h1 _ ih =>
  obtain ⟨q1,q2,q3,q4⟩:=next_less ha hb h1
  have:=ih q4
  simp only [List.length_cons]
  omega
theorem chain_inv {b:List Res} {held:List Key} {a e:List Res} {l:List Step} (h:Chain b held a l e) (I:List Res→Prop) (hI:∀ a s,I a→nextP a b held=some s→I (applyP a s)) (ha:I a):I e:=by
 induction h with
 | nil a h=>exact ha
 | cons a s l e h1 _ ih=>exact ih (hI a s ha h1)
theorem end_eq {a b:List Res} (ha:Up (a.map keyOf)) (hb:Up (b.map keyOf)) (ka:Kin a) (kb:Kin b) (hm:∀ r∈b,∀ k∈refsR r,k∈b.map keyOf) (h:nextP a b []=none):a=b:=by
 have hA:=none_A ha kb h
 have hba:∀ x∈b,x∈a:=fun x hx=>Classical.byContradiction fun hn=>by
  have:=(mem_diffA ha).2 ⟨hx,hn⟩
  rw [hA] at this; simp at this
 have key:∀ n:Nat,∀ k:Key,k.kind=n→k ∉ diffG a b:=by
  intro n
  induction n with
  | zero=>exact fun k hk hg=>(none_G ka h hg).1 hk
  | succ n ih =>
   intro k hk hg
   rcases (none_G ka h hg).2 with h'|⟨r,hr,hrk⟩
   ·simp at h'
   ·have hl:=refs_lo hrk
    have hrb:keyOf r∈b.map keyOf:=Classical.byContradiction fun hn=>ih (keyOf r) (by show r.kind=n; omega) (mem_diffG.2 ⟨List.mem_map_of_mem hr,hn⟩)
    obtain ⟨y,hy,e⟩:=List.mem_map.1 hrb
    have:=key_inj (up_nodup ha) (hba y hy) hr e
    subst this
    exact (mem_diffG.1 hg).2 (hm y hy k hrk)
 refine res_ext ha hb fun x=>⟨fun hx=>?_,hba x⟩
 have hk:keyOf x∈b.map keyOf:=Classical.byContradiction fun hn=>by
  have hg:=mem_diffG.2 ⟨List.mem_map_of_mem hx,hn⟩
  obtain ⟨h1,h2⟩:=ka x hx
  exact key x.kind.toNat (keyOf x) (by show x.kind=_; omega) hg
 obtain ⟨y,hy,e⟩:=List.mem_map.1 hk
 rw [← key_inj (up_nodup ha) (hba y hy) hx e]; exact hy
theorem kin_patch {a b:List Res} {A:List Res} {G:List Key} (h:Part a b A G) (ka:Kin a) (kb:Kin b):Kin (patchR a A G):=fun r hr=>by
 rcases h.mem.1 hr with h1|h1
 ·exact kb r (h.memA h1).1
 ·exact ka r h1.1
end Go.Proofs.YtmjkjmoeicnbnaaGreatDoor.Lg
