/- Parts of the proof, one behind the other. -/
import Derived.Test.YtndnkbekhmndhaaGreatDoorG17
namespace Go.Proofs.YtndnkbekhmndhaaGreatDoor.Lg
set_option maxRecDepth 100000
set_option linter.unusedVariables false
set_option linter.unusedSimpArgs false
open Go
open Nat renaming reduceEqDiff → Qa, reduceLT → Qb, reduceLeDiff → Qc, reduceAdd → Qd, reduceMul → Qe, reduceSub → Qf, reduceBEq → Qg
open String renaming reduceEq → Qh
open SpecC renaming seqW → Qi, regW → Qj, drawW → Qk, condW → Ql, block → Qm, skip → Qn, exit → Qp, ret → Qr, loopF → Qs, regMidW → Qu
open NxK renaming out → Qw
open Nx renaming out → Qx
open condK renaming split → Qy
open gK renaming split_t → Qz, split_f → QA
open CallR renaming go1 → QD
def withR (l:List Res) (r:Res):List Res:=sideR l (keyOf r) (-1)++[r]++sideR l (keyOf r) 1
instance:Dat (List Res) where
 av x:=.slice false (avs x)
 sz:=1
 len _:=rfl
 pure x:=by simp only [go_sem,Bool.and_self]
 nrm x:=by simp only [go_sem]
 one x:=by simp only [go_sem,List.all_cons,List.all_nil,Bool.and_self]
 known _:=rfl
@[go_sem] theorem av_LRes (x:List Res):Dat.av x=.slice false (avs x):=rfl
@[go_sem] theorem sz_LRes:Dat.sz (List Res)=1:=rfl
theorem w64_sub0 {n:Nat} (hn:Small n):IntKind.i64.wrap ((n:Int) - IntKind.i64.wrap ((0:Int) - 0))=n:=by
 have e:IntKind.i64.wrap ((0:Int) - 0)=0:=by decide
 rw [e]
 unfold Small at hn
 simp only [IntKind.wrap,IntKind.signed,IntKind.bits]
 simp
 omega
theorem w64_addN {a b n:Nat} (h:a+b≤n) (hn:Small n):IntKind.i64.wrap ((a:Int)+(b:Int))=((a+b:Nat):Int):=by
 unfold Small at hn
 simp only [IntKind.wrap,IntKind.signed,IntKind.bits]
 simp
 omega
theorem tgrow_c (n:Nat) (hn:Small n):CallR Tryz.prog 129 [.slice true [],.int .i64 n] (.own 7 []):=by
 have hr:Room n 104:=room_small (by unfold Small at hn; omega) (by decide)
 have hr1:n * 104≤140737488355328:=hr.1
 have hr2:n≤9223372036854775807:=hr.2
 have hw:=w64_sub0 hn
 refine CallR.go2 (T:=T) Tryz.call129 Tryz.func129 rfl Tryz.ntmps129 (congrArg Array.toList Tryz.results129) (by decide) fun ts hn h0 h1=>?_
 have hz0:IntKind.i64.wrap ((0:Int) - IntKind.i64.wrap ((0:Int) - 0))=0:=by decide
 by_cases h00:n=0
 ·subst h00
  (repeat' (first
 | (with_reducible first|assumption|(refine Qw hK _ ?_; clear hK K)|refine Qw ‹_› _ ?_|refine Qx ‹_› ?_|refine Qi fun K hK=>?_|refine Qj T fun K hK=>?_|refine Ql fun A B hA hB=>?_|refine Qn ?_|refine Qr ?_)
 | ((with_reducible first|apply Qy|apply Qz|apply QA)<;>intro hb<;>try simp only [nr] at hb)
 | simp only [go_sem,↓reduceIte,reduceIte,Qa,Qh,Qb,Qc,Qd,Qe,Qf,Qg,reduceCtorEq, *,-hr,List.length_nil,Int.lt_irrefl,decide_false,Int.le_refl]
 | with_reducible refine fun (bn:Bool) hbn=>?_))
  all_goals first|(exfalso; simp_all; done)|trace_state
 ·have hd:(0:Int) < (n:Int):=by omega
  have hz:List.take 0 (List.replicate n (AV.agg (List.replicate 7 AV.any)))=[]:=rfl
  (repeat' (first
 | (with_reducible first|assumption|(refine Qw hK _ ?_; clear hK K)|refine Qw ‹_› _ ?_|refine Qx ‹_› ?_|refine Qi fun K hK=>?_|refine Qj T fun K hK=>?_|refine Ql fun A B hA hB=>?_|refine Qn ?_|refine Qr ?_)
 | ((with_reducible first|apply Qy|apply Qz|apply QA)<;>intro hb<;>try simp only [nr] at hb)
 | simp only [go_sem,↓reduceIte,reduceIte,Qa,Qh,Qb,Qc,Qd,Qe,Qf,Qg,reduceCtorEq, *,-hr,List.length_nil,Int.le_refl,Int.toNat_zero,List.drop_zero]
 | with_reducible refine fun (bn:Bool) hbn=>?_))
  all_goals trace_state
def flatN (xss:List (List Res)) (i:Nat):Nat:=(xss.drop i).flatten.length
theorem flatN_step {xss:List (List Res)} {i:Nat} (h:i < xss.length):flatN xss i=xss[i].length+flatN xss (i+1):=by
 unfold flatN
 rw [List.drop_eq_getElem_cons h,List.flatten_cons,List.length_append]
theorem concat_c (xss:List (List Res)) (hx:Small xss.length) (hl:Small xss.flatten.length):CallR Tryz.prog 94 [.slice false (avs xss)] (.own 7 (avs xss.flatten)):=by
 have hg:=tgrow_c xss.flatten.length hl
 refine QD (T:=T) Tryz.call94 Tryz.func94 rfl Tryz.ntmps94 (congrArg Array.toList Tryz.results94) (by decide) fun ts hn h0=>?_
 (repeat' (first
 | (with_reducible first|refine callX.by (tgrow_c _ ?_) ?_|assumption|(refine Qw hK _ ?_; clear hK K)|refine Qw ‹_› _ ?_|refine Qx ‹_› ?_|refine Qi fun K hK=>?_|refine Qj T fun K hK=>?_|refine Ql fun A B hA hB=>?_|refine Qm ?_|refine Qn ?_|refine Qp ?_|refine Qr ?_)
 | ((with_reducible first|apply Qy|apply Qz|apply QA)<;>intro hb<;>try simp only [nr] at hb)
 | simp only [go_sem,↓reduceIte,reduceIte,Qa,Qh,Qb,Qc,Qd,Qe,Qf,Qg,reduceCtorEq, *,-hg]
 | with_reducible refine fun (bn:Bool) hbn=>?_))
 refine Qs [0,9,10] (fun m ts'=>∃ (i:Nat),∃ (n:Nat),m=xss.length - i∧i≤xss.length∧n+flatN xss i=xss.flatten.length∧ts'.tmp 3=.int .i64 n∧ts'.tmp 11=.int .i64 i) xss.length ?_ ?_
 ·refine ⟨0,0,rfl,Nat.zero_le _,by simp [flatN],?_⟩
  simp only [go_sem,↓reduceIte,reduceIte,Qa,Qh,Qb,Qc,Qd,Qe,Qf,Qg,reduceCtorEq, *,-hg]
 ·rintro m A hM ts' hk ⟨i,n,hm,f1,f2,s1,s2⟩
  simp only [go_sem,↓reduceIte,reduceIte,Qa,Qh,Qb,Qc,Qd,Qe,Qf,Qg,reduceCtorEq, *] at hk
  by_cases hlt:i < xss.length
  ·rw [flatN_step hlt] at f2
   have hw:=w64_addN (a:=n) (b:=xss[i].length) (n:=xss.flatten.length) (by omega) hl
   (repeat' (first
 | (with_reducible first|refine callX.by (tgrow_c _ ?_) ?_|assumption|(refine Qw hK _ ?_; clear hK K)|refine Qw ‹_› _ ?_|refine Qx ‹_› ?_|refine Qi fun K hK=>?_|refine Qj T fun K hK=>?_|refine Ql fun A B hA hB=>?_|refine Qm ?_|refine Qn ?_|refine Qp ?_|refine Qr ?_)
 | ((with_reducible first|apply Qy|apply Qz|apply QA)<;>intro hb<;>try simp only [nr] at hb)
 | simp only [go_sem,↓reduceIte,reduceIte,Qa,Qh,Qb,Qc,Qd,Qe,Qf,Qg,reduceCtorEq, *,-hg,-f2]
 | with_reducible refine fun (bn:Bool) hbn=>?_))
   all_goals ((repeat clear hK); (repeat clear hA); (repeat clear hB))
   all_goals (refine hM.on (xss.length - (i+1)) (by omega) (by simp only [go_sem,↓reduceIte,reduceIte,Qa,Qh,Qb,Qc,Qd,Qe,Qf,Qg,reduceCtorEq, *,w64_nat hlt hx,-hg,-f2]) ⟨i+1,n+xss[i].length,rfl,by omega,by omega,?_⟩; simp only [go_sem,↓reduceIte,reduceIte,Qa,Qh,Qb,Qc,Qd,Qe,Qf,Qg,reduceCtorEq, *,w64_nat hlt hx,-hg,-f2]; done)
  ·have hn:n=xss.flatten.length:=by
    have e:flatN xss i=0:=by unfold flatN; rw [List.drop_eq_nil_of_le (by omega)]; rfl
    omega
   clear f2
   subst hn
   (repeat' (first
 | (with_reducible first|refine callX.raw (hg) ?_|refine callX.by (tgrow_c _ ?_) ?_|assumption|(refine Qw hK _ ?_; clear hK K)|refine Qw ‹_› _ ?_|refine Qx ‹_› ?_|refine Qi fun K hK=>?_|refine Qj T fun K hK=>?_|refine Ql fun A B hA hB=>?_|refine Qm ?_|refine Qn ?_|refine Qp ?_|refine Qr ?_)
 | ((with_reducible first|apply Qy|apply Qz|apply QA)<;>intro hb<;>try simp only [nr] at hb)
 | simp only [go_sem,↓reduceIte,reduceIte,Qa,Qh,Qb,Qc,Qd,Qe,Qf,Qg,reduceCtorEq, *,-hg]
 | with_reducible refine fun (bn:Bool) hbn=>?_))
   refine SpecC.ent (Ent.ren 6 24 (by simp only [go_sem,↓reduceIte,reduceIte,Qa,Qh,Qb,Qc,Qd,Qe,Qf,Qg,reduceCtorEq, *,-hg]) (by simp only [go_sem,↓reduceIte,reduceIte,Qa,Qh,Qb,Qc,Qd,Qe,Qf,Qg,reduceCtorEq, *,-hg])) ?_
   refine Qs [25,26] (fun m ts'=>∃ (j:Nat),∃ (g:Nat),∃ (ys:List Res),m=xss.length - j∧j≤xss.length∧ys++(xss.drop j).flatten=xss.flatten∧ts'.tmp 6=.os 6 g ys.length∧ts'.gen 6=g∧ts'.obj 6=.arr 7 (avs ys)∧ts'.tmp 27=.int .i64 j) xss.length ?_ ?_
   ·refine ⟨0,ts'.gen 6+1,[],rfl,Nat.zero_le _,by simp,?_⟩
    simp only [go_sem,↓reduceIte,reduceIte,Qa,Qh,Qb,Qc,Qd,Qe,Qf,Qg,reduceCtorEq, *,-hg]
    rfl
   ·clear hM hm
    rintro m A hM ts' hk ⟨j,g,ys,hm,f1,f2,s1,s2,s3,s4⟩
    simp only [go_sem,↓reduceIte,reduceIte,Qa,Qh,Qb,Qc,Qd,Qe,Qf,Qg,reduceCtorEq, *] at hk
    by_cases hlt2:j < xss.length
    ·rw [List.drop_eq_getElem_cons hlt2,List.flatten_cons,← List.append_assoc] at f2
     have hle:ys.length+xss[j].length≤xss.flatten.length:=by rw [← f2]; simp
     have hr:Room (ys.length+xss[j].length) 104:=room_small (by unfold Small at hl; omega) (by decide)
     (repeat' (first
 | (with_reducible first|refine callX.by (tgrow_c _ ?_) ?_|assumption|(refine Qw hK _ ?_; clear hK K)|refine Qw ‹_› _ ?_|refine Qx ‹_› ?_|refine Qi fun K hK=>?_|refine Qj T fun K hK=>?_|refine Ql fun A B hA hB=>?_|refine Qm ?_|refine Qn ?_|refine Qp ?_|refine Qr ?_)
 | ((with_reducible first|apply Qy|apply Qz|apply QA)<;>intro hb<;>try simp only [nr] at hb)
 | simp only [go_sem,↓reduceIte,reduceIte,Qa,Qh,Qb,Qc,Qd,Qe,Qf,Qg,reduceCtorEq, *,-hg,-f2]
 | with_reducible refine fun (bn:Bool) hbn=>?_))
     all_goals ((repeat clear hK); (repeat clear hA); (repeat clear hB))
     all_goals (refine hM.onE (xss.length - (j+1)) (Ent.ren 6 33 ?_ ?_) ?_ ?_ ?_; (focus (simp only [go_sem,↓reduceIte,reduceIte,Qa,Qh,Qb,Qc,Qd,Qe,Qf,Qg,reduceCtorEq, *,w64_nat hlt2 hx,List.length_append,-hg,-f2]; first|done|rfl)); (focus (simp only [go_sem,↓reduceIte,reduceIte,Qa,Qh,Qb,Qc,Qd,Qe,Qf,Qg,reduceCtorEq, *,w64_nat hlt2 hx,List.length_append,-hg,-f2]; first|done|rfl)); omega; (focus (simp only [go_sem,↓reduceIte,reduceIte,Qa,Qh,Qb,Qc,Qd,Qe,Qf,Qg,reduceCtorEq, *,w64_nat hlt2 hx,List.length_append,-hg,-f2]; done)); refine ⟨j+1,ts'.gen 6+1,ys++xss[j],rfl,by omega,f2,?_⟩; simp only [go_sem,↓reduceIte,reduceIte,Qa,Qh,Qb,Qc,Qd,Qe,Qf,Qg,reduceCtorEq, *,w64_nat hlt2 hx,List.length_append,-hg,-f2]; done)
    ·rw [List.drop_eq_nil_of_le (by omega),List.flatten_nil,List.append_nil] at f2
     subst f2
     (repeat' (first
 | (with_reducible first|refine callX.by (tgrow_c _ ?_) ?_|assumption|(refine Qw hK _ ?_; clear hK K)|refine Qw ‹_› _ ?_|refine Qx ‹_› ?_|refine Qi fun K hK=>?_|refine Qj T fun K hK=>?_|refine Ql fun A B hA hB=>?_|refine Qm ?_|refine Qn ?_|refine Qp ?_|refine Qr ?_)
 | ((with_reducible first|apply Qy|apply Qz|apply QA)<;>intro hb<;>try simp only [nr] at hb)
 | simp only [go_sem,↓reduceIte,reduceIte,Qa,Qh,Qb,Qc,Qd,Qe,Qf,Qg,reduceCtorEq, *,-hg]
 | with_reducible refine fun (bn:Bool) hbn=>?_))
theorem with_c (xs:List Res) (r:Res) (hl:Small xs.length) (hl2:Small (withR xs r).length):CallR Tryz.prog 41 [.slice false (avs xs),.agg [.int .i64 r.kind,.str r.name,.int .i64 r.ver,.int .i64 r.port,.str r.to',.slice false (avs r.rules'),.slice false (avs r.hosts)]] (.own 7 (avs (withR xs r))):=by
 have w1:=(with1_c xs r.kind r.name (-1) hl).frz
 have w2:=(with1_c xs r.kind r.name 1 hl).frz
 have hcc:CallR Tryz.prog 94 [.slice false [.slice false (avs (sideR xs ⟨r.kind,r.name⟩ (-1))),.slice false [.agg [.int .i64 r.kind,.str r.name,.int .i64 r.ver,.int .i64 r.port,.str r.to',.slice false (avs r.rules'),.slice false (avs r.hosts)]],.slice false (avs (sideR xs ⟨r.kind,r.name⟩ 1))]] (.own 7 (avs (withR xs r))):=by
  have h:=concat_c [sideR xs (keyOf r) (-1),[r],sideR xs (keyOf r) 1] (by unfold Small; simp) (by simpa [withR] using hl2)
  have e:[sideR xs (keyOf r) (-1),[r],sideR xs (keyOf r) 1].flatten=withR xs r:=by simp [withR]
  rw [e] at h
  exact h
 refine CallR.go2 (T:=T.withF [13,16]) Tryz.call41 Tryz.func41 rfl Tryz.ntmps41 (congrArg Array.toList Tryz.results41) (by decide) fun ts hn h0 h1=>?_
 (repeat' (first
 | (with_reducible first|refine callX.by (w1) ?_|refine callX.by (w2) ?_|refine callX.by (hcc) ?_|refine callX.by (rkey_c _ _ _ _ _ _ _) ?_|refine callX.by (concat_c _ ?_ ?_) ?_|assumption|(refine Qw hK _ ?_; clear hK K)|refine Qw ‹_› _ ?_|refine Qx ‹_› ?_|refine Qi fun K hK=>?_|refine Qj (T.withF [13,16]) fun K hK=>?_|refine Qk (id:=3) (T.withF [13,16]) mixed [([10],[12,13,14]),([11],[12,13,14]),([12],[10,11,14,15]),([13],[10,11,14,15]),([14],[10,11,12,13]),([15],[12,13])] (by kernel_rfl) fun K hK=>?_|refine Ql fun A B hA hB=>?_|refine Qn ?_|refine Qr ?_)
 | ((with_reducible first|apply Qy|apply Qz|apply QA)<;>intro hb<;>try simp only [nr] at hb)
 | simp only [go_sem,↓reduceIte,reduceIte,Qa,Qh,Qb,Qc,Qd,Qe,Qf,Qg,reduceCtorEq, *,-w1,-w2,-hcc]
 | with_reducible refine fun (bn:Bool) hbn=>?_))
 all_goals trace_state
def patchR (l adds:List Res) (gone:List Key):List Res:=adds.foldl withR (gone.foldl twithout l)
theorem side_len (l:List Res) (k:Key):(sideR l k (-1)).length+(sideR l k 1).length≤l.length:=by
 induction l with
 | nil=>simp [sideR]
 | cons x l ih =>
  simp only [sideR,List.filter_cons] at ih ⊢
  by_cases h1:kcmp (keyOf x) k=-1
  ·have h2:¬ kcmp (keyOf x) k=1:=by omega
   simp [h1] at ih ⊢
   omega
  ·by_cases h2:kcmp (keyOf x) k=1
   ·simp [h2] at ih ⊢
    omega
   ·simp [h1,h2] at ih ⊢
    omega
theorem withR_len (l:List Res) (r:Res):(withR l r).length≤l.length+1:=by
 have:=side_len l (keyOf r)
 simp only [withR,List.length_append,List.length_singleton]
 omega
theorem withR_mem {l:List Res} {r x:Res} (h:x∈withR l r):x=r∨x∈l:=by
 simp only [withR,sideR,List.mem_append,List.mem_filter,List.mem_singleton] at h
 rcases h with (h|h)|h
 ·exact .inr h.1
 ·exact .inl h
 ·exact .inr h.1
theorem twithout_len (l:List Res) (k:Key):(twithout l k).length≤l.length:=by unfold twithout; exact List.length_filter_le _ _
theorem twithout_mem {l:List Res} {k:Key} {x:Res} (h:x∈twithout l k):x∈l:=by unfold twithout at h; exact (List.mem_filter.1 h).1
theorem withouts_len (l:List Res):∀ gone:List Key,(gone.foldl twithout l).length≤l.length
 | []=>Nat.le_refl _
 | k :: g=>Nat.le_trans (withouts_len (twithout l k) g) (twithout_len l k)
theorem withs_len (l:List Res):∀ adds:List Res,(adds.foldl withR l).length≤l.length+adds.length
 | []=>Nat.le_refl _
 | r :: a=>by
  have h1:=withs_len (withR l r) a
  have h2:=withR_len l r
  simp only [List.foldl_cons,List.length_cons]
  omega
theorem patchR_len (l adds:List Res) (gone:List Key):(patchR l adds gone).length≤l.length+adds.length:=Nat.le_trans (withs_len _ _) (Nat.add_le_add_right (withouts_len l gone) _)
theorem patchR_mem {l adds:List Res} {gone:List Key} {x:Res} (h:x∈patchR l adds gone):x∈l∨x∈adds:=by
 have h1:∀ (adds l:List Res),x∈adds.foldl withR l→x∈l∨x∈adds:=by
  intro adds
  induction adds with
  | nil=>exact fun l h=>.inl h
  | cons r a ih =>
   intro l h
   rcases ih _ h with h|h
   ·rcases withR_mem h with rfl|h
    ·exact .inr (by simp)
    ·exact .inl h
   ·exact .inr (List.mem_cons_of_mem _ h)
 have h2:∀ (gone:List Key) (l:List Res),x∈gone.foldl twithout l→x∈l:=by
  intro gone
  induction gone with
  | nil=>exact fun l h=>h
  | cons k g ih=>exact fun l h=>twithout_mem (ih _ h)
 rcases h1 _ _ h with h|h
 ·exact .inl (h2 _ _ h)
 ·exact .inr h
theorem tpatch_c (xs adds:List Res) (gone:List Key) (hx:Small xs.length) (ha:Small adds.length) (hg:Small gone.length) (hl:Small (xs.length+adds.length)) :
  CallR Tryz.prog 120 [.slice false (avs xs),.slice false (avs adds),.slice false (avs gone)] (.val (.slice false (avs (patchR xs adds gone)))):=by
 refine CallR.go3 (T:=T) Tryz.call120 Tryz.func120 rfl Tryz.ntmps120 (congrArg Array.toList Tryz.results120) (by decide) fun ts hn h0 h1 h2=>?_
 (repeat' (first
 | (with_reducible first|refine callX.by (twithout_c _ _ _ ?_) ?_|refine callX.by (with_c _ _ ?_ ?_) ?_|assumption|(refine Qw hK _ ?_; clear hK K)|refine Qw ‹_› _ ?_|refine Qx ‹_› ?_|refine Qi fun K hK=>?_|refine Qj T fun K hK=>?_|refine Ql fun A B hA hB=>?_|refine Qm ?_|refine Qn ?_|refine Qp ?_|refine Qr ?_)
 | ((with_reducible first|apply Qy|apply Qz|apply QA)<;>intro hb<;>try simp only [nr] at hb)
 | simp only [go_sem,↓reduceIte,reduceIte,Qa,Qh,Qb,Qc,Qd,Qe,Qf,Qg,reduceCtorEq, *]
 | with_reducible refine fun (bn:Bool) hbn=>?_))
 refine Qs [1,11,12] (fun m ts'=>∃ (i:Nat),∃ (ys:List Res),m=gone.length - i∧i≤gone.length∧ys.length≤xs.length∧(gone.drop i).foldl twithout ys=gone.foldl twithout xs∧ts'.tmp 0=.slice false (avs ys)∧ts'.tmp 13=.int .i64 i) gone.length ?_ ?_
 ·refine ⟨0,xs,rfl,Nat.zero_le _,Nat.le_refl _,rfl,?_⟩
  simp only [go_sem,↓reduceIte,reduceIte,Qa,Qh,Qb,Qc,Qd,Qe,Qf,Qg,reduceCtorEq, *]
 ·rintro m A hM ts' hk ⟨i,ys,hm,f1,f2,f3,s1,s2⟩
  simp only [go_sem,↓reduceIte,reduceIte,Qa,Qh,Qb,Qc,Qd,Qe,Qf,Qg,reduceCtorEq, *] at hk
  by_cases hlt:i < gone.length
  ·rw [List.drop_eq_getElem_cons hlt,List.foldl_cons] at f3
   have hys:Small ys.length:=by unfold Small at hx ⊢; omega
   have w1:=(twithout_c ys gone[i].kind gone[i].name hys).frz
   have hle:=twithout_len ys gone[i]
   (repeat' (first
 | (with_reducible first|refine callX.by (w1) ?_|refine callX.by (twithout_c _ _ _ ?_) ?_|refine callX.by (with_c _ _ ?_ ?_) ?_|assumption|(refine Qw hK _ ?_; clear hK K)|refine Qw ‹_› _ ?_|refine Qx ‹_› ?_|refine Qi fun K hK=>?_|refine Qj T fun K hK=>?_|refine Ql fun A B hA hB=>?_|refine Qm ?_|refine Qn ?_|refine Qp ?_|refine Qr ?_)
 | ((with_reducible first|apply Qy|apply Qz|apply QA)<;>intro hb<;>try simp only [nr] at hb)
 | simp only [go_sem,↓reduceIte,reduceIte,Qa,Qh,Qb,Qc,Qd,Qe,Qf,Qg,reduceCtorEq, *,-f3,-w1]
 | with_reducible refine fun (bn:Bool) hbn=>?_))
   all_goals ((repeat clear hK); (repeat clear hA); (repeat clear hB))
   all_goals (refine hM.on (gone.length - (i+1)) (by omega) (by simp only [go_sem,↓reduceIte,reduceIte,Qa,Qh,Qb,Qc,Qd,Qe,Qf,Qg,reduceCtorEq, *,w64_nat hlt hg,-f3,-w1]) ⟨i+1,twithout ys gone[i],rfl,by omega,by omega,f3,?_⟩; simp only [go_sem,↓reduceIte,reduceIte,Qa,Qh,Qb,Qc,Qd,Qe,Qf,Qg,reduceCtorEq, *,w64_nat hlt hg,-f3,-w1]; done)
  ·rw [List.drop_eq_nil_of_le (by omega),List.foldl_nil] at f3
   subst f3
   (repeat' (first
 | (with_reducible first|refine callX.by (twithout_c _ _ _ ?_) ?_|refine callX.by (with_c _ _ ?_ ?_) ?_|assumption|(refine Qw hK _ ?_; clear hK K)|refine Qw ‹_› _ ?_|refine Qx ‹_› ?_|refine Qi fun K hK=>?_|refine Qj T fun K hK=>?_|refine Ql fun A B hA hB=>?_|refine Qm ?_|refine Qn ?_|refine Qp ?_|refine Qr ?_)
 | ((with_reducible first|apply Qy|apply Qz|apply QA)<;>intro hb<;>try simp only [nr] at hb)
 | simp only [go_sem,↓reduceIte,reduceIte,Qa,Qh,Qb,Qc,Qd,Qe,Qf,Qg,reduceCtorEq, *]
 | with_reducible refine fun (bn:Bool) hbn=>?_))
   clear hM hm
   refine Qs [21,22] (fun m ts'=>∃ (j:Nat),∃ (zs:List Res),m=adds.length - j∧j≤adds.length∧zs.length≤xs.length+j∧(adds.drop j).foldl withR zs=patchR xs adds gone∧ts'.tmp 0=.slice false (avs zs)∧ts'.tmp 23=.int .i64 j) adds.length ?_ ?_
   ·refine ⟨0,gone.foldl twithout xs,rfl,Nat.zero_le _,by omega,rfl,?_⟩
    simp only [go_sem,↓reduceIte,reduceIte,Qa,Qh,Qb,Qc,Qd,Qe,Qf,Qg,reduceCtorEq, *]
   ·rintro m A hM ts' hk ⟨j,zs,hm,f1,f2,f3,s1,s2⟩
    simp only [go_sem,↓reduceIte,reduceIte,Qa,Qh,Qb,Qc,Qd,Qe,Qf,Qg,reduceCtorEq, *] at hk
    by_cases hlt2:j < adds.length
    ·rw [List.drop_eq_getElem_cons hlt2,List.foldl_cons] at f3
     have hle:=withR_len zs adds[j]
     have hzs:Small zs.length:=by unfold Small at hl ⊢; omega
     have hzr:Small (withR zs adds[j]).length:=by unfold Small at hl ⊢; omega
     have w1:=(with_c zs adds[j] hzs hzr).frz
     (repeat' (first
 | (with_reducible first|refine callX.by (w1) ?_|refine callX.by (twithout_c _ _ _ ?_) ?_|refine callX.by (with_c _ _ ?_ ?_) ?_|assumption|(refine Qw hK _ ?_; clear hK K)|refine Qw ‹_› _ ?_|refine Qx ‹_› ?_|refine Qi fun K hK=>?_|refine Qj T fun K hK=>?_|refine Ql fun A B hA hB=>?_|refine Qm ?_|refine Qn ?_|refine Qp ?_|refine Qr ?_)
 | ((with_reducible first|apply Qy|apply Qz|apply QA)<;>intro hb<;>try simp only [nr] at hb)
 | simp only [go_sem,↓reduceIte,reduceIte,Qa,Qh,Qb,Qc,Qd,Qe,Qf,Qg,reduceCtorEq, *,-f3,-w1]
 | with_reducible refine fun (bn:Bool) hbn=>?_))
     all_goals ((repeat clear hK); (repeat clear hA); (repeat clear hB))
     all_goals (refine hM.on (adds.length - (j+1)) (by omega) (by simp only [go_sem,↓reduceIte,reduceIte,Qa,Qh,Qb,Qc,Qd,Qe,Qf,Qg,reduceCtorEq, *,w64_nat hlt2 ha,-f3,-w1]) ⟨j+1,withR zs adds[j],rfl,by omega,by omega,f3,?_⟩; simp only [go_sem,↓reduceIte,reduceIte,Qa,Qh,Qb,Qc,Qd,Qe,Qf,Qg,reduceCtorEq, *,w64_nat hlt2 ha,-f3,-w1]; done)
    ·rw [List.drop_eq_nil_of_le (by omega),List.foldl_nil] at f3
     subst f3
     (repeat' (first
 | (with_reducible first|refine callX.by (twithout_c _ _ _ ?_) ?_|refine callX.by (with_c _ _ ?_ ?_) ?_|assumption|(refine Qw hK _ ?_; clear hK K)|refine Qw ‹_› _ ?_|refine Qx ‹_› ?_|refine Qi fun K hK=>?_|refine Qj T fun K hK=>?_|refine Ql fun A B hA hB=>?_|refine Qm ?_|refine Qn ?_|refine Qp ?_|refine Qr ?_)
 | ((with_reducible first|apply Qy|apply Qz|apply QA)<;>intro hb<;>try simp only [nr] at hb)
 | simp only [go_sem,↓reduceIte,reduceIte,Qa,Qh,Qb,Qc,Qd,Qe,Qf,Qg,reduceCtorEq, *]
 | with_reducible refine fun (bn:Bool) hbn=>?_))
theorem apply1_d (cap:Int) (l adds:List Res) (gone:List Key) (hl:l.length+adds.length≤65536) (hg:Small gone.length) (hs:∀ r∈l,SmRes r) (ha:∀ r∈adds,SmRes r) :
  Done 119 ([.ro [.int .i64 cap,.slice false (avs l)],.ro [.slice false (avs adds)],.ro [.slice false (avs gone)]].map Arg.v++[.io [.int .i64 cap,.slice false (avs l)]]) (mustE cap (patchR l adds gone))
   (fun io=>io [AV.ro [.int .i64 cap,.slice false (avs l)],.ro [.slice false (avs adds)],.ro [.slice false (avs gone)]].length=[.int .i64 cap,.slice false (avs (patchR l adds gone))]):=by
 have hlen:=patchR_len l adds gone
 have hsp:∀ r∈patchR l adds gone,SmRes r:=fun r hr=>(patchR_mem hr).elim (hs r) (ha r)
 have w0:=tpatch_c l adds gone (by unfold Small; omega) (by unfold Small; omega) hg (by unfold Small; omega)
 unfold Done
 split
 ·rename_i hm
  have w1:=must_c cap l _ (by omega) hsp (fun h=>(conf_of h).nodup) hm
  clear hsp hs ha hlen
  refine CallV.goB3 Tryz.call119 Tryz.func119 rfl Tryz.ntmps119 T (congrArg Array.toList Tryz.results119) (by decide) fun ts hn h0 h1 h2 h3 hg3 ho3=>?_
  (repeat' (first
 | (with_reducible first|refine callX.by (w0) ?_|refine callX.by (w1) ?_|assumption|(refine Qw hK _ ?_; clear hK K)|refine Qw ‹_› _ ?_|refine Qx ‹_› ?_|refine Qi fun K hK=>?_|refine Qj T fun K hK=>?_|refine Ql fun A B hA hB=>?_|refine Qn ?_|refine Qr ?_)
 | ((with_reducible first|apply Qy|apply Qz|apply QA)<;>intro hb<;>try simp only [nr] at hb)
 | simp only [go_sem,↓reduceIte,reduceIte,Qa,Qh,Qb,Qc,Qd,Qe,Qf,Qg,reduceCtorEq, *,-w0,-w1,-hm]
 | with_reducible refine fun (bn:Bool) hbn=>?_))
  all_goals trace_state
 ·rename_i hm
  have w1:=must_u cap l _ (by omega) hsp (fun h=>(conf_of h).nodup) hm
  clear hsp hs ha hlen
  refine CallUV.goB3 Tryz.call119 Tryz.func119 rfl Tryz.ntmps119 (by decide) fun ts hn h0 h1 h2 h3 hg3 ho3=>?_
  (repeat' (first
 | (with_reducible first|refine SpecC.regUW T 3 (id:=1) rfl rfl fun K hK=>?_|refine UpK.callF w1 ?_ ?_|refine callX.by (w0) ?_|assumption|(refine Qw hK _ ?_; clear hK K)|refine Qw ‹_› _ ?_|refine Qx ‹_› ?_|refine Qi fun K hK=>?_|refine Qj T fun K hK=>?_|refine Ql fun A B hA hB=>?_|refine Qn ?_|refine Qr ?_)
 | ((with_reducible first|apply Qy|apply Qz|apply QA)<;>intro hb<;>try simp only [nr] at hb)
 | simp only [go_sem,↓reduceIte,reduceIte,Qa,Qh,Qb,Qc,Qd,Qe,Qf,Qg,reduceCtorEq, *,-w0,-w1,-hm]
 | with_reducible refine fun (bn:Bool) hbn=>?_))
  all_goals trace_state
def applyC (c:Cache) (adds:List Res) (gone:List Key):Cache × Int :=
 let d:=saneOf c
 let e:=mustE d.cap (patchR d.l adds gone)
 if e=0 then (⟨d.cap,patchR d.l adds gone⟩,0) else (d,e)
theorem saneOf_len (c:Cache):(saneOf c).l.length≤c.l.length:=by unfold saneOf; split<;>simp
theorem saneOf_mem {c:Cache} {x:Res} (h:x∈(saneOf c).l):x∈c.l:=by unfold saneOf at h; split at h<;>simp_all
theorem applyC_c (c_cap:Int) (c_l:List Res) (adds:List Res) (gone:List Key) (hl:c_l.length+adds.length≤65536) (hg:Small gone.length) (hs:∀ r∈c_l,SmRes r) (ha:∀ r∈adds,SmRes r) :
  CallR Tryz.prog 75 [.agg [.int .i64 c_cap,.slice false (avs c_l)],.slice false (avs adds),.slice false (avs gone)] (.val (.tup [.agg [.int .i64 (applyC (⟨c_cap,c_l⟩:Cache) adds gone).1.cap,.slice false (avs (applyC (⟨c_cap,c_l⟩:Cache) adds gone).1.l)],.int .i64 (applyC (⟨c_cap,c_l⟩:Cache) adds gone).2])):=by
 have w0:=saneOf_c c_cap c_l (by omega) hs
 have hdl:=saneOf_len (⟨c_cap,c_l⟩:Cache)
 have hdm:∀ r∈(saneOf (⟨c_cap,c_l⟩:Cache)).l,SmRes r:=fun r hr=>hs r (saneOf_mem hr)
 unfold applyC
 generalize saneOf (⟨c_cap,c_l⟩:Cache)=d at *
 have w1:=apply1_d d.cap d.l adds gone (by simp only at hdl; omega) hg hdm ha
 clear hdl hdm hs ha hl hg
 by_cases he:mustE d.cap (patchR d.l adds gone)=0
 ·rw [he] at w1
  simp only [he,if_true]
  refine CallR.go3 (T:=T.withF [13]) Tryz.call75 Tryz.func75 rfl Tryz.ntmps75 (congrArg Array.toList Tryz.results75) (by decide) fun ts hn h0 h1 h2=>?_
  (repeat' (first
 | (with_reducible first|refine callX.by (w0) ?_|refine SpecC.ent (Ent.frzBox _ 3) (SpecC.ent (Ent.frzBox _ 4) (SpecC.ent (Ent.frzBox _ 5) (Qu (T.withF [13]) 1 (id:=3) rfl rfl fun K hK=>?_)))|refine fun (K2:TS→Prop) (hK2:NxK _ K2)=>?_|refine SpecO.caughtB rfl 8 ?_ ?_ ?_ ?_ Tryz.call119 w1 ?_|refine Qw hK2 _ ?_|refine fun (K3:TS→Prop) (hK3:NxK _ K3)=>?_|refine callX.by (saneOf_c _ _ ?_ ?_) ?_|assumption|(refine Qw hK _ ?_; clear hK K)|refine Qw ‹_› _ ?_|refine Qx ‹_› ?_|refine Qi fun K hK=>?_|refine Qj (T.withF [13]) fun K hK=>?_|refine Ql fun A B hA hB=>?_|refine Qn ?_|refine Qr ?_)
 | ((with_reducible first|apply Qy|apply Qz|apply QA)<;>intro hb<;>try simp only [nr] at hb)
 | simp only [go_sem,↓reduceIte,reduceIte,Qa,Qh,Qb,Qc,Qd,Qe,Qf,Qg,reduceCtorEq, *,-w0,-w1,-he]
 | with_reducible refine fun (bn:Bool) hbn=>?_))
  all_goals trace_state
 ·simp only [he,if_false]
  refine CallR.go3 (T:=T.withF [13]) Tryz.call75 Tryz.func75 rfl Tryz.ntmps75 (congrArg Array.toList Tryz.results75) (by decide) fun ts hn h0 h1 h2=>?_
  (repeat' (first
 | (with_reducible first|refine callX.by (w0) ?_|refine SpecC.ent (Ent.frzBox _ 3) (SpecC.ent (Ent.frzBox _ 4) (SpecC.ent (Ent.frzBox _ 5) (Qu (T.withF [13]) 1 (id:=3) rfl rfl fun K hK=>?_)))|refine fun (K2:TS→Prop) (hK2:NxK _ K2)=>?_|refine SpecO.caughtB rfl 8 ?_ ?_ ?_ ?_ Tryz.call119 w1 ?_|refine Qw hK2 _ ?_|refine fun (K3:TS→Prop) (hK3:NxK _ K3)=>?_|refine callX.by (saneOf_c _ _ ?_ ?_) ?_|assumption|(refine Qw hK _ ?_; clear hK K)|refine Qw ‹_› _ ?_|refine Qx ‹_› ?_|refine Qi fun K hK=>?_|refine Qj (T.withF [13]) fun K hK=>?_|refine Ql fun A B hA hB=>?_|refine Qn ?_|refine Qr ?_)
 | ((with_reducible first|apply Qy|apply Qz|apply QA)<;>intro hb<;>try simp only [nr] at hb)
 | simp only [go_sem,↓reduceIte,reduceIte,Qa,Qh,Qb,Qc,Qd,Qe,Qf,Qg,reduceCtorEq, *,-w0,-w1]
 | with_reducible refine fun (bn:Bool) hbn=>?_))
  all_goals trace_state
theorem saneC_conf {c:Cache} (h:saneC c=true):Conf c.l:=by
 unfold saneC at h
 simp only [Bool.and_eq_true,decide_eq_true_eq] at h
 refine conf_of ?_
 by_cases ht:tsane c.l=0
 ·exact ht
 ·have:=h.2
  unfold mustE at this
  rw [if_pos ht] at this
  exact this
theorem saneOf_nodup (c:Cache):((saneOf c).l.map keyOf).Nodup:=by
 unfold saneOf
 split
 ·rename_i h; exact (saneC_conf h).nodup
 ·simp
def shownC (c:Cache):List Res:=reachR (saneOf c).l
theorem shownC_c (c_cap:Int) (c_l:List Res) (hl:c_l.length≤65536) (hs:∀ r∈c_l,SmRes r):CallR Tryz.prog 45 [.agg [.int .i64 c_cap,.slice false (avs c_l)]] (.own 7 (avs (shownC (⟨c_cap,c_l⟩:Cache)))):=by
 have w0:=saneOf_c c_cap c_l hl hs
 have hdl:=saneOf_len (⟨c_cap,c_l⟩:Cache)
 have hdm:∀ r∈(saneOf (⟨c_cap,c_l⟩:Cache)).l,SmRes r:=fun r hr=>hs r (saneOf_mem hr)
 have hdn:=saneOf_nodup (⟨c_cap,c_l⟩:Cache)
 unfold shownC
 generalize saneOf (⟨c_cap,c_l⟩:Cache)=d at *
 have w1:=reach_c d.l (by simp only at hdl; omega) hdm hdn
 clear hdl hdm hs hl hdn
 refine QD (T:=T) Tryz.call45 Tryz.func45 rfl Tryz.ntmps45 (congrArg Array.toList Tryz.results45) (by decide) fun ts hn h0=>?_
 (repeat' (first
 | (with_reducible first|refine callX.by (w0) ?_|refine callX.by (w1) ?_|refine callX.by (saneOf_c _ _ ?_ ?_) ?_|refine callX.by (reach_c _ ?_ ?_ ?_) ?_|refine callX.by a6rc ?_|assumption|(refine Qw hK _ ?_; clear hK K)|refine Qw ‹_› _ ?_|refine Qx ‹_› ?_|refine Qi fun K hK=>?_|refine Qj T fun K hK=>?_|refine Ql fun A B hA hB=>?_|refine Qn ?_|refine Qr ?_)
 | ((with_reducible first|apply Qy|apply Qz|apply QA)<;>intro hb<;>try simp only [nr] at hb)
 | simp only [go_sem,↓reduceIte,reduceIte,Qa,Qh,Qb,Qc,Qd,Qe,Qf,Qg,reduceCtorEq, *,-w0,-w1]
 | with_reducible refine fun (bn:Bool) hbn=>?_))
def lR:Res:=⟨0,[108],0,80,[114],[],[]⟩
theorem lRs:saneR lR=0:=by decide
theorem lRr:refsR lR=[⟨1,[114]⟩]:=refs_one lRs (.inl rfl)
theorem oneSm {r:Res} (h1:r.rules'=[]) (h2:Small r.name.length) (h3:Small r.to'.length) (h4:Small r.hosts.length):∀ x∈[r],SmRes x:=by
 intro x hx
 rw [List.mem_singleton] at hx
 subst hx
 exact ⟨h2,h3,by rw [h1]; simp [Small],by rw [h1]; simp,h4⟩
theorem lRsm:∀ x∈[lR],SmRes x:=oneSm rfl (by simp [Small,lR]) (by simp [Small,lR]) (by simp [Small,lR])
theorem nilm' (n:Int) (h:0≤n):mustE n []=0:=by
 unfold mustE
 have h1:tsane []=0:=by decide
 have h2:served []=0:=by decide
 rw [h1,h2]; simp [h]
theorem nine:saneOf ⟨9,[]⟩=⟨9,[]⟩:=by
 unfold saneOf
 rw [if_pos]
 unfold saneC
 rw [nilm' 9 (by decide)]; decide
theorem eqFRes_c (fn:FuncId) (caps:List AV) (hc:Caps caps) (xs ys:List Res) (hp:∀ x∈xs,∀ y,CallR Tryz.prog fn (.agg [.int .i64 x.kind,.str x.name,.int .i64 x.ver,.int .i64 x.port,.str x.to',.slice false (avs x.rules'),.slice false (avs x.hosts)] :: .agg [.int .i64 y.kind,.str y.name,.int .i64 y.ver,.int .i64 y.port,.str y.to',.slice false (avs y.rules'),.slice false (avs y.hosts)] :: caps) (.val (.bool (decide (x=y))))) (hl:Small xs.length):CallR Tryz.prog 85 [.slice false (avs xs),.slice false (avs ys),.clo (.func fn) [] caps] (.val (.bool (decide (xs=ys)))):=by
 have hca:=hc.args
 have hcp:=hc.pure
 have hcn:=hc.nrm
 refine CallR.go3 (T:=T) Tryz.call85 Tryz.func85 rfl Tryz.ntmps85 (congrArg Array.toList Tryz.results85) (by decide) fun ts hn h0 h1 h2=>?_
 by_cases hll:xs.length=ys.length
 ·(repeat' (first
 | (with_reducible first|assumption|(refine Qw hK _ ?_; clear hK K)|refine Qw ‹_› _ ?_|refine Qx ‹_› ?_|refine Qi fun K hK=>?_|refine Qj T fun K hK=>?_|refine Ql fun A B hA hB=>?_|refine Qm ?_|refine Qn ?_|refine Qp ?_|refine Qr ?_)
 | ((with_reducible first|apply Qy|apply Qz|apply QA)<;>intro hb<;>try simp only [nr] at hb)
 | simp only [go_sem,↓reduceIte,reduceIte,Qa,Qh,Qb,Qc,Qd,Qe,Qf,Qg,reduceCtorEq, *,-hp]
 | with_reducible refine fun (bn:Bool) hbn=>?_))
  refine Qs [1,2,15,16] (fun m ts'=>∃ (i:Nat),m=xs.length - i∧i≤xs.length∧xs.take i=ys.take i∧ts'.tmp 17=.int .i64 i) xs.length ?_ ?_
  ·refine ⟨0,?_⟩
   simp only [go_sem,↓reduceIte,reduceIte,Qa,Qh,Qb,Qc,Qd,Qe,Qf,Qg,reduceCtorEq, *,-hp]
  ·rintro m A hM ts' hk ⟨i,hm,f1,f2,s1⟩
   simp only [go_sem,↓reduceIte,reduceIte,Qa,Qh,Qb,Qc,Qd,Qe,Qf,Qg,reduceCtorEq, *] at hk
   by_cases hlt:i < xs.length
   ·have hlu:i < ys.length:=by omega
    have hne:=take_ne hlt hlu
    have hpi:=hp _ (List.getElem_mem hlt) ys[i]
    (repeat' (first
 | (with_reducible first|refine callX.by (hpi) ?_|assumption|(refine Qw hK _ ?_; clear hK K)|refine Qw ‹_› _ ?_|refine Qx ‹_› ?_|refine Qi fun K hK=>?_|refine Qj T fun K hK=>?_|refine Ql fun A B hA hB=>?_|refine Qm ?_|refine Qn ?_|refine Qp ?_|refine Qr ?_)
 | ((with_reducible first|apply Qy|apply Qz|apply QA)<;>intro hb<;>try simp only [nr] at hb)
 | simp only [go_sem,↓reduceIte,reduceIte,Qa,Qh,Qb,Qc,Qd,Qe,Qf,Qg,reduceCtorEq, *,-hp,-hpi]
 | with_reducible refine fun (bn:Bool) hbn=>?_))
    all_goals ((repeat clear hK); (repeat clear hA); (repeat clear hB))
    all_goals first
     | (refine hM.on (xs.length - (i+1)) (by omega) (by simp only [go_sem,↓reduceIte,reduceIte,Qa,Qh,Qb,Qc,Qd,Qe,Qf,Qg,reduceCtorEq, *,w64_nat hlt hl,-hp,-hpi]) ⟨i+1,rfl,by omega,take_get f2 hlt hlu (of_decide_eq_true hb),?_⟩; simp only [go_sem,↓reduceIte,reduceIte,Qa,Qh,Qb,Qc,Qd,Qe,Qf,Qg,reduceCtorEq, *,w64_nat hlt hl,-hp,-hpi]; done)
     | (clear hM hp hpi; grind)
   ·have:=take_all f2 hlt hll
    (repeat' (first
 | (with_reducible first|assumption|(refine Qw hK _ ?_; clear hK K)|refine Qw ‹_› _ ?_|refine Qx ‹_› ?_|refine Qi fun K hK=>?_|refine Qj T fun K hK=>?_|refine Ql fun A B hA hB=>?_|refine Qm ?_|refine Qn ?_|refine Qp ?_|refine Qr ?_)
 | ((with_reducible first|apply Qy|apply Qz|apply QA)<;>intro hb<;>try simp only [nr] at hb)
 | simp only [go_sem,↓reduceIte,reduceIte,Qa,Qh,Qb,Qc,Qd,Qe,Qf,Qg,reduceCtorEq, *,-hp]
 | with_reducible refine fun (bn:Bool) hbn=>?_))
    all_goals ((repeat clear hK); (repeat clear hA); (repeat clear hB))
    all_goals (clear hM hp; grind)
 ·have:¬ xs=ys:=by rintro rfl; exact hll rfl
  (repeat' (first
 | (with_reducible first|assumption|(refine Qw hK _ ?_; clear hK K)|refine Qw ‹_› _ ?_|refine Qx ‹_› ?_|refine Qi fun K hK=>?_|refine Qj T fun K hK=>?_|refine Ql fun A B hA hB=>?_|refine Qm ?_|refine Qn ?_|refine Qp ?_|refine Qr ?_)
 | ((with_reducible first|apply Qy|apply Qz|apply QA)<;>intro hb<;>try simp only [nr] at hb)
 | simp only [go_sem,↓reduceIte,reduceIte,Qa,Qh,Qb,Qc,Qd,Qe,Qf,Qg,reduceCtorEq, *,-hp]
 | with_reducible refine fun (bn:Bool) hbn=>?_))
  all_goals ((repeat clear hK); (repeat clear hA); (repeat clear hB))
  all_goals (clear hp; grind)
theorem tsame_c (xs ys:List Res) (hl:Small xs.length) (hs:∀ x∈xs,SmRes x):CallR Tryz.prog 38 [.slice false (avs xs),.slice false (avs ys)] (.val (.bool (decide (xs=ys)))):=by
 have w1:=eqFRes_c 86 [] Caps.nil xs ys (fun x hx y=>sameP_c x.kind x.name x.ver x.port x.to' x.rules' x.hosts y.kind y.name y.ver y.port y.to' y.rules' y.hosts (hs x hx).2.2.2.2 (hs x hx).2.2.1 (hs x hx).2.2.2.1) hl
 refine CallR.go2 (T:=T) Tryz.call38 Tryz.func38 rfl Tryz.ntmps38 (congrArg Array.toList Tryz.results38) (by decide) fun ts hn h0 h1=>?_
 (repeat' (first
 | (with_reducible first|refine callX.by (w1) ?_|refine callX.by (eqFRes_c _ _ ?_ _ _ ?_ ?_) ?_|refine callX.by (sameP_c _ _ _ _ _ _ _ _ _ _ _ _ _ _ ?_ ?_ ?_) ?_|refine callX.by awqm ?_|assumption|(refine Qw hK _ ?_; clear hK K)|refine Qw ‹_› _ ?_|refine Qx ‹_› ?_|refine Qi fun K hK=>?_|refine Qj T fun K hK=>?_|refine Ql fun A B hA hB=>?_|refine Qn ?_|refine Qr ?_)
 | ((with_reducible first|apply Qy|apply Qz|apply QA)<;>intro hb<;>try simp only [nr] at hb)
 | simp only [go_sem,↓reduceIte,reduceIte,Qa,Qh,Qb,Qc,Qd,Qe,Qf,Qg,reduceCtorEq, *,-hs,-w1]
 | with_reducible refine fun (bn:Bool) hbn=>?_))
theorem newW_c (n:Int):CallR Tryz.prog 35 [.int .i64 n] (.val (.agg [.int .i64 (bnd n),.slice false [],.bool false,.slice false []])):=by
 have w0:=newC_c n
 refine QD (T:=T) Tryz.call35 Tryz.func35 rfl Tryz.ntmps35 (congrArg Array.toList Tryz.results35) (by decide) fun ts hn h0=>?_
 (repeat' (first
 | (with_reducible first|refine callX.by (w0) ?_|refine callX.by (newC_c _) ?_|assumption|(refine Qw hK _ ?_; clear hK K)|refine Qw ‹_› _ ?_|refine Qx ‹_› ?_|refine Qi fun K hK=>?_|refine Qj T fun K hK=>?_|refine Ql fun A B hA hB=>?_|refine Qn ?_|refine Qr ?_)
 | ((with_reducible first|apply Qy|apply Qz|apply QA)<;>intro hb<;>try simp only [nr] at hb)
 | simp only [go_sem,↓reduceIte,reduceIte,Qa,Qh,Qb,Qc,Qd,Qe,Qf,Qg,reduceCtorEq, *,-w0]
 | with_reducible refine fun (bn:Bool) hbn=>?_))
def saneW (w:Warm):Bool:=saneC w.c && decide (w.shown=shownC w.c) && (w.ready || decide (w.shown=[]))
theorem saneW_c (w_c_cap:Int) (w_c_l:List Res) (w_ready:Bool) (w_shown:List Res) (hl:w_c_l.length≤65536) (hs:∀ r∈w_c_l,SmRes r) (hl2:Small w_shown.length) (hs2:∀ r∈w_shown,SmRes r):CallR Tryz.prog 31 [.agg [.int .i64 w_c_cap,.slice false (avs w_c_l),.bool w_ready,.slice false (avs w_shown)]] (.val (.bool (saneW (⟨⟨w_c_cap,w_c_l⟩,w_ready,w_shown⟩:Warm)))):=by
 have w1:=saneC_c w_c_cap w_c_l hl hs
 have w2:=(shownC_c w_c_cap w_c_l hl hs).frz
 have w3:=tsame_c w_shown (shownC ⟨w_c_cap,w_c_l⟩) hl2 hs2
 have hlen:decide ((w_shown.length:Int)=0)=decide (w_shown=[]):=by
  rw [Bool.eq_iff_iff]; simp
 unfold saneW
 simp only
 generalize shownC ⟨w_c_cap,w_c_l⟩=sh at *
 cases hb0:saneC ⟨w_c_cap,w_c_l⟩
 ·rw [hb0] at w1
  refine QD (T:=T) Tryz.call31 Tryz.func31 rfl Tryz.ntmps31 (congrArg Array.toList Tryz.results31) (by decide) fun ts hn h0=>?_
  (repeat' (first
 | (with_reducible first|refine callX.by (w1) ?_|refine callX.by (saneC_c _ _ ?_ ?_) ?_|refine callX.by (shownC_c _ _ ?_ ?_) ?_|refine callX.by (tsame_c _ _ ?_ ?_) ?_|assumption|(refine Qw hK _ ?_; clear hK K)|refine Qw ‹_› _ ?_|refine Qx ‹_› ?_|refine Qi fun K hK=>?_|refine Qj T fun K hK=>?_|refine Qk (id:=1) T mixed [([3],[6,7,8,9,10,11,12,13,14,15,16,17,18,19,20,21]),([4],[7,8,9,10,11,12,13,14,15,16,17,18,19,20,21]),([5],[14,15,16,17,18,19,20,21]),([6],[3,15,16,17,18,19,20,21]),([7],[3,4,9,10,11,13,14,15,16,17,18,19,20,21]),([8],[3,4,9,10,11,15,16,17,18,19,20,21]),([9],[3,4,7,8,12,13,14,15,16,17,18,19,20,21]),([10],[3,4,7,8,13,14,15,16,17,18,19,20,21]),([11],[3,4,7,8,15,16,17,18,19,20,21]),([12],[3,4,9,18,19,20,21]),([13],[3,4,7,9,10,18,19,20,21]),([14],[3,4,5,7,9,10]),([15],[3,4,5,6,7,8,9,10,11,18,19,20,21]),([16],[3,4,5,6,7,8,9,10,11]),([17],[3,4,5,6,7,8,9,10,11]),([18],[3,4,5,6,7,8,9,10,11,12,13,15,21]),([19],[3,4,5,6,7,8,9,10,11,12,13,15]),([20],[3,4,5,6,7,8,9,10,11,12,13,15]),([21],[3,4,5,6,7,8,9,10,11,12,13,15,18])] (by kernel_rfl) fun K hK=>?_|refine Ql fun A B hA hB=>?_|refine Qn ?_|refine Qr ?_)
 | ((with_reducible first|apply Qy|apply Qz|apply QA)<;>intro hb<;>try simp only [nr] at hb)
 | simp only [go_sem,↓reduceIte,reduceIte,Qa,Qh,Qb,Qc,Qd,Qe,Qf,Qg,reduceCtorEq, *,-hs,-hs2,-w1,-w2,-w3]
 | with_reducible refine fun (bn:Bool) hbn=>?_))
 ·rw [hb0] at w1
  by_cases hsh:w_shown=sh
  ·rw [decide_eq_true hsh] at w3
   cases w_ready
   ·refine QD (T:=T) Tryz.call31 Tryz.func31 rfl Tryz.ntmps31 (congrArg Array.toList Tryz.results31) (by decide) fun ts hn h0=>?_
    (repeat' (first
 | (with_reducible first|refine callX.by (w1) ?_|refine callX.by (w2) ?_|refine callX.by (w3) ?_|refine callX.by (saneC_c _ _ ?_ ?_) ?_|refine callX.by (shownC_c _ _ ?_ ?_) ?_|refine callX.by (tsame_c _ _ ?_ ?_) ?_|assumption|(refine Qw hK _ ?_; clear hK K)|refine Qw ‹_› _ ?_|refine Qx ‹_› ?_|refine Qi fun K hK=>?_|refine Qj T fun K hK=>?_|refine Qk (id:=1) T mixed [([3],[6,7,8,9,10,11,12,13,14,15,16,17,18,19,20,21]),([4],[7,8,9,10,11,12,13,14,15,16,17,18,19,20,21]),([5],[14,15,16,17,18,19,20,21]),([6],[3,15,16,17,18,19,20,21]),([7],[3,4,9,10,11,13,14,15,16,17,18,19,20,21]),([8],[3,4,9,10,11,15,16,17,18,19,20,21]),([9],[3,4,7,8,12,13,14,15,16,17,18,19,20,21]),([10],[3,4,7,8,13,14,15,16,17,18,19,20,21]),([11],[3,4,7,8,15,16,17,18,19,20,21]),([12],[3,4,9,18,19,20,21]),([13],[3,4,7,9,10,18,19,20,21]),([14],[3,4,5,7,9,10]),([15],[3,4,5,6,7,8,9,10,11,18,19,20,21]),([16],[3,4,5,6,7,8,9,10,11]),([17],[3,4,5,6,7,8,9,10,11]),([18],[3,4,5,6,7,8,9,10,11,12,13,15,21]),([19],[3,4,5,6,7,8,9,10,11,12,13,15]),([20],[3,4,5,6,7,8,9,10,11,12,13,15]),([21],[3,4,5,6,7,8,9,10,11,12,13,15,18])] (by kernel_rfl) fun K hK=>?_|refine Ql fun A B hA hB=>?_|refine Qn ?_|refine Qr ?_)
 | ((with_reducible first|apply Qy|apply Qz|apply QA)<;>intro hb<;>try simp only [nr] at hb)
 | simp only [go_sem,↓reduceIte,reduceIte,Qa,Qh,Qb,Qc,Qd,Qe,Qf,Qg,reduceCtorEq, *,-hs,-hs2,-w1,-w2,-w3,-hsh]
 | with_reducible refine fun (bn:Bool) hbn=>?_))
    all_goals simp_all
   ·refine QD (T:=T) Tryz.call31 Tryz.func31 rfl Tryz.ntmps31 (congrArg Array.toList Tryz.results31) (by decide) fun ts hn h0=>?_
    (repeat' (first
 | (with_reducible first|refine callX.by (w1) ?_|refine callX.by (w2) ?_|refine callX.by (w3) ?_|refine callX.by (saneC_c _ _ ?_ ?_) ?_|refine callX.by (shownC_c _ _ ?_ ?_) ?_|refine callX.by (tsame_c _ _ ?_ ?_) ?_|assumption|(refine Qw hK _ ?_; clear hK K)|refine Qw ‹_› _ ?_|refine Qx ‹_› ?_|refine Qi fun K hK=>?_|refine Qj T fun K hK=>?_|refine Qk (id:=1) T mixed [([3],[6,7,8,9,10,11,12,13,14,15,16,17,18,19,20,21]),([4],[7,8,9,10,11,12,13,14,15,16,17,18,19,20,21]),([5],[14,15,16,17,18,19,20,21]),([6],[3,15,16,17,18,19,20,21]),([7],[3,4,9,10,11,13,14,15,16,17,18,19,20,21]),([8],[3,4,9,10,11,15,16,17,18,19,20,21]),([9],[3,4,7,8,12,13,14,15,16,17,18,19,20,21]),([10],[3,4,7,8,13,14,15,16,17,18,19,20,21]),([11],[3,4,7,8,15,16,17,18,19,20,21]),([12],[3,4,9,18,19,20,21]),([13],[3,4,7,9,10,18,19,20,21]),([14],[3,4,5,7,9,10]),([15],[3,4,5,6,7,8,9,10,11,18,19,20,21]),([16],[3,4,5,6,7,8,9,10,11]),([17],[3,4,5,6,7,8,9,10,11]),([18],[3,4,5,6,7,8,9,10,11,12,13,15,21]),([19],[3,4,5,6,7,8,9,10,11,12,13,15]),([20],[3,4,5,6,7,8,9,10,11,12,13,15]),([21],[3,4,5,6,7,8,9,10,11,12,13,15,18])] (by kernel_rfl) fun K hK=>?_|refine Ql fun A B hA hB=>?_|refine Qn ?_|refine Qr ?_)
 | ((with_reducible first|apply Qy|apply Qz|apply QA)<;>intro hb<;>try simp only [nr] at hb)
 | simp only [go_sem,↓reduceIte,reduceIte,Qa,Qh,Qb,Qc,Qd,Qe,Qf,Qg,reduceCtorEq, *,-hs,-hs2,-w1,-w2,-w3,-hsh]
 | with_reducible refine fun (bn:Bool) hbn=>?_))
    all_goals simp_all
  ·rw [decide_eq_false hsh] at w3
   refine QD (T:=T) Tryz.call31 Tryz.func31 rfl Tryz.ntmps31 (congrArg Array.toList Tryz.results31) (by decide) fun ts hn h0=>?_
   (repeat' (first
 | (with_reducible first|refine callX.by (w1) ?_|refine callX.by (w2) ?_|refine callX.by (w3) ?_|refine callX.by (saneC_c _ _ ?_ ?_) ?_|refine callX.by (shownC_c _ _ ?_ ?_) ?_|refine callX.by (tsame_c _ _ ?_ ?_) ?_|assumption|(refine Qw hK _ ?_; clear hK K)|refine Qw ‹_› _ ?_|refine Qx ‹_› ?_|refine Qi fun K hK=>?_|refine Qj T fun K hK=>?_|refine Qk (id:=1) T mixed [([3],[6,7,8,9,10,11,12,13,14,15,16,17,18,19,20,21]),([4],[7,8,9,10,11,12,13,14,15,16,17,18,19,20,21]),([5],[14,15,16,17,18,19,20,21]),([6],[3,15,16,17,18,19,20,21]),([7],[3,4,9,10,11,13,14,15,16,17,18,19,20,21]),([8],[3,4,9,10,11,15,16,17,18,19,20,21]),([9],[3,4,7,8,12,13,14,15,16,17,18,19,20,21]),([10],[3,4,7,8,13,14,15,16,17,18,19,20,21]),([11],[3,4,7,8,15,16,17,18,19,20,21]),([12],[3,4,9,18,19,20,21]),([13],[3,4,7,9,10,18,19,20,21]),([14],[3,4,5,7,9,10]),([15],[3,4,5,6,7,8,9,10,11,18,19,20,21]),([16],[3,4,5,6,7,8,9,10,11]),([17],[3,4,5,6,7,8,9,10,11]),([18],[3,4,5,6,7,8,9,10,11,12,13,15,21]),([19],[3,4,5,6,7,8,9,10,11,12,13,15]),([20],[3,4,5,6,7,8,9,10,11,12,13,15]),([21],[3,4,5,6,7,8,9,10,11,12,13,15,18])] (by kernel_rfl) fun K hK=>?_|refine Ql fun A B hA hB=>?_|refine Qn ?_|refine Qr ?_)
 | ((with_reducible first|apply Qy|apply Qz|apply QA)<;>intro hb<;>try simp only [nr] at hb)
 | simp only [go_sem,↓reduceIte,reduceIte,Qa,Qh,Qb,Qc,Qd,Qe,Qf,Qg,reduceCtorEq, *,-hs,-hs2,-w1,-w2,-w3,-hsh]
 | with_reducible refine fun (bn:Bool) hbn=>?_))
   all_goals simp_all
def saneOfW (w:Warm):Warm:=if saneW w=true then w else ⟨⟨bnd w.c.cap,[]⟩,false,[]⟩
theorem saneOfW_c (w_c_cap:Int) (w_c_l:List Res) (w_ready:Bool) (w_shown:List Res) (hl:w_c_l.length≤65536) (hs:∀ r∈w_c_l,SmRes r) (hl2:Small w_shown.length) (hs2:∀ r∈w_shown,SmRes r):CallR Tryz.prog 74 [.agg [.int .i64 w_c_cap,.slice false (avs w_c_l),.bool w_ready,.slice false (avs w_shown)]] (.val (.agg [.int .i64 (saneOfW (⟨⟨w_c_cap,w_c_l⟩,w_ready,w_shown⟩:Warm)).c.cap,.slice false (avs (saneOfW (⟨⟨w_c_cap,w_c_l⟩,w_ready,w_shown⟩:Warm)).c.l),.bool (saneOfW (⟨⟨w_c_cap,w_c_l⟩,w_ready,w_shown⟩:Warm)).ready,.slice false (avs (saneOfW (⟨⟨w_c_cap,w_c_l⟩,w_ready,w_shown⟩:Warm)).shown)])):=by
 have w1:=saneW_c w_c_cap w_c_l w_ready w_shown hl hs hl2 hs2
 unfold saneOfW
 cases hb0:saneW (⟨⟨w_c_cap,w_c_l⟩,w_ready,w_shown⟩:Warm)
 ·rw [hb0] at w1
  refine QD (T:=T) Tryz.call74 Tryz.func74 rfl Tryz.ntmps74 (congrArg Array.toList Tryz.results74) (by decide) fun ts hn h0=>?_
  (repeat' (first
 | (with_reducible first|refine callX.by (w1) ?_|refine callX.by (saneW_c _ _ _ _ ?_ ?_ ?_ ?_) ?_|refine callX.by (newW_c _) ?_|assumption|(refine Qw hK _ ?_; clear hK K)|refine Qw ‹_› _ ?_|refine Qx ‹_› ?_|refine Qi fun K hK=>?_|refine Qj T fun K hK=>?_|refine Ql fun A B hA hB=>?_|refine Qn ?_|refine Qr ?_)
 | ((with_reducible first|apply Qy|apply Qz|apply QA)<;>intro hb<;>try simp only [nr] at hb)
 | simp only [go_sem,↓reduceIte,reduceIte,Qa,Qh,Qb,Qc,Qd,Qe,Qf,Qg,reduceCtorEq, *,-hs,-hs2,-w1]
 | with_reducible refine fun (bn:Bool) hbn=>?_))
  all_goals rfl
 ·rw [hb0] at w1
  refine QD (T:=T) Tryz.call74 Tryz.func74 rfl Tryz.ntmps74 (congrArg Array.toList Tryz.results74) (by decide) fun ts hn h0=>?_
  (repeat' (first
 | (with_reducible first|refine callX.by (w1) ?_|refine callX.by (saneW_c _ _ _ _ ?_ ?_ ?_ ?_) ?_|refine callX.by (newW_c _) ?_|assumption|(refine Qw hK _ ?_; clear hK K)|refine Qw ‹_› _ ?_|refine Qx ‹_› ?_|refine Qi fun K hK=>?_|refine Qj T fun K hK=>?_|refine Ql fun A B hA hB=>?_|refine Qn ?_|refine Qr ?_)
 | ((with_reducible first|apply Qy|apply Qz|apply QA)<;>intro hb<;>try simp only [nr] at hb)
 | simp only [go_sem,↓reduceIte,reduceIte,Qa,Qh,Qb,Qc,Qd,Qe,Qf,Qg,reduceCtorEq, *,-hs,-hs2,-w1]
 | with_reducible refine fun (bn:Bool) hbn=>?_))
  all_goals trace_state
theorem few_len16 {l:List Res} (h:fewAll l=true):l.length≤80:=by
 simp only [fewAll,Bool.and_eq_true,decide_eq_true_eq] at h
 omega
def goodE (l:List Res):Bool:=decide (tsane l=0) && decide (served l=0)
theorem goodN_c (xs:List Res) (hl:xs.length≤65536) (hs:∀ r∈xs,SmRes r) (hn:¬ tsane xs=0):CallR Tryz.prog 37 [.slice false (avs xs)] (.val (.bool false)):=by
 have hl2:=small_le hl
 refine QD (T:=T) Tryz.call37 Tryz.func37 rfl Tryz.ntmps37 (congrArg Array.toList Tryz.results37) (by decide) fun ts hn h0=>?_
 (repeat' (first
 | (with_reducible first|refine callX.by (tsane_c _ ?_ ?_) ?_|refine callX.by (served_c _ ?_ ?_ ?_) ?_|refine callX.by a6sc ?_|assumption|(refine Qw hK _ ?_; clear hK K)|refine Qw ‹_› _ ?_|refine Qx ‹_› ?_|refine Qi fun K hK=>?_|refine Qj T fun K hK=>?_|refine Ql fun A B hA hB=>?_|refine Qn ?_|refine Qr ?_)
 | ((with_reducible first|apply Qy|apply Qz|apply QA)<;>intro hb<;>try simp only [nr] at hb)
 | simp only [go_sem,↓reduceIte,reduceIte,Qa,Qh,Qb,Qc,Qd,Qe,Qf,Qg,reduceCtorEq, *,-hs]
 | with_reducible refine fun (bn:Bool) hbn=>?_))
theorem goodS_c (xs:List Res) (hl:xs.length≤65536) (hs:∀ r∈xs,SmRes r) (hn:tsane xs=0) (hnd:(xs.map keyOf).Nodup):CallR Tryz.prog 37 [.slice false (avs xs)] (.val (.bool (decide (served xs=0)))):=by
 have hl2:=small_le hl
 refine QD (T:=T) Tryz.call37 Tryz.func37 rfl Tryz.ntmps37 (congrArg Array.toList Tryz.results37) (by decide) fun ts hn h0=>?_
 (repeat' (first
 | (with_reducible first|refine callX.by (tsane_c _ ?_ ?_) ?_|refine callX.by (served_c _ ?_ ?_ ?_) ?_|refine callX.by a6sc ?_|assumption|(refine Qw hK _ ?_; clear hK K)|refine Qw ‹_› _ ?_|refine Qx ‹_› ?_|refine Qi fun K hK=>?_|refine Qj T fun K hK=>?_|refine Ql fun A B hA hB=>?_|refine Qn ?_|refine Qr ?_)
 | ((with_reducible first|apply Qy|apply Qz|apply QA)<;>intro hb<;>try simp only [nr] at hb)
 | simp only [go_sem,↓reduceIte,reduceIte,Qa,Qh,Qb,Qc,Qd,Qe,Qf,Qg,reduceCtorEq, *,-hs,-hnd]
 | with_reducible refine fun (bn:Bool) hbn=>?_))
theorem goodE_c (xs:List Res) (hl:xs.length≤65536) (hs:∀ r∈xs,SmRes r) (hnd:tsane xs=0→(xs.map keyOf).Nodup):CallR Tryz.prog 37 [.slice false (avs xs)] (.val (.bool (goodE xs))):=by
 by_cases h:tsane xs=0
 ·have:=goodS_c xs hl hs h (hnd h)
  unfold goodE
  rw [decide_eq_true h,Bool.true_and]
  exact this
 ·have:=goodN_c xs hl hs h
  unfold goodE
  rw [decide_eq_false h,Bool.false_and]
  exact this
end Go.Proofs.YtndnkbekhmndhaaGreatDoor.Lg
