/- Parts of the proof, one behind the other. -/
import Derived.Test.YtmjkjmoeicnbnaaGreatDoorG16
namespace Go.Proofs.YtmjkjmoeicnbnaaGreatDoor.Lg
set_option maxRecDepth 100000
set_option linter.unusedVariables false
set_option linter.unusedSimpArgs false
open Go
open Nat renaming reduceEqDiff → Qa, reduceLT → Qb, reduceLeDiff → Qc, reduceAdd → Qd, reduceMul → Qe, reduceSub → Qf, reduceBEq → Qg
open String renaming reduceEq → Qh
open SpecC renaming seqW → Qi, regW → Qj, drawW → Qk, condW → Ql, block → Qm, skip → Qn, exit → Qp, ret → Qr, loopF → Qs, regMidW → Qu
open NxK renaming out → Qw
open Nx renaming out → Qx
open condK renaming split → Qy
open gK renaming split_t → Qz, split_f → QA
open CallR renaming go1 → QD
def withR (l:List Res) (r:Res):List Res:=sideR l (keyOf r) (-1)++[r]++sideR l (keyOf r) 1
instance:Dat (List Res) where
 av x:=.slice false (avs x)
 sz:=1
 len _:=rfl
 pure x:=by simp only [go_sem,Bool.and_self]
 nrm x:=by simp only [go_sem]
 one x:=by simp only [go_sem,List.all_cons,List.all_nil,Bool.and_self]
 known _:=rfl
@[go_sem] theorem av_LRes (x:List Res):Dat.av x=.slice false (avs x):=rfl
@[go_sem] theorem sz_LRes:Dat.sz (List Res)=1:=rfl
theorem w64_sub0 {n:Nat} (hn:Small n):IntKind.i64.wrap ((n:Int) - IntKind.i64.wrap ((0:Int) - 0))=n:=by
 have e:IntKind.i64.wrap ((0:Int) - 0)=0:=by decide
 rw [e]
 unfold Small at hn
 simp only [IntKind.wrap,IntKind.signed,IntKind.bits]
 simp
 omega
theorem w64_addN {a b n:Nat} (h:a+b≤n) (hn:Small n):IntKind.i64.wrap ((a:Int)+(b:Int))=((a+b:Nat):Int):=by
 unfold Small at hn
 simp only [IntKind.wrap,IntKind.signed,IntKind.bits]
 simp
 omega
theorem tgrow_c (n:Nat) (hn:Small n):CallR Tryz.prog 218 [.slice true [],.int .i64 n] (.own 7 []):=by
 have hr:Room n 104:=room_small (by unfold Small at hn; omega) (by decide)
 have hr1:n * 104≤140737488355328:=hr.1
 have hr2:n≤9223372036854775807:=hr.2
 have hw:=w64_sub0 hn
 refine CallR.go2 (T:=T) Tryz.call218 Tryz.func218 rfl Tryz.ntmps218 (congrArg Array.toList Tryz.results218) (by decide) fun ts hn h0 h1=>?_
 have hz0:IntKind.i64.wrap ((0:Int) - IntKind.i64.wrap ((0:Int) - 0))=0:=by decide
 by_cases h00:n=0
 ·subst h00
  (repeat' (first
 | (with_reducible first|assumption|(refine Qw hK _ ?_; clear hK K)|refine Qw ‹_› _ ?_|refine Qx ‹_› ?_|refine Qi fun K hK=>?_|refine Qj T fun K hK=>?_|refine Ql fun A B hA hB=>?_|refine Qn ?_|refine Qr ?_)
 | ((with_reducible first|apply Qy|apply Qz|apply QA)<;>intro hb<;>try simp only [nr] at hb)
 | simp only [go_sem,↓reduceIte,reduceIte,Qa,Qh,Qb,Qc,Qd,Qe,Qf,Qg,reduceCtorEq, *,-hr,List.length_nil,Int.lt_irrefl,decide_false,Int.le_refl]
 | with_reducible refine fun (bn:Bool) hbn=>?_))
  all_goals first|(exfalso; simp_all; done)|trace_state
 ·have hd:(0:Int) < (n:Int):=by omega
  have hz:List.take 0 (List.replicate n (AV.agg (List.replicate 7 AV.any)))=[]:=rfl
  (repeat' (first
 | (with_reducible first|assumption|(refine Qw hK _ ?_; clear hK K)|refine Qw ‹_› _ ?_|refine Qx ‹_› ?_|refine Qi fun K hK=>?_|refine Qj T fun K hK=>?_|refine Ql fun A B hA hB=>?_|refine Qn ?_|refine Qr ?_)
 | ((with_reducible first|apply Qy|apply Qz|apply QA)<;>intro hb<;>try simp only [nr] at hb)
 | simp only [go_sem,↓reduceIte,reduceIte,Qa,Qh,Qb,Qc,Qd,Qe,Qf,Qg,reduceCtorEq, *,-hr,List.length_nil,Int.le_refl,Int.toNat_zero,List.drop_zero]
 | with_reducible refine fun (bn:Bool) hbn=>?_))
  all_goals trace_state
def flatN (xss:List (List Res)) (i:Nat):Nat:=(xss.drop i).flatten.length
theorem flatN_step {xss:List (List Res)} {i:Nat} (h:i < xss.length):flatN xss i=xss[i].length+flatN xss (i+1):=by
 unfold flatN
 rw [List.drop_eq_getElem_cons h,List.flatten_cons,List.length_append]
theorem concat_c (xss:List (List Res)) (hx:Small xss.length) (hl:Small xss.flatten.length):CallR Tryz.prog 186 [.slice false (avs xss)] (.own 7 (avs xss.flatten)):=by
 have hg:=tgrow_c xss.flatten.length hl
 refine QD (T:=T) Tryz.call186 Tryz.func186 rfl Tryz.ntmps186 (congrArg Array.toList Tryz.results186) (by decide) fun ts hn h0=>?_
 (repeat' (first
 | (with_reducible first|refine callX.by (tgrow_c _ ?_) ?_|assumption|(refine Qw hK _ ?_; clear hK K)|refine Qw ‹_› _ ?_|refine Qx ‹_› ?_|refine Qi fun K hK=>?_|refine Qj T fun K hK=>?_|refine Ql fun A B hA hB=>?_|refine Qm ?_|refine Qn ?_|refine Qp ?_|refine Qr ?_)
 | ((with_reducible first|apply Qy|apply Qz|apply QA)<;>intro hb<;>try simp only [nr] at hb)
 | simp only [go_sem,↓reduceIte,reduceIte,Qa,Qh,Qb,Qc,Qd,Qe,Qf,Qg,reduceCtorEq, *,-hg]
 | with_reducible refine fun (bn:Bool) hbn=>?_))
 refine Qs [0,9,10] (fun m ts'=>∃ (i:Nat),∃ (n:Nat),m=xss.length - i∧i≤xss.length∧n+flatN xss i=xss.flatten.length∧ts'.tmp 3=.int .i64 n∧ts'.tmp 11=.int .i64 i) xss.length ?_ ?_
 ·refine ⟨0,0,rfl,Nat.zero_le _,by simp [flatN],?_⟩
  simp only [go_sem,↓reduceIte,reduceIte,Qa,Qh,Qb,Qc,Qd,Qe,Qf,Qg,reduceCtorEq, *,-hg]
 ·rintro m A hM ts' hk ⟨i,n,hm,f1,f2,s1,s2⟩
  simp only [go_sem,↓reduceIte,reduceIte,Qa,Qh,Qb,Qc,Qd,Qe,Qf,Qg,reduceCtorEq, *] at hk
  by_cases hlt:i < xss.length
  ·rw [flatN_step hlt] at f2
   have hw:=w64_addN (a:=n) (b:=xss[i].length) (n:=xss.flatten.length) (by omega) hl
   (repeat' (first
 | (with_reducible first|refine callX.by (tgrow_c _ ?_) ?_|assumption|(refine Qw hK _ ?_; clear hK K)|refine Qw ‹_› _ ?_|refine Qx ‹_› ?_|refine Qi fun K hK=>?_|refine Qj T fun K hK=>?_|refine Ql fun A B hA hB=>?_|refine Qm ?_|refine Qn ?_|refine Qp ?_|refine Qr ?_)
 | ((with_reducible first|apply Qy|apply Qz|apply QA)<;>intro hb<;>try simp only [nr] at hb)
 | simp only [go_sem,↓reduceIte,reduceIte,Qa,Qh,Qb,Qc,Qd,Qe,Qf,Qg,reduceCtorEq, *,-hg,-f2]
 | with_reducible refine fun (bn:Bool) hbn=>?_))
   all_goals ((repeat clear hK); (repeat clear hA); (repeat clear hB))
   all_goals (refine hM.on (xss.length - (i+1)) (by omega) (by simp only [go_sem,↓reduceIte,reduceIte,Qa,Qh,Qb,Qc,Qd,Qe,Qf,Qg,reduceCtorEq, *,w64_nat hlt hx,-hg,-f2]) ⟨i+1,n+xss[i].length,rfl,by omega,by omega,?_⟩; simp only [go_sem,↓reduceIte,reduceIte,Qa,Qh,Qb,Qc,Qd,Qe,Qf,Qg,reduceCtorEq, *,w64_nat hlt hx,-hg,-f2]; done)
  ·have hn:n=xss.flatten.length:=by
    have e:flatN xss i=0:=by unfold flatN; rw [List.drop_eq_nil_of_le (by omega)]; rfl
    omega
   clear f2
   subst hn
   (repeat' (first
 | (with_reducible first|refine callX.raw (hg) ?_|refine callX.by (tgrow_c _ ?_) ?_|assumption|(refine Qw hK _ ?_; clear hK K)|refine Qw ‹_› _ ?_|refine Qx ‹_› ?_|refine Qi fun K hK=>?_|refine Qj T fun K hK=>?_|refine Ql fun A B hA hB=>?_|refine Qm ?_|refine Qn ?_|refine Qp ?_|refine Qr ?_)
 | ((with_reducible first|apply Qy|apply Qz|apply QA)<;>intro hb<;>try simp only [nr] at hb)
 | simp only [go_sem,↓reduceIte,reduceIte,Qa,Qh,Qb,Qc,Qd,Qe,Qf,Qg,reduceCtorEq, *,-hg]
 | with_reducible refine fun (bn:Bool) hbn=>?_))
   refine SpecC.ent (Ent.ren 6 24 (by simp only [go_sem,↓reduceIte,reduceIte,Qa,Qh,Qb,Qc,Qd,Qe,Qf,Qg,reduceCtorEq, *,-hg]) (by simp only [go_sem,↓reduceIte,reduceIte,Qa,Qh,Qb,Qc,Qd,Qe,Qf,Qg,reduceCtorEq, *,-hg])) ?_
   refine Qs [25,26] (fun m ts'=>∃ (j:Nat),∃ (g:Nat),∃ (ys:List Res),m=xss.length - j∧j≤xss.length∧ys++(xss.drop j).flatten=xss.flatten∧ts'.tmp 6=.os 6 g ys.length∧ts'.gen 6=g∧ts'.obj 6=.arr 7 (avs ys)∧ts'.tmp 27=.int .i64 j) xss.length ?_ ?_
   ·refine ⟨0,ts'.gen 6+1,[],rfl,Nat.zero_le _,by simp,?_⟩
    simp only [go_sem,↓reduceIte,reduceIte,Qa,Qh,Qb,Qc,Qd,Qe,Qf,Qg,reduceCtorEq, *,-hg]
    rfl
   ·clear hM hm
    rintro m A hM ts' hk ⟨j,g,ys,hm,f1,f2,s1,s2,s3,s4⟩
    simp only [go_sem,↓reduceIte,reduceIte,Qa,Qh,Qb,Qc,Qd,Qe,Qf,Qg,reduceCtorEq, *] at hk
    by_cases hlt2:j < xss.length
    ·rw [List.drop_eq_getElem_cons hlt2,List.flatten_cons,← List.append_assoc] at f2
     have hle:ys.length+xss[j].length≤xss.flatten.length:=by rw [← f2]; simp
     have hr:Room (ys.length+xss[j].length) 104:=room_small (by unfold Small at hl; omega) (by decide)
     (repeat' (first
 | (with_reducible first|refine callX.by (tgrow_c _ ?_) ?_|assumption|(refine Qw hK _ ?_; clear hK K)|refine Qw ‹_› _ ?_|refine Qx ‹_› ?_|refine Qi fun K hK=>?_|refine Qj T fun K hK=>?_|refine Ql fun A B hA hB=>?_|refine Qm ?_|refine Qn ?_|refine Qp ?_|refine Qr ?_)
 | ((with_reducible first|apply Qy|apply Qz|apply QA)<;>intro hb<;>try simp only [nr] at hb)
 | simp only [go_sem,↓reduceIte,reduceIte,Qa,Qh,Qb,Qc,Qd,Qe,Qf,Qg,reduceCtorEq, *,-hg,-f2]
 | with_reducible refine fun (bn:Bool) hbn=>?_))
     all_goals ((repeat clear hK); (repeat clear hA); (repeat clear hB))
     all_goals (refine hM.onE (xss.length - (j+1)) (Ent.ren 6 33 ?_ ?_) ?_ ?_ ?_; (focus (simp only [go_sem,↓reduceIte,reduceIte,Qa,Qh,Qb,Qc,Qd,Qe,Qf,Qg,reduceCtorEq, *,w64_nat hlt2 hx,List.length_append,-hg,-f2]; first|done|rfl)); (focus (simp only [go_sem,↓reduceIte,reduceIte,Qa,Qh,Qb,Qc,Qd,Qe,Qf,Qg,reduceCtorEq, *,w64_nat hlt2 hx,List.length_append,-hg,-f2]; first|done|rfl)); omega; (focus (simp only [go_sem,↓reduceIte,reduceIte,Qa,Qh,Qb,Qc,Qd,Qe,Qf,Qg,reduceCtorEq, *,w64_nat hlt2 hx,List.length_append,-hg,-f2]; done)); refine ⟨j+1,ts'.gen 6+1,ys++xss[j],rfl,by omega,f2,?_⟩; simp only [go_sem,↓reduceIte,reduceIte,Qa,Qh,Qb,Qc,Qd,Qe,Qf,Qg,reduceCtorEq, *,w64_nat hlt2 hx,List.length_append,-hg,-f2]; done)
    ·rw [List.drop_eq_nil_of_le (by omega),List.flatten_nil,List.append_nil] at f2
     subst f2
     (repeat' (first
 | (with_reducible first|refine callX.by (tgrow_c _ ?_) ?_|assumption|(refine Qw hK _ ?_; clear hK K)|refine Qw ‹_› _ ?_|refine Qx ‹_› ?_|refine Qi fun K hK=>?_|refine Qj T fun K hK=>?_|refine Ql fun A B hA hB=>?_|refine Qm ?_|refine Qn ?_|refine Qp ?_|refine Qr ?_)
 | ((with_reducible first|apply Qy|apply Qz|apply QA)<;>intro hb<;>try simp only [nr] at hb)
 | simp only [go_sem,↓reduceIte,reduceIte,Qa,Qh,Qb,Qc,Qd,Qe,Qf,Qg,reduceCtorEq, *,-hg]
 | with_reducible refine fun (bn:Bool) hbn=>?_))
theorem with_c (xs:List Res) (r:Res) (hl:Small xs.length) (hl2:Small (withR xs r).length):CallR Tryz.prog 146 [.slice false (avs xs),.agg [.int .i64 r.kind,.str r.name,.int .i64 r.ver,.int .i64 r.port,.str r.to',.slice false (avs r.rules'),.slice false (avs r.hosts)]] (.own 7 (avs (withR xs r))):=by
 have w1:=(with1_c xs r.kind r.name (-1) hl).frz
 have w2:=(with1_c xs r.kind r.name 1 hl).frz
 have hcc:CallR Tryz.prog 186 [.slice false [.slice false (avs (sideR xs ⟨r.kind,r.name⟩ (-1))),.slice false [.agg [.int .i64 r.kind,.str r.name,.int .i64 r.ver,.int .i64 r.port,.str r.to',.slice false (avs r.rules'),.slice false (avs r.hosts)]],.slice false (avs (sideR xs ⟨r.kind,r.name⟩ 1))]] (.own 7 (avs (withR xs r))):=by
  have h:=concat_c [sideR xs (keyOf r) (-1),[r],sideR xs (keyOf r) 1] (by unfold Small; simp) (by simpa [withR] using hl2)
  have e:[sideR xs (keyOf r) (-1),[r],sideR xs (keyOf r) 1].flatten=withR xs r:=by simp [withR]
  rw [e] at h
  exact h
 refine CallR.go2 (T:=T.withF [13,16]) Tryz.call146 Tryz.func146 rfl Tryz.ntmps146 (congrArg Array.toList Tryz.results146) (by decide) fun ts hn h0 h1=>?_
 (repeat' (first
 | (with_reducible first|refine callX.by (w1) ?_|refine callX.by (w2) ?_|refine callX.by (hcc) ?_|refine callX.by (rkey_c _ _ _ _ _ _ _) ?_|refine callX.by (concat_c _ ?_ ?_) ?_|assumption|(refine Qw hK _ ?_; clear hK K)|refine Qw ‹_› _ ?_|refine Qx ‹_› ?_|refine Qi fun K hK=>?_|refine Qj (T.withF [13,16]) fun K hK=>?_|refine Qk (id:=3) (T.withF [13,16]) mixed [([10],[12,13,14]),([11],[12,13,14]),([12],[10,11,14,15]),([13],[10,11,14,15]),([14],[10,11,12,13]),([15],[12,13])] (by kernel_rfl) fun K hK=>?_|refine Ql fun A B hA hB=>?_|refine Qn ?_|refine Qr ?_)
 | ((with_reducible first|apply Qy|apply Qz|apply QA)<;>intro hb<;>try simp only [nr] at hb)
 | simp only [go_sem,↓reduceIte,reduceIte,Qa,Qh,Qb,Qc,Qd,Qe,Qf,Qg,reduceCtorEq, *,-w1,-w2,-hcc]
 | with_reducible refine fun (bn:Bool) hbn=>?_))
 all_goals trace_state
def patchR (l adds:List Res) (gone:List Key):List Res:=adds.foldl withR (gone.foldl twithout l)
theorem side_len (l:List Res) (k:Key):(sideR l k (-1)).length+(sideR l k 1).length≤l.length:=by
 induction l with
 | nil=>simp [sideR]
 | cons x l ih =>
  simp only [sideR,List.filter_cons] at ih ⊢
  by_cases h1:kcmp (keyOf x) k=-1
  ·have h2:¬ kcmp (keyOf x) k=1:=by omega
   simp [h1] at ih ⊢
   omega
  ·by_cases h2:kcmp (keyOf x) k=1
   ·simp [h2] at ih ⊢
    omega
   ·simp [h1,h2] at ih ⊢
    omega
theorem withR_len (l:List Res) (r:Res):(withR l r).length≤l.length+1:=by
 have:=side_len l (keyOf r)
 simp only [withR,List.length_append,List.length_singleton]
 omega
theorem withR_mem {l:List Res} {r x:Res} (h:x∈withR l r):x=r∨x∈l:=by
 simp only [withR,sideR,List.mem_append,List.mem_filter,List.mem_singleton] at h
 rcases h with (h|h)|h
 ·exact .inr h.1
 ·exact .inl h
 ·exact .inr h.1
theorem twithout_len (l:List Res) (k:Key):(twithout l k).length≤l.length:=by unfold twithout; exact List.length_filter_le _ _
theorem twithout_mem {l:List Res} {k:Key} {x:Res} (h:x∈twithout l k):x∈l:=by unfold twithout at h; exact (List.mem_filter.1 h).1
theorem withouts_len (l:List Res):∀ gone:List Key,(gone.foldl twithout l).length≤l.length
 | []=>Nat.le_refl _
 | k :: g=>Nat.le_trans (withouts_len (twithout l k) g) (twithout_len l k)
theorem withs_len (l:List Res):∀ adds:List Res,(adds.foldl withR l).length≤l.length+adds.length
 | []=>Nat.le_refl _
 | r :: a=>by
  have h1:=withs_len (withR l r) a
  have h2:=withR_len l r
  simp only [List.foldl_cons,List.length_cons]
  omega
theorem patchR_len (l adds:List Res) (gone:List Key):(patchR l adds gone).length≤l.length+adds.length:=Nat.le_trans (withs_len _ _) (Nat.add_le_add_right (withouts_len l gone) _)
theorem patchR_mem {l adds:List Res} {gone:List Key} {x:Res} (h:x∈patchR l adds gone):x∈l∨x∈adds:=by
 have h1:∀ (adds l:List Res),x∈adds.foldl withR l→x∈l∨x∈adds:=by
  intro adds
  induction adds with
  | nil=>exact fun l h=>.inl h
  | cons r a ih =>
   intro l h
   rcases ih _ h with h|h
   ·rcases withR_mem h with rfl|h
    ·exact .inr (by simp)
    ·exact .inl h
   ·exact .inr (List.mem_cons_of_mem _ h)
 have h2:∀ (gone:List Key) (l:List Res),x∈gone.foldl twithout l→x∈l:=by
  intro gone
  induction gone with
  | nil=>exact fun l h=>h
  | cons k g ih=>exact fun l h=>twithout_mem (ih _ h)
 rcases h1 _ _ h with h|h
 ·exact .inl (h2 _ _ h)
 ·exact .inr h
theorem tpatch_c (xs adds:List Res) (gone:List Key) (hx:Small xs.length) (ha:Small adds.length) (hg:Small gone.length) (hl:Small (xs.length+adds.length)) :
  CallR Tryz.prog 102 [.slice false (avs xs),.slice false (avs adds),.slice false (avs gone)] (.val (.slice false (avs (patchR xs adds gone)))):=by
 refine CallR.go3 (T:=T) Tryz.call102 Tryz.func102 rfl Tryz.ntmps102 (congrArg Array.toList Tryz.results102) (by decide) fun ts hn h0 h1 h2=>?_
 (repeat' (first
 | (with_reducible first|refine callX.by (twithout_c _ _ _ ?_) ?_|refine callX.by (with_c _ _ ?_ ?_) ?_|assumption|(refine Qw hK _ ?_; clear hK K)|refine Qw ‹_› _ ?_|refine Qx ‹_› ?_|refine Qi fun K hK=>?_|refine Qj T fun K hK=>?_|refine Ql fun A B hA hB=>?_|refine Qm ?_|refine Qn ?_|refine Qp ?_|refine Qr ?_)
 | ((with_reducible first|apply Qy|apply Qz|apply QA)<;>intro hb<;>try simp only [nr] at hb)
 | simp only [go_sem,↓reduceIte,reduceIte,Qa,Qh,Qb,Qc,Qd,Qe,Qf,Qg,reduceCtorEq, *]
 | with_reducible refine fun (bn:Bool) hbn=>?_))
 refine Qs [1,11,12] (fun m ts'=>∃ (i:Nat),∃ (ys:List Res),m=gone.length - i∧i≤gone.length∧ys.length≤xs.length∧(gone.drop i).foldl twithout ys=gone.foldl twithout xs∧ts'.tmp 0=.slice false (avs ys)∧ts'.tmp 13=.int .i64 i) gone.length ?_ ?_
 ·refine ⟨0,xs,rfl,Nat.zero_le _,Nat.le_refl _,rfl,?_⟩
  simp only [go_sem,↓reduceIte,reduceIte,Qa,Qh,Qb,Qc,Qd,Qe,Qf,Qg,reduceCtorEq, *]
 ·rintro m A hM ts' hk ⟨i,ys,hm,f1,f2,f3,s1,s2⟩
  simp only [go_sem,↓reduceIte,reduceIte,Qa,Qh,Qb,Qc,Qd,Qe,Qf,Qg,reduceCtorEq, *] at hk
  by_cases hlt:i < gone.length
  ·rw [List.drop_eq_getElem_cons hlt,List.foldl_cons] at f3
   have hys:Small ys.length:=by unfold Small at hx ⊢; omega
   have w1:=(twithout_c ys gone[i].kind gone[i].name hys).frz
   have hle:=twithout_len ys gone[i]
   (repeat' (first
 | (with_reducible first|refine callX.by (w1) ?_|refine callX.by (twithout_c _ _ _ ?_) ?_|refine callX.by (with_c _ _ ?_ ?_) ?_|assumption|(refine Qw hK _ ?_; clear hK K)|refine Qw ‹_› _ ?_|refine Qx ‹_› ?_|refine Qi fun K hK=>?_|refine Qj T fun K hK=>?_|refine Ql fun A B hA hB=>?_|refine Qm ?_|refine Qn ?_|refine Qp ?_|refine Qr ?_)
 | ((with_reducible first|apply Qy|apply Qz|apply QA)<;>intro hb<;>try simp only [nr] at hb)
 | simp only [go_sem,↓reduceIte,reduceIte,Qa,Qh,Qb,Qc,Qd,Qe,Qf,Qg,reduceCtorEq, *,-f3,-w1]
 | with_reducible refine fun (bn:Bool) hbn=>?_))
   all_goals ((repeat clear hK); (repeat clear hA); (repeat clear hB))
   all_goals (refine hM.on (gone.length - (i+1)) (by omega) (by simp only [go_sem,↓reduceIte,reduceIte,Qa,Qh,Qb,Qc,Qd,Qe,Qf,Qg,reduceCtorEq, *,w64_nat hlt hg,-f3,-w1]) ⟨i+1,twithout ys gone[i],rfl,by omega,by omega,f3,?_⟩; simp only [go_sem,↓reduceIte,reduceIte,Qa,Qh,Qb,Qc,Qd,Qe,Qf,Qg,reduceCtorEq, *,w64_nat hlt hg,-f3,-w1]; done)
  ·rw [List.drop_eq_nil_of_le (by omega),List.foldl_nil] at f3
   subst f3
   (repeat' (first
 | (with_reducible first|refine callX.by (twithout_c _ _ _ ?_) ?_|refine callX.by (with_c _ _ ?_ ?_) ?_|assumption|(refine Qw hK _ ?_; clear hK K)|refine Qw ‹_› _ ?_|refine Qx ‹_› ?_|refine Qi fun K hK=>?_|refine Qj T fun K hK=>?_|refine Ql fun A B hA hB=>?_|refine Qm ?_|refine Qn ?_|refine Qp ?_|refine Qr ?_)
 | ((with_reducible first|apply Qy|apply Qz|apply QA)<;>intro hb<;>try simp only [nr] at hb)
 | simp only [go_sem,↓reduceIte,reduceIte,Qa,Qh,Qb,Qc,Qd,Qe,Qf,Qg,reduceCtorEq, *]
 | with_reducible refine fun (bn:Bool) hbn=>?_))
   clear hM hm
   refine Qs [21,22] (fun m ts'=>∃ (j:Nat),∃ (zs:List Res),m=adds.length - j∧j≤adds.length∧zs.length≤xs.length+j∧(adds.drop j).foldl withR zs=patchR xs adds gone∧ts'.tmp 0=.slice false (avs zs)∧ts'.tmp 23=.int .i64 j) adds.length ?_ ?_
   ·refine ⟨0,gone.foldl twithout xs,rfl,Nat.zero_le _,by omega,rfl,?_⟩
    simp only [go_sem,↓reduceIte,reduceIte,Qa,Qh,Qb,Qc,Qd,Qe,Qf,Qg,reduceCtorEq, *]
   ·rintro m A hM ts' hk ⟨j,zs,hm,f1,f2,f3,s1,s2⟩
    simp only [go_sem,↓reduceIte,reduceIte,Qa,Qh,Qb,Qc,Qd,Qe,Qf,Qg,reduceCtorEq, *] at hk
    by_cases hlt2:j < adds.length
    ·rw [List.drop_eq_getElem_cons hlt2,List.foldl_cons] at f3
     have hle:=withR_len zs adds[j]
     have hzs:Small zs.length:=by unfold Small at hl ⊢; omega
     have hzr:Small (withR zs adds[j]).length:=by unfold Small at hl ⊢; omega
     have w1:=(with_c zs adds[j] hzs hzr).frz
     (repeat' (first
 | (with_reducible first|refine callX.by (w1) ?_|refine callX.by (twithout_c _ _ _ ?_) ?_|refine callX.by (with_c _ _ ?_ ?_) ?_|assumption|(refine Qw hK _ ?_; clear hK K)|refine Qw ‹_› _ ?_|refine Qx ‹_› ?_|refine Qi fun K hK=>?_|refine Qj T fun K hK=>?_|refine Ql fun A B hA hB=>?_|refine Qm ?_|refine Qn ?_|refine Qp ?_|refine Qr ?_)
 | ((with_reducible first|apply Qy|apply Qz|apply QA)<;>intro hb<;>try simp only [nr] at hb)
 | simp only [go_sem,↓reduceIte,reduceIte,Qa,Qh,Qb,Qc,Qd,Qe,Qf,Qg,reduceCtorEq, *,-f3,-w1]
 | with_reducible refine fun (bn:Bool) hbn=>?_))
     all_goals ((repeat clear hK); (repeat clear hA); (repeat clear hB))
     all_goals (refine hM.on (adds.length - (j+1)) (by omega) (by simp only [go_sem,↓reduceIte,reduceIte,Qa,Qh,Qb,Qc,Qd,Qe,Qf,Qg,reduceCtorEq, *,w64_nat hlt2 ha,-f3,-w1]) ⟨j+1,withR zs adds[j],rfl,by omega,by omega,f3,?_⟩; simp only [go_sem,↓reduceIte,reduceIte,Qa,Qh,Qb,Qc,Qd,Qe,Qf,Qg,reduceCtorEq, *,w64_nat hlt2 ha,-f3,-w1]; done)
    ·rw [List.drop_eq_nil_of_le (by omega),List.foldl_nil] at f3
     subst f3
     (repeat' (first
 | (with_reducible first|refine callX.by (twithout_c _ _ _ ?_) ?_|refine callX.by (with_c _ _ ?_ ?_) ?_|assumption|(refine Qw hK _ ?_; clear hK K)|refine Qw ‹_› _ ?_|refine Qx ‹_› ?_|refine Qi fun K hK=>?_|refine Qj T fun K hK=>?_|refine Ql fun A B hA hB=>?_|refine Qm ?_|refine Qn ?_|refine Qp ?_|refine Qr ?_)
 | ((with_reducible first|apply Qy|apply Qz|apply QA)<;>intro hb<;>try simp only [nr] at hb)
 | simp only [go_sem,↓reduceIte,reduceIte,Qa,Qh,Qb,Qc,Qd,Qe,Qf,Qg,reduceCtorEq, *]
 | with_reducible refine fun (bn:Bool) hbn=>?_))
theorem apply1_d (cap:Int) (l adds:List Res) (gone:List Key) (hl:l.length+adds.length≤65536) (hg:Small gone.length) (hs:∀ r∈l,SmRes r) (ha:∀ r∈adds,SmRes r) :
  Done 123 ([.ro [.int .i64 cap,.slice false (avs l)],.ro [.slice false (avs adds)],.ro [.slice false (avs gone)]].map Arg.v++[.io [.int .i64 cap,.slice false (avs l)]]) (mustE cap (patchR l adds gone))
   (fun io=>io [AV.ro [.int .i64 cap,.slice false (avs l)],.ro [.slice false (avs adds)],.ro [.slice false (avs gone)]].length=[.int .i64 cap,.slice false (avs (patchR l adds gone))]):=by
 have hlen:=patchR_len l adds gone
 have hsp:∀ r∈patchR l adds gone,SmRes r:=fun r hr=>(patchR_mem hr).elim (hs r) (ha r)
 have w0:=tpatch_c l adds gone (by unfold Small; omega) (by unfold Small; omega) hg (by unfold Small; omega)
 unfold Done
 split
 ·rename_i hm
  have w1:=must_c cap l _ (by omega) hsp (fun h=>(conf_of h).nodup) hm
  clear hsp hs ha hlen
  refine CallV.goB3 Tryz.call123 Tryz.func123 rfl Tryz.ntmps123 T (congrArg Array.toList Tryz.results123) (by decide) fun ts hn h0 h1 h2 h3 hg3 ho3=>?_
  (repeat' (first
 | (with_reducible first|refine callX.by (w0) ?_|refine callX.by (w1) ?_|assumption|(refine Qw hK _ ?_; clear hK K)|refine Qw ‹_› _ ?_|refine Qx ‹_› ?_|refine Qi fun K hK=>?_|refine Qj T fun K hK=>?_|refine Ql fun A B hA hB=>?_|refine Qn ?_|refine Qr ?_)
 | ((with_reducible first|apply Qy|apply Qz|apply QA)<;>intro hb<;>try simp only [nr] at hb)
 | simp only [go_sem,↓reduceIte,reduceIte,Qa,Qh,Qb,Qc,Qd,Qe,Qf,Qg,reduceCtorEq, *,-w0,-w1,-hm]
 | with_reducible refine fun (bn:Bool) hbn=>?_))
  all_goals trace_state
 ·rename_i hm
  have w1:=must_u cap l _ (by omega) hsp (fun h=>(conf_of h).nodup) hm
  clear hsp hs ha hlen
  refine CallUV.goB3 Tryz.call123 Tryz.func123 rfl Tryz.ntmps123 (by decide) fun ts hn h0 h1 h2 h3 hg3 ho3=>?_
  (repeat' (first
 | (with_reducible first|refine SpecC.regUW T 3 (id:=1) rfl rfl fun K hK=>?_|refine UpK.callF w1 ?_ ?_|refine callX.by (w0) ?_|assumption|(refine Qw hK _ ?_; clear hK K)|refine Qw ‹_› _ ?_|refine Qx ‹_› ?_|refine Qi fun K hK=>?_|refine Qj T fun K hK=>?_|refine Ql fun A B hA hB=>?_|refine Qn ?_|refine Qr ?_)
 | ((with_reducible first|apply Qy|apply Qz|apply QA)<;>intro hb<;>try simp only [nr] at hb)
 | simp only [go_sem,↓reduceIte,reduceIte,Qa,Qh,Qb,Qc,Qd,Qe,Qf,Qg,reduceCtorEq, *,-w0,-w1,-hm]
 | with_reducible refine fun (bn:Bool) hbn=>?_))
  all_goals trace_state
def applyC (c:Cache) (adds:List Res) (gone:List Key):Cache × Int :=
 let d:=saneOf c
 let e:=mustE d.cap (patchR d.l adds gone)
 if e=0 then (⟨d.cap,patchR d.l adds gone⟩,0) else (d,e)
theorem saneOf_len (c:Cache):(saneOf c).l.length≤c.l.length:=by unfold saneOf; split<;>simp
theorem saneOf_mem {c:Cache} {x:Res} (h:x∈(saneOf c).l):x∈c.l:=by unfold saneOf at h; split at h<;>simp_all
theorem applyC_c (c_cap:Int) (c_l:List Res) (adds:List Res) (gone:List Key) (hl:c_l.length+adds.length≤65536) (hg:Small gone.length) (hs:∀ r∈c_l,SmRes r) (ha:∀ r∈adds,SmRes r) :
  CallR Tryz.prog 59 [.agg [.int .i64 c_cap,.slice false (avs c_l)],.slice false (avs adds),.slice false (avs gone)] (.val (.tup [.agg [.int .i64 (applyC (⟨c_cap,c_l⟩:Cache) adds gone).1.cap,.slice false (avs (applyC (⟨c_cap,c_l⟩:Cache) adds gone).1.l)],.int .i64 (applyC (⟨c_cap,c_l⟩:Cache) adds gone).2])):=by
 have w0:=saneOf_c c_cap c_l (by omega) hs
 have hdl:=saneOf_len (⟨c_cap,c_l⟩:Cache)
 have hdm:∀ r∈(saneOf (⟨c_cap,c_l⟩:Cache)).l,SmRes r:=fun r hr=>hs r (saneOf_mem hr)
 unfold applyC
 generalize saneOf (⟨c_cap,c_l⟩:Cache)=d at *
 have w1:=apply1_d d.cap d.l adds gone (by simp only at hdl; omega) hg hdm ha
 clear hdl hdm hs ha hl hg
 by_cases he:mustE d.cap (patchR d.l adds gone)=0
 ·rw [he] at w1
  simp only [he,if_true]
  refine CallR.go3 (T:=T.withF [13]) Tryz.call59 Tryz.func59 rfl Tryz.ntmps59 (congrArg Array.toList Tryz.results59) (by decide) fun ts hn h0 h1 h2=>?_
  (repeat' (first
 | (with_reducible first|refine callX.by (w0) ?_|refine SpecC.ent (Ent.frzBox _ 3) (SpecC.ent (Ent.frzBox _ 4) (SpecC.ent (Ent.frzBox _ 5) (Qu (T.withF [13]) 1 (id:=3) rfl rfl fun K hK=>?_)))|refine fun (K2:TS→Prop) (hK2:NxK _ K2)=>?_|refine SpecO.caughtB rfl 8 ?_ ?_ ?_ ?_ Tryz.call123 w1 ?_|refine Qw hK2 _ ?_|refine fun (K3:TS→Prop) (hK3:NxK _ K3)=>?_|refine callX.by (saneOf_c _ _ ?_ ?_) ?_|assumption|(refine Qw hK _ ?_; clear hK K)|refine Qw ‹_› _ ?_|refine Qx ‹_› ?_|refine Qi fun K hK=>?_|refine Qj (T.withF [13]) fun K hK=>?_|refine Ql fun A B hA hB=>?_|refine Qn ?_|refine Qr ?_)
 | ((with_reducible first|apply Qy|apply Qz|apply QA)<;>intro hb<;>try simp only [nr] at hb)
 | simp only [go_sem,↓reduceIte,reduceIte,Qa,Qh,Qb,Qc,Qd,Qe,Qf,Qg,reduceCtorEq, *,-w0,-w1,-he]
 | with_reducible refine fun (bn:Bool) hbn=>?_))
  all_goals trace_state
 ·simp only [he,if_false]
  refine CallR.go3 (T:=T.withF [13]) Tryz.call59 Tryz.func59 rfl Tryz.ntmps59 (congrArg Array.toList Tryz.results59) (by decide) fun ts hn h0 h1 h2=>?_
  (repeat' (first
 | (with_reducible first|refine callX.by (w0) ?_|refine SpecC.ent (Ent.frzBox _ 3) (SpecC.ent (Ent.frzBox _ 4) (SpecC.ent (Ent.frzBox _ 5) (Qu (T.withF [13]) 1 (id:=3) rfl rfl fun K hK=>?_)))|refine fun (K2:TS→Prop) (hK2:NxK _ K2)=>?_|refine SpecO.caughtB rfl 8 ?_ ?_ ?_ ?_ Tryz.call123 w1 ?_|refine Qw hK2 _ ?_|refine fun (K3:TS→Prop) (hK3:NxK _ K3)=>?_|refine callX.by (saneOf_c _ _ ?_ ?_) ?_|assumption|(refine Qw hK _ ?_; clear hK K)|refine Qw ‹_› _ ?_|refine Qx ‹_› ?_|refine Qi fun K hK=>?_|refine Qj (T.withF [13]) fun K hK=>?_|refine Ql fun A B hA hB=>?_|refine Qn ?_|refine Qr ?_)
 | ((with_reducible first|apply Qy|apply Qz|apply QA)<;>intro hb<;>try simp only [nr] at hb)
 | simp only [go_sem,↓reduceIte,reduceIte,Qa,Qh,Qb,Qc,Qd,Qe,Qf,Qg,reduceCtorEq, *,-w0,-w1]
 | with_reducible refine fun (bn:Bool) hbn=>?_))
  all_goals trace_state
theorem saneC_conf {c:Cache} (h:saneC c=true):Conf c.l:=by
 unfold saneC at h
 simp only [Bool.and_eq_true,decide_eq_true_eq] at h
 refine conf_of ?_
 by_cases ht:tsane c.l=0
 ·exact ht
 ·have:=h.2
  unfold mustE at this
  rw [if_pos ht] at this
  exact this
theorem saneOf_nodup (c:Cache):((saneOf c).l.map keyOf).Nodup:=by
 unfold saneOf
 split
 ·rename_i h; exact (saneC_conf h).nodup
 ·simp
def shownC (c:Cache):List Res:=reachR (saneOf c).l
theorem shownC_c (c_cap:Int) (c_l:List Res) (hl:c_l.length≤65536) (hs:∀ r∈c_l,SmRes r):CallR Tryz.prog 68 [.agg [.int .i64 c_cap,.slice false (avs c_l)]] (.own 7 (avs (shownC (⟨c_cap,c_l⟩:Cache)))):=by
 have w0:=saneOf_c c_cap c_l hl hs
 have hdl:=saneOf_len (⟨c_cap,c_l⟩:Cache)
 have hdm:∀ r∈(saneOf (⟨c_cap,c_l⟩:Cache)).l,SmRes r:=fun r hr=>hs r (saneOf_mem hr)
 have hdn:=saneOf_nodup (⟨c_cap,c_l⟩:Cache)
 unfold shownC
 generalize saneOf (⟨c_cap,c_l⟩:Cache)=d at *
 have w1:=reach_c d.l (by simp only at hdl; omega) hdm hdn
 clear hdl hdm hs hl hdn
 refine QD (T:=T) Tryz.call68 Tryz.func68 rfl Tryz.ntmps68 (congrArg Array.toList Tryz.results68) (by decide) fun ts hn h0=>?_
 (repeat' (first
 | (with_reducible first|refine callX.by (w0) ?_|refine callX.by (w1) ?_|refine callX.by (saneOf_c _ _ ?_ ?_) ?_|refine callX.by (reach_c _ ?_ ?_ ?_) ?_|refine callX.by a6rc ?_|assumption|(refine Qw hK _ ?_; clear hK K)|refine Qw ‹_› _ ?_|refine Qx ‹_› ?_|refine Qi fun K hK=>?_|refine Qj T fun K hK=>?_|refine Ql fun A B hA hB=>?_|refine Qn ?_|refine Qr ?_)
 | ((with_reducible first|apply Qy|apply Qz|apply QA)<;>intro hb<;>try simp only [nr] at hb)
 | simp only [go_sem,↓reduceIte,reduceIte,Qa,Qh,Qb,Qc,Qd,Qe,Qf,Qg,reduceCtorEq, *,-w0,-w1]
 | with_reducible refine fun (bn:Bool) hbn=>?_))
def hasC (c:Cache) (k:Key):Bool:=(tget (saneOf c).l k).isSome
theorem hasC_c (c_cap:Int) (c_l:List Res) (k_kind:Int) (k_name:List UInt8) (hl:c_l.length≤65536) (hs:∀ r∈c_l,SmRes r):CallR Tryz.prog 111 [.agg [.int .i64 c_cap,.slice false (avs c_l)],.agg [.int .i64 k_kind,.str k_name]] (.val (.bool (hasC (⟨c_cap,c_l⟩:Cache) (⟨k_kind,k_name⟩:Key)))):=by
 have w0:=saneOf_c c_cap c_l hl hs
 have hdl:=saneOf_len (⟨c_cap,c_l⟩:Cache)
 unfold hasC
 generalize saneOf (⟨c_cap,c_l⟩:Cache)=d at *
 have w1:=tget_c d.l k_kind k_name (by simp only at hdl; unfold Small; omega)
 generalize (tget d.l (⟨k_kind,k_name⟩:Key)).isSome=b at *
 generalize (tget d.l (⟨k_kind,k_name⟩:Key)).getD zRes=z at *
 rw [av_Res] at w1
 clear hdl hs hl
 refine CallR.go2 (T:=T) Tryz.call111 Tryz.func111 rfl Tryz.ntmps111 (congrArg Array.toList Tryz.results111) (by decide) fun ts hn h0 h1=>?_
 (repeat' (first
 | (with_reducible first|refine callX.by (w0) ?_|refine callX.by (w1) ?_|refine callX.by (saneOf_c _ _ ?_ ?_) ?_|refine callX.by (tget_c _ _ _ ?_) ?_|assumption|(refine Qw hK _ ?_; clear hK K)|refine Qw ‹_› _ ?_|refine Qx ‹_› ?_|refine Qi fun K hK=>?_|refine Qj T fun K hK=>?_|refine Qk (id:=1) T mixed [([8],[11,7,13,14,5]),([9],[11,13,14,5]),([10],[11,13,14,5]),([11],[8,9,10,13,14,5]),([12],[5]),([7],[8,5]),([13],[8,9,10,11,14,5]),([14],[8,9,10,11,13,5]),([5],[8,9,10,11,12,7,13,14]),([5],[14])] (by kernel_rfl) fun K hK=>?_|refine Ql fun A B hA hB=>?_|refine Qn ?_|refine Qr ?_)
 | ((with_reducible first|apply Qy|apply Qz|apply QA)<;>intro hb<;>try simp only [nr] at hb)
 | simp only [go_sem,↓reduceIte,reduceIte,Qa,Qh,Qb,Qc,Qd,Qe,Qf,Qg,reduceCtorEq, *,-w0,-w1]
 | with_reducible refine fun (bn:Bool) hbn=>?_))
theorem ours_c (c_cap:Int) (c_l:List Res):CallR Tryz.prog 56 [.agg [.int .i64 c_cap,.slice false (avs c_l)]] (.val (.agg [.int .i64 c_cap,.slice false (avs c_l)])):=by
 refine QD (T:=T) Tryz.call56 Tryz.func56 rfl Tryz.ntmps56 (congrArg Array.toList Tryz.results56) (by decide) fun ts hn h0=>?_
 (repeat' (first
 | (with_reducible first|assumption|(refine Qw hK _ ?_; clear hK K)|refine Qw ‹_› _ ?_|refine Qx ‹_› ?_|refine Qi fun K hK=>?_|refine Qj T fun K hK=>?_|refine Ql fun A B hA hB=>?_|refine Qn ?_|refine Qr ?_)
 | ((with_reducible first|apply Qy|apply Qz|apply QA)<;>intro hb<;>try simp only [nr] at hb)
 | simp only [go_sem,↓reduceIte,reduceIte,Qa,Qh,Qb,Qc,Qd,Qe,Qf,Qg,reduceCtorEq, *]
 | with_reducible refine fun (bn:Bool) hbn=>?_))
theorem theirs_c (c_cap:Int) (c_l:List Res):CallR Tryz.prog 61 [.agg [.int .i64 c_cap,.slice false (avs c_l)]] (.val (.agg [.int .i64 c_cap,.slice false (avs c_l)])):=by
 refine QD (T:=T) Tryz.call61 Tryz.func61 rfl Tryz.ntmps61 (congrArg Array.toList Tryz.results61) (by decide) fun ts hn h0=>?_
 (repeat' (first
 | (with_reducible first|assumption|(refine Qw hK _ ?_; clear hK K)|refine Qw ‹_› _ ?_|refine Qx ‹_› ?_|refine Qi fun K hK=>?_|refine Qj T fun K hK=>?_|refine Ql fun A B hA hB=>?_|refine Qn ?_|refine Qr ?_)
 | ((with_reducible first|apply Qy|apply Qz|apply QA)<;>intro hb<;>try simp only [nr] at hb)
 | simp only [go_sem,↓reduceIte,reduceIte,Qa,Qh,Qb,Qc,Qd,Qe,Qf,Qg,reduceCtorEq, *]
 | with_reducible refine fun (bn:Bool) hbn=>?_))
def lR:Res:=⟨0,[108],0,80,[114],[],[]⟩
def eR:Res:=⟨3,[101],0,0,[],[],[]⟩
theorem lRs:saneR lR=0:=by decide
theorem lRr:refsR lR=[⟨1,[114]⟩]:=refs_one lRs (.inl rfl)
theorem eRr:refsR eR=[]:=refs_ends rfl
theorem oneSm {r:Res} (h1:r.rules'=[]) (h2:Small r.name.length) (h3:Small r.to'.length) (h4:Small r.hosts.length):∀ x∈[r],SmRes x:=by
 intro x hx
 rw [List.mem_singleton] at hx
 subst hx
 exact ⟨h2,h3,by rw [h1]; simp [Small],by rw [h1]; simp,h4⟩
theorem lRsm:∀ x∈[lR],SmRes x:=oneSm rfl (by simp [Small,lR]) (by simp [Small,lR]) (by simp [Small,lR])
theorem eRsm:∀ x∈[eR],SmRes x:=oneSm rfl (by simp [Small,eR]) (by simp [Small,eR]) (by simp [Small,eR])
theorem lRn:namesM [lR]=[(⟨0,[108]⟩,[⟨1,[114]⟩])]:=by simp only [namesM,List.map_cons,List.map_nil,lRr]; rfl
theorem eRn:namesM [eR]=[(⟨3,[101]⟩,[])]:=by simp only [namesM,List.map_cons,List.map_nil,eRr]; rfl
theorem lRreach:reachR [lR]=[lR]:=by unfold reachR reachedM; rw [lRn]; decide
theorem eRreach:reachR [eR]=[]:=by unfold reachR reachedM; rw [eRn]; decide
theorem lRserved:served [lR]=6:=by
 unfold served
 rw [lRreach]
 have:lacks (ofR [lR] []) lR=true:=by unfold lacks; rw [lRr]; decide
 simp [this]
theorem eRserved:served [eR]=0:=by unfold served; rw [eRreach]; rfl
theorem lRt:tsane [lR]=0:=by decide
theorem eRt:tsane [eR]=0:=by decide
theorem lRm:mustE 9 [lR]=6:=by unfold mustE; rw [lRt,lRserved]; decide
theorem eRm:mustE 9 [eR]=0:=by unfold mustE; rw [eRt,eRserved]; decide
theorem nilm' (n:Int) (h:0≤n):mustE n []=0:=by
 unfold mustE
 have h1:tsane []=0:=by decide
 have h2:served []=0:=by decide
 rw [h1,h2]; simp [h]
theorem nine:saneOf ⟨9,[]⟩=⟨9,[]⟩:=by
 unfold saneOf
 rw [if_pos]
 unfold saneC
 rw [nilm' 9 (by decide)]; decide
theorem apply_lR:applyC ⟨9,[]⟩ [lR] []=(⟨9,[]⟩,6):=by
 unfold applyC
 rw [nine]
 have e:patchR [] [lR] []=[lR]:=by decide
 simp only [e,lRm]
 rfl
theorem apply_eR:applyC ⟨9,[]⟩ [eR] []=(⟨9,[eR]⟩,0):=by
 unfold applyC
 rw [nine]
 have e:patchR [] [eR] []=[eR]:=by decide
 simp only [e,eRm]
 rfl
theorem nineE:saneC ⟨9,[eR]⟩=true:=by unfold saneC; rw [eRm]; decide
theorem nineE':saneOf ⟨9,[eR]⟩=⟨9,[eR]⟩:=by unfold saneOf; rw [if_pos nineE]
set_option maxHeartbeats 4000000 in
theorem awake16_c:CallR Tryz.prog 54 [] (.val (.bool true)):=by
 have w0:CallR Tryz.prog 109 [.int .i64 9] (.val (.agg [.int .i64 9,.slice false []])):=newC_c 9
 have w1:CallR Tryz.prog 59 [.agg [.int .i64 9,.slice false []],.slice false [.agg [.int .i64 0,.str [108],.int .i64 0,.int .i64 80,.str [114],.slice false [],.slice false []]],.slice false []] (.val (.tup [.agg [.int .i64 9,.slice false []],.int .i64 6])):=by
  have h:=applyC_c 9 [] [lR] [] (by simp) (by simp [Small]) (by simp) lRsm
  rw [apply_lR] at h
  exact h
 have w2:CallR Tryz.prog 59 [.agg [.int .i64 9,.slice false []],.slice false [.agg [.int .i64 3,.str [101],.int .i64 0,.int .i64 0,.str [],.slice false [],.slice false []]],.slice false []] (.val (.tup [.agg [.int .i64 9,.slice false [.agg [.int .i64 3,.str [101],.int .i64 0,.int .i64 0,.str [],.slice false [],.slice false []]]],.int .i64 0])):=by
  have h:=applyC_c 9 [] [eR] [] (by simp) (by simp [Small]) (by simp) eRsm
  rw [apply_eR] at h
  exact h
 have w3:CallR Tryz.prog 111 [.agg [.int .i64 9,.slice false [.agg [.int .i64 3,.str [101],.int .i64 0,.int .i64 0,.str [],.slice false [],.slice false []]]],.agg [.int .i64 3,.str [101]]] (.val (.bool true)):=by
  have h:=hasC_c 9 [eR] 3 [101] (by decide) eRsm
  have e:hasC ⟨9,[eR]⟩ ⟨3,[101]⟩=true:=by unfold hasC; rw [nineE']; decide
  rw [e] at h
  exact h
 have w4:CallR Tryz.prog 68 [.agg [.int .i64 9,.slice false [.agg [.int .i64 3,.str [101],.int .i64 0,.int .i64 0,.str [],.slice false [],.slice false []]]]] (.own 7 []):=by
  have h:=shownC_c 9 [eR] (by decide) eRsm
  have e:shownC ⟨9,[eR]⟩=[]:=by unfold shownC; rw [nineE',eRreach]
  rw [e] at h
  exact h
 have w5:CallR Tryz.prog 55 [.agg [.int .i64 9,.slice false [.agg [.int .i64 3,.str [101],.int .i64 0,.int .i64 0,.str [],.slice false [],.slice false []]]]] (.val (.bool true)):=by
  have h:=saneC_c 9 [eR] (by decide) eRsm
  rw [nineE] at h
  exact h
 refine CallR.go0 (T:=T) Tryz.call54 Tryz.func54 rfl Tryz.ntmps54 (congrArg Array.toList Tryz.results54) fun ts hn=>?_
 (repeat' (first
 | (with_reducible first|refine callX.by (w0) ?_|refine callX.fz (w1) ?_|refine callX.fz (w2) ?_|refine callX.by (w3) ?_|refine callX.by (w4) ?_|refine callX.by (w5) ?_|refine callX.by (newC_c _) ?_|refine callX.by (hasC_c _ _ _ _ ?_ ?_) ?_|refine callX.by (shownC_c _ _ ?_ ?_) ?_|refine callX.by (saneC_c _ _ ?_ ?_) ?_|assumption|(refine Qw hK _ ?_; clear hK K)|refine Qw ‹_› _ ?_|refine Qx ‹_› ?_|refine Qi fun K hK=>?_|refine Qj T fun K hK=>?_|refine Ql fun A B hA hB=>?_|refine Qn ?_|refine Qr ?_)
 | ((with_reducible first|apply Qy|apply Qz|apply QA)<;>intro hb<;>try simp only [nr] at hb)
 | simp only [go_sem,↓reduceIte,reduceIte,Qa,Qh,Qb,Qc,Qd,Qe,Qf,Qg,reduceCtorEq, *,-w0,-w1,-w2,-w3,-w4,-w5,Int.le_refl,List.length_nil,List.length_cons,decide_true]
 | with_reducible refine fun (bn:Bool) hbn=>?_))
 all_goals trace_state
theorem few_len16 {l:List Res} (h:fewAll l=true):l.length≤80:=by
 simp only [fewAll,Bool.and_eq_true,decide_eq_true_eq] at h
 omega
def goodE (l:List Res):Bool:=decide (tsane l=0) && decide (served l=0)
theorem goodN_c (xs:List Res) (hl:xs.length≤65536) (hs:∀ r∈xs,SmRes r) (hn:¬ tsane xs=0):CallR Tryz.prog 66 [.slice false (avs xs)] (.val (.bool false)):=by
 have hl2:=small_le hl
 refine QD (T:=T) Tryz.call66 Tryz.func66 rfl Tryz.ntmps66 (congrArg Array.toList Tryz.results66) (by decide) fun ts hn h0=>?_
 (repeat' (first
 | (with_reducible first|refine callX.by (tsane_c _ ?_ ?_) ?_|refine callX.by (served_c _ ?_ ?_ ?_) ?_|refine callX.by a6sc ?_|assumption|(refine Qw hK _ ?_; clear hK K)|refine Qw ‹_› _ ?_|refine Qx ‹_› ?_|refine Qi fun K hK=>?_|refine Qj T fun K hK=>?_|refine Ql fun A B hA hB=>?_|refine Qn ?_|refine Qr ?_)
 | ((with_reducible first|apply Qy|apply Qz|apply QA)<;>intro hb<;>try simp only [nr] at hb)
 | simp only [go_sem,↓reduceIte,reduceIte,Qa,Qh,Qb,Qc,Qd,Qe,Qf,Qg,reduceCtorEq, *,-hs]
 | with_reducible refine fun (bn:Bool) hbn=>?_))
theorem goodS_c (xs:List Res) (hl:xs.length≤65536) (hs:∀ r∈xs,SmRes r) (hn:tsane xs=0) (hnd:(xs.map keyOf).Nodup):CallR Tryz.prog 66 [.slice false (avs xs)] (.val (.bool (decide (served xs=0)))):=by
 have hl2:=small_le hl
 refine QD (T:=T) Tryz.call66 Tryz.func66 rfl Tryz.ntmps66 (congrArg Array.toList Tryz.results66) (by decide) fun ts hn h0=>?_
 (repeat' (first
 | (with_reducible first|refine callX.by (tsane_c _ ?_ ?_) ?_|refine callX.by (served_c _ ?_ ?_ ?_) ?_|refine callX.by a6sc ?_|assumption|(refine Qw hK _ ?_; clear hK K)|refine Qw ‹_› _ ?_|refine Qx ‹_› ?_|refine Qi fun K hK=>?_|refine Qj T fun K hK=>?_|refine Ql fun A B hA hB=>?_|refine Qn ?_|refine Qr ?_)
 | ((with_reducible first|apply Qy|apply Qz|apply QA)<;>intro hb<;>try simp only [nr] at hb)
 | simp only [go_sem,↓reduceIte,reduceIte,Qa,Qh,Qb,Qc,Qd,Qe,Qf,Qg,reduceCtorEq, *,-hs,-hnd]
 | with_reducible refine fun (bn:Bool) hbn=>?_))
theorem goodE_c (xs:List Res) (hl:xs.length≤65536) (hs:∀ r∈xs,SmRes r) (hnd:tsane xs=0→(xs.map keyOf).Nodup):CallR Tryz.prog 66 [.slice false (avs xs)] (.val (.bool (goodE xs))):=by
 by_cases h:tsane xs=0
 ·have:=goodS_c xs hl hs h (hnd h)
  unfold goodE
  rw [decide_eq_true h,Bool.true_and]
  exact this
 ·have:=goodN_c xs hl hs h
  unfold goodE
  rw [decide_eq_false h,Bool.false_and]
  exact this
theorem mem_missK (l:List Res) (x:Key):x∈missK l↔(∃ r∈l,x∈refsR r)∧¬ x∈l.map keyOf:=by
 unfold missK
 rw [(kcompact_up (ksort_le _)).2,ksort_mem]
 unfold missR keepK
 rw [List.mem_flatMap]
 have hi:∀ k,(mget (ofR l []) k).getD false=decide (k∈l.map keyOf):=fun k=>isIn_of l k
 constructor
 ·rintro ⟨r,hr,hx⟩
  obtain ⟨h1,h2⟩:=List.mem_filter.1 hx
  rw [hi] at h2
  exact ⟨⟨r,hr,h1⟩,by simpa using h2⟩
 ·rintro ⟨⟨r,hr,h1⟩,h2⟩
  refine ⟨r,hr,List.mem_filter.2 ⟨h1,?_⟩⟩
  rw [hi,decide_eq_false h2]; rfl
theorem kcT_len:∀ l:List Key,(kcT l).length≤l.length - 1
 | []=>by simp [kcT]
 | [a]=>by simp [kcT]
 | a :: b :: l=>by
  have:=kcT_len (b :: l)
  unfold kcT
  split<;>simp only [List.length_cons] at *<;>omega
theorem kcompact_len (l:List Key):(kcompact l).length≤l.length:=by
 unfold kcompact
 have:=kcT_len l
 rw [List.length_append,List.length_take]
 omega
theorem missK_len (l:List Res):(missK l).length≤33 * l.length:=by
 unfold missK
 refine Nat.le_trans (kcompact_len _) ?_
 rw [ksort_length]
 unfold missR
 generalize ofR l []=M
 induction l with
 | nil=>simp
 | cons r l ih =>
  rw [List.flatMap_cons,List.length_append,List.length_cons]
  have h1:(keepK M (refsR r)).length≤(refsR r).length:=List.length_filter_le _ _
  have h2:=refs_len r
  omega
theorem ref_pos (l:List Res) (k:Key):0 < (referrers l k).length↔∃ r∈l,k∈refsR r:=by
 unfold referrers
 rw [List.length_map,List.length_pos_iff_exists_mem]
 constructor
 ·rintro ⟨r,hr⟩
  obtain ⟨h1,h2⟩:=List.mem_filter.1 hr
  obtain ⟨x,hx,he⟩:=List.any_eq_true.1 h2
  have:k=x:=by simpa using he
  subst this
  exact ⟨r,h1,hx⟩
 ·rintro ⟨r,hr,hx⟩
  exact ⟨r,List.mem_filter.2 ⟨hr,List.any_eq_true.2 ⟨k,hx,by simp⟩⟩⟩
theorem tget_is (l:List Res) (k:Key):(tget l k).isSome=decide (k∈l.map keyOf):=by
 unfold tget
 rw [Bool.eq_iff_iff,List.find?_isSome,decide_eq_true_eq,List.mem_map]
 simp
theorem tget_in {l:List Res} {k:Key} {r:Res} (h:tget l k=some r):r∈l∧keyOf r=k:=by
 unfold tget at h
 exact ⟨List.mem_of_find?_eq_some h,by simpa using List.find?_some h⟩
theorem tget_key {l:List Res} (h:(l.map keyOf).Nodup) {r:Res} (hr:r∈l):tget l (keyOf r)=some r:=by
 cases e:tget l (keyOf r) with
 | none =>
  have:=tget_is l (keyOf r)
  rw [e,decide_eq_true (List.mem_map_of_mem hr)] at this
  cases this
 | some q =>
  obtain ⟨h1,h2⟩:=tget_in e
  rw [key_inj h h1 hr h2]
theorem lacks_iff (l:List Res) (r:Res):lacks (ofR l []) r=true↔∃ k∈refsR r,¬ k∈l.map keyOf:=by
 unfold lacks
 rw [List.any_eq_true]
 constructor
 ·rintro ⟨k,hk,h⟩
  rw [isIn_of] at h
  exact ⟨k,hk,by simpa using h⟩
 ·rintro ⟨k,hk,h⟩
  refine ⟨k,hk,?_⟩
  rw [isIn_of,decide_eq_false h]; rfl
theorem mem_without {l:List Res} {k:Key} {r:Res}:r∈twithout l k↔r∈l∧keyOf r≠k:=by
 unfold twithout
 rw [List.mem_filter]
 simp
theorem served_ok {l:List Res}:served l=0↔(∀ r∈reachR l,∀ k∈refsR r,k∈l.map keyOf)∧∀ r∈reachR l,bare r=false:=by
 unfold served
 by_cases h1:(reachR l).any (lacks (ofR l []))=true
 ·rw [if_pos h1]
  obtain ⟨r,hr,hl⟩:=List.any_eq_true.1 h1
  obtain ⟨k,hk,hn⟩:=(lacks_iff l r).1 hl
  exact ⟨fun h=>absurd h (by decide),fun h=>absurd (h.1 r hr k hk) hn⟩
 ·rw [if_neg h1]
  have h1':∀ r∈reachR l,∀ k∈refsR r,k∈l.map keyOf:=fun r hr k hk=>by
   by_cases hn:k∈l.map keyOf
   ·exact hn
   ·exact absurd (List.any_eq_true.2 ⟨r,hr,(lacks_iff l r).2 ⟨k,hk,hn⟩⟩) h1
  by_cases h2:(reachR l).any bare=true
  ·rw [if_pos h2]
   obtain ⟨r,hr,hb⟩:=List.any_eq_true.1 h2
   exact ⟨fun h=>absurd h (by decide),fun h=>by rw [h.2 r hr] at hb; cases hb⟩
  ·rw [if_neg h2]
   exact ⟨fun _=>⟨h1',fun r hr=>by simpa using fun hb=>h2 (List.any_eq_true.2 ⟨r,hr,hb⟩)⟩,fun _=>rfl⟩
end Go.Proofs.YtmjkjmoeicnbnaaGreatDoor.Lg
namespace Go.Proofs.YtmjkjmoeicnbnaaGreatDoor.Lg
set_option maxRecDepth 100000
set_option linter.unusedVariables false
set_option linter.unusedSimpArgs false
open Go
section
variable {l:List Res} (hc:Conf l) (hv:served l=0)
include hc
include hv
end
end Go.Proofs.YtmjkjmoeicnbnaaGreatDoor.Lg
namespace Go.Proofs.YtmjkjmoeicnbnaaGreatDoor.Lg
set_option maxRecDepth 100000
set_option linter.unusedVariables false
set_option linter.unusedSimpArgs false
open Go
theorem tkind0_reach {l:List Res} (h:(l.map keyOf).Nodup):tkind (reachR l) 0=tkind l 0:=by
 unfold tkind reachR
 rw [List.filter_filter]
 refine List.filter_congr fun r hr=>?_
 by_cases hk:r.kind=0
 ·rw [(reached_iff h (keyOf r)).2 (.base r hr hk)]; simp
 ·simp [hk]
theorem tsane_parts {l:List Res} (h:tsane l=0):portsM (tkind l 0) []=true:=by
 unfold tsane at h
 split at h
 ·cases h
 ·split at h
  ·rename_i h2; exact absurd h h2
  ·split at h
   ·cases h
   ·split at h
    ·cases h
    ·rename_i h4; simpa using h4
theorem tsane_of {l:List Res} (h1:l.length≤64) (h2:∀ r∈l,saneR r=0) (h3:Up (l.map keyOf)) (h4:portsM (tkind l 0) []=true):tsane l=0:=by
 unfold tsane
 rw [if_neg (by omega),if_neg (by rw [firstBad_of h2]; simp),if_neg (by rw [(upR_iff l).2 h3]; simp),if_neg (by rw [h4]; simp)]
theorem tsane_reach {l:List Res} (h:tsane l=0):tsane (reachR l)=0:=by
 have hc:=conf_of h
 refine tsane_of (Nat.le_trans (reachR_len l) hc.len) (fun r hr=>hc.sane r ((reachR_sub l).subset hr)) (hc.up.sublist ((reachR_sub l).map _)) ?_
 rw [tkind0_reach hc.nodup]
 exact tsane_parts h
theorem good_reach_good {l:List Res} (h:tsane l=0) (hv:served l=0):goodE (reachR l)=true:=by
 unfold goodE
 rw [tsane_reach h,served_reach (conf_of h).nodup,hv]; rfl
theorem mustE_iff {cap:Int} {l:List Res}:mustE cap l=0↔tsane l=0∧(l.length:Int)≤cap∧served l=0:=by
 unfold mustE
 by_cases h1:tsane l=0
 ·by_cases h2:(l.length:Int)≤cap
  ·simp [h1,h2]
  ·simp [h1,h2]
 ·simp [h1]
theorem saneC_iff {c:Cache}:saneC c=true↔c.cap=bnd c.cap∧tsane c.l=0∧(c.l.length:Int)≤c.cap∧served c.l=0:=by
 unfold saneC
 simp only [Bool.and_eq_true,decide_eq_true_eq,mustE_iff]
theorem tsane_len {l:List Res} (h:tsane l=0):l.length≤64:=by
 unfold tsane at h
 split at h
 ·cases h
 ·omega
theorem applyC_sane {c:Cache} (h:saneC c=true) (adds:List Res) (gone:List Key) :
  applyC c adds gone=if mustE c.cap (patchR c.l adds gone)=0 then (⟨c.cap,patchR c.l adds gone⟩,0) else (c,mustE c.cap (patchR c.l adds gone)):=by
 have hof:saneOf c=c:=by unfold saneOf; rw [if_pos h]
 unfold applyC
 rw [hof]
theorem bnd_rng (n:Int):0≤bnd n∧bnd n≤64:=by unfold bnd; omega
theorem bnd_bnd (n:Int):bnd (bnd n)=bnd n:=by unfold bnd; omega
theorem newC_sane (n:Int):saneC ⟨bnd n,[]⟩=true:=by
 rw [saneC_iff]
 have h1:tsane []=0:=by decide
 have h2:served []=0:=by decide
 exact ⟨(bnd_bnd n).symm,h1,by simp [(bnd_rng n).1],h2⟩
def same16 (a b:Cache):Bool:=decide (a.cap=b.cap) && decide (a.l=b.l)
theorem same16_c (a_cap:Int) (a_l:List Res) (b_cap:Int) (b_l:List Res) (hl:Small a_l.length) (hs:∀ r∈a_l,SmRes r):CallR Tryz.prog 60 [.agg [.int .i64 a_cap,.slice false (avs a_l)],.agg [.int .i64 b_cap,.slice false (avs b_l)]] (.val (.bool (same16 (⟨a_cap,a_l⟩:Cache) (⟨b_cap,b_l⟩:Cache)))):=by
 have w1:=all4_c a_l b_l hl hs
 by_cases h:a_cap=b_cap
 ·refine CallR.go2 (T:=T) Tryz.call60 Tryz.func60 rfl Tryz.ntmps60 (congrArg Array.toList Tryz.results60) (by decide) fun ts hn h0 h1=>?_
  (repeat' (first
 | (with_reducible first|refine callX.by (w1) ?_|refine callX.by (all4_c _ _ ?_ ?_) ?_|assumption|(refine NxK.out hK _ ?_; clear hK K)|refine NxK.out ‹_› _ ?_|refine Nx.out ‹_› ?_|refine SpecC.seqW fun K hK=>?_|refine SpecC.regW T fun K hK=>?_|refine SpecC.condW fun A B hA hB=>?_|refine SpecC.skip ?_|refine SpecC.ret ?_)
 | ((with_reducible first|apply condK.split|apply gK.split_t|apply gK.split_f)<;>intro hb<;>try simp only [nr] at hb)
 | simp only [go_sem,↓reduceIte,reduceIte,Nat.reduceEqDiff,String.reduceEq,Nat.reduceLT,Nat.reduceLeDiff,Nat.reduceAdd,Nat.reduceMul,Nat.reduceSub,Nat.reduceBEq,reduceCtorEq, *,-hs,-w1]
 | with_reducible refine fun (bn:Bool) hbn=>?_))
  all_goals simp [same16,h]
 ·refine CallR.go2 (T:=T) Tryz.call60 Tryz.func60 rfl Tryz.ntmps60 (congrArg Array.toList Tryz.results60) (by decide) fun ts hn h0 h1=>?_
  (repeat' (first
 | (with_reducible first|refine callX.by (w1) ?_|refine callX.by (all4_c _ _ ?_ ?_) ?_|assumption|(refine NxK.out hK _ ?_; clear hK K)|refine NxK.out ‹_› _ ?_|refine Nx.out ‹_› ?_|refine SpecC.seqW fun K hK=>?_|refine SpecC.regW T fun K hK=>?_|refine SpecC.condW fun A B hA hB=>?_|refine SpecC.skip ?_|refine SpecC.ret ?_)
 | ((with_reducible first|apply condK.split|apply gK.split_t|apply gK.split_f)<;>intro hb<;>try simp only [nr] at hb)
 | simp only [go_sem,↓reduceIte,reduceIte,Nat.reduceEqDiff,String.reduceEq,Nat.reduceLT,Nat.reduceLeDiff,Nat.reduceAdd,Nat.reduceMul,Nat.reduceSub,Nat.reduceBEq,reduceCtorEq, *,-hs,-w1]
 | with_reducible refine fun (bn:Bool) hbn=>?_))
  all_goals simp [same16,h]
structure CInv (n:Int) (c:Cache):Prop where
 sane:saneC c=true
 cap:c.cap=bnd n
 sm:∀ r∈c.l,SmRes r
theorem applyC_len (c:Cache) (adds:List Res) (gone:List Key):(applyC c adds gone).1.l.length≤c.l.length+adds.length:=by
 have h1:=saneOf_len c
 have h2:=patchR_len (saneOf c).l adds gone
 unfold applyC
 simp only
 split
 ·simp only; omega
 ·simp only; omega
theorem applyC_mem' {c:Cache} {adds:List Res} {gone:List Key} {x:Res} (h:x∈(applyC c adds gone).1.l):x∈c.l∨x∈adds:=by
 unfold applyC at h
 simp only at h
 split at h
 ·exact (patchR_mem h).imp saneOf_mem id
 ·exact .inl (saneOf_mem h)
end Go.Proofs.YtmjkjmoeicnbnaaGreatDoor.Lg
