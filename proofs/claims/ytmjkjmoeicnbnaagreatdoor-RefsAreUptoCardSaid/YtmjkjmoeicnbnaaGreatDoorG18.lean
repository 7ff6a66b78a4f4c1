/- Parts of the proof, one behind the other. -/
import Derived.Test.YtmjkjmoeicnbnaaGreatDoorG17
namespace Go.Proofs.YtmjkjmoeicnbnaaGreatDoor.Lg
set_option maxRecDepth 100000
set_option linter.unusedVariables false
set_option linter.unusedSimpArgs false
open Go
structure Conf (l:List Res):Prop where
 len:l.length≤64
 sane:∀ r∈l,saneR r=0
 up:Up (l.map keyOf)
inductive Rch (l:List Res):Key→Prop
 | base (r:Res):r∈l→r.kind=0→Rch l (keyOf r)
 | step (r:Res) (x:Key):r∈l→Rch l (keyOf r)→x∈refsR r→x∈l.map keyOf→Rch l x
section dfs
variable (T0:KS) (N:List (Key × List Key))
def succK (k:Key):List Key:=(mget N k).getD []
inductive Way:Key→Key→Prop
 | refl (k:Key):isIn T0 k=true→Way k k
 | step (k x y:Key):isIn T0 k=true→x∈succK N k→Way x y→Way k y
abbrev Shut (A B:KS):Prop:=∀ x,isIn B x=true→isIn A x=false→∀ y∈succK N x,isIn T0 y=true→isIn B y=true
theorem dfs (n:Nat):∀ (k:Key) (M:KS),muV T0 M≤n →
  (isIn T0 k=true→isIn (visF T0 N n k M) k=true) ∧
  (∀ x,isIn (visF T0 N n k M) x=true→isIn M x=false→Way T0 N k x)∧Shut T0 N M (visF T0 N n k M):=by
 induction n with
 | zero =>
  intro k M hmu
  have h0:∀ k,isIn T0 k=true→isIn M k=true:=fun k hk=>by
   cases hm:isIn M k with
   | true=>rfl
   | false=>have:=mu_lt hk hm; omega
  exact ⟨h0 k,fun x hx hx'=>absurd (Eq.trans (Eq.symm (show isIn M x=true from hx)) hx') (by decide),fun x hx hx'=>absurd (Eq.trans (Eq.symm (show isIn M x=true from hx)) hx') (by decide)⟩
 | succ n ih =>
  intro k M hmu
  by_cases hc:isIn T0 k=true∧isIn M k=false
  rotate_left
  ·have e:visF T0 N (n+1) k M=M:=by rw [visF,if_neg hc]
   rw [e]
   refine ⟨fun hk=>?_,fun x hx hx'=>absurd (Eq.trans (Eq.symm hx) hx') (by decide),fun x hx hx'=>absurd (Eq.trans (Eq.symm hx) hx') (by decide)⟩
   cases hm:isIn M k with
   | true=>rfl
   | false=>exact absurd ⟨hk,hm⟩ hc
  ·obtain ⟨hk,hm⟩:=hc
   have e:visF T0 N (n+1) k M=(succK N k).foldl (fun M x=>visF T0 N n x M) (mput M k true):=by rw [visF,if_pos ⟨hk,hm⟩]; rfl
   have hmu1:muV T0 (mput M k true)≤n:=by have:=mu_lt hk hm; omega
   have fold:∀ (v:List Key) (M1:KS),muV T0 M1≤n →
     (∀ x,isIn M1 x=true→isIn (v.foldl (fun M x=>visF T0 N n x M) M1) x=true) ∧
     (∀ y∈v,isIn T0 y=true→isIn (v.foldl (fun M x=>visF T0 N n x M) M1) y=true) ∧
     (∀ x,isIn (v.foldl (fun M x=>visF T0 N n x M) M1) x=true→isIn M1 x=false→∃ y∈v,Way T0 N y x) ∧
     Shut T0 N M1 (v.foldl (fun M x=>visF T0 N n x M) M1):=by
    intro v
    induction v with
    | nil=>exact fun M1 _=>⟨fun x h=>h,by simp,fun x h h'=>absurd (Eq.trans (Eq.symm (show isIn M1 x=true from h)) h') (by decide),fun x h h'=>absurd (Eq.trans (Eq.symm (show isIn M1 x=true from h)) h') (by decide)⟩
    | cons y v ihv =>
     intro M1 h1
     rw [List.foldl_cons]
     obtain ⟨a1,a2,a3⟩:=ih y M1 h1
     have hg:∀ x,isIn M1 x=true→isIn (visF T0 N n y M1) x=true:=fun x hx=>visF_grow T0 N n y M1 x hx
     obtain ⟨b1,b2,b3,b4⟩:=ihv (visF T0 N n y M1) (Nat.le_trans (mu_le hg) h1)
     refine ⟨fun x hx=>b1 x (hg x hx),fun z hz hzT=>?_,fun x hx hx'=>?_,fun x hx hx' z hz hzT=>?_⟩
     ·rcases List.mem_cons.1 hz with rfl|hz
      ·exact b1 _ (a1 hzT)
      ·exact b2 z hz hzT
     ·cases hv:isIn (visF T0 N n y M1) x with
      | true=>exact ⟨y,by simp,a2 x hv hx'⟩
      | false=>obtain ⟨z,hz,hw⟩:=b3 x hx hv; exact ⟨z,by simp [hz],hw⟩
     ·cases hv:isIn (visF T0 N n y M1) x with
      | true=>exact b1 _ (a3 x hv hx' z hz hzT)
      | false=>exact b4 x hx hv z hz hzT
   obtain ⟨b1,b2,b3,b4⟩:=fold (succK N k) (mput M k true) hmu1
   rw [e]
   refine ⟨fun _=>b1 k (by rw [isIn_put]; simp),fun x hx hx'=>?_,fun x hx hx' y hy hyT=>?_⟩
   ·cases hp:isIn (mput M k true) x with
    | true =>
     rw [isIn_put,hx'] at hp
     have:x=k:=by simpa using hp
     subst this
     exact .refl _ hk
    | false =>
     obtain ⟨y,hy,hw⟩:=b3 x hx hp
     exact .step k y x hk hy hw
   ·cases hp:isIn (mput M k true) x with
    | true =>
     rw [isIn_put,hx'] at hp
     have:x=k:=by simpa using hp
     subst this
     exact b2 y hy hyT
    | false=>exact b4 x hx hp y hy hyT
theorem reachF_spec (n:Nat) (hn:∀ M,muV T0 M≤n):∀ (l:List Res) (M:KS),Shut T0 N [] M →
  Shut T0 N [] (reachF T0 N n l M)∧(∀ x,isIn M x=true→isIn (reachF T0 N n l M) x=true)∧(∀ r∈l,r.kind=0→isIn T0 (keyOf r)=true→isIn (reachF T0 N n l M) (keyOf r)=true) ∧
  ∀ x,isIn (reachF T0 N n l M) x=true→isIn M x=true∨∃ r∈l,r.kind=0∧Way T0 N (keyOf r) x
 | [],M,h=>⟨h,fun x hx=>hx,by simp,fun x hx=>.inl hx⟩
 | r :: l,M,h=>by
  have e:reachF T0 N n (r :: l) M=reachF T0 N n l (if r.kind=0 then visF T0 N n (keyOf r) M else M):=rfl
  rw [e]
  by_cases hk:r.kind=0
  ·rw [if_pos hk]
   obtain ⟨a1,a2,a3⟩:=dfs T0 N n (keyOf r) M (hn M)
   have hg:∀ x,isIn M x=true→isIn (visF T0 N n (keyOf r) M) x=true:=fun x hx=>visF_grow T0 N n _ M x hx
   have hs:Shut T0 N [] (visF T0 N n (keyOf r) M):=fun x hx _ y hy hyT=>by
    cases hm:isIn M x with
    | true=>exact hg _ (h x hm rfl y hy hyT)
    | false=>exact a3 x hx hm y hy hyT
   obtain ⟨b1,b2,b3,b4⟩:=reachF_spec n hn l _ hs
   refine ⟨b1,fun x hx=>b2 x (hg x hx),fun q hq hq0 hqT=>?_,fun x hx=>?_⟩
   ·rcases List.mem_cons.1 hq with rfl|hq
    ·exact b2 _ (a1 hqT)
    ·exact b3 q hq hq0 hqT
   ·rcases b4 x hx with h1|⟨q,hq,h1,h2⟩
    ·cases hm:isIn M x with
     | true=>exact .inl rfl
     | false=>exact .inr ⟨r,by simp,hk,a2 x h1 hm⟩
    ·exact .inr ⟨q,by simp [hq],h1,h2⟩
  ·rw [if_neg hk]
   obtain ⟨b1,b2,b3,b4⟩:=reachF_spec n hn l M h
   refine ⟨b1,b2,fun q hq hq0 hqT=>?_,fun x hx=>?_⟩
   ·rcases List.mem_cons.1 hq with rfl|hq
    ·exact absurd hq0 hk
    ·exact b3 q hq hq0 hqT
   ·rcases b4 x hx with h1|⟨q,hq,h1,h2⟩
    ·exact .inl h1
    ·exact .inr ⟨q,by simp [hq],h1,h2⟩
end dfs
theorem isIn_of (l:List Res) (k:Key):isIn (ofR l []) k=decide (k∈l.map keyOf):=by rw [mem_ofR]; simp [isIn]
theorem reachedU_iff (l:List Res) (k:Key):isIn (reachedM l) k=true↔Rch l k:=by
 have hT:∀ k,isIn (ofR l []) k=true↔k∈l.map keyOf:=fun k=>by rw [isIn_of]; simp
 obtain ⟨b1,_,b3,b4⟩:=reachF_spec (ofR l []) (namesM l) (ofR l []).length (fun M=>List.length_filter_le _ _) l [] (fun x hx=>by simp [isIn] at hx)
 have hsucc:∀ k∈l.map keyOf,succK (namesM l) k=cat k l:=fun k hk=>by unfold succK; rw [names_eq hk]; rfl
 constructor
 ·intro hk
  rcases b4 k hk with h1|⟨r,hr,h0,hw⟩
  ·simp [isIn] at h1
  ·have:∀ {a b:Key},Way (ofR l []) (namesM l) a b→Rch l a→Rch l b:=by
    intro a b hw
    induction hw with
    | refl=>exact fun h=>h
    | step k x y hk hx hw ih =>
     intro ha
     refine ih ?_
     rw [hsucc k ((hT k).1 hk)] at hx
     obtain ⟨q,hq,e,hx⟩:=mem_cat.1 hx
     refine .step q x hq (e▸ha) hx ?_
     cases hw with
     | refl _ hx'=>exact (hT x).1 hx'
     | step _ _ _ hx'=>exact (hT x).1 hx'
   exact this hw (.base r hr h0)
 ·intro hk
  induction hk with
  | base r hr h0=>exact b3 r hr h0 ((hT _).2 (List.mem_map_of_mem hr))
  | step r x hr _ hx hx' ih=>exact b1 _ ih rfl x (by rw [hsucc _ (List.mem_map_of_mem hr)]; exact mem_cat.2 ⟨r,hr,rfl,hx⟩) ((hT x).2 hx')
theorem reached_iff {l:List Res} (_:(l.map keyOf).Nodup) (k:Key):isIn (reachedM l) k=true↔Rch l k:=reachedU_iff l k
theorem reachR_sub (l:List Res):(reachR l).Sublist l:=List.filter_sublist
end Go.Proofs.YtmjkjmoeicnbnaaGreatDoor.Lg
namespace Go.Proofs.YtmjkjmoeicnbnaaGreatDoor.Lg
set_option maxRecDepth 100000
set_option linter.unusedVariables false
set_option linter.unusedSimpArgs false
open Go
open Nat renaming reduceEqDiff → Qa, reduceLT → Qb, reduceLeDiff → Qc, reduceAdd → Qd, reduceMul → Qe, reduceSub → Qf, reduceBEq → Qg
open String renaming reduceEq → Qh
open SpecC renaming seqW → Qi, regW → Qj, condW → Ql, block → Qm, skip → Qn, exit → Qp, ret → Qr, loopF → Qs
open NxK renaming out → Qw
open Nx renaming out → Qx
open condK renaming split → Qy
open gK renaming split_t → Qz, split_f → QA
open CallR renaming go1 → QD
def mustE (cap:Int) (l:List Res):Int:=if ¬ tsane l=0 then tsane l else if (l.length:Int)≤cap then served l else 8
def bnd (n:Int):Int:=max 0 (min n 64)
def saneC (c:Cache):Bool:=decide (c.cap=bnd c.cap) && decide (mustE c.cap c.l=0)
instance:Dat (List Res) where
 av x:=.slice false (avs x)
 sz:=1
 len _:=rfl
 pure x:=by simp only [go_sem,Bool.and_self]
 nrm x:=by simp only [go_sem]
 one x:=by simp only [go_sem,List.all_cons,List.all_nil,Bool.and_self]
 known _:=rfl
@[go_sem] theorem av_LRes (x:List Res):Dat.av x=.slice false (avs x):=rfl
@[go_sem] theorem sz_LRes:Dat.sz (List Res)=1:=rfl
theorem low01_c (c:UInt8):CallR Tryz.prog 212 [.int .u8 c.toNat] (.val (.bool (lowR c.toNat))):=by
 refine QD (T:=T) Tryz.call212 Tryz.func212 rfl Tryz.ntmps212 (congrArg Array.toList Tryz.results212) (by decide) fun ts hn h0=>?_
 (repeat' (first
 | (with_reducible first|assumption|(refine Qw hK _ ?_; clear hK K)|refine Qw ‹_› _ ?_|refine Qx ‹_› ?_|refine Qi fun K hK=>?_|refine Qj T fun K hK=>?_|refine Ql fun A B hA hB=>?_|refine Qn ?_|refine Qr ?_)
 | ((with_reducible first|apply Qy|apply Qz|apply QA)<;>intro hb<;>try simp only [nr] at hb)
 | simp only [go_sem,↓reduceIte,reduceIte,Qa,Qh,Qb,Qc,Qd,Qe,Qf,Qg,reduceCtorEq, *]
 | with_reducible refine fun (bn:Bool) hbn=>?_))
 all_goals ((repeat clear hK); (repeat clear hA); (repeat clear hB))
 all_goals (simp_all [lowR]<;>(intros; omega))
theorem part01_c (c:UInt8):CallR Tryz.prog 213 [.int .u8 c.toNat] (.val (.bool (plainR c.toNat))):=by
 refine QD (T:=T) Tryz.call213 Tryz.func213 rfl Tryz.ntmps213 (congrArg Array.toList Tryz.results213) (by decide) fun ts hn h0=>?_
 (repeat' (first
 | (with_reducible first|refine callX.by (low01_c _) ?_|assumption|(refine Qw hK _ ?_; clear hK K)|refine Qw ‹_› _ ?_|refine Qx ‹_› ?_|refine Qi fun K hK=>?_|refine Qj T fun K hK=>?_|refine Ql fun A B hA hB=>?_|refine Qn ?_|refine Qr ?_)
 | ((with_reducible first|apply Qy|apply Qz|apply QA)<;>intro hb<;>try simp only [nr] at hb)
 | simp only [go_sem,↓reduceIte,reduceIte,Qa,Qh,Qb,Qc,Qd,Qe,Qf,Qg,reduceCtorEq, *]
 | with_reducible refine fun (bn:Bool) hbn=>?_))
 all_goals ((repeat clear hK); (repeat clear hA); (repeat clear hB))
 all_goals (simp_all [plainR]<;>(intros; omega))
theorem nmL_false:∀ l:List UInt8,nmL l false=l.all fun b=>plainR b.toNat
 | []=>rfl
 | b :: r=>by rw [nmL,nmL_false r,List.all_cons]; simp
theorem low_plain (b:UInt8) (h:lowR b.toNat=true):plainR b.toNat=true:=by simp [plainR,h]
theorem nmOk_cons (b:UInt8) (r:List UInt8):nmOk (b :: r)=(decide ((b :: r).length≤12) && (lowR b.toNat && (b :: r).all fun b=>plainR b.toNat)):=by
 unfold nmOk
 rw [nmL,nmL_false,List.all_cons]
 cases h:lowR b.toNat
 ·simp
 ·simp [low_plain b h]
theorem nmOk_get {s:List UInt8} (h:0 < s.length):nmOk s=(decide (s.length≤12) && (lowR s[0].toNat && s.all fun b=>plainR b.toNat)):=by
 cases s with
 | nil=>simp at h
 | cons b r=>exact nmOk_cons b r
theorem sane01_c (s:List UInt8):CallR Tryz.prog 175 [.str s] (.val (.bool (nmOk s))):=by
 by_cases h0:s.length=0
 ·have e:nmOk s=false:=by rw [List.length_eq_zero_iff.1 h0]; rfl
  have h1:(s.length:Int) < 1:=by omega
  rw [e]
  refine QD (T:=T) Tryz.call175 Tryz.func175 rfl Tryz.ntmps175 (congrArg Array.toList Tryz.results175) (by decide) fun ts hn h0=>?_
  (repeat' (first
 | (with_reducible first|refine callX.by (low01_c _) ?_|refine callX.by (part01_c _) ?_|assumption|(refine Qw hK _ ?_; clear hK K)|refine Qw ‹_› _ ?_|refine Qx ‹_› ?_|refine Qi fun K hK=>?_|refine Qj T fun K hK=>?_|refine Ql fun A B hA hB=>?_|refine Qm ?_|refine Qn ?_|refine Qp ?_|refine Qr ?_)
 | ((with_reducible first|apply Qy|apply Qz|apply QA)<;>intro hb<;>try simp only [nr] at hb)
 | simp only [go_sem,↓reduceIte,reduceIte,Qa,Qh,Qb,Qc,Qd,Qe,Qf,Qg,reduceCtorEq, *]
 | with_reducible refine fun (bn:Bool) hbn=>?_))
 have hp:0 < s.length:=by omega
 have h1:¬ (s.length:Int) < 1:=by omega
 have h1n:¬ s.length < 1:=by omega
 by_cases h12:12 < s.length
 ·have e:nmOk s=false:=by unfold nmOk; rw [decide_eq_false (by omega)]; rfl
  have h2:(12:Int) < (s.length:Int):=by omega
  rw [e]
  refine QD (T:=T) Tryz.call175 Tryz.func175 rfl Tryz.ntmps175 (congrArg Array.toList Tryz.results175) (by decide) fun ts hn h0=>?_
  (repeat' (first
 | (with_reducible first|refine callX.by (low01_c _) ?_|refine callX.by (part01_c _) ?_|assumption|(refine Qw hK _ ?_; clear hK K)|refine Qw ‹_› _ ?_|refine Qx ‹_› ?_|refine Qi fun K hK=>?_|refine Qj T fun K hK=>?_|refine Ql fun A B hA hB=>?_|refine Qm ?_|refine Qn ?_|refine Qp ?_|refine Qr ?_)
 | ((with_reducible first|apply Qy|apply Qz|apply QA)<;>intro hb<;>try simp only [nr] at hb)
 | simp only [go_sem,↓reduceIte,reduceIte,Qa,Qh,Qb,Qc,Qd,Qe,Qf,Qg,reduceCtorEq, *]
 | with_reducible refine fun (bn:Bool) hbn=>?_))
 have h2:¬ (12:Int) < (s.length:Int):=by omega
 have hsm:Small s.length:=by unfold Small; omega
 have e:=nmOk_get hp
 rw [decide_eq_true (by omega),Bool.true_and] at e
 have hpI:(0:Int) < (s.length:Int):=by omega
 cases hlo:lowR s[0].toNat with
 | false =>
  have hl0:lowR (s.getD 0 0).toNat=false:=by rw [List.getD_eq_getElem?_getD,List.getElem?_eq_getElem hp]; exact hlo
  rw [hlo,Bool.false_and] at e
  rw [e]
  refine QD (T:=T) Tryz.call175 Tryz.func175 rfl Tryz.ntmps175 (congrArg Array.toList Tryz.results175) (by decide) fun ts hn h0=>?_
  (repeat' (first
 | (with_reducible first|refine callX.by (low01_c _) ?_|refine callX.by (part01_c _) ?_|assumption|(refine Qw hK _ ?_; clear hK K)|refine Qw ‹_› _ ?_|refine Qx ‹_› ?_|refine Qi fun K hK=>?_|refine Qj T fun K hK=>?_|refine Ql fun A B hA hB=>?_|refine Qm ?_|refine Qn ?_|refine Qp ?_|refine Qr ?_)
 | ((with_reducible first|apply Qy|apply Qz|apply QA)<;>intro hb<;>try simp only [nr] at hb)
 | simp only [go_sem,↓reduceIte,reduceIte,Qa,Qh,Qb,Qc,Qd,Qe,Qf,Qg,reduceCtorEq, *,Int.toNat_zero,Int.le_refl]
 | with_reducible refine fun (bn:Bool) hbn=>?_))
 | true =>
  have hl0:lowR (s.getD 0 0).toNat=true:=by rw [List.getD_eq_getElem?_getD,List.getElem?_eq_getElem hp]; exact hlo
  rw [hlo,Bool.true_and] at e
  rw [e]
  clear e
  refine QD (T:=T) Tryz.call175 Tryz.func175 rfl Tryz.ntmps175 (congrArg Array.toList Tryz.results175) (by decide) fun ts hn h0=>?_
  (repeat' (first
 | (with_reducible first|refine callX.by (low01_c _) ?_|refine callX.by (part01_c _) ?_|assumption|(refine Qw hK _ ?_; clear hK K)|refine Qw ‹_› _ ?_|refine Qx ‹_› ?_|refine Qi fun K hK=>?_|refine Qj T fun K hK=>?_|refine Ql fun A B hA hB=>?_|refine Qm ?_|refine Qn ?_|refine Qp ?_|refine Qr ?_)
 | ((with_reducible first|apply Qy|apply Qz|apply QA)<;>intro hb<;>try simp only [nr] at hb)
 | simp only [go_sem,↓reduceIte,reduceIte,Qa,Qh,Qb,Qc,Qd,Qe,Qf,Qg,reduceCtorEq, *,Int.toNat_zero,Int.le_refl]
 | with_reducible refine fun (bn:Bool) hbn=>?_))
  refine Qs [0] (fun m ts'=>∃ (i:Nat),m=s.length - i∧i≤s.length∧s.all (fun b=>plainR b.toNat)=(s.drop i).all (fun b=>plainR b.toNat)∧ts'.tmp 3=.int .i64 i) s.length ?_ ?_
  ·refine ⟨0,rfl,Nat.zero_le _,rfl,?_⟩
   simp only [go_sem,↓reduceIte,reduceIte,Qa,Qh,Qb,Qc,Qd,Qe,Qf,Qg,reduceCtorEq, *]
  ·rintro m A hM ts' hk ⟨i,hm,f1,f2,s1⟩
   simp only [go_sem,↓reduceIte,reduceIte,Qa,Qh,Qb,Qc,Qd,Qe,Qf,Qg,reduceCtorEq, *] at hk
   by_cases hlt:i < s.length
   ·rw [List.drop_eq_getElem_cons hlt,List.all_cons] at f2
    cases hpl:plainR s[i].toNat with
    | false =>
     have hp0:plainR (s.getD i 0).toNat=false:=by rw [List.getD_eq_getElem?_getD,List.getElem?_eq_getElem hlt]; exact hpl
     rw [hpl,Bool.false_and] at f2
     rw [f2]
     (repeat' (first
 | (with_reducible first|refine callX.by (low01_c _) ?_|refine callX.by (part01_c _) ?_|assumption|(refine Qw hK _ ?_; clear hK K)|refine Qw ‹_› _ ?_|refine Qx ‹_› ?_|refine Qi fun K hK=>?_|refine Qj T fun K hK=>?_|refine Ql fun A B hA hB=>?_|refine Qm ?_|refine Qn ?_|refine Qp ?_|refine Qr ?_)
 | ((with_reducible first|apply Qy|apply Qz|apply QA)<;>intro hb<;>try simp only [nr] at hb)
 | simp only [go_sem,↓reduceIte,reduceIte,Qa,Qh,Qb,Qc,Qd,Qe,Qf,Qg,reduceCtorEq, *,-f2]
 | with_reducible refine fun (bn:Bool) hbn=>?_))
    | true =>
     have hp0:plainR (s.getD i 0).toNat=true:=by rw [List.getD_eq_getElem?_getD,List.getElem?_eq_getElem hlt]; exact hpl
     rw [hpl,Bool.true_and] at f2
     (repeat' (first
 | (with_reducible first|refine callX.by (low01_c _) ?_|refine callX.by (part01_c _) ?_|assumption|(refine Qw hK _ ?_; clear hK K)|refine Qw ‹_› _ ?_|refine Qx ‹_› ?_|refine Qi fun K hK=>?_|refine Qj T fun K hK=>?_|refine Ql fun A B hA hB=>?_|refine Qm ?_|refine Qn ?_|refine Qp ?_|refine Qr ?_)
 | ((with_reducible first|apply Qy|apply Qz|apply QA)<;>intro hb<;>try simp only [nr] at hb)
 | simp only [go_sem,↓reduceIte,reduceIte,Qa,Qh,Qb,Qc,Qd,Qe,Qf,Qg,reduceCtorEq, *,-f2]
 | with_reducible refine fun (bn:Bool) hbn=>?_))
     all_goals ((repeat clear hK); (repeat clear hA); (repeat clear hB))
     (refine hM.on (s.length - (i+1)) (by omega) (by simp only [go_sem,↓reduceIte,reduceIte,Qa,Qh,Qb,Qc,Qd,Qe,Qf,Qg,reduceCtorEq, *,w64_nat hlt hsm,-f2]) ⟨i+1,rfl,by omega,f2,?_⟩; simp only [go_sem,↓reduceIte,reduceIte,Qa,Qh,Qb,Qc,Qd,Qe,Qf,Qg,reduceCtorEq, *,w64_nat hlt hsm,-f2]; done)
   ·rw [List.drop_eq_nil_of_le (by omega),List.all_nil] at f2
    (repeat' (first
 | (with_reducible first|refine callX.by (low01_c _) ?_|refine callX.by (part01_c _) ?_|assumption|(refine Qw hK _ ?_; clear hK K)|refine Qw ‹_› _ ?_|refine Qx ‹_› ?_|refine Qi fun K hK=>?_|refine Qj T fun K hK=>?_|refine Ql fun A B hA hB=>?_|refine Qm ?_|refine Qn ?_|refine Qp ?_|refine Qr ?_)
 | ((with_reducible first|apply Qy|apply Qz|apply QA)<;>intro hb<;>try simp only [nr] at hb)
 | simp only [go_sem,↓reduceIte,reduceIte,Qa,Qh,Qb,Qc,Qd,Qe,Qf,Qg,reduceCtorEq, *,-f2]
 | with_reducible refine fun (bn:Bool) hbn=>?_))
    all_goals ((repeat clear hK); (repeat clear hA); (repeat clear hB))
    all_goals exact f2.symm
theorem star01_c (s:List UInt8):CallR Tryz.prog 228 [.str s] (.val (.bool (hasPfx s [42,46]))):=by
 by_cases h:2≤s.length
 ·have hI:(2:Int)≤(s.length:Int):=by omega
  have e:hasPfx s [42,46]=decide (s.take 2=[42,46]):=by simp [hasPfx,h]
  rw [e]
  have h02:(0:Int)≤2:=by decide
  have ht2:Int.toNat 2=2:=rfl
  refine QD (T:=T) Tryz.call228 Tryz.func228 rfl Tryz.ntmps228 (congrArg Array.toList Tryz.results228) (by decide) fun ts hn h0=>?_
  (repeat' (first
 | (with_reducible first|assumption|(refine Qw hK _ ?_; clear hK K)|refine Qw ‹_› _ ?_|refine Qx ‹_› ?_|refine Qi fun K hK=>?_|refine Qj T fun K hK=>?_|refine Ql fun A B hA hB=>?_|refine Qn ?_|refine Qr ?_)
 | ((with_reducible first|apply Qy|apply Qz|apply QA)<;>intro hb<;>try simp only [nr] at hb)
 | simp only [go_sem,↓reduceIte,reduceIte,Qa,Qh,Qb,Qc,Qd,Qe,Qf,Qg,reduceCtorEq, *,Int.toNat_zero,Int.le_refl,List.drop_zero]
 | with_reducible refine fun (bn:Bool) hbn=>?_))
 ·have hI:¬ (2:Int)≤(s.length:Int):=by omega
  have e:hasPfx s [42,46]=false:=by simp [hasPfx]; intro h2; omega
  rw [e]
  refine QD (T:=T) Tryz.call228 Tryz.func228 rfl Tryz.ntmps228 (congrArg Array.toList Tryz.results228) (by decide) fun ts hn h0=>?_
  (repeat' (first
 | (with_reducible first|assumption|(refine Qw hK _ ?_; clear hK K)|refine Qw ‹_› _ ?_|refine Qx ‹_› ?_|refine Qi fun K hK=>?_|refine Qj T fun K hK=>?_|refine Ql fun A B hA hB=>?_|refine Qn ?_|refine Qr ?_)
 | ((with_reducible first|apply Qy|apply Qz|apply QA)<;>intro hb<;>try simp only [nr] at hb)
 | simp only [go_sem,↓reduceIte,reduceIte,Qa,Qh,Qb,Qc,Qd,Qe,Qf,Qg,reduceCtorEq, *]
 | with_reducible refine fun (bn:Bool) hbn=>?_))
theorem names_split (a b:List UInt8) (h:∀ c∈a,c≠46):namesOk (a++46 :: b)=(nmOk a && namesOk b):=by
 unfold namesOk
 rw [Nm.splitB_at h,List.all_cons]
theorem names_last (a:List UInt8) (h:∀ c∈a,c≠46):namesOk a=nmOk a:=by
 unfold namesOk
 rw [Nm.splitB_none h]
 simp
theorem take_drop_split {α:Type} {s:List α} {k i:Nat} (hk:k≤i) (hi:i < s.length):s.drop k=(s.drop k).take (i - k)++s[i] :: s.drop (i+1):=by
 have e:(s.drop k).drop (i - k)=s.drop i:=by rw [List.drop_drop]; congr 1; omega
 have e2:s.drop i=s[i] :: s.drop (i+1):=List.drop_eq_getElem_cons hi
 rw [← e2,← e]
 exact (List.take_append_drop _ _).symm
set_option maxHeartbeats 4000000 in
theorem names01_c (s:List UInt8) (hl:Small s.length):CallR Tryz.prog 229 [.str s] (.val (.bool (namesOk s))):=by
 refine QD (T:=T) Tryz.call229 Tryz.func229 rfl Tryz.ntmps229 (congrArg Array.toList Tryz.results229) (by decide) fun ts hn h0=>?_
 (repeat' (first
 | (with_reducible first|refine callX.by (sane01_c _) ?_|assumption|(refine Qw hK _ ?_; clear hK K)|refine Qw ‹_› _ ?_|refine Qx ‹_› ?_|refine Qi fun K hK=>?_|refine Qj T fun K hK=>?_|refine Ql fun A B hA hB=>?_|refine Qm ?_|refine Qn ?_|refine Qp ?_|refine Qr ?_)
 | ((with_reducible first|apply Qy|apply Qz|apply QA)<;>intro hb<;>try simp only [nr] at hb)
 | simp only [go_sem,↓reduceIte,reduceIte,Qa,Qh,Qb,Qc,Qd,Qe,Qf,Qg,reduceCtorEq, *]
 | with_reducible refine fun (bn:Bool) hbn=>?_))
 refine Qs [0] (fun m ts'=>∃ (i:Nat),∃ (k:Nat),m=s.length+1 - i∧k≤i∧(i≤s.length→(∀ c∈(s.drop k).take (i - k),c≠46)∧namesOk s=namesOk (s.drop k))∧(¬ i≤s.length→namesOk s=true)∧i≤s.length+1∧ts'.tmp 3=.int .i64 k∧ts'.tmp 4=.int .i64 i) (s.length+1) ?_ ?_
 ·refine ⟨0,0,rfl,Nat.le_refl _,fun _=>⟨by simp,rfl⟩,fun h=>absurd (Nat.zero_le _) h,by omega,?_⟩
  simp only [go_sem,↓reduceIte,reduceIte,Qa,Qh,Qb,Qc,Qd,Qe,Qf,Qg,reduceCtorEq, *]
 ·rintro m A hM ts' hk ⟨i,k,hm,f1,f2,f3,f4,s1,s2⟩
  simp only [go_sem,↓reduceIte,reduceIte,Qa,Qh,Qb,Qc,Qd,Qe,Qf,Qg,reduceCtorEq, *] at hk
  have hwi:IntKind.i64.wrap ((i:Int)+1)=((i+1:Nat):Int):=by rw [show (i:Int)+1=((i+1:Nat):Int) by omega]; exact IntWalk.i64_in _ (by unfold Small at hl; omega)
  by_cases hle:i≤s.length
  ·obtain ⟨g1,g2⟩:=f2 hle
   have hleI:(i:Int)≤(s.length:Int):=by omega
   have hkI:(k:Int)≤(i:Int):=by omega
   have hkl:k≤s.length:=by omega
   clear f2 f3
   by_cases he:i=s.length
   ·have heI:(i:Int)=(s.length:Int):=by omega
    have hpt:(s.drop k).take (i - k)=s.drop k:=List.take_of_length_le (by simp; omega)
    rw [hpt] at g1
    rw [names_last _ g1] at g2
    have hq:(s.take i).drop k=s.drop k:=by rw [List.take_of_length_le (by omega)]
    subst he
    clear g1 hpt
    cases hn:nmOk (s.drop k) with
    | false =>
     rw [hn] at g2
     rw [g2]
     (repeat' (first
 | (with_reducible first|refine callX.by (sane01_c _) ?_|assumption|(refine Qw hK _ ?_; clear hK K)|refine Qw ‹_› _ ?_|refine Qx ‹_› ?_|refine Qi fun K hK=>?_|refine Qj T fun K hK=>?_|refine Ql fun A B hA hB=>?_|refine Qm ?_|refine Qn ?_|refine Qp ?_|refine Qr ?_)
 | ((with_reducible first|apply Qy|apply Qz|apply QA)<;>intro hb<;>try simp only [nr] at hb)
 | simp only [go_sem,↓reduceIte,reduceIte,Qa,Qh,Qb,Qc,Qd,Qe,Qf,Qg,reduceCtorEq, *,-g2]
 | with_reducible refine fun (bn:Bool) hbn=>?_))
    | true =>
     rw [hn] at g2
     (repeat' (first
 | (with_reducible first|refine callX.by (sane01_c _) ?_|assumption|(refine Qw hK _ ?_; clear hK K)|refine Qw ‹_› _ ?_|refine Qx ‹_› ?_|refine Qi fun K hK=>?_|refine Qj T fun K hK=>?_|refine Ql fun A B hA hB=>?_|refine Qm ?_|refine Qn ?_|refine Qp ?_|refine Qr ?_)
 | ((with_reducible first|apply Qy|apply Qz|apply QA)<;>intro hb<;>try simp only [nr] at hb)
 | simp only [go_sem,↓reduceIte,reduceIte,Qa,Qh,Qb,Qc,Qd,Qe,Qf,Qg,reduceCtorEq, *,-g2]
 | with_reducible refine fun (bn:Bool) hbn=>?_))
     all_goals ((repeat clear hK); (repeat clear hA); (repeat clear hB))
     (refine hM.on (s.length+1 - (s.length+1)) (by omega) (by simp only [go_sem,↓reduceIte,reduceIte,Qa,Qh,Qb,Qc,Qd,Qe,Qf,Qg,reduceCtorEq, *,-g2]) ⟨s.length+1,s.length+1,rfl,by omega,fun h=>absurd h (by omega),fun _=>g2,by omega,?_⟩; simp only [go_sem,↓reduceIte,reduceIte,Qa,Qh,Qb,Qc,Qd,Qe,Qf,Qg,reduceCtorEq, *,-g2]; done)
   ·have hlt:i < s.length:=by omega
    have heI:¬ (i:Int)=(s.length:Int):=by omega
    have hltI:(i:Int) < (s.length:Int):=by omega
    have hgd:s.getD i 0=s[i]:=by rw [List.getD_eq_getElem?_getD,List.getElem?_eq_getElem hlt]; rfl
    have hq:(s.take i).drop k=(s.drop k).take (i - k):=List.drop_take
    by_cases hd:s[i]=46
    ·have hd2:((s.getD i 0).toNat:Int)=46:=by rw [hgd,hd]; rfl
     have hsp:=take_drop_split f1 hlt
     rw [hd] at hsp
     have hns:=names_split _ (s.drop (i+1)) g1
     rw [← hsp,← g2] at hns
     clear hsp g1 g2 hgd hd
     cases hn:nmOk ((s.drop k).take (i - k)) with
     | false =>
      rw [hn,Bool.false_and] at hns
      rw [hns]
      (repeat' (first
 | (with_reducible first|refine callX.by (sane01_c _) ?_|assumption|(refine Qw hK _ ?_; clear hK K)|refine Qw ‹_› _ ?_|refine Qx ‹_› ?_|refine Qi fun K hK=>?_|refine Qj T fun K hK=>?_|refine Ql fun A B hA hB=>?_|refine Qm ?_|refine Qn ?_|refine Qp ?_|refine Qr ?_)
 | ((with_reducible first|apply Qy|apply Qz|apply QA)<;>intro hb<;>try simp only [nr] at hb)
 | simp only [go_sem,↓reduceIte,reduceIte,Qa,Qh,Qb,Qc,Qd,Qe,Qf,Qg,reduceCtorEq, *,-hns]
 | with_reducible refine fun (bn:Bool) hbn=>?_))
     | true =>
      rw [hn,Bool.true_and] at hns
      (repeat' (first
 | (with_reducible first|refine callX.by (sane01_c _) ?_|assumption|(refine Qw hK _ ?_; clear hK K)|refine Qw ‹_› _ ?_|refine Qx ‹_› ?_|refine Qi fun K hK=>?_|refine Qj T fun K hK=>?_|refine Ql fun A B hA hB=>?_|refine Qm ?_|refine Qn ?_|refine Qp ?_|refine Qr ?_)
 | ((with_reducible first|apply Qy|apply Qz|apply QA)<;>intro hb<;>try simp only [nr] at hb)
 | simp only [go_sem,↓reduceIte,reduceIte,Qa,Qh,Qb,Qc,Qd,Qe,Qf,Qg,reduceCtorEq, *,-hns]
 | with_reducible refine fun (bn:Bool) hbn=>?_))
      all_goals ((repeat clear hK); (repeat clear hA); (repeat clear hB))
      (refine hM.on (s.length+1 - (i+1)) (by omega) (by simp only [go_sem,↓reduceIte,reduceIte,Qa,Qh,Qb,Qc,Qd,Qe,Qf,Qg,reduceCtorEq, *,-hns]) ⟨i+1,i+1,rfl,by omega,fun _=>⟨by simp,hns⟩,fun h=>absurd hlt (by omega),by omega,?_⟩; simp only [go_sem,↓reduceIte,reduceIte,Qa,Qh,Qb,Qc,Qd,Qe,Qf,Qg,reduceCtorEq, *,-hns]; done)
    ·have hd2:¬ ((s.getD i 0).toNat:Int)=46:=by
      rw [hgd]
      intro h
      exact hd (UInt8.toNat_inj.1 (by rw [show (46:UInt8).toNat=46 from rfl]; omega))
     have hg3:∀ c∈(s.drop k).take (i+1 - k),c≠46:=by
      intro c hc
      have hkl2:i - k < (s.drop k).length:=by rw [List.length_drop]; omega
      rw [show i+1 - k=(i - k)+1 by omega,List.take_succ_eq_append_getElem hkl2,List.mem_append,List.mem_singleton] at hc
      rcases hc with hc|rfl
      ·exact g1 c hc
      ·rw [List.getElem_drop]
       have:s[k+(i - k)]=s[i]:=by congr 1; omega
       rw [this]; exact hd
     clear g1 hgd hd hq
     (repeat' (first
 | (with_reducible first|refine callX.by (sane01_c _) ?_|assumption|(refine Qw hK _ ?_; clear hK K)|refine Qw ‹_› _ ?_|refine Qx ‹_› ?_|refine Qi fun K hK=>?_|refine Qj T fun K hK=>?_|refine Ql fun A B hA hB=>?_|refine Qm ?_|refine Qn ?_|refine Qp ?_|refine Qr ?_)
 | ((with_reducible first|apply Qy|apply Qz|apply QA)<;>intro hb<;>try simp only [nr] at hb)
 | simp only [go_sem,↓reduceIte,reduceIte,Qa,Qh,Qb,Qc,Qd,Qe,Qf,Qg,reduceCtorEq, *,-hg3,-g2]
 | with_reducible refine fun (bn:Bool) hbn=>?_))
     all_goals ((repeat clear hK); (repeat clear hA); (repeat clear hB))
     (refine hM.on (s.length+1 - (i+1)) (by omega) (by simp only [go_sem,↓reduceIte,reduceIte,Qa,Qh,Qb,Qc,Qd,Qe,Qf,Qg,reduceCtorEq, *,-hg3,-g2]) ⟨i+1,k,rfl,by omega,fun _=>⟨hg3,g2⟩,fun h=>absurd hlt (by omega),by omega,?_⟩; simp only [go_sem,↓reduceIte,reduceIte,Qa,Qh,Qb,Qc,Qd,Qe,Qf,Qg,reduceCtorEq, *,-hg3,-g2]; done)
  ·have hg:=f3 hle
   have hleI:¬ (i:Int)≤(s.length:Int):=by omega
   clear f2 f3
   (repeat' (first
 | (with_reducible first|refine callX.by (sane01_c _) ?_|assumption|(refine Qw hK _ ?_; clear hK K)|refine Qw ‹_› _ ?_|refine Qx ‹_› ?_|refine Qi fun K hK=>?_|refine Qj T fun K hK=>?_|refine Ql fun A B hA hB=>?_|refine Qm ?_|refine Qn ?_|refine Qp ?_|refine Qr ?_)
 | ((with_reducible first|apply Qy|apply Qz|apply QA)<;>intro hb<;>try simp only [nr] at hb)
 | simp only [go_sem,↓reduceIte,reduceIte,Qa,Qh,Qb,Qc,Qd,Qe,Qf,Qg,reduceCtorEq, *,-hg]
 | with_reducible refine fun (bn:Bool) hbn=>?_))
   all_goals ((repeat clear hK); (repeat clear hA); (repeat clear hB))
   all_goals exact hg.symm
theorem star_names {s:List UInt8} (h:hasPfx s [42,46]=true):namesOk s=false:=by
 simp only [hasPfx,Bool.and_eq_true,decide_eq_true_eq] at h
 obtain ⟨h1,h2⟩:=h
 have e:s=[42]++46 :: s.drop 2:=by
  have:=(List.take_append_drop 2 s).symm
  simp only [List.length_cons,List.length_nil] at h2
  rw [h2] at this
  exact this
 rw [e,names_split _ _ (by intro c hc; rw [List.mem_singleton] at hc; subst hc; decide)]
 rw [show nmOk [42]=false by decide,Bool.false_and]
theorem host01_c (s:List UInt8) (hl:Small s.length):CallR Tryz.prog 214 [.str s] (.val (.bool (hostOk s))):=by
 by_cases h40:40 < s.length
 ·have e:hostOk s=false:=by unfold hostOk; rw [decide_eq_false (by omega)]; rfl
  have hI:(40:Int) < (s.length:Int):=by omega
  rw [e]
  refine QD (T:=T) Tryz.call214 Tryz.func214 rfl Tryz.ntmps214 (congrArg Array.toList Tryz.results214) (by decide) fun ts hn h0=>?_
  (repeat' (first
 | (with_reducible first|refine callX.by (star01_c _) ?_|refine callX.by (names01_c _ ?_) ?_|assumption|(refine Qw hK _ ?_; clear hK K)|refine Qw ‹_› _ ?_|refine Qx ‹_› ?_|refine Qi fun K hK=>?_|refine Qj T fun K hK=>?_|refine Ql fun A B hA hB=>?_|refine Qn ?_|refine Qr ?_)
 | ((with_reducible first|apply Qy|apply Qz|apply QA)<;>intro hb<;>try simp only [nr] at hb)
 | simp only [go_sem,↓reduceIte,reduceIte,Qa,Qh,Qb,Qc,Qd,Qe,Qf,Qg,reduceCtorEq, *]
 | with_reducible refine fun (bn:Bool) hbn=>?_))
 have hI:¬ (40:Int) < (s.length:Int):=by omega
 have e:hostOk s=(decide (s=[42]) || namesOk (trimPfx s [42,46])):=by unfold hostOk; rw [decide_eq_true (by omega),Bool.true_and]
 rw [e]
 clear e
 cases hst:hasPfx s [42,46] with
 | false =>
  have e2:trimPfx s [42,46]=s:=by unfold trimPfx; rw [hst]; rfl
  rw [e2]
  refine QD (T:=T) Tryz.call214 Tryz.func214 rfl Tryz.ntmps214 (congrArg Array.toList Tryz.results214) (by decide) fun ts hn h0=>?_
  (repeat' (first
 | (with_reducible first|refine callX.by (star01_c _) ?_|refine callX.by (names01_c _ ?_) ?_|assumption|(refine Qw hK _ ?_; clear hK K)|refine Qw ‹_› _ ?_|refine Qx ‹_› ?_|refine Qi fun K hK=>?_|refine Qj T fun K hK=>?_|refine Ql fun A B hA hB=>?_|refine Qn ?_|refine Qr ?_)
 | ((with_reducible first|apply Qy|apply Qz|apply QA)<;>intro hb<;>try simp only [nr] at hb)
 | simp only [go_sem,↓reduceIte,reduceIte,Qa,Qh,Qb,Qc,Qd,Qe,Qf,Qg,reduceCtorEq, *]
 | with_reducible refine fun (bn:Bool) hbn=>?_))
  all_goals ((repeat clear hK); (repeat clear hA); (repeat clear hB))
  all_goals simp_all
 | true =>
  have e2:trimPfx s [42,46]=s.drop 2:=by unfold trimPfx; rw [hst]; rfl
  have h3:=star_names hst
  have h2:2≤s.length:=by
   simp only [hasPfx,Bool.and_eq_true,decide_eq_true_eq] at hst
   exact hst.1
  have h2I:(2:Int)≤(s.length:Int):=by omega
  have h02:(0:Int)≤2:=by decide
  have ht2:Int.toNat 2=2:=rfl
  have htk:(s.drop 2).take (s.length - 2)=s.drop 2:=List.take_of_length_le (by simp)
  have hl2:Small (s.drop 2).length:=by rw [List.length_drop]; unfold Small at *; omega
  rw [e2]
  clear e2
  refine QD (T:=T) Tryz.call214 Tryz.func214 rfl Tryz.ntmps214 (congrArg Array.toList Tryz.results214) (by decide) fun ts hn h0=>?_
  (repeat' (first
 | (with_reducible first|refine callX.by (star01_c _) ?_|refine callX.by (names01_c _ ?_) ?_|assumption|(refine Qw hK _ ?_; clear hK K)|refine Qw ‹_› _ ?_|refine Qx ‹_› ?_|refine Qi fun K hK=>?_|refine Qj T fun K hK=>?_|refine Ql fun A B hA hB=>?_|refine Qn ?_|refine Qr ?_)
 | ((with_reducible first|apply Qy|apply Qz|apply QA)<;>intro hb<;>try simp only [nr] at hb)
 | simp only [go_sem,↓reduceIte,reduceIte,Qa,Qh,Qb,Qc,Qd,Qe,Qf,Qg,reduceCtorEq, *,List.drop_take]
 | with_reducible refine fun (bn:Bool) hbn=>?_))
  all_goals ((repeat clear hK); (repeat clear hA); (repeat clear hB))
  all_goals simp_all
theorem pthL_all:∀ l:List UInt8,pthL l=l.all fun b=>plainR b.toNat || decide ((b.toNat:Int)=47)
 | []=>rfl
 | b :: r=>by rw [pthL,pthL_all r,List.all_cons]
theorem hasPfx1 {s:List UInt8} (h:0 < s.length):hasPfx s [47]=decide ((s[0].toNat:Int)=47):=by
 cases s with
 | nil=>simp at h
 | cons b r =>
  show (decide (1≤(b :: r).length) && decide ((b :: r).take 1=[47]))=_
  rw [Bool.eq_iff_iff,Bool.and_eq_true,decide_eq_true_eq,decide_eq_true_eq,decide_eq_true_eq]
  simp only [List.take_succ_cons,List.take_zero,List.getElem_cons_zero,List.cons.injEq,and_true]
  constructor
  ·rintro ⟨_,rfl⟩; rfl
  ·intro h; exact ⟨by simp,UInt8.toNat_inj.1 (by rw [show (47:UInt8).toNat=47 from rfl]; omega)⟩
theorem path01_c (s:List UInt8):CallR Tryz.prog 215 [.str s] (.val (.bool (pthOk s))):=by
 by_cases h0:s.length=0
 ·have e:pthOk s=false:=by rw [List.length_eq_zero_iff.1 h0]; rfl
  have h1:(s.length:Int) < 1:=by omega
  rw [e]
  refine QD (T:=T) Tryz.call215 Tryz.func215 rfl Tryz.ntmps215 (congrArg Array.toList Tryz.results215) (by decide) fun ts hn h0=>?_
  (repeat' (first
 | (with_reducible first|refine callX.by (part01_c _) ?_|assumption|(refine Qw hK _ ?_; clear hK K)|refine Qw ‹_› _ ?_|refine Qx ‹_› ?_|refine Qi fun K hK=>?_|refine Qj T fun K hK=>?_|refine Ql fun A B hA hB=>?_|refine Qm ?_|refine Qn ?_|refine Qp ?_|refine Qr ?_)
 | ((with_reducible first|apply Qy|apply Qz|apply QA)<;>intro hb<;>try simp only [nr] at hb)
 | simp only [go_sem,↓reduceIte,reduceIte,Qa,Qh,Qb,Qc,Qd,Qe,Qf,Qg,reduceCtorEq, *]
 | with_reducible refine fun (bn:Bool) hbn=>?_))
 have hp:0 < s.length:=by omega
 have h1:¬ (s.length:Int) < 1:=by omega
 have h1n:¬ s.length < 1:=by omega
 by_cases h40:40 < s.length
 ·have e:pthOk s=false:=by unfold pthOk; rw [decide_eq_false (by omega)]; simp
  have h2:(40:Int) < (s.length:Int):=by omega
  rw [e]
  refine QD (T:=T) Tryz.call215 Tryz.func215 rfl Tryz.ntmps215 (congrArg Array.toList Tryz.results215) (by decide) fun ts hn h0=>?_
  (repeat' (first
 | (with_reducible first|refine callX.by (part01_c _) ?_|assumption|(refine Qw hK _ ?_; clear hK K)|refine Qw ‹_› _ ?_|refine Qx ‹_› ?_|refine Qi fun K hK=>?_|refine Qj T fun K hK=>?_|refine Ql fun A B hA hB=>?_|refine Qm ?_|refine Qn ?_|refine Qp ?_|refine Qr ?_)
 | ((with_reducible first|apply Qy|apply Qz|apply QA)<;>intro hb<;>try simp only [nr] at hb)
 | simp only [go_sem,↓reduceIte,reduceIte,Qa,Qh,Qb,Qc,Qd,Qe,Qf,Qg,reduceCtorEq, *]
 | with_reducible refine fun (bn:Bool) hbn=>?_))
 have h2:¬ (40:Int) < (s.length:Int):=by omega
 have hsm:Small s.length:=by unfold Small; omega
 have hpI:(0:Int) < (s.length:Int):=by omega
 have hgd:s.getD 0 0=s[0]:=by rw [List.getD_eq_getElem?_getD,List.getElem?_eq_getElem hp]; rfl
 by_cases h47:(s[0].toNat:Int)=47
 rotate_left
 ·have e:pthOk s=false:=by unfold pthOk; rw [hasPfx1 hp,decide_eq_false h47]; simp
  have h3:¬ ((s.getD 0 0).toNat:Int)=47:=by rw [hgd]; exact h47
  rw [e]
  clear hgd h47
  refine QD (T:=T) Tryz.call215 Tryz.func215 rfl Tryz.ntmps215 (congrArg Array.toList Tryz.results215) (by decide) fun ts hn h0=>?_
  (repeat' (first
 | (with_reducible first|refine callX.by (part01_c _) ?_|assumption|(refine Qw hK _ ?_; clear hK K)|refine Qw ‹_› _ ?_|refine Qx ‹_› ?_|refine Qi fun K hK=>?_|refine Qj T fun K hK=>?_|refine Ql fun A B hA hB=>?_|refine Qm ?_|refine Qn ?_|refine Qp ?_|refine Qr ?_)
 | ((with_reducible first|apply Qy|apply Qz|apply QA)<;>intro hb<;>try simp only [nr] at hb)
 | simp only [go_sem,↓reduceIte,reduceIte,Qa,Qh,Qb,Qc,Qd,Qe,Qf,Qg,reduceCtorEq, *,Int.toNat_zero,Int.le_refl]
 | with_reducible refine fun (bn:Bool) hbn=>?_))
 have e:pthOk s=s.all fun b=>plainR b.toNat || decide ((b.toNat:Int)=47):=by
  unfold pthOk
  rw [hasPfx1 hp,decide_eq_true h47,decide_eq_true (by omega),pthL_all]; simp
 have h3:((s.getD 0 0).toNat:Int)=47:=by rw [hgd]; exact h47
 rw [e]
 clear hgd h47 e
 refine QD (T:=T) Tryz.call215 Tryz.func215 rfl Tryz.ntmps215 (congrArg Array.toList Tryz.results215) (by decide) fun ts hn h0=>?_
 (repeat' (first
 | (with_reducible first|refine callX.by (part01_c _) ?_|assumption|(refine Qw hK _ ?_; clear hK K)|refine Qw ‹_› _ ?_|refine Qx ‹_› ?_|refine Qi fun K hK=>?_|refine Qj T fun K hK=>?_|refine Ql fun A B hA hB=>?_|refine Qm ?_|refine Qn ?_|refine Qp ?_|refine Qr ?_)
 | ((with_reducible first|apply Qy|apply Qz|apply QA)<;>intro hb<;>try simp only [nr] at hb)
 | simp only [go_sem,↓reduceIte,reduceIte,Qa,Qh,Qb,Qc,Qd,Qe,Qf,Qg,reduceCtorEq, *,Int.toNat_zero,Int.le_refl]
 | with_reducible refine fun (bn:Bool) hbn=>?_))
 refine Qs [0] (fun m ts'=>∃ (i:Nat),m=s.length - i∧i≤s.length∧s.all (fun b=>plainR b.toNat || decide ((b.toNat:Int)=47))=(s.drop i).all (fun b=>plainR b.toNat || decide ((b.toNat:Int)=47))∧ts'.tmp 3=.int .i64 i) s.length ?_ ?_
 ·refine ⟨0,rfl,Nat.zero_le _,rfl,?_⟩
  simp only [go_sem,↓reduceIte,reduceIte,Qa,Qh,Qb,Qc,Qd,Qe,Qf,Qg,reduceCtorEq, *]
 ·rintro m A hM ts' hk ⟨i,hm,f1,f2,s1⟩
  simp only [go_sem,↓reduceIte,reduceIte,Qa,Qh,Qb,Qc,Qd,Qe,Qf,Qg,reduceCtorEq, *] at hk
  by_cases hlt:i < s.length
  ·rw [List.drop_eq_getElem_cons hlt,List.all_cons] at f2
   have hgi:s.getD i 0=s[i]:=by rw [List.getD_eq_getElem?_getD,List.getElem?_eq_getElem hlt]; rfl
   obtain ⟨q1,hq1⟩:∃ q1,plainR s[i].toNat=q1:=⟨_,rfl⟩
   obtain ⟨q2,hq2⟩:∃ q2,decide ((s[i].toNat:Int)=47)=q2:=⟨_,rfl⟩
   rw [hq1,hq2] at f2
   rw [← hgi] at hq1 hq2
   clear hgi
   cases q1 with
   | true =>
    rw [Bool.true_or,Bool.true_and] at f2
    (repeat' (first
 | (with_reducible first|refine callX.by (part01_c _) ?_|assumption|(refine Qw hK _ ?_; clear hK K)|refine Qw ‹_› _ ?_|refine Qx ‹_› ?_|refine Qi fun K hK=>?_|refine Qj T fun K hK=>?_|refine Ql fun A B hA hB=>?_|refine Qm ?_|refine Qn ?_|refine Qp ?_|refine Qr ?_)
 | ((with_reducible first|apply Qy|apply Qz|apply QA)<;>intro hb<;>try simp only [nr] at hb)
 | simp only [go_sem,↓reduceIte,reduceIte,Qa,Qh,Qb,Qc,Qd,Qe,Qf,Qg,reduceCtorEq, *,-f2]
 | with_reducible refine fun (bn:Bool) hbn=>?_))
    all_goals ((repeat clear hK); (repeat clear hA); (repeat clear hB))
    (refine hM.on (s.length - (i+1)) (by omega) (by simp only [go_sem,↓reduceIte,reduceIte,Qa,Qh,Qb,Qc,Qd,Qe,Qf,Qg,reduceCtorEq, *,w64_nat hlt hsm,-f2]) ⟨i+1,rfl,by omega,f2,?_⟩; simp only [go_sem,↓reduceIte,reduceIte,Qa,Qh,Qb,Qc,Qd,Qe,Qf,Qg,reduceCtorEq, *,w64_nat hlt hsm,-f2]; done)
   | false =>
    cases q2 with
    | true =>
     rw [Bool.or_true,Bool.true_and] at f2
     (repeat' (first
 | (with_reducible first|refine callX.by (part01_c _) ?_|assumption|(refine Qw hK _ ?_; clear hK K)|refine Qw ‹_› _ ?_|refine Qx ‹_› ?_|refine Qi fun K hK=>?_|refine Qj T fun K hK=>?_|refine Ql fun A B hA hB=>?_|refine Qm ?_|refine Qn ?_|refine Qp ?_|refine Qr ?_)
 | ((with_reducible first|apply Qy|apply Qz|apply QA)<;>intro hb<;>try simp only [nr] at hb)
 | simp only [go_sem,↓reduceIte,reduceIte,Qa,Qh,Qb,Qc,Qd,Qe,Qf,Qg,reduceCtorEq, *,-f2]
 | with_reducible refine fun (bn:Bool) hbn=>?_))
     all_goals ((repeat clear hK); (repeat clear hA); (repeat clear hB))
     (refine hM.on (s.length - (i+1)) (by omega) (by simp only [go_sem,↓reduceIte,reduceIte,Qa,Qh,Qb,Qc,Qd,Qe,Qf,Qg,reduceCtorEq, *,w64_nat hlt hsm,-f2]) ⟨i+1,rfl,by omega,f2,?_⟩; simp only [go_sem,↓reduceIte,reduceIte,Qa,Qh,Qb,Qc,Qd,Qe,Qf,Qg,reduceCtorEq, *,w64_nat hlt hsm,-f2]; done)
    | false =>
     have h47:=of_decide_eq_false hq2
     rw [Bool.or_false,Bool.false_and] at f2
     rw [f2]
     (repeat' (first
 | (with_reducible first|refine callX.by (part01_c _) ?_|assumption|(refine Qw hK _ ?_; clear hK K)|refine Qw ‹_› _ ?_|refine Qx ‹_› ?_|refine Qi fun K hK=>?_|refine Qj T fun K hK=>?_|refine Ql fun A B hA hB=>?_|refine Qm ?_|refine Qn ?_|refine Qp ?_|refine Qr ?_)
 | ((with_reducible first|apply Qy|apply Qz|apply QA)<;>intro hb<;>try simp only [nr] at hb)
 | simp only [go_sem,↓reduceIte,reduceIte,Qa,Qh,Qb,Qc,Qd,Qe,Qf,Qg,reduceCtorEq, *,-f2]
 | with_reducible refine fun (bn:Bool) hbn=>?_))
  ·rw [List.drop_eq_nil_of_le (by omega),List.all_nil] at f2
   (repeat' (first
 | (with_reducible first|refine callX.by (part01_c _) ?_|assumption|(refine Qw hK _ ?_; clear hK K)|refine Qw ‹_› _ ?_|refine Qx ‹_› ?_|refine Qi fun K hK=>?_|refine Qj T fun K hK=>?_|refine Ql fun A B hA hB=>?_|refine Qm ?_|refine Qn ?_|refine Qp ?_|refine Qr ?_)
 | ((with_reducible first|apply Qy|apply Qz|apply QA)<;>intro hb<;>try simp only [nr] at hb)
 | simp only [go_sem,↓reduceIte,reduceIte,Qa,Qh,Qb,Qc,Qd,Qe,Qf,Qg,reduceCtorEq, *,-f2]
 | with_reducible refine fun (bn:Bool) hbn=>?_))
   all_goals ((repeat clear hK); (repeat clear hA); (repeat clear hB))
   all_goals exact f2.symm
end Go.Proofs.YtmjkjmoeicnbnaaGreatDoor.Lg
