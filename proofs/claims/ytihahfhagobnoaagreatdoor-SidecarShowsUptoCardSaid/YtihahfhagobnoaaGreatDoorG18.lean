/- Parts of the proof, one behind the other. -/
import Derived.Test.YtihahfhagobnoaaGreatDoorG17
namespace Go.Proofs.YtihahfhagobnoaaGreatDoor.Lg
set_option maxRecDepth 100000
set_option linter.unusedVariables false
set_option linter.unusedSimpArgs false
open Go
theorem Jlr{l:List Res}(h:Yy l=0):∀r∈l,Vc r=0:=by
 induction l with
 |nil=>simp
 |cons r l ih =>
  unfold Yy at h
  split at h
  ·rename_i hs
   intro x hx
   rcases List.mem_cons.1 hx with rfl|hx
   ·exact hs
   ·exact ih h x hx
  ·rename_i hs;exact absurd h hs
theorem Jlq{l:List Res}(h:∀r∈l,Vc r=0):Yy l=0:=by
 induction l with
 |nil=>rfl
 |cons r l ih=>unfold Yy;rw[if_pos (h r (by simp))];exact ih fun x hx=>h x (by simp[hx])
theorem Jgw:∀l:List Res,Za l=true↔Up (l.map Jg)
 | []=>by simp[Za,Up]
 | [a]=>by simp[Za,Up]
 |a :: b :: l=>by
  rw[Jj9,Bool.and_eq_true,Jgw (b :: l),decide_eq_true_eq]
  simp only[List.map_cons]
  constructor
  ·rintro⟨h1,h2⟩
   refine List.pairwise_cons.2 ⟨fun x hx=>?_,h2⟩
   rcases List.mem_cons.1 hx with rfl|hx
   ·exact h1
   ·exact JcQ _ _ _ h1 ((List.pairwise_cons.1 h2).1 x hx)
  ·intro h
   obtain⟨h1,h2⟩:=List.pairwise_cons.1 h
   exact⟨h1 _ (by simp),h2⟩
structure Conf(l:List Res):Prop where
 len:l.length≤64
 sane:∀r∈l,Vc r=0
 up:Up (l.map Jg)
theorem Z6{l:List Res}(h:JN l=0):Conf l:=by
 unfold JN at h
 split at h
 ·cases h
 ·rename_i h1
  split at h
  ·rename_i h2;exact absurd h h2
  ·rename_i h2
   split at h
   ·cases h
   ·rename_i h3
    exact⟨by omega,Jlr (by simpa using h2),(Jgw l).1 (by simpa using h3)⟩
theorem JrX{l:List Key}(h:Up l):l.Nodup:=by
 unfold Up at h
 refine h.imp fun {a b} hab e=>?_
 subst e
 exact Jik _ hab
theorem Conf.nodup{l:List Res}(h:Conf l):(l.map Jg).Nodup:=JrX h.up
inductive Rch(l:List Res):Key→Prop
 |base (r:Res):r∈l→r.kind=0→Rch l (Jg r)
 |step (r:Res) (x:Key):r∈l→Rch l (Jg r)→x∈JH r→x∈l.map Jg→Rch l x
theorem Rch.mem{l:List Res}{k:Key}(h:Rch l k):k∈l.map Jg:=by
 cases h with
 |base r hr _=>exact List.mem_map_of_mem hr
 |step r x _ _ _ h=>exact h
section dfs
variable (T0:KS) (N:List (Key×List Key))
def Jct(k:Key):List Key:=(JB N k).getD []
inductive Way:Key→Key→Prop
 |refl (k:Key):Jn T0 k=true→Way k k
 |step (k x y:Key):Jn T0 k=true→x∈Jct N k→Way x y→Way k y
abbrev Jcz(A B:KS):Prop:=∀x,Jn B x=true→Jn A x=false→∀y∈Jct N x,Jn T0 y=true→Jn B y=true
theorem dfs(n:Nat):∀(k:Key) (M:KS),YE T0 M≤n →
  (Jn T0 k=true→Jn (JQ T0 N n k M) k=true) ∧
  (∀x,Jn (JQ T0 N n k M) x=true→Jn M x=false→Way T0 N k x)∧Jcz T0 N M (JQ T0 N n k M):=by
 induction n with
 |zero =>
  intro k M hmu
  have h0:∀k,Jn T0 k=true→Jn M k=true:=fun k hk=>by
   cases hm:Jn M k with
   |true=>rfl
   |false=>have:=Jeb hk hm;omega
  exact⟨h0 k,fun x hx hx'=>absurd (Eq.trans (Eq.symm (show Jn M x=true from hx)) hx') (by decide),fun x hx hx'=>absurd (Eq.trans (Eq.symm (show Jn M x=true from hx)) hx') (by decide)⟩
 |succ n ih =>
  intro k M hmu
  by_cases hc:Jn T0 k=true∧Jn M k=false
  rotate_left
  ·have e:JQ T0 N (n+1) k M=M:=by rw[JQ,if_neg hc]
   rw[e]
   refine⟨fun hk=>?_,fun x hx hx'=>absurd (Eq.trans (Eq.symm hx) hx') (by decide),fun x hx hx'=>absurd (Eq.trans (Eq.symm hx) hx') (by decide)⟩
   cases hm:Jn M k with
   |true=>rfl
   |false=>exact absurd ⟨hk,hm⟩ hc
  ·obtain⟨hk,hm⟩:=hc
   have e:JQ T0 N (n+1) k M=(Jct N k).foldl (fun M x=>JQ T0 N n x M) (JV M k true):=by rw[JQ,if_pos ⟨hk,hm⟩];rfl
   have hmu1:YE T0 (JV M k true)≤n:=by have:=Jeb hk hm;omega
   have fold:∀(v:List Key) (M1:KS),YE T0 M1≤n →
     (∀x,Jn M1 x=true→Jn (v.foldl (fun M x=>JQ T0 N n x M) M1) x=true) ∧
     (∀y∈v,Jn T0 y=true→Jn (v.foldl (fun M x=>JQ T0 N n x M) M1) y=true) ∧
     (∀x,Jn (v.foldl (fun M x=>JQ T0 N n x M) M1) x=true→Jn M1 x=false→∃y∈v,Way T0 N y x) ∧
     Jcz T0 N M1 (v.foldl (fun M x=>JQ T0 N n x M) M1):=by
    intro v
    induction v with
    |nil=>exact fun M1 _=>⟨fun x h=>h,by simp,fun x h h'=>absurd (Eq.trans (Eq.symm (show Jn M1 x=true from h)) h') (by decide),fun x h h'=>absurd (Eq.trans (Eq.symm (show Jn M1 x=true from h)) h') (by decide)⟩
    |cons y v ihv =>
     intro M1 h1
     rw[List.foldl_cons]
     obtain⟨a1,a2,a3⟩:=ih y M1 h1
     have hg:∀x,Jn M1 x=true→Jn (JQ T0 N n y M1) x=true:=fun x hx=>JeW T0 N n y M1 x hx
     obtain⟨b1,b2,b3,b4⟩:=ihv (JQ T0 N n y M1) (Nat.le_trans (Jix hg) h1)
     refine⟨fun x hx=>b1 x (hg x hx),fun z hz hzT=>?_,fun x hx hx'=>?_,fun x hx hx' z hz hzT=>?_⟩
     ·rcases List.mem_cons.1 hz with rfl|hz
      ·exact b1 _ (a1 hzT)
      ·exact b2 z hz hzT
     ·cases hv:Jn (JQ T0 N n y M1) x with
      |true=>exact⟨y,by simp,a2 x hv hx'⟩
      |false=>obtain⟨z,hz,hw⟩:=b3 x hx hv;exact⟨z,by simp[hz],hw⟩
     ·cases hv:Jn (JQ T0 N n y M1) x with
      |true=>exact b1 _ (a3 x hv hx' z hz hzT)
      |false=>exact b4 x hx hv z hz hzT
   obtain⟨b1,b2,b3,b4⟩:=fold (Jct N k) (JV M k true) hmu1
   rw[e]
   refine⟨fun _=>b1 k (by rw[Ja8];simp),fun x hx hx'=>?_,fun x hx hx' y hy hyT=>?_⟩
   ·cases hp:Jn (JV M k true) x with
    |true =>
     rw[Ja8,hx'] at hp
     have:x=k:=by simpa using hp
     subst this
     exact .refl _ hk
    |false =>
     obtain⟨y,hy,hw⟩:=b3 x hx hp
     exact .step k y x hk hy hw
   ·cases hp:Jn (JV M k true) x with
    |true =>
     rw[Ja8,hx'] at hp
     have:x=k:=by simpa using hp
     subst this
     exact b2 y hy hyT
    |false=>exact b4 x hx hp y hy hyT
theorem Jf9(n:Nat)(hn:∀M,YE T0 M≤n):∀(l:List Res) (M:KS),Jcz T0 N [] M →
  Jcz T0 N [] (YR T0 N n l M)∧(∀x,Jn M x=true→Jn (YR T0 N n l M) x=true)∧(∀r∈l,r.kind=0→Jn T0 (Jg r)=true→Jn (YR T0 N n l M) (Jg r)=true) ∧
  ∀x,Jn (YR T0 N n l M) x=true→Jn M x=true∨∃r∈l,r.kind=0∧Way T0 N (Jg r) x
 | [],M,h=>⟨h,fun x hx=>hx,by simp,fun x hx=>.inl hx⟩
 |r :: l,M,h=>by
  have e:YR T0 N n (r :: l) M=YR T0 N n l (if r.kind=0 then JQ T0 N n (Jg r) M else M):=rfl
  rw[e]
  by_cases hk:r.kind=0
  ·rw[if_pos hk]
   obtain⟨a1,a2,a3⟩:=dfs T0 N n (Jg r) M (hn M)
   have hg:∀x,Jn M x=true→Jn (JQ T0 N n (Jg r) M) x=true:=fun x hx=>JeW T0 N n _ M x hx
   have hs:Jcz T0 N [] (JQ T0 N n (Jg r) M):=fun x hx _ y hy hyT=>by
    cases hm:Jn M x with
    |true=>exact hg _ (h x hm rfl y hy hyT)
    |false=>exact a3 x hx hm y hy hyT
   obtain⟨b1,b2,b3,b4⟩:=Jf9 n hn l _ hs
   refine⟨b1,fun x hx=>b2 x (hg x hx),fun q hq hq0 hqT=>?_,fun x hx=>?_⟩
   ·rcases List.mem_cons.1 hq with rfl|hq
    ·exact b2 _ (a1 hqT)
    ·exact b3 q hq hq0 hqT
   ·rcases b4 x hx with h1|⟨q,hq,h1,h2⟩
    ·cases hm:Jn M x with
     |true=>exact .inl rfl
     |false=>exact .inr ⟨r,by simp,hk,a2 x h1 hm⟩
    ·exact .inr ⟨q,by simp[hq],h1,h2⟩
  ·rw[if_neg hk]
   obtain⟨b1,b2,b3,b4⟩:=Jf9 n hn l M h
   refine⟨b1,b2,fun q hq hq0 hqT=>?_,fun x hx=>?_⟩
   ·rcases List.mem_cons.1 hq with rfl|hq
    ·exact absurd hq0 hk
    ·exact b3 q hq hq0 hqT
   ·rcases b4 x hx with h1|⟨q,hq,h1,h2⟩
    ·exact .inl h1
    ·exact .inr ⟨q,by simp[hq],h1,h2⟩
end dfs
theorem JbV(l:List Res)(k:Key):Jn (Vj l []) k=decide (k∈l.map Jg):=by rw[Jiu];simp[Jn]
theorem Jnt(l:List Res)(k:Key):Jn (V2 l) k=true↔Rch l k:=by
 have hT:∀k,Jn (Vj l []) k=true↔k∈l.map Jg:=fun k=>by rw[JbV];simp
 obtain⟨b1,_,b3,b4⟩:=Jf9 (Vj l []) (YP l) (Vj l []).length (fun M=>List.length_filter_le _ _) l [] (fun x hx=>by simp[Jn] at hx)
 have hsucc:∀k∈l.map Jg,Jct (YP l) k=Z3 k l:=fun k hk=>by unfold Jct;rw[JiE hk];rfl
 constructor
 ·intro hk
  rcases b4 k hk with h1|⟨r,hr,h0,hw⟩
  ·simp[Jn] at h1
  ·have:∀ {a b:Key},Way (Vj l []) (YP l) a b→Rch l a→Rch l b:=by
    intro a b hw
    induction hw with
    |refl=>exact fun h=>h
    |step k x y hk hx hw ih =>
     intro ha
     refine ih ?_
     rw[hsucc k ((hT k).1 hk)] at hx
     obtain⟨q,hq,e,hx⟩:=mem_cat.1 hx
     refine .step q x hq (e▸ha) hx ?_
     cases hw with
     |refl _ hx'=>exact(hT x).1 hx'
     |step _ _ _ hx'=>exact(hT x).1 hx'
   exact this hw (.base r hr h0)
 ·intro hk
  induction hk with
  |base r hr h0=>exact b3 r hr h0 ((hT _).2 (List.mem_map_of_mem hr))
  |step r x hr _ hx hx' ih=>exact b1 _ ih rfl x (by rw[hsucc _ (List.mem_map_of_mem hr)];exact mem_cat.2 ⟨r,hr,rfl,hx⟩) ((hT x).2 hx')
theorem Jet{l:List Res}(_:(l.map Jg).Nodup)(k:Key):Jn (V2 l) k=true↔Rch l k:=Jnt l k
theorem Ja9{l:List Res}(h:(l.map Jg).Nodup)(r:Res):r∈JL l↔r∈l∧Rch l (Jg r):=by
 unfold JL
 rw[List.mem_filter,Jet h]
theorem JfO{l m:List Res}(h:(l.map Jg).Nodup)(hs:m.Sublist l):(m.map Jg).Nodup:=h.sublist (hs.map _)
theorem JaJ(l:List Res):(JL l).Sublist l:=List.filter_sublist
theorem Jf8{l:List Res}(h:(l.map Jg).Nodup){k:Key}(hk:Rch l k):k∈(JL l).map Jg:=by
 obtain⟨r,hr,rfl⟩:=List.mem_map.1 hk.mem
 exact List.mem_map_of_mem ((Ja9 h r).2 ⟨hr,hk⟩)
theorem Jjk{l:List Res}(h:(l.map Jg).Nodup){k:Key}(hk:Rch l k):Rch (JL l) k:=by
 induction hk with
 |base r hr h0=>exact .base r ((Ja9 h r).2 ⟨hr,.base r hr h0⟩) h0
 |step r x hr hk hx hx' ih=>exact .step r x ((Ja9 h r).2 ⟨hr,hk⟩) ih hx (Jf8 h (.step r x hr hk hx hx'))
theorem Jns{l:List Res}(h:(l.map Jg).Nodup):JL (JL l)=JL l:=by
 have h2:=JfO h (JaJ l)
 show(JL l).filter (fun r=>Jn (V2 (JL l)) (Jg r))=JL l
 refine List.filter_eq_self.2 fun r hr=>?_
 rw[Jet h2]
 exact Jjk h ((Ja9 h r).1 hr).2
theorem JgP{α:Type}{p q:α→Bool}{l:List α}(h:∀x∈l,p x=q x):l.any p=l.any q:=by
 induction l with
 |nil=>rfl
 |cons x l ih=>rw[List.any_cons,List.any_cons,h x (by simp),ih fun y hy=>h y (by simp[hy])]
theorem Jn1{l:List Res}(h:(l.map Jg).Nodup):Vq (JL l)=Vq l:=by
 have e:((JL l).any (ZN (Vj (JL l) [])))=(JL l).any (ZN (Vj l [])):=JgP fun r hr=>JgP fun k hk=>by
  obtain⟨h1,h2⟩:=(Ja9 h r).1 hr
  rw[JbV,JbV]
  congr 1
  rw[decide_eq_decide]
  exact⟨fun hk'=>((JaJ l).map Jg).subset hk',fun hk'=>Jf8 h (.step r k h1 h2 hk hk')⟩
 unfold Vq
 rw[Jns h,e]
theorem JmY{l:List Res}(h:(l.map Jg).Nodup):Jce (JL l)=[]:=by
 unfold Jce
 rw[List.filter_eq_nil_iff]
 intro k hk
 obtain⟨r,hr,rfl⟩:=List.mem_map.1 hk
 have:=(Jet (JfO h (JaJ l)) (Jg r)).2 (Jjk h ((Ja9 h r).1 hr).2)
 simp[this]
end Go.Proofs.YtihahfhagobnoaaGreatDoor.Lg
namespace Go.Proofs.YtihahfhagobnoaaGreatDoor.Lg
set_option maxRecDepth 100000
set_option linter.unusedVariables false
set_option linter.unusedSimpArgs false
open Go
open Nat renaming reduceEqDiff → Qa, reduceLT → Qb, reduceLeDiff → Qc, reduceAdd → Qd, reduceMul → Qe, reduceSub → Qf, reduceBEq → Qg
open String renaming reduceEq → Qh
open SpecC renaming seqW → Qi, regW → Qj, drawW → Qk, condW → Ql, block → Qm, skip → Qn, exit → Qp, ret → Qr, loopF → Qs, regUW → Qt
open NxK renaming out → Qw
open Nx renaming out → Qx
open condK renaming split → Qy
open gK renaming split_t → Qz, split_f → QA
open CallR renaming go1 → QD
theorem Jec:CallR Tryz.prog 156 [.int .i64 0] (.val (.tup [])):=by
 refine QD (T:=T) Tryz.call156 Tryz.func156 rfl Tryz.ntmps156 (congrArg Array.toList Tryz.results156) (by decide) fun ts hn h0=>?_
 (repeat' (first
 | (with_reducible first|assumption|(refine Qw hK _ ?_;clear hK K)|refine Qw ‹_› _ ?_|refine Qx ‹_› ?_|refine Qi fun K hK=>?_|refine Qj T fun K hK=>?_|refine Ql fun A B hA hB=>?_|refine Qn ?_|refine Qr ?_)
 | ((with_reducible first|apply Qy|apply Qz|apply QA)<;>intro hb<;>try simp only[nr] at hb)
 |simp only[go_sem,↓reduceIte,reduceIte,Qa,Qh,Qb,Qc,Qd,Qe,Qf,Qg,reduceCtorEq, *]
 |with_reducible refine fun(bn:Bool) hbn=>?_))
theorem JfL(e:Int)(he:¬e=0):CallU Tryz.prog 156 [.int .i64 e] (ZF e):=by
 refine CallU.go1 Tryz.call156 Tryz.func156 rfl Tryz.ntmps156 (by decide) fun ts hn h0=>?_
 (repeat' (first
 | (with_reducible first|refine Qt T 3 (id:=1) rfl rfl fun K hK=>?_|refine UpK.panicT (u:=216) (n:=e) ?_ ?_|assumption|(refine Qw hK _ ?_;clear hK K)|refine Qw ‹_› _ ?_|refine Qx ‹_› ?_|refine Qi fun K hK=>?_|refine Qj T fun K hK=>?_|refine Ql fun A B hA hB=>?_|refine Qn ?_|refine Qr ?_)
 | ((with_reducible first|apply Qy|apply Qz|apply QA)<;>intro hb<;>try simp only[nr] at hb)
 |simp only[go_sem,↓reduceIte,reduceIte,Qa,Qh,Qb,Qc,Qd,Qe,Qf,Qg,reduceCtorEq, *]
 |with_reducible refine fun(bn:Bool) hbn=>?_))
 all_goals first|rfl|trace_state
theorem Jbv(b:Bool)(e:Int):CallR Tryz.prog 157 [.bool b,.int .i64 e] (.val (.int .i64 (if b=true then 0 else e))):=by
 cases b
 ·refine CallR.go2 (T:=T) Tryz.call157 Tryz.func157 rfl Tryz.ntmps157 (congrArg Array.toList Tryz.results157) (by decide) fun ts hn h0 h1=>?_
  (repeat' (first
 | (with_reducible first|assumption|(refine Qw hK _ ?_;clear hK K)|refine Qw ‹_› _ ?_|refine Qx ‹_› ?_|refine Qi fun K hK=>?_|refine Qj T fun K hK=>?_|refine Ql fun A B hA hB=>?_|refine Qn ?_|refine Qr ?_)
 | ((with_reducible first|apply Qy|apply Qz|apply QA)<;>intro hb<;>try simp only[nr] at hb)
 |simp only[go_sem,↓reduceIte,reduceIte,Qa,Qh,Qb,Qc,Qd,Qe,Qf,Qg,reduceCtorEq, *]
 |with_reducible refine fun(bn:Bool) hbn=>?_))
 ·refine CallR.go2 (T:=T) Tryz.call157 Tryz.func157 rfl Tryz.ntmps157 (congrArg Array.toList Tryz.results157) (by decide) fun ts hn h0 h1=>?_
  (repeat' (first
 | (with_reducible first|assumption|(refine Qw hK _ ?_;clear hK K)|refine Qw ‹_› _ ?_|refine Qx ‹_› ?_|refine Qi fun K hK=>?_|refine Qj T fun K hK=>?_|refine Ql fun A B hA hB=>?_|refine Qn ?_|refine Qr ?_)
 | ((with_reducible first|apply Qy|apply Qz|apply QA)<;>intro hb<;>try simp only[nr] at hb)
 |simp only[go_sem,↓reduceIte,reduceIte,Qa,Qh,Qb,Qc,Qd,Qe,Qf,Qg,reduceCtorEq, *]
 |with_reducible refine fun(bn:Bool) hbn=>?_))
def J0(cap:Int)(l:List Res):Int:=if ¬JN l=0 then JN l else if(l.length:Int)≤cap then Vq l else 8
theorem Jiz(cap:Int)(m l:List Res)(hl:l.length≤65536)(hs:∀r∈l,Ju r)(hnd:JN l=0→(l.map Jg).Nodup)(hm:J0 cap l=0) :
  CallR Tryz.prog 111 [.agg [.int .i64 cap,.slice false (Ja m)],.slice false (Ja l)] (.val (.tup [])):=by
 have hsl:=ZE hl
 have ht:JN l=0:=by
  by_cases h:JN l=0
  ·exact h
  ·unfold J0 at hm;rw[if_pos h] at hm;exact hm
 have hc:(l.length:Int)≤cap:=by
  by_cases h:(l.length:Int)≤cap
  ·exact h
  ·unfold J0 at hm;rw[if_neg (by simp[ht]),if_neg h] at hm;cases hm
 have hv:Vq l=0:=by
  unfold J0 at hm;rwa [if_neg (by simp[ht]),if_pos hc] at hm
 have w1:=JaS l hsl hs
 rw[ht] at w1
 have w3:=JaP l hl hs (hnd ht)
 rw[hv] at w3
 have w2:=Jbv true 8
 rw[if_pos rfl] at w2
 clear hm hnd
 refine CallR.go2 (T:=T) Tryz.call111 Tryz.func111 rfl Tryz.ntmps111 (congrArg Array.toList Tryz.results111) (by decide) fun ts hn h0 h1=>?_
 (repeat' (first
 | (with_reducible first|refine callX.by (w1) ?_|refine callX.by (w3) ?_|refine callX.by (w2) ?_|refine callX.by (JaS _ ?_ ?_) ?_|refine callX.by Jec ?_|refine callX.by (Jbv _ _) ?_|refine callX.by (Jbp _ ?_ ?_) ?_|refine callX.by (JaP _ ?_ ?_ _) ?_|refine callX.by a6sc ?_|assumption|(refine Qw hK _ ?_;clear hK K)|refine Qw ‹_› _ ?_|refine Qx ‹_› ?_|refine Qi fun K hK=>?_|refine Qj T fun K hK=>?_|refine Ql fun A B hA hB=>?_|refine Qn ?_|refine Qr ?_)
 | ((with_reducible first|apply Qy|apply Qz|apply QA)<;>intro hb<;>try simp only[nr] at hb)
 |simp only[go_sem,↓reduceIte,reduceIte,Qa,Qh,Qb,Qc,Qd,Qe,Qf,Qg,reduceCtorEq, *,-hs,-w1,-w2,-w3,-ht,-hv]
 |with_reducible refine fun(bn:Bool) hbn=>?_))
 all_goals trace_state
theorem JiA(cap:Int)(m l:List Res)(hl:l.length≤65536)(hs:∀r∈l,Ju r)(hnd:JN l=0→(l.map Jg).Nodup)(hm:¬J0 cap l=0) :
  CallU Tryz.prog 111 [.agg [.int .i64 cap,.slice false (Ja m)],.slice false (Ja l)] (ZF (J0 cap l)):=by
 have hsl:=ZE hl
 have w1:=JaS l hsl hs
 by_cases ht:JN l=0
 ·by_cases hc:(l.length:Int)≤cap
  ·have e:J0 cap l=Vq l:=by unfold J0;rw[if_neg (by simp[ht]),if_pos hc]
   rw[e] at hm ⊢
   have w3:=JaP l hl hs (hnd ht)
   have w2:=Jbv true 8
   rw[if_pos rfl] at w2
   have w4:=JfL _ hm
   rw[ht] at w1
   clear hnd e
   refine CallU.go2 Tryz.call111 Tryz.func111 rfl Tryz.ntmps111 (by decide) fun ts hn h0 h1=>?_
   (repeat' (first
 | (with_reducible first|refine Qt T 2 (id:=3) rfl rfl fun K hK=>?_|refine UpK.callF w4 ?_ ?_|refine callX.by (w1) ?_|refine callX.by (w3) ?_|refine callX.by (w2) ?_|refine callX.by (JaS _ ?_ ?_) ?_|refine callX.by Jec ?_|refine callX.by (Jbv _ _) ?_|refine callX.by (Jbp _ ?_ ?_) ?_|refine callX.by (JaP _ ?_ ?_ _) ?_|refine callX.by a6sc ?_|assumption|(refine Qw hK _ ?_;clear hK K)|refine Qw ‹_› _ ?_|refine Qx ‹_› ?_|refine Qi fun K hK=>?_|refine Qj T fun K hK=>?_|refine Ql fun A B hA hB=>?_|refine Qn ?_|refine Qr ?_)
 | ((with_reducible first|apply Qy|apply Qz|apply QA)<;>intro hb<;>try simp only[nr] at hb)
 |simp only[go_sem,↓reduceIte,reduceIte,Qa,Qh,Qb,Qc,Qd,Qe,Qf,Qg,reduceCtorEq, *,-hs,-w1,-w2,-w3,-w4,-ht]
 |with_reducible refine fun(bn:Bool) hbn=>?_))
   all_goals trace_state
  ·have e:J0 cap l=8:=by unfold J0;rw[if_neg (by simp[ht]),if_neg hc]
   rw[e] at hm ⊢
   have w2:=Jbv false 8
   rw[if_neg (by simp)] at w2
   have w4:=JfL _ hm
   rw[ht] at w1
   clear hnd e
   refine CallU.go2 Tryz.call111 Tryz.func111 rfl Tryz.ntmps111 (by decide) fun ts hn h0 h1=>?_
   (repeat' (first
 | (with_reducible first|refine Qt T 6 (id:=2) rfl rfl fun K hK=>?_|refine UpK.callF w4 ?_ ?_|refine callX.by (w1) ?_|refine callX.by (w2) ?_|refine callX.by (JaS _ ?_ ?_) ?_|refine callX.by Jec ?_|refine callX.by (Jbv _ _) ?_|refine callX.by (Jbp _ ?_ ?_) ?_|refine callX.by (JaP _ ?_ ?_ _) ?_|refine callX.by a6sc ?_|assumption|(refine Qw hK _ ?_;clear hK K)|refine Qw ‹_› _ ?_|refine Qx ‹_› ?_|refine Qi fun K hK=>?_|refine Qj T fun K hK=>?_|refine Ql fun A B hA hB=>?_|refine Qn ?_|refine Qr ?_)
 | ((with_reducible first|apply Qy|apply Qz|apply QA)<;>intro hb<;>try simp only[nr] at hb)
 |simp only[go_sem,↓reduceIte,reduceIte,Qa,Qh,Qb,Qc,Qd,Qe,Qf,Qg,reduceCtorEq, *,-hs,-w1,-w2,-w4,-ht]
 |with_reducible refine fun(bn:Bool) hbn=>?_))
   all_goals trace_state
 ·have e:J0 cap l=JN l:=by unfold J0;rw[if_pos ht]
  rw[e] at hm ⊢
  have w4:=JfL _ hm
  clear hnd e
  refine CallU.go2 Tryz.call111 Tryz.func111 rfl Tryz.ntmps111 (by decide) fun ts hn h0 h1=>?_
  (repeat' (first
 | (with_reducible first|refine Qt T 2 (id:=1) rfl rfl fun K hK=>?_|refine UpK.callF w4 ?_ ?_|refine callX.by (w1) ?_|refine callX.by (JaS _ ?_ ?_) ?_|refine callX.by Jec ?_|refine callX.by (Jbv _ _) ?_|refine callX.by (Jbp _ ?_ ?_) ?_|refine callX.by (JaP _ ?_ ?_ _) ?_|refine callX.by a6sc ?_|assumption|(refine Qw hK _ ?_;clear hK K)|refine Qw ‹_› _ ?_|refine Qx ‹_› ?_|refine Qi fun K hK=>?_|refine Qj T fun K hK=>?_|refine Ql fun A B hA hB=>?_|refine Qn ?_|refine Qr ?_)
 | ((with_reducible first|apply Qy|apply Qz|apply QA)<;>intro hb<;>try simp only[nr] at hb)
 |simp only[go_sem,↓reduceIte,reduceIte,Qa,Qh,Qb,Qc,Qd,Qe,Qf,Qg,reduceCtorEq, *,-hs,-w1,-w4,-ht]
 |with_reducible refine fun(bn:Bool) hbn=>?_))
  all_goals trace_state
@[go_sem] def Je5:List (List Nat×List Nat):=[([3],[5,6,7]),([4],[5,6,7]),([5],[3,4]),([6],[3,4]),([7],[3,4])]
def VI(n:Int):Int:=max 0 (min n 64)
theorem Jg2(n:Int):CallR Tryz.prog 108 [.int .i64 n] (.val (.int .i64 (VI n))):=by
 refine QD (T:=T) Tryz.call108 Tryz.func108 rfl Tryz.ntmps108 (congrArg Array.toList Tryz.results108) (by decide) fun ts hn h0=>?_
 (repeat' (first
 | (with_reducible first|assumption|(refine Qw hK _ ?_;clear hK K)|refine Qw ‹_› _ ?_|refine Qx ‹_› ?_|refine Qi fun K hK=>?_|refine Qj T fun K hK=>?_|refine Ql fun A B hA hB=>?_|refine Qn ?_|refine Qr ?_)
 | ((with_reducible first|apply Qy|apply Qz|apply QA)<;>intro hb<;>try simp only[nr] at hb)
 |simp only[go_sem,↓reduceIte,reduceIte,Qa,Qh,Qb,Qc,Qd,Qe,Qf,Qg,reduceCtorEq, *]
 |with_reducible refine fun(bn:Bool) hbn=>?_))
 all_goals rfl
theorem Jed(n:Int):CallR Tryz.prog 91 [.int .i64 n] (.val (.agg [.int .i64 (VI n),.slice false []])):=by
 refine QD (T:=T) Tryz.call91 Tryz.func91 rfl Tryz.ntmps91 (congrArg Array.toList Tryz.results91) (by decide) fun ts hn h0=>?_
 (repeat' (first
 | (with_reducible first|refine callX.by (Jg2 _) ?_|assumption|(refine Qw hK _ ?_;clear hK K)|refine Qw ‹_› _ ?_|refine Qx ‹_› ?_|refine Qi fun K hK=>?_|refine Qj T fun K hK=>?_|refine Ql fun A B hA hB=>?_|refine Qn ?_|refine Qr ?_)
 | ((with_reducible first|apply Qy|apply Qz|apply QA)<;>intro hb<;>try simp only[nr] at hb)
 |simp only[go_sem,↓reduceIte,reduceIte,Qa,Qh,Qb,Qc,Qd,Qe,Qf,Qg,reduceCtorEq, *]
 |with_reducible refine fun(bn:Bool) hbn=>?_))
theorem Jk2(cap:Int)(l:List Res)(hl:l.length≤65536)(hs:∀r∈l,Ju r) :
  Done 110 ([.ro [.int .i64 cap,.slice false (Ja l)]].map Arg.v) (J0 cap l) (fun _=>True):=by
 unfold Done
 split
 ·rename_i hm
  have w1:=Jiz cap l l hl hs (fun h=>(Z6 h).nodup) hm
  have key:CallR Tryz.prog 110 [.ro [.int .i64 cap,.slice false (Ja l)]] (.val (.tup [])):=by
   refine QD (T:=T) Tryz.call110 Tryz.func110 rfl Tryz.ntmps110 (congrArg Array.toList Tryz.results110) (by decide) fun ts hn h0=>?_
   (repeat' (first
 | (with_reducible first|refine callX.by (w1) ?_|assumption|(refine Qw hK _ ?_;clear hK K)|refine Qw ‹_› _ ?_|refine Qx ‹_› ?_|refine Qi fun K hK=>?_|refine Qj T fun K hK=>?_|refine Ql fun A B hA hB=>?_|refine Qn ?_|refine Qr ?_)
 | ((with_reducible first|apply Qy|apply Qz|apply QA)<;>intro hb<;>try simp only[nr] at hb)
 |simp only[go_sem,↓reduceIte,reduceIte,Qa,Qh,Qb,Qc,Qd,Qe,Qf,Qg,reduceCtorEq, *,-hs,-w1,-hm]
 |with_reducible refine fun(bn:Bool) hbn=>?_))
  exact CallV.mono key fun r io h=>⟨h,trivial⟩
 ·rename_i hm
  have w1:=JiA cap l l hl hs (fun h=>(Z6 h).nodup) hm
  have key:CallU Tryz.prog 110 [.ro [.int .i64 cap,.slice false (Ja l)]] (ZF (J0 cap l)):=by
   refine CallU.go1 Tryz.call110 Tryz.func110 rfl Tryz.ntmps110 (by decide) fun ts hn h0=>?_
   (repeat' (first
 | (with_reducible first|refine Qt T 3 (id:=0) rfl rfl fun K hK=>?_|refine UpK.callF w1 ?_ ?_|assumption|(refine Qw hK _ ?_;clear hK K)|refine Qw ‹_› _ ?_|refine Qx ‹_› ?_|refine Qi fun K hK=>?_|refine Qj T fun K hK=>?_|refine Ql fun A B hA hB=>?_|refine Qn ?_|refine Qr ?_)
 | ((with_reducible first|apply Qy|apply Qz|apply QA)<;>intro hb<;>try simp only[nr] at hb)
 |simp only[go_sem,↓reduceIte,reduceIte,Qa,Qh,Qb,Qc,Qd,Qe,Qf,Qg,reduceCtorEq, *,-hs,-w1,-hm]
 |with_reducible refine fun(bn:Bool) hbn=>?_))
  exact key
def VD(c:Cache):Bool:=decide (c.cap=VI c.cap) && decide (J0 c.cap c.l=0)
theorem Jk3(cap:Int)(l:List Res):AV.pure.pureL [.ro [.int .i64 cap,.slice false (Ja l)]]=true:=by simp only[go_sem,Bool.and_self]
theorem JaN(c_cap:Int)(c_l:List Res)(hl:c_l.length≤65536)(hs:∀r∈c_l,Ju r):CallR Tryz.prog 76 [.agg [.int .i64 c_cap,.slice false (Ja c_l)]] (.val (.bool (VD (⟨c_cap,c_l⟩:Cache)))):=by
 have w1:=Jla 110 [.ro [.int .i64 c_cap,.slice false (Ja c_l)]] (J0 c_cap c_l) Tryz.call110 (Jk2 c_cap c_l hl hs) (Jk3 _ _)
 refine QD (T:=T.withF [10]) Tryz.call76 Tryz.func76 rfl Tryz.ntmps76 (congrArg Array.toList Tryz.results76) (by decide) fun ts hn h0=>?_
 (repeat' (first
 | (with_reducible first|refine SpecC.ent (Ent.frzBox _ 1) (Qk (id:=1) (T.withF [10]) mixed Je5 (by kernel_rfl) fun K hK=>?_)|refine callX.by (w1) ?_|refine callX.by (Jg2 _) ?_|assumption|(refine Qw hK _ ?_;clear hK K)|refine Qw ‹_› _ ?_|refine Qx ‹_› ?_|refine Qi fun K hK=>?_|refine Qj (T.withF [10]) fun K hK=>?_|refine Qk (id:=1) (T.withF [10]) mixed Je5 (by kernel_rfl) fun K hK=>?_|refine Ql fun A B hA hB=>?_|refine Qn ?_|refine Qr ?_)
 | ((with_reducible first|apply Qy|apply Qz|apply QA)<;>intro hb<;>try simp only[nr] at hb)
 |simp only[go_sem,↓reduceIte,reduceIte,Qa,Qh,Qb,Qc,Qd,Qe,Qf,Qg,reduceCtorEq, *,-hs,-w1]
 |with_reducible refine fun(bn:Bool) hbn=>?_))
 all_goals (simp only[VD,hb,Bool.true_and,Bool.false_and])
def Vo(c:Cache):Cache:=if VD c=true then c else ⟨VI c.cap,[]⟩
theorem Jdg(c_cap:Int)(c_l:List Res)(hl:c_l.length≤65536)(hs:∀r∈c_l,Ju r):CallR Tryz.prog 112 [.agg [.int .i64 c_cap,.slice false (Ja c_l)]] (.val (.agg [.int .i64 (Vo (⟨c_cap,c_l⟩:Cache)).cap,.slice false (Ja (Vo (⟨c_cap,c_l⟩:Cache)).l)])):=by
 have w1:=JaN c_cap c_l hl hs
 unfold Vo
 cases hb0:VD (⟨c_cap,c_l⟩:Cache)
 ·rw[hb0] at w1
  refine QD (T:=T) Tryz.call112 Tryz.func112 rfl Tryz.ntmps112 (congrArg Array.toList Tryz.results112) (by decide) fun ts hn h0=>?_
  (repeat' (first
 | (with_reducible first|refine callX.by (w1) ?_|refine callX.by (JaN _ _ ?_ ?_) ?_|refine callX.by (Jed _) ?_|assumption|(refine Qw hK _ ?_;clear hK K)|refine Qw ‹_› _ ?_|refine Qx ‹_› ?_|refine Qi fun K hK=>?_|refine Qj T fun K hK=>?_|refine Ql fun A B hA hB=>?_|refine Qn ?_|refine Qr ?_)
 | ((with_reducible first|apply Qy|apply Qz|apply QA)<;>intro hb<;>try simp only[nr] at hb)
 |simp only[go_sem,↓reduceIte,reduceIte,Qa,Qh,Qb,Qc,Qd,Qe,Qf,Qg,reduceCtorEq, *,-hs,-w1]
 |with_reducible refine fun(bn:Bool) hbn=>?_))
  all_goals rfl
 ·rw[hb0] at w1
  refine QD (T:=T) Tryz.call112 Tryz.func112 rfl Tryz.ntmps112 (congrArg Array.toList Tryz.results112) (by decide) fun ts hn h0=>?_
  (repeat' (first
 | (with_reducible first|refine callX.by (w1) ?_|refine callX.by (JaN _ _ ?_ ?_) ?_|refine callX.by (Jed _) ?_|assumption|(refine Qw hK _ ?_;clear hK K)|refine Qw ‹_› _ ?_|refine Qx ‹_› ?_|refine Qi fun K hK=>?_|refine Qj T fun K hK=>?_|refine Ql fun A B hA hB=>?_|refine Qn ?_|refine Qr ?_)
 | ((with_reducible first|apply Qy|apply Qz|apply QA)<;>intro hb<;>try simp only[nr] at hb)
 |simp only[go_sem,↓reduceIte,reduceIte,Qa,Qh,Qb,Qc,Qd,Qe,Qf,Qg,reduceCtorEq, *,-hs,-w1]
 |with_reducible refine fun(bn:Bool) hbn=>?_))
  all_goals trace_state
theorem Jr4(r_kind:Int)(r_name:List UInt8)(r_ver:Int)(r_port:Int)(r_to:List UInt8)(r_rules:List Rule)(r_hosts:List Int)(k_kind:Int)(k_name:List UInt8)(c:Int):CallR Tryz.prog 201 [.agg [.int .i64 r_kind,.str r_name,.int .i64 r_ver,.int .i64 r_port,.str r_to,.slice false (Ja r_rules),.slice false (Ja r_hosts)],.ro [.int .i64 k_kind,.str k_name],.ro [.int .i64 c]] (.val (.bool (decide (JO (Jg (⟨r_kind,r_name,r_ver,r_port,r_to,r_rules,r_hosts⟩:Res)) (⟨k_kind,k_name⟩:Key)=c)))):=by
 refine CallR.go3 (T:=T) Tryz.call201 Tryz.func201 rfl Tryz.ntmps201 (congrArg Array.toList Tryz.results201) (by decide) fun ts hn h0 h1 h2=>?_
 (repeat' (first
 | (with_reducible first|refine callX.by (J6 _ _ _ _ _ _ _) ?_|refine callX.by (Vb _ _ _ _) ?_|assumption|(refine Qw hK _ ?_;clear hK K)|refine Qw ‹_› _ ?_|refine Qx ‹_› ?_|refine Qi fun K hK=>?_|refine Qj T fun K hK=>?_|refine Qk (id:=1) T mixed [([5],[7,9]),([6],[7,9]),([7],[5,6,9]),([8],[9]),([9],[5,6,7,8])] (by kernel_rfl) fun K hK=>?_|refine Ql fun A B hA hB=>?_|refine Qn ?_|refine Qr ?_)
 | ((with_reducible first|apply Qy|apply Qz|apply QA)<;>intro hb<;>try simp only[nr] at hb)
 |simp only[go_sem,↓reduceIte,reduceIte,Qa,Qh,Qb,Qc,Qd,Qe,Qf,Qg,reduceCtorEq, *]
 |with_reducible refine fun(bn:Bool) hbn=>?_))
 all_goals rfl
theorem Jk7(a:Int)(b:List UInt8)(c:Int):Caps [.ro [.int .i64 a,.str b],.ro [.int .i64 c]]:=⟨by simp only[go_sem,Bool.and_self],by simp only[go_sem]⟩
def Yu(l:List Res)(k:Key)(c:Int):List Res:=l.filter fun r=>decide (JO (Jg r) k=c)
theorem Jkd(xs:List Res)(k_kind:Int)(k_name:List UInt8)(c:Int)(hl:Jc xs.length):CallR Tryz.prog 200 [.int .i64 c,.ro [.slice false (Ja xs)],.ro [.int .i64 k_kind,.str k_name]] (.own 7 (Ja (Yu xs (⟨k_kind,k_name⟩:Key) c))):=by
 have hf:=JeQ 201 [.ro [.int .i64 k_kind,.str k_name],.ro [.int .i64 c]] (Jk7 k_kind k_name c) (fun r=>decide (JO (Jg r) (⟨k_kind,k_name⟩:Key)=c)) xs (fun x _=>Jr4 x.kind x.name x.ver x.port x.to' x.rules' x.hosts k_kind k_name c) hl
 rw[show xs.filter (fun r=>decide (JO (Jg r) (⟨k_kind,k_name⟩:Key)=c))=Yu xs (⟨k_kind,k_name⟩:Key) c from rfl] at hf
 refine CallR.go3 (T:=T) Tryz.call200 Tryz.func200 rfl Tryz.ntmps200 (congrArg Array.toList Tryz.results200) (by decide) fun ts hn h0 h1 h2=>?_
 (repeat' (first
 | (with_reducible first|refine callX.by (hf) ?_|refine callX.by (JeQ _ _ ?_ _ _ ?_ ?_) ?_|assumption|(refine Qw hK _ ?_;clear hK K)|refine Qw ‹_› _ ?_|refine Qx ‹_› ?_|refine Qi fun K hK=>?_|refine Qj T fun K hK=>?_|refine Ql fun A B hA hB=>?_|refine Qn ?_|refine Qr ?_)
 | ((with_reducible first|apply Qy|apply Qz|apply QA)<;>intro hb<;>try simp only[nr] at hb)
 |simp only[go_sem,↓reduceIte,reduceIte,Qa,Qh,Qb,Qc,Qd,Qe,Qf,Qg,reduceCtorEq, *,-hf]
 |with_reducible refine fun(bn:Bool) hbn=>?_))
def V3(l:List Res)(r:Res):List Res:=Yu l (Jg r) (-1)++[r]++Yu l (Jg r) 1
instance:Dat (List Res) where
 av x:=.slice false (Ja x)
 sz:=1
 len _:=rfl
 pure x:=by simp only[go_sem,Bool.and_self]
 nrm x:=by simp only[go_sem]
 one x:=by simp only[go_sem,List.all_cons,List.all_nil,Bool.and_self]
 known _:=rfl
@[go_sem] theorem Jud(x:List Res):Dat.av x=.slice false (Ja x):=rfl
@[go_sem] theorem JKv:Dat.sz (List Res)=1:=rfl
theorem Jr1{n:Nat}(hn:Jc n):IntKind.i64.wrap ((n:Int)-IntKind.i64.wrap ((0:Int)-0))=n:=by
 have e:IntKind.i64.wrap ((0:Int)-0)=0:=by decide
 rw[e]
 unfold Jc at hn
 simp only[IntKind.wrap,IntKind.signed,IntKind.bits]
 simp
 omega
theorem Jr0{a b n:Nat}(h:a+b≤n)(hn:Jc n):IntKind.i64.wrap ((a:Int)+(b:Int))=((a+b:Nat):Int):=by
 unfold Jc at hn
 simp only[IntKind.wrap,IntKind.signed,IntKind.bits]
 simp
 omega
theorem Jcu(n:Nat)(hn:Jc n):CallR Tryz.prog 207 [.slice true [],.int .i64 n] (.own 7 []):=by
 have hr:Vl n 104:=ZV (by unfold Jc at hn;omega) (by decide)
 have hr1:n*104≤140737488355328:=hr.1
 have hr2:n≤9223372036854775807:=hr.2
 have hw:=Jr1 hn
 refine CallR.go2 (T:=T) Tryz.call207 Tryz.func207 rfl Tryz.ntmps207 (congrArg Array.toList Tryz.results207) (by decide) fun ts hn h0 h1=>?_
 have hz0:IntKind.i64.wrap ((0:Int)-IntKind.i64.wrap ((0:Int)-0))=0:=by decide
 by_cases h00:n=0
 ·subst h00
  (repeat' (first
 | (with_reducible first|assumption|(refine Qw hK _ ?_;clear hK K)|refine Qw ‹_› _ ?_|refine Qx ‹_› ?_|refine Qi fun K hK=>?_|refine Qj T fun K hK=>?_|refine Ql fun A B hA hB=>?_|refine Qn ?_|refine Qr ?_)
 | ((with_reducible first|apply Qy|apply Qz|apply QA)<;>intro hb<;>try simp only[nr] at hb)
 |simp only[go_sem,↓reduceIte,reduceIte,Qa,Qh,Qb,Qc,Qd,Qe,Qf,Qg,reduceCtorEq, *,-hr,List.length_nil,Int.lt_irrefl,decide_false,Int.le_refl]
 |with_reducible refine fun(bn:Bool) hbn=>?_))
  all_goals first|(exfalso;simp_all;done)|trace_state
 ·have hd:(0:Int)<(n:Int):=by omega
  have hz:List.take 0 (List.replicate n (AV.agg (List.replicate 7 AV.any)))=[]:=rfl
  (repeat' (first
 | (with_reducible first|assumption|(refine Qw hK _ ?_;clear hK K)|refine Qw ‹_› _ ?_|refine Qx ‹_› ?_|refine Qi fun K hK=>?_|refine Qj T fun K hK=>?_|refine Ql fun A B hA hB=>?_|refine Qn ?_|refine Qr ?_)
 | ((with_reducible first|apply Qy|apply Qz|apply QA)<;>intro hb<;>try simp only[nr] at hb)
 |simp only[go_sem,↓reduceIte,reduceIte,Qa,Qh,Qb,Qc,Qd,Qe,Qf,Qg,reduceCtorEq, *,-hr,List.length_nil,Int.le_refl,Int.toNat_zero,List.drop_zero]
 |with_reducible refine fun(bn:Bool) hbn=>?_))
  all_goals trace_state
def Ja2(xss:List (List Res))(i:Nat):Nat:=(xss.drop i).flatten.length
theorem JlH{xss:List (List Res)}{i:Nat}(h:i<xss.length):Ja2 xss i=xss[i].length+Ja2 xss (i+1):=by
 unfold Ja2
 rw[List.drop_eq_getElem_cons h,List.flatten_cons,List.length_append]
theorem Jhm(xss:List (List Res))(hx:Jc xss.length)(hl:Jc xss.flatten.length):CallR Tryz.prog 202 [.slice false (Ja xss)] (.own 7 (Ja xss.flatten)):=by
 have hg:=Jcu xss.flatten.length hl
 refine QD (T:=T) Tryz.call202 Tryz.func202 rfl Tryz.ntmps202 (congrArg Array.toList Tryz.results202) (by decide) fun ts hn h0=>?_
 (repeat' (first
 | (with_reducible first|refine callX.by (Jcu _ ?_) ?_|assumption|(refine Qw hK _ ?_;clear hK K)|refine Qw ‹_› _ ?_|refine Qx ‹_› ?_|refine Qi fun K hK=>?_|refine Qj T fun K hK=>?_|refine Ql fun A B hA hB=>?_|refine Qm ?_|refine Qn ?_|refine Qp ?_|refine Qr ?_)
 | ((with_reducible first|apply Qy|apply Qz|apply QA)<;>intro hb<;>try simp only[nr] at hb)
 |simp only[go_sem,↓reduceIte,reduceIte,Qa,Qh,Qb,Qc,Qd,Qe,Qf,Qg,reduceCtorEq, *,-hg]
 |with_reducible refine fun(bn:Bool) hbn=>?_))
 refine Qs [0,9,10] (fun m ts'=>∃(i:Nat),∃(n:Nat),m=xss.length-i∧i≤xss.length∧n+Ja2 xss i=xss.flatten.length∧ts'.tmp 3=.int .i64 n∧ts'.tmp 11=.int .i64 i) xss.length ?_ ?_
 ·refine⟨0,0,rfl,Nat.zero_le _,by simp[Ja2],?_⟩
  simp only[go_sem,↓reduceIte,reduceIte,Qa,Qh,Qb,Qc,Qd,Qe,Qf,Qg,reduceCtorEq, *,-hg]
 ·rintro m A hM ts' hk ⟨i,n,hm,f1,f2,s1,s2⟩
  simp only[go_sem,↓reduceIte,reduceIte,Qa,Qh,Qb,Qc,Qd,Qe,Qf,Qg,reduceCtorEq, *] at hk
  by_cases hlt:i<xss.length
  ·rw[JlH hlt] at f2
   have hw:=Jr0 (a:=n) (b:=xss[i].length) (n:=xss.flatten.length) (by omega) hl
   (repeat' (first
 | (with_reducible first|refine callX.by (Jcu _ ?_) ?_|assumption|(refine Qw hK _ ?_;clear hK K)|refine Qw ‹_› _ ?_|refine Qx ‹_› ?_|refine Qi fun K hK=>?_|refine Qj T fun K hK=>?_|refine Ql fun A B hA hB=>?_|refine Qm ?_|refine Qn ?_|refine Qp ?_|refine Qr ?_)
 | ((with_reducible first|apply Qy|apply Qz|apply QA)<;>intro hb<;>try simp only[nr] at hb)
 |simp only[go_sem,↓reduceIte,reduceIte,Qa,Qh,Qb,Qc,Qd,Qe,Qf,Qg,reduceCtorEq, *,-hg,-f2]
 |with_reducible refine fun(bn:Bool) hbn=>?_))
   all_goals ((repeat clear hK);(repeat clear hA);(repeat clear hB))
   all_goals (refine hM.on (xss.length-(i+1)) (by omega) (by simp only[go_sem,↓reduceIte,reduceIte,Qa,Qh,Qb,Qc,Qd,Qe,Qf,Qg,reduceCtorEq, *,Jf hlt hx,-hg,-f2]) ⟨i+1,n+xss[i].length,rfl,by omega,by omega,?_⟩;simp only[go_sem,↓reduceIte,reduceIte,Qa,Qh,Qb,Qc,Qd,Qe,Qf,Qg,reduceCtorEq, *,Jf hlt hx,-hg,-f2];done)
  ·have hn:n=xss.flatten.length:=by
    have e:Ja2 xss i=0:=by unfold Ja2;rw[List.drop_eq_nil_of_le (by omega)];rfl
    omega
   clear f2
   subst hn
   (repeat' (first
 | (with_reducible first|refine callX.raw (hg) ?_|refine callX.by (Jcu _ ?_) ?_|assumption|(refine Qw hK _ ?_;clear hK K)|refine Qw ‹_› _ ?_|refine Qx ‹_› ?_|refine Qi fun K hK=>?_|refine Qj T fun K hK=>?_|refine Ql fun A B hA hB=>?_|refine Qm ?_|refine Qn ?_|refine Qp ?_|refine Qr ?_)
 | ((with_reducible first|apply Qy|apply Qz|apply QA)<;>intro hb<;>try simp only[nr] at hb)
 |simp only[go_sem,↓reduceIte,reduceIte,Qa,Qh,Qb,Qc,Qd,Qe,Qf,Qg,reduceCtorEq, *,-hg]
 |with_reducible refine fun(bn:Bool) hbn=>?_))
   refine SpecC.ent (Ent.ren 6 24 (by simp only[go_sem,↓reduceIte,reduceIte,Qa,Qh,Qb,Qc,Qd,Qe,Qf,Qg,reduceCtorEq, *,-hg]) (by simp only[go_sem,↓reduceIte,reduceIte,Qa,Qh,Qb,Qc,Qd,Qe,Qf,Qg,reduceCtorEq, *,-hg])) ?_
   refine Qs [25,26] (fun m ts'=>∃(j:Nat),∃(g:Nat),∃(ys:List Res),m=xss.length-j∧j≤xss.length∧ys++(xss.drop j).flatten=xss.flatten∧ts'.tmp 6=.os 6 g ys.length∧ts'.gen 6=g∧ts'.obj 6=.arr 7 (Ja ys)∧ts'.tmp 27=.int .i64 j) xss.length ?_ ?_
   ·refine⟨0,ts'.gen 6+1,[],rfl,Nat.zero_le _,by simp,?_⟩
    simp only[go_sem,↓reduceIte,reduceIte,Qa,Qh,Qb,Qc,Qd,Qe,Qf,Qg,reduceCtorEq, *,-hg]
    rfl
   ·clear hM hm
    rintro m A hM ts' hk ⟨j,g,ys,hm,f1,f2,s1,s2,s3,s4⟩
    simp only[go_sem,↓reduceIte,reduceIte,Qa,Qh,Qb,Qc,Qd,Qe,Qf,Qg,reduceCtorEq, *] at hk
    by_cases hlt2:j<xss.length
    ·rw[List.drop_eq_getElem_cons hlt2,List.flatten_cons,←List.append_assoc] at f2
     have hle:ys.length+xss[j].length≤xss.flatten.length:=by rw[←f2];simp
     have hr:Vl (ys.length+xss[j].length) 104:=ZV (by unfold Jc at hl;omega) (by decide)
     (repeat' (first
 | (with_reducible first|refine callX.by (Jcu _ ?_) ?_|assumption|(refine Qw hK _ ?_;clear hK K)|refine Qw ‹_› _ ?_|refine Qx ‹_› ?_|refine Qi fun K hK=>?_|refine Qj T fun K hK=>?_|refine Ql fun A B hA hB=>?_|refine Qm ?_|refine Qn ?_|refine Qp ?_|refine Qr ?_)
 | ((with_reducible first|apply Qy|apply Qz|apply QA)<;>intro hb<;>try simp only[nr] at hb)
 |simp only[go_sem,↓reduceIte,reduceIte,Qa,Qh,Qb,Qc,Qd,Qe,Qf,Qg,reduceCtorEq, *,-hg,-f2]
 |with_reducible refine fun(bn:Bool) hbn=>?_))
     all_goals ((repeat clear hK);(repeat clear hA);(repeat clear hB))
     all_goals (refine hM.onE (xss.length-(j+1)) (Ent.ren 6 33 ?_ ?_) ?_ ?_ ?_;(focus(simp only[go_sem,↓reduceIte,reduceIte,Qa,Qh,Qb,Qc,Qd,Qe,Qf,Qg,reduceCtorEq, *,Jf hlt2 hx,List.length_append,-hg,-f2];first|done|rfl));(focus(simp only[go_sem,↓reduceIte,reduceIte,Qa,Qh,Qb,Qc,Qd,Qe,Qf,Qg,reduceCtorEq, *,Jf hlt2 hx,List.length_append,-hg,-f2];first|done|rfl));omega;(focus(simp only[go_sem,↓reduceIte,reduceIte,Qa,Qh,Qb,Qc,Qd,Qe,Qf,Qg,reduceCtorEq, *,Jf hlt2 hx,List.length_append,-hg,-f2];done));refine⟨j+1,ts'.gen 6+1,ys++xss[j],rfl,by omega,f2,?_⟩;simp only[go_sem,↓reduceIte,reduceIte,Qa,Qh,Qb,Qc,Qd,Qe,Qf,Qg,reduceCtorEq, *,Jf hlt2 hx,List.length_append,-hg,-f2];done)
    ·rw[List.drop_eq_nil_of_le (by omega),List.flatten_nil,List.append_nil] at f2
     subst f2
     (repeat' (first
 | (with_reducible first|refine callX.by (Jcu _ ?_) ?_|assumption|(refine Qw hK _ ?_;clear hK K)|refine Qw ‹_› _ ?_|refine Qx ‹_› ?_|refine Qi fun K hK=>?_|refine Qj T fun K hK=>?_|refine Ql fun A B hA hB=>?_|refine Qm ?_|refine Qn ?_|refine Qp ?_|refine Qr ?_)
 | ((with_reducible first|apply Qy|apply Qz|apply QA)<;>intro hb<;>try simp only[nr] at hb)
 |simp only[go_sem,↓reduceIte,reduceIte,Qa,Qh,Qb,Qc,Qd,Qe,Qf,Qg,reduceCtorEq, *,-hg]
 |with_reducible refine fun(bn:Bool) hbn=>?_))
theorem Jcx(xs:List Res)(r:Res)(hl:Jc xs.length)(hl2:Jc (V3 xs r).length):CallR Tryz.prog 189 [.slice false (Ja xs),.agg [.int .i64 r.kind,.str r.name,.int .i64 r.ver,.int .i64 r.port,.str r.to',.slice false (Ja r.rules'),.slice false (Ja r.hosts)]] (.own 7 (Ja (V3 xs r))):=by
 have w1:=(Jkd xs r.kind r.name (-1) hl).frz
 have w2:=(Jkd xs r.kind r.name 1 hl).frz
 have hcc:CallR Tryz.prog 202 [.slice false [.slice false (Ja (Yu xs ⟨r.kind,r.name⟩ (-1))),.slice false [.agg [.int .i64 r.kind,.str r.name,.int .i64 r.ver,.int .i64 r.port,.str r.to',.slice false (Ja r.rules'),.slice false (Ja r.hosts)]],.slice false (Ja (Yu xs ⟨r.kind,r.name⟩ 1))]] (.own 7 (Ja (V3 xs r))):=by
  have h:=Jhm [Yu xs (Jg r) (-1),[r],Yu xs (Jg r) 1] (by unfold Jc;simp) (by simpa[V3] using hl2)
  have e:[Yu xs (Jg r) (-1),[r],Yu xs (Jg r) 1].flatten=V3 xs r:=by simp[V3]
  rw[e] at h
  exact h
 refine CallR.go2 (T:=T.withF [13,16]) Tryz.call189 Tryz.func189 rfl Tryz.ntmps189 (congrArg Array.toList Tryz.results189) (by decide) fun ts hn h0 h1=>?_
 (repeat' (first
 | (with_reducible first|refine callX.by (w1) ?_|refine callX.by (w2) ?_|refine callX.by (hcc) ?_|refine callX.by (J6 _ _ _ _ _ _ _) ?_|refine callX.by (Jhm _ ?_ ?_) ?_|assumption|(refine Qw hK _ ?_;clear hK K)|refine Qw ‹_› _ ?_|refine Qx ‹_› ?_|refine Qi fun K hK=>?_|refine Qj (T.withF [13,16]) fun K hK=>?_|refine Qk (id:=3) (T.withF [13,16]) mixed [([10],[12,13,14]),([11],[12,13,14]),([12],[10,11,14,15]),([13],[10,11,14,15]),([14],[10,11,12,13]),([15],[12,13])] (by kernel_rfl) fun K hK=>?_|refine Ql fun A B hA hB=>?_|refine Qn ?_|refine Qr ?_)
 | ((with_reducible first|apply Qy|apply Qz|apply QA)<;>intro hb<;>try simp only[nr] at hb)
 |simp only[go_sem,↓reduceIte,reduceIte,Qa,Qh,Qb,Qc,Qd,Qe,Qf,Qg,reduceCtorEq, *,-w1,-w2,-hcc]
 |with_reducible refine fun(bn:Bool) hbn=>?_))
 all_goals trace_state
def Yq(l adds:List Res)(gone:List Key):List Res:=adds.foldl V3 (gone.foldl YX l)
theorem Joa(l:List Res)(k:Key):(Yu l k (-1)).length+(Yu l k 1).length≤l.length:=by
 induction l with
 |nil=>simp[Yu]
 |cons x l ih =>
  simp only[Yu,List.filter_cons] at ih ⊢
  by_cases h1:JO (Jg x) k=-1
  ·have h2:¬JO (Jg x) k=1:=by omega
   simp[h1] at ih ⊢
   omega
  ·by_cases h2:JO (Jg x) k=1
   ·simp[h2] at ih ⊢
    omega
   ·simp[h1,h2] at ih ⊢
    omega
theorem Jke(l:List Res)(r:Res):(V3 l r).length≤l.length+1:=by
 have:=Joa l (Jg r)
 simp only[V3,List.length_append,List.length_singleton]
 omega
theorem Jr5{l:List Res}{r x:Res}(h:x∈V3 l r):x=r∨x∈l:=by
 simp only[V3,Yu,List.mem_append,List.mem_filter,List.mem_singleton] at h
 rcases h with (h|h)|h
 ·exact .inr h.1
 ·exact .inl h
 ·exact .inr h.1
theorem Jj7(l:List Res)(k:Key):(YX l k).length≤l.length:=by unfold YX;exact List.length_filter_le _ _
theorem JoO{l:List Res}{k:Key}{x:Res}(h:x∈YX l k):x∈l:=by unfold YX at h;exact(List.mem_filter.1 h).1
theorem Jkf(l:List Res):∀gone:List Key,(gone.foldl YX l).length≤l.length
 | []=>Nat.le_refl _
 |k :: g=>Nat.le_trans (Jkf (YX l k) g) (Jj7 l k)
theorem Jkg(l:List Res):∀adds:List Res,(adds.foldl V3 l).length≤l.length+adds.length
 | []=>Nat.le_refl _
 |r :: a=>by
  have h1:=Jkg (V3 l r) a
  have h2:=Jke l r
  simp only[List.foldl_cons,List.length_cons]
  omega
theorem Ji4(l adds:List Res)(gone:List Key):(Yq l adds gone).length≤l.length+adds.length:=Nat.le_trans (Jkg _ _) (Nat.add_le_add_right (Jkf l gone) _)
theorem Ji5{l adds:List Res}{gone:List Key}{x:Res}(h:x∈Yq l adds gone):x∈l∨x∈adds:=by
 have h1:∀(adds l:List Res),x∈adds.foldl V3 l→x∈l∨x∈adds:=by
  intro adds
  induction adds with
  |nil=>exact fun l h=>.inl h
  |cons r a ih =>
   intro l h
   rcases ih _ h with h|h
   ·rcases Jr5 h with rfl|h
    ·exact .inr (by simp)
    ·exact .inl h
   ·exact .inr (List.mem_cons_of_mem _ h)
 have h2:∀(gone:List Key) (l:List Res),x∈gone.foldl YX l→x∈l:=by
  intro gone
  induction gone with
  |nil=>exact fun l h=>h
  |cons k g ih=>exact fun l h=>JoO (ih _ h)
 rcases h1 _ _ h with h|h
 ·exact .inl (h2 _ _ h)
 ·exact .inr h
theorem JoG(xs adds:List Res)(gone:List Key)(hx:Jc xs.length)(ha:Jc adds.length)(hg:Jc gone.length)(hl:Jc (xs.length+adds.length)) :
  CallR Tryz.prog 166 [.slice false (Ja xs),.slice false (Ja adds),.slice false (Ja gone)] (.val (.slice false (Ja (Yq xs adds gone)))):=by
 refine CallR.go3 (T:=T) Tryz.call166 Tryz.func166 rfl Tryz.ntmps166 (congrArg Array.toList Tryz.results166) (by decide) fun ts hn h0 h1 h2=>?_
 (repeat' (first
 | (with_reducible first|refine callX.by (Jcw _ _ _ ?_) ?_|refine callX.by (Jcx _ _ ?_ ?_) ?_|assumption|(refine Qw hK _ ?_;clear hK K)|refine Qw ‹_› _ ?_|refine Qx ‹_› ?_|refine Qi fun K hK=>?_|refine Qj T fun K hK=>?_|refine Ql fun A B hA hB=>?_|refine Qm ?_|refine Qn ?_|refine Qp ?_|refine Qr ?_)
 | ((with_reducible first|apply Qy|apply Qz|apply QA)<;>intro hb<;>try simp only[nr] at hb)
 |simp only[go_sem,↓reduceIte,reduceIte,Qa,Qh,Qb,Qc,Qd,Qe,Qf,Qg,reduceCtorEq, *]
 |with_reducible refine fun(bn:Bool) hbn=>?_))
 refine Qs [1,11,12] (fun m ts'=>∃(i:Nat),∃(ys:List Res),m=gone.length-i∧i≤gone.length∧ys.length≤xs.length∧(gone.drop i).foldl YX ys=gone.foldl YX xs∧ts'.tmp 0=.slice false (Ja ys)∧ts'.tmp 13=.int .i64 i) gone.length ?_ ?_
 ·refine⟨0,xs,rfl,Nat.zero_le _,Nat.le_refl _,rfl,?_⟩
  simp only[go_sem,↓reduceIte,reduceIte,Qa,Qh,Qb,Qc,Qd,Qe,Qf,Qg,reduceCtorEq, *]
 ·rintro m A hM ts' hk ⟨i,ys,hm,f1,f2,f3,s1,s2⟩
  simp only[go_sem,↓reduceIte,reduceIte,Qa,Qh,Qb,Qc,Qd,Qe,Qf,Qg,reduceCtorEq, *] at hk
  by_cases hlt:i<gone.length
  ·rw[List.drop_eq_getElem_cons hlt,List.foldl_cons] at f3
   have hys:Jc ys.length:=by unfold Jc at hx ⊢;omega
   have w1:=(Jcw ys gone[i].kind gone[i].name hys).frz
   have hle:=Jj7 ys gone[i]
   (repeat' (first
 | (with_reducible first|refine callX.by (w1) ?_|refine callX.by (Jcw _ _ _ ?_) ?_|refine callX.by (Jcx _ _ ?_ ?_) ?_|assumption|(refine Qw hK _ ?_;clear hK K)|refine Qw ‹_› _ ?_|refine Qx ‹_› ?_|refine Qi fun K hK=>?_|refine Qj T fun K hK=>?_|refine Ql fun A B hA hB=>?_|refine Qm ?_|refine Qn ?_|refine Qp ?_|refine Qr ?_)
 | ((with_reducible first|apply Qy|apply Qz|apply QA)<;>intro hb<;>try simp only[nr] at hb)
 |simp only[go_sem,↓reduceIte,reduceIte,Qa,Qh,Qb,Qc,Qd,Qe,Qf,Qg,reduceCtorEq, *,-f3,-w1]
 |with_reducible refine fun(bn:Bool) hbn=>?_))
   all_goals ((repeat clear hK);(repeat clear hA);(repeat clear hB))
   all_goals (refine hM.on (gone.length-(i+1)) (by omega) (by simp only[go_sem,↓reduceIte,reduceIte,Qa,Qh,Qb,Qc,Qd,Qe,Qf,Qg,reduceCtorEq, *,Jf hlt hg,-f3,-w1]) ⟨i+1,YX ys gone[i],rfl,by omega,by omega,f3,?_⟩;simp only[go_sem,↓reduceIte,reduceIte,Qa,Qh,Qb,Qc,Qd,Qe,Qf,Qg,reduceCtorEq, *,Jf hlt hg,-f3,-w1];done)
  ·rw[List.drop_eq_nil_of_le (by omega),List.foldl_nil] at f3
   subst f3
   (repeat' (first
 | (with_reducible first|refine callX.by (Jcw _ _ _ ?_) ?_|refine callX.by (Jcx _ _ ?_ ?_) ?_|assumption|(refine Qw hK _ ?_;clear hK K)|refine Qw ‹_› _ ?_|refine Qx ‹_› ?_|refine Qi fun K hK=>?_|refine Qj T fun K hK=>?_|refine Ql fun A B hA hB=>?_|refine Qm ?_|refine Qn ?_|refine Qp ?_|refine Qr ?_)
 | ((with_reducible first|apply Qy|apply Qz|apply QA)<;>intro hb<;>try simp only[nr] at hb)
 |simp only[go_sem,↓reduceIte,reduceIte,Qa,Qh,Qb,Qc,Qd,Qe,Qf,Qg,reduceCtorEq, *]
 |with_reducible refine fun(bn:Bool) hbn=>?_))
   clear hM hm
   refine Qs [21,22] (fun m ts'=>∃(j:Nat),∃(zs:List Res),m=adds.length-j∧j≤adds.length∧zs.length≤xs.length+j∧(adds.drop j).foldl V3 zs=Yq xs adds gone∧ts'.tmp 0=.slice false (Ja zs)∧ts'.tmp 23=.int .i64 j) adds.length ?_ ?_
   ·refine⟨0,gone.foldl YX xs,rfl,Nat.zero_le _,by omega,rfl,?_⟩
    simp only[go_sem,↓reduceIte,reduceIte,Qa,Qh,Qb,Qc,Qd,Qe,Qf,Qg,reduceCtorEq, *]
   ·rintro m A hM ts' hk ⟨j,zs,hm,f1,f2,f3,s1,s2⟩
    simp only[go_sem,↓reduceIte,reduceIte,Qa,Qh,Qb,Qc,Qd,Qe,Qf,Qg,reduceCtorEq, *] at hk
    by_cases hlt2:j<adds.length
    ·rw[List.drop_eq_getElem_cons hlt2,List.foldl_cons] at f3
     have hle:=Jke zs adds[j]
     have hzs:Jc zs.length:=by unfold Jc at hl ⊢;omega
     have hzr:Jc (V3 zs adds[j]).length:=by unfold Jc at hl ⊢;omega
     have w1:=(Jcx zs adds[j] hzs hzr).frz
     (repeat' (first
 | (with_reducible first|refine callX.by (w1) ?_|refine callX.by (Jcw _ _ _ ?_) ?_|refine callX.by (Jcx _ _ ?_ ?_) ?_|assumption|(refine Qw hK _ ?_;clear hK K)|refine Qw ‹_› _ ?_|refine Qx ‹_› ?_|refine Qi fun K hK=>?_|refine Qj T fun K hK=>?_|refine Ql fun A B hA hB=>?_|refine Qm ?_|refine Qn ?_|refine Qp ?_|refine Qr ?_)
 | ((with_reducible first|apply Qy|apply Qz|apply QA)<;>intro hb<;>try simp only[nr] at hb)
 |simp only[go_sem,↓reduceIte,reduceIte,Qa,Qh,Qb,Qc,Qd,Qe,Qf,Qg,reduceCtorEq, *,-f3,-w1]
 |with_reducible refine fun(bn:Bool) hbn=>?_))
     all_goals ((repeat clear hK);(repeat clear hA);(repeat clear hB))
     all_goals (refine hM.on (adds.length-(j+1)) (by omega) (by simp only[go_sem,↓reduceIte,reduceIte,Qa,Qh,Qb,Qc,Qd,Qe,Qf,Qg,reduceCtorEq, *,Jf hlt2 ha,-f3,-w1]) ⟨j+1,V3 zs adds[j],rfl,by omega,by omega,f3,?_⟩;simp only[go_sem,↓reduceIte,reduceIte,Qa,Qh,Qb,Qc,Qd,Qe,Qf,Qg,reduceCtorEq, *,Jf hlt2 ha,-f3,-w1];done)
    ·rw[List.drop_eq_nil_of_le (by omega),List.foldl_nil] at f3
     subst f3
     (repeat' (first
 | (with_reducible first|refine callX.by (Jcw _ _ _ ?_) ?_|refine callX.by (Jcx _ _ ?_ ?_) ?_|assumption|(refine Qw hK _ ?_;clear hK K)|refine Qw ‹_› _ ?_|refine Qx ‹_› ?_|refine Qi fun K hK=>?_|refine Qj T fun K hK=>?_|refine Ql fun A B hA hB=>?_|refine Qm ?_|refine Qn ?_|refine Qp ?_|refine Qr ?_)
 | ((with_reducible first|apply Qy|apply Qz|apply QA)<;>intro hb<;>try simp only[nr] at hb)
 |simp only[go_sem,↓reduceIte,reduceIte,Qa,Qh,Qb,Qc,Qd,Qe,Qf,Qg,reduceCtorEq, *]
 |with_reducible refine fun(bn:Bool) hbn=>?_))
end Go.Proofs.YtihahfhagobnoaaGreatDoor.Lg
