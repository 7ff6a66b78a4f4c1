/- Parts of the proof, one behind the other. -/
import Derived.Test.YthjalhfmpffbjaaGreatDoorG22
set_option linter.unusedVariables false
set_option linter.unusedSimpArgs false
set_option maxRecDepth 100000
set_option maxHeartbeats 64000000
namespace Go.Proofs.YthjalhfmpffbjaaGreatDoor.Lg
open Go
variable {P:Program}
theorem Jou{ops:Array Oper}{m:Nat}{wr bads:List (List Nat)}(hd:DrawOk ops m wr bads){F:Nat→TS}{l:Array Bool}{ts:TS}(hs:l.size=ops.size)(hc:JbR ops l)(htl:∀j,j<ops.size→m≤j→¬JF l j)
  (hinv:JcB m wr F l ts) (t:Nat):∃k,k≤m∧SameSlot ts (F k) t:=by
 have key:∀q,q≤m→∃k,k≤q∧(∀j,j<k→t∈wr.getD j []→JF l j)∧(∀j,k≤j→j<q→t∈wr.getD j []→¬JF l j):=by
  intro q
  induction q with
  |zero=>exact fun _=>⟨0,Nat.le_refl _,fun j h=>by omega,fun j _ h=>by omega⟩
  |succ q ih =>
   intro hq
   obtain⟨k,h1,h2,h3⟩:=ih (by omega)
   by_cases hw:t∈wr.getD q []∧JF l q
   ·refine⟨q+1,Nat.le_refl _,fun j hj htj=>?_,fun j h4 h5=>by omega⟩
    by_cases hjq:j=q
    ·subst hjq;exact hw.2
    ·have hle:=hd.le
     rcases hd.ord q (by omega) j (by omega) (fun e=>hjq e.symm) with ⟨_,h5⟩|⟨h5,_⟩|h5
     ·exact JaL hc hd.lt 2 q j (by omega) (hc q (by omega) hw.2) h5
     ·omega
     ·have:=h5 t htj
      rw[hd.own q (by omega) t hw.1] at this;cases this
   ·refine⟨k,by omega,h2,fun j h4 h5 htj hl=>?_⟩
    by_cases hjq:j=q
    ·subst hjq;exact hw ⟨htj,hl⟩
    ·exact h3 j h4 (by omega) htj hl
 obtain⟨k,h1,h2,h3⟩:=key m (Nat.le_refl _)
 exact⟨k,h1,hinv.2 t k h1 h2 h3⟩
theorem JnC{ops:Array Oper}{m:Nat}{wr bads:List (List Nat)}(hd:DrawOk ops m wr bads){K:TS→Prop}{Q:Exit→Act→World→Prop}{E:Env}(hQ:∀ts' G' a' w',K ts'→Rel E ts' G' a' w'→Q .normal a' w')
  {F:Nat→TS} (hn:∀k,k≤m→(F k).n=(F 0).n) (hF:∀i,i<m→∀t,t ∉ wr.getD i []→SameSlot (F (i+1)) (F i) t)
  (hop:∀i (hi:i<ops.size),i<m→∀ts1:TS,ts1.n=(F 0).n→(∀t,(bads.getD i []).contains t=false→SameSlot ts1 (F i) t)→(∀t,∃k,k≤m∧SameSlot ts1 (F k) t)→SpecG P ops ops[i] ts1 (fun ts'=>ts'=Jm (wr.getD i []) (F (i+1)) ts1))
  (htail:SpecOs P ops K (ops.toList.drop m) (F m)) :
  ∀(fuel:Nat) (l:Array Bool) (ts:TS) (G:Ghost) (a:Act) (w:World),l.size=ops.size→left ops l≤fuel→JbR ops l→(∀j,j<ops.size→m≤j→¬JF l j) →
   JcB m wr F l ts→Rel E ts G a w→wpAny P .any ops Q fuel l a w:=by
 have sameF:∀(l:Array Bool) (ts:TS),(∀j,j<m→JF l j)→JcB m wr F l ts→ts=F m:=fun l ts hall hi =>
  Jcy (by rw[hi.1,hn m (Nat.le_refl _)]) fun t=>hi.2 t m (Nat.le_refl _) (fun j hj _=>hall j hj) fun j h1 h2=>by omega
 intro fuel
 induction fuel with
 |zero =>
  intro l ts G a w hs hf hc htl hinv hr
  have hall:∀j,j<ops.size→JF l j:=fun j hj=>by
   by_cases hx:JF l j
   ·exact hx
   ·have:=JfX hj hx;omega
  have hme:m=ops.size:=by
   rcases Nat.lt_or_ge m ops.size with h|h
   ·exact absurd (hall m h) (htl m h (Nat.le_refl _))
   ·have:=hd.le;omega
  have heq:=sameF l ts (fun j hj=>hall j (by have:=hd.le;omega)) hinv
  subst heq
  have hdr:ops.toList.drop m=[]:=by rw[hme];simp
  rw[hdr] at htail
  refine⟨?_,hQ _ G a w htail hr⟩
  by_cases e:Region.ready .any ops l=[]
  ·exact e
  ·obtain⟨i,hi⟩:=List.exists_mem_of_ne_nil _ e
   obtain⟨q1,q2,_⟩:=(Jbk hs).1 hi
   exact absurd (hall i q1) q2
 |succ fuel ih =>
  intro l ts G a w hs hf hc htl hinv hr
  refine⟨fun hnil=>?_,fun i hi=>?_⟩
  ·have hall:=Jgv hs hd.lt hnil
   have hme:m=ops.size:=by
    rcases Nat.lt_or_ge m ops.size with h|h
    ·exact absurd (hall m h) (htl m h (Nat.le_refl _))
    ·have:=hd.le;omega
   have heq:=sameF l ts (fun j hj=>hall j (by have:=hd.le;omega)) hinv
   subst heq
   have hdr:ops.toList.drop m=[]:=by rw[hme];simp
   rw[hdr] at htail
   exact hQ _ G a w htail hr
  ·obtain⟨hi1,hi2,hi3⟩:=(Jbk hs).1 hi
   have hbefore:∀j,YH ops 2 i j=true→JF l j:=fun j h=>JaL hc hd.lt 2 i j hi1 hi3 h
   have hnot:∀j,j<ops.size→YH ops 2 j i=true→¬JF l j:=fun j hj h hlj=>hi2 (JaL hc hd.lt 2 j i hj (hc j hj hlj) h)
   by_cases him:i<m
   ·have hord:∀j,j<m→i≠j→∀t∈wr.getD j [],(bads.getD i []).contains t=false→(j<i→JF l j)∧(i<j→¬JF l j):=by
     intro j hj hne t ht hb
     rcases hd.ord i him j hj hne with ⟨h1,h2⟩|⟨h1,h2⟩|h
     ·exact⟨fun _=>hbefore j h2,fun h=>by omega⟩
     ·exact⟨fun h=>by omega,fun _=>hnot j (by have:=hd.le;omega) h2⟩
     ·rw[h t ht] at hb;cases hb
    have hreads:∀t,(bads.getD i []).contains t=false→SameSlot ts (F i) t:=fun t ht =>
     hinv.2 t i (by omega) (fun j hj hw=>(hord j (by omega) (by omega) t hw ht).1 hj) fun j h1 h2 hw=>by
      by_cases hji:i=j
      ·subst hji;exact hi2
      ·exact(hord j h2 hji t hw ht).2 (by omega)
    refine SpecG.sound (hop i hi1 him ts hinv.1 hreads (Jou hd hs hc htl hinv)) (Array.getElem?_eq_getElem hi1) hr fun ts' G' a' w' hK hr'=>?_
    subst hK
    refine ih (l.setIfInBounds i true) (Jm (wr.getD i []) (F (i+1)) ts) G' a' w' (by simp[hs]) (by have:=Jc2 hs hi1 hi2;omega) ?_ ?_ ⟨hinv.1,fun t k hk h1 h2=>?_⟩ hr'
    ·intro q hq hlq e he
     rw[Yl (by omega)] at hlq ⊢
     rcases hlq with rfl|hlq
     ·exact .inr (hi3 e he)
     ·exact .inr (hc q hq hlq e he)
    ·intro j hj hmj hlj
     rw[Yl (by omega)] at hlj
     rcases hlj with rfl|hlj
     ·omega
     ·exact htl j hj hmj hlj
    ·by_cases htw:t∈wr.getD i []
     ·have hik:i<k:=by
       rcases Nat.lt_or_ge i k with h|h
       ·exact h
       ·exact absurd ((Yl (by omega)).2 (.inl rfl)) (h2 i h him htw)
      have a1:SameSlot (Jm (wr.getD i []) (F (i+1)) ts) (F (i+1)) t:=JaF (List.contains_iff_mem.2 htw)
      refine a1.trans (SameSlot.symm ?_)
      have:=Jds hF (t:=t) (k-(i+1)) (i+1) (by omega) fun j h3 h4 hw=>by
       have hlj:=(Yl (i:=i) (by omega)).1 (h1 j (by omega) hw)
       rcases hlj with h|h
       ·omega
       ·exact(hord j (by omega) (by omega) t hw (hd.own i him t htw)).2 (by omega) h
      rwa [show i+1+(k-(i+1))=k by omega] at this
     ·have a1:SameSlot (Jm (wr.getD i []) (F (i+1)) ts) ts t:=V9 (by
       cases h:(wr.getD i []).contains t with
       |false=>rfl
       |true=>exact absurd (List.contains_iff_mem.1 h) htw)
      refine a1.trans (hinv.2 t k hk (fun j hj hw=>?_) fun j h3 h4 hw hl=>h2 j h3 h4 hw ((Yl (by omega)).2 (.inr hl)))
      rcases(Yl (i:=i) (by omega)).1 (h1 j hj hw) with h|h
      ·subst h;exact absurd hw htw
      ·exact h
   ·have hmi:m≤i:=Nat.le_of_not_lt him
    have hall:∀j,j<i→JF l j:=fun j hj=>Jgu hc hd.lt i j hi1 hi3 (hd.tail i hmi hi1 j hj)
    have hmi2:m=i:=by
     rcases Nat.lt_or_ge m i with h|h
     ·exact absurd (hall m h) (htl m (by omega) (Nat.le_refl _))
     ·omega
    subst hmi2
    have heq:=sameF l ts (fun j hj=>hall j hj) hinv
    subst heq
    have hdrop:ops.toList.drop m=ops[m] :: ops.toList.drop (m+1):=by
     rw[List.drop_eq_getElem_cons (by simpa using hi1)];simp
    rw[hdrop] at htail
    refine SpecG.sound htail (Array.getElem?_eq_getElem hi1) hr fun ts' G' a' w' hK hr'=>?_
    refine JhY hd hQ fuel (l.setIfInBounds m true) (m+1) ts' G' a' w' (by simp[hs]) (by have:=Jc2 hs hi1 hi2;omega) (by omega) hi1 (fun j hj=>?_) hK hr'
    rw[Yl (by omega)]
    constructor
    ·rintro(rfl|hlj)
     ·omega
     ·rcases Nat.lt_or_ge j m with h|h
      ·omega
      ·exact absurd hlj (htl j hj h)
    ·intro hj2
     rcases Nat.lt_or_ge j m with h|h
     ·exact .inr (hall j h)
     ·exact .inl (by omega)
structure Soft(d:Nat)(v:AV)(g:Nat)(A:TS):Prop where
 tmp:A.tmp d=v
 gen:A.gen d=g
 obj:(A.obj d).kind.isSome=true
theorem Soft.same{d:Nat}{v:AV}{g:Nat}{A B:TS}(h:Soft d v g A)(e:SameSlot B A d):Soft d v g B:=⟨by rw[e.1,h.tmp],by rw[e.2.1,h.gen],by rw[e.2.2,h.obj]⟩
def PreOkI(P:Program)(ops:Array Oper)(wr bads:List (List Nat))(I:TS→Prop)(C:TS→Prop):Nat→List Oper→TS→Prop
 |_,[],F=>I F∧C F
 |i,o :: l,F=>I F∧∃F',F'.n=F.n∧(∀t,t ∉ wr.getD i []→SameSlot F' F t)∧(∀J,I J→SpecG P ops o (Jm (bads.getD i []) J F) (fun ts'=>ts'=Jm (wr.getD i []) F' (Jm (bads.getD i []) J F)))∧PreOkI P ops wr bads I C (i+1) l F'
theorem Jjy{ops:Array Oper}{wr bads:List (List Nat)}{m:Nat}(hle:m≤ops.size){I C:TS→Prop}:∀(k i:Nat) (F:TS),i+k=m→PreOkI P ops wr bads I C i ((ops.toList.take m).drop i) F →
  ∃Fs:Nat→TS,Fs i=F∧C (Fs m)∧(∀q,i≤q→q≤m→I (Fs q))∧∀q (hq:q<ops.size),i≤q→q<m→(Fs (q+1)).n=(Fs q).n∧(∀t,t ∉ wr.getD q []→SameSlot (Fs (q+1)) (Fs q) t) ∧
   ∀J,I J→SpecG P ops ops[q] (Jm (bads.getD q []) J (Fs q)) (fun ts'=>ts'=Jm (wr.getD q []) (Fs (q+1)) (Jm (bads.getD q []) J (Fs q)))
 |0,i,F,hik,h=>by
  have:(ops.toList.take m).drop i=[]:=List.drop_eq_nil_of_le (by simp;omega)
  rw[this] at h
  exact⟨fun _=>F,rfl,h.2,fun q _ _=>h.1,fun q _ h1 h2=>by omega⟩
 |k+1,i,F,hik,h=>by
  have hi:i<ops.size:=by omega
  have hdrop:(ops.toList.take m).drop i=ops[i] :: (ops.toList.take m).drop (i+1):=by
   rw[List.drop_eq_getElem_cons (by simp;omega)]
   simp
  rw[hdrop] at h
  obtain⟨h0,F',h1,h2,h3,h4⟩:=h
  obtain⟨Fs,g1,g2,g0,g3⟩:=Jjy hle k (i+1) F' (by omega) h4
  refine⟨fun q=>if q≤i then F else Fs q,by simp,by simp only[show ¬m≤i by omega,if_false];exact g2,fun q hq1 hq2=>?_,fun q hq hq1 hq2=>?_⟩
  ·by_cases hqi:q≤i
   ·simp only[hqi,if_true];exact h0
   ·simp only[hqi,if_false];exact g0 q (by omega) hq2
  ·by_cases hqi:q=i
   ·subst hqi
    simp only[Nat.le_refl,if_true,show ¬q+1≤q by omega,if_false,g1]
    exact⟨h1,h2,h3⟩
   ·simp only[show ¬q≤i by omega,show ¬q+1≤i by omega,if_false]
    exact g3 q hq (by omega) hq2
theorem SpecC.drawPI(hmix:P.follows .mixedOrders=true)(id:Nat){ops:Array Oper}{ts:TS}{Q:Exit→TS→Prop}(m:Nat)(wr bads:List (List Nat))(hc:Ja4 ops m wr bads=true){d:Nat}{v:AV}{g:Nat}
  (h:PreOkI P ops wr bads (Soft d v g) (SpecOs P ops (Q .normal) (ops.toList.drop m)) 0 (ops.toList.take m) ts):SpecC P (.region id ops true) ts Q:=by
 have hd:=JhX hc
 obtain⟨Fs,g1,g2,g0,g3⟩:=Jjy hd.le (C:=SpecOs P ops (Q .normal) (ops.toList.drop m)) m 0 ts (by omega) (by simpa using h)
 have hn:∀k,k≤m→(Fs k).n=(Fs 0).n:=by
  intro k
  induction k with
  |zero=>intro _;rfl
  |succ k ih=>intro hk;exact(g3 k (by have:=hd.le;omega) (Nat.zero_le _) (by omega)).1.trans (ih (by omega))
 intro E G a w hr
 refine wp_region_any hmix ?_
 have hlist:∀j,¬JF (Array.replicate ops.size false) j:=fun j=>by
  unfold JF
  by_cases h:j<ops.size<;>simp[h]
 refine JnC hd (E:=E) (K:=Q .normal) (Q:=fun ex a' w'=>∃ts' G',Q ex ts'∧Rel E ts' G' a' w') (fun ts' G' a' w' hK hr'=>⟨ts',G',hK,hr'⟩) hn
  (fun i hi t ht=>(g3 i (by have:=hd.le;omega) (Nat.zero_le _) hi).2.1 t ht) (fun i hi him ts1 hn1 hag hsl=>?_) g2 ops.size _ ts G a { w with drawn:=w.drawn+1 } (by simp)
  (by unfold left;exact Nat.le_trans (List.length_filter_le _ _) (by simp)) (fun i _ hl=>absurd hl (hlist i)) (fun j _ _=>hlist j) ⟨by rw[g1],fun t k hk h1 h2=>?_⟩ hr.drew
 ·obtain⟨k,hk1,hk2⟩:=hsl d
  have:=(g3 i hi (Nat.zero_le _) him).2.2 ts1 ((g0 k (Nat.zero_le _) hk1).same hk2)
  have he:Jm (bads.getD i []) ts1 (Fs i)=ts1:=by
   refine Jcy (by show(Fs i).n=ts1.n;rw[hn i (by omega),hn1]) fun t=>?_
   cases hb:(bads.getD i []).contains t with
   |true=>exact JaF hb
   |false=>exact(V9 hb).trans (hag t hb).symm
  rw[he] at this
  exact this
 ·have hF:∀i,i<m→∀t,t ∉ wr.getD i []→SameSlot (Fs (i+1)) (Fs i) t:=fun i hi t ht=>(g3 i (by have:=hd.le;omega) (Nat.zero_le _) hi).2.1 t ht
  have:=Jds hF (t:=t) k 0 (by omega) fun j _ h4 hw=>hlist j (h1 j (by omega) hw)
  rw[Nat.zero_add,g1] at this
  exact this.symm
def spc(d:Nat)(o:Oper):Bool :=
 match o.op,o.guard with
 | .fieldAddr _ (.tmp t) _,none=>t == d
 | .move (.tmp t),none=>t == d
 |_,_=>false
def JcL(d:Nat)(all:List Oper)(wr bad:List Nat)(o:Oper):Bool :=
 if spc d o then (match o.dst with|some e=>wr.contains e && !bad.contains e|none=>false) && wr.all (fun t=>!bad.contains t) else YP all wr bad o
def Jd2(d:Nat)(all:List Oper):List (List Nat×List Nat)→List Oper→Bool
 | [],_=>true
 |_ :: _,[]=>false
 | (wr,bad) :: r,o :: l=>JcL d all wr bad o && Jd2 d all r l
def Jac(d g:Nat):AV→Bool
 | .ref d' g' _=>d' == d && g' == g
 |_=>false
def nlc(d g:Nat)(F:TS)(o:Oper):Bool :=
 match o.op,o.guard,o.dst with
 | .nilCheck (.tmp t),none,some _=>Jac d g (F.tmp t)
 |_,_,_=>false
def wDrawI(T:Tys P)(all:List Oper)(d:Nat)(v:AV)(g:Nat):List (List Nat×List Nat)→List Oper→(TS→Prop)→TS→Prop
 | [],l,K,ts=>Soft d v g ts∧wOps T all l K ts
 |_ :: _,[],_,_=>False
 | (wr,bad) :: r,o :: l,K,ts=>Soft d v g ts∧wGp T all o (wDrawI T all d v g r l K) ts∧(spc d o=true∨nlc d g ts o=true∨(Ve bad ts o.op.operands.toList=true∧JH wr ts o=true))
def shR(off:Nat):AV→Option AV
 | .ref d' g' o=>some (.ref d' g' (o+off))
 |_=>none
theorem Soft.shift{d:Nat}{v:AV}{g off:Nat}{A:TS}(h:Soft d v g A)(hv:Jac d g v=true):A.shift v off=shR off v:=by
 unfold Jac at hv
 split at hv
 ·rename_i d' g' o
  simp only[Bool.and_eq_true,beq_iff_eq] at hv
  obtain⟨rfl,rfl⟩:=hv
  simp only[TS.shift,TS.live,h.gen,h.obj,beq_self_eq_true,Bool.and_self,if_true,shR]
 ·cases hv
theorem PreOkI.step{T:Tys P}{all:List Oper}{wrs bads:List (List Nat)}{C:TS→Prop}{i d g:Nat}{v:AV}{o:Oper}{l:List Oper}{F:TS}{wr bad:List Nat}(hv:Jac d g v=true)(hw:wrs.getD i []=wr)(hb:bads.getD i []=bad)
  (hs:JcL d all wr bad o=true) (hF:Soft d v g F) (ho:spc d o=true∨nlc d g F o=true∨(Ve bad F o.op.operands.toList=true∧JH wr F o=true))
  (h:wGp T all o (fun F'=>PreOkI P (List.toArray all) wrs bads (Soft d v g) C (i+1) l F') F):PreOkI P (List.toArray all) wrs bads (Soft d v g) C i (o :: l) F:=by
 refine⟨hF,?_⟩
 by_cases hsp:spc d o=true
 ·unfold JcL at hs
  rw[if_pos hsp] at hs
  obtain⟨dst,op,ty,pos,after,gd⟩:=o
  unfold spc at hsp
  split at hsp
  ·rename_i s t f heq hg
   simp only at heq hg
   subst heq hg
   have ht:t=d:=by simpa using hsp
   subst ht
   cases dst with
   |none=>simp at hs
   |some e =>
    simp only[Bool.and_eq_true,Bool.not_eq_true'] at hs
    obtain⟨⟨h1,h2⟩,h3⟩:=hs
    unfold wGp at h
    simp only at h
    have h:=opKp.up h
    rw[Jeu] at h
    have hev:∀A,Soft t v g A→A.ev (.tmp t)=v:=fun A hA=>hA.tmp
    have hmx:∀J,Soft t v g J→Soft t v g (Jm bad J F):=fun J hJ=>by
     cases hb:bad.contains t with
     |true=>exact hJ.same (JaF hb)
     |false=>exact hF.same (V9 hb)
    unfold JcN at h
    split at h
    ·rename_i fs hk
     obtain⟨q,hq1,hq2⟩:=Jv h
     obtain⟨hq3,hq4,hq5⟩:=hq2
     obtain⟨y,hy1,hy2⟩:=Jv hq5
     rw[hev F hF,hF.shift hv] at hy1
     refine⟨F.put e y,rfl,fun t' ht'=>?_,fun J hJ=>?_,hy2.2⟩
     ·rw[hw] at ht'
      exact(Loc.put e y).off F t' fun hm=>ht' (by
       have:t'=e:=by simpa using hm
       subst this;exact List.contains_iff_mem.1 h1)
     ·rw[hw,hb]
      have hl:=Jek ((Loc.put e y).wide (vs:=wr) fun t' ht'=>by
       have:t'=e:=by simpa using ht'
       subst this;exact List.contains_iff_mem.1 h1) h3 J F
      unfold SpecG
      simp only
      refine Z7 T ?_
      rw[Jeu]
      unfold JcN
      rw[hk]
      simp only
      rw[hq1]
      refine⟨hq3,hq4,?_⟩
      rw[hev _ (hmx J hJ),(hmx J hJ).shift hv,hy1]
      exact⟨hy2.1,hl⟩
    ·exact h.elim
  ·rename_i t heq hg
   simp only at heq hg
   subst heq hg
   have ht:t=d:=by simpa using hsp
   subst ht
   cases dst with
   |none=>simp at hs
   |some e =>
    simp only[Bool.and_eq_true,Bool.not_eq_true'] at hs
    obtain⟨⟨h1,h2⟩,h3⟩:=hs
    unfold wGp at h
    simp only at h
    have h:=opKp.up h
    rw[Jgg] at h
    have hev:∀A,Soft t v g A→A.ev (.tmp t)=v:=fun A hA=>hA.tmp
    have hmx:∀J,Soft t v g J→Soft t v g (Jm bad J F):=fun J hJ=>by
     cases hb:bad.contains t with
     |true=>exact hJ.same (JaF hb)
     |false=>exact hF.same (V9 hb)
    rw[hev F hF] at h
    refine⟨F.put e v,rfl,fun t' ht'=>?_,fun J hJ=>?_,h.2⟩
    ·rw[hw] at ht'
     exact(Loc.put e v).off F t' fun hm=>ht' (by
      have:t'=e:=by simpa using hm
      subst this;exact List.contains_iff_mem.1 h1)
    ·rw[hw,hb]
     have hl:=Jek ((Loc.put e v).wide (vs:=wr) fun t' ht'=>by
      have:t'=e:=by simpa using ht'
      subst this;exact List.contains_iff_mem.1 h1) h3 J F
     unfold SpecG
     simp only
     refine Z7 T ?_
     rw[Jgg,hev _ (hmx J hJ)]
     exact⟨h.1,hl⟩
  ·cases hsp
 ·have hso:YP all wr bad o=true:=by unfold JcL at hs;rwa [if_neg hsp] at hs
  rcases ho with ho|ho|⟨ho1,ho2⟩
  ·exact absurd ho hsp
  ·obtain⟨dst,op,ty,pos,after,gd⟩:=o
   unfold nlc at ho
   split at ho
   ·rename_i t e heq hg hds
    simp only at heq hg hds
    subst heq hg hds
    ·simp only[YP,Bool.and_eq_true,Op.operands] at hso
     obtain⟨⟨⟨⟨_,h1,h2⟩,h3⟩,h4⟩,_⟩:=hso
     have hbt:bad.contains t=false:=by simpa using h4
     unfold wGp at h
     simp only at h
     have h:=opKp.up h
     rw[Jev] at h
     have hth:∀A,Soft d v g A→A.there (F.tmp t)=true:=fun A hA=>by
      revert ho
      generalize F.tmp t=y
      intro ho
      unfold Jac at ho
      split at ho
      ·simp only[Bool.and_eq_true,beq_iff_eq] at ho
       obtain⟨rfl,rfl⟩:=ho
       simp only[TS.there,TS.live,hA.gen,hA.obj,beq_self_eq_true,Bool.and_self]
      ·cases ho
     have hmx:∀J,Soft d v g J→Soft d v g (Jm bad J F):=fun J hJ=>by
      cases hb:bad.contains d with
      |true=>exact hJ.same (JaF hb)
      |false=>exact hF.same (V9 hb)
     refine⟨F.put e (F.tmp t),rfl,fun t' ht'=>?_,fun J hJ=>?_,h.2.2⟩
     ·rw[hw] at ht'
      exact(Loc.put e _).off F t' fun hm=>ht' (by
       have:t'=e:=by simpa using hm
       subst this;exact List.contains_iff_mem.1 h1)
     ·rw[hw,hb]
      have hl:=Jek ((Loc.put e (F.tmp t)).wide (vs:=wr) fun t' ht'=>by
       have:t'=e:=by simpa using ht'
       subst this;exact List.contains_iff_mem.1 h1) h3 J F
      unfold SpecG
      simp only
      refine Z7 T ?_
      rw[Jev]
      have he:(Jm bad J F).ev (.tmp t)=F.tmp t:=(V9 hbt).1
      rw[he]
      exact⟨hth _ (hmx J hJ),h.2.1,hl⟩
   ·cases ho
  ·obtain⟨F',a1,a2,a3,a4⟩:=wDraw.step (T:=T) (C:=fun F'=>PreOkI P (List.toArray all) wrs bads (Soft d v g) C (i+1) l F') (l:=[]) hw hb hso ho1 ho2 h
   exact⟨F',a1,a2,fun J _=>a3 J,a4⟩
theorem wGp.mono{T:Tys P}{all:List Oper}{o:Oper}{F:TS}{K1 K2:TS→Prop}(hdr:VJ o=true)(hk:∀F',K1 F'→K2 F')(h1:wGp T all o K1 F):wGp T all o K2 F:=by
 have mono:opKp T o F K1→opKp T o F K2:=fun ho=>by
  exact Jgh hdr (by
   refine Jbo _ (List.all_eq_true.2 fun x _=>by cases x<;>simp) ?_
   generalize o.op.operands.toList=xs
   induction xs with
   |nil=>rfl
   |cons x r ih=>cases x<;>simp[Ve,ih,Jfg]) hk ho
 unfold wGp at h1 ⊢
 split
 ·rename_i hg;rw[hg] at h1;exact mono h1
 ·rename_i j want hg
  rw[hg] at h1
  simp only at h1
  generalize Vu F all j=v at h1 ⊢
  unfold gK at h1 ⊢
  have skip:VA o.dst K1 F→VA o.dst K2 F:=fun h=>by
   unfold VA at h ⊢
   cases hd:o.dst with
   |none=>rw[hd] at h;exact hk _ h
   |some d=>rw[hd] at h;exact⟨h.1,hk _ h.2⟩
  split
  ·exact⟨fun e=>mono (h1.1 e),fun e=>skip (h1.2 e)⟩
  ·exact skip h1
  ·rename_i g1 g2
   split at h1
   ·exact(g1 _ rfl).elim
   ·exact(g2 rfl).elim
   ·exact h1
theorem wDrawI.pre{T:Tys P}{all:List Oper}{d g:Nat}{v:AV}(hv:Jac d g v=true){wrs bads:List (List Nat)}{K:TS→Prop}:∀(q:List (List Nat×List Nat)) (l:List Oper) (i:Nat) (F:TS),(wrs.zip bads).drop i=q→wrs.length=bads.length→Jd2 d all q l=true→all.drop i=l→wDrawI T all d v g q l K F →
  PreOkI P (List.toArray all) wrs bads (Soft d v g) (SpecOs P (List.toArray all) K (all.drop (i+q.length))) i (l.take q.length) F
 | [],l,i,F,_,_,_,hl,h=>by
  rw[List.length_nil,Nat.add_zero,hl]
  exact⟨h.1,wOps.sound h.2⟩
 | (wr,bad) :: r,[],i,F,_,_,_,_,h=>h.elim
 | (wr,bad) :: r,o :: l,i,F,hq,hlen,hs,hl,h=>by
  obtain⟨h0,h1,h2⟩:=h
  simp only[Jd2,Bool.and_eq_true] at hs
  have hzi:(wrs.zip bads)[i]?=some (wr,bad):=by
   have:=congrArg (fun l=>l[0]?) hq
   simpa using this
  have hw:wrs.getD i []=wr:=by
   have:wrs[i]?=some wr:=(List.getElem?_zip_eq_some.1 hzi).1
   simp[this]
  have hb:bads.getD i []=bad:=by
   have:bads[i]?=some bad:=(List.getElem?_zip_eq_some.1 hzi).2
   simp[this]
  have hq':(wrs.zip bads).drop (i+1)=r:=by rw[←List.drop_drop,hq];rfl
  have hl':all.drop (i+1)=l:=by rw[←List.drop_drop,hl];rfl
  have e:i+((wr,bad) :: r).length=i+1+r.length:=by simp;omega
  rw[e]
  have hdr:VJ o=true:=by
   by_cases hsp:spc d o=true
   ·unfold spc at hsp
    split at hsp
    ·rename_i hop _;unfold VJ;rw[hop]
    ·rename_i hop _;unfold VJ;rw[hop]
    ·cases hsp
   ·have:=hs.1
    unfold JcL at this
    rw[if_neg hsp] at this
    simp only[YP,Bool.and_eq_true] at this
    exact this.1.1.1.1
  exact PreOkI.step (T:=T) hv hw hb hs.1 h0 h2 (wGp.mono hdr (fun F' h=>wDrawI.pre hv (wrs:=wrs) (bads:=bads) r l (i+1) F' hq' hlen hs.2 hl' h) h1)
theorem SpecC.drawI(T:Tys P)(hmix:P.follows .mixedOrders=true)(d:Nat)(q:List (List Nat×List Nat)){id:Nat}{l:List Oper}{ts:TS}{Q:Exit→TS→Prop}
  (hc:(Ja4 (List.toArray l) q.length (q.map (·.1)) (q.map (·.2)) && Jd2 d l q l)=true) (h:∀K,NxK (fun ts'=>Q .normal ts') K→Jac d (ts.gen d) (ts.tmp d)=true∧wDrawI T l d (ts.tmp d) (ts.gen d) q l K ts):SpecC P (.region id (List.toArray l) true) ts Q:=by
 simp only[Bool.and_eq_true] at hc
 have hz:=Jfj q
 obtain⟨h1,h2⟩:=h _ ⟨fun _ h=>h⟩
 have:=wDrawI.pre h1 (wrs:=q.map (·.1)) (bads:=q.map (·.2)) q l 0 ts (by rw[hz];rfl) (by simp) hc.2 rfl h2
 exact SpecC.drawPI hmix id q.length _ _ hc.1 (by simpa using this)
section
variable (T:Tys P) (all:List Oper) (ts:TS) (K:TS→Prop) (wr bad:List Nat) (r:List (List Nat×List Nat)) (o:Oper) (l:List Oper) (d g:Nat) (v:AV)
theorem Soft.iff:Soft d v g ts=(ts.tmp d=v∧ts.gen d=g∧(ts.obj d).kind.isSome=true):=propext ⟨fun h=>⟨h.1,h.2,h.3⟩,fun h=>⟨h.1,h.2.1,h.2.2⟩⟩
@[go_sem] theorem JGU:wDrawI T all d v g [] l K ts=((ts.tmp d=v∧ts.gen d=g∧(ts.obj d).kind.isSome=true)∧wOps T all l K ts):=by rw[←Soft.iff];rfl
@[go_sem] theorem JGT:wDrawI T all d v g ((wr,bad) :: r) (o :: l) K ts=((ts.tmp d=v∧ts.gen d=g∧(ts.obj d).kind.isSome=true)∧wGp T all o (wDrawI T all d v g r l K) ts∧(spc d o=true∨nlc d g ts o=true∨(Ve bad ts (JN o)=true∧JH wr ts o=true))):=by rw[←Soft.iff];rfl
@[go_sem] theorem JDL(d' g' o:Nat):Jac d g (.ref d' g' o)=(d' == d && g' == g):=rfl
@[go_sem] theorem JAd(dst:Option Nat)(op:Op)(ty:TypeId)(pos:String)(after:Array Edge)(gd:Option (Nat×Bool)):nlc d g ts ⟨dst,op,ty,pos,after,gd⟩=(match op,gd,dst with|.nilCheck (.tmp t),none,some _=>Jac d g (ts.tmp t)|_,_,_=>false):=rfl
@[go_sem] theorem JE5(dst:Option Nat)(op:Op)(ty:TypeId)(pos:String)(after:Array Edge)(gd:Option (Nat×Bool)):spc d ⟨dst,op,ty,pos,after,gd⟩=(match op,gd with|.fieldAddr _ (.tmp t) _,none=>t == d|.move (.tmp t),none=>t == d|_,_=>false):=rfl
end
end Go.Proofs.YthjalhfmpffbjaaGreatDoor.Lg
