/- Parts of the proof, one behind the other. -/
import Derived.Test.YthjalhfmpffbjaaGreatDoorG15
set_option linter.unusedVariables false
set_option linter.unusedSimpArgs false
set_option maxRecDepth 100000
set_option maxHeartbeats 64000000
namespace Go.Proofs.YthjalhfmpffbjaaGreatDoor.Lg
open Go
variable {P:Program}
theorem Rel.renO{E:Env}{ts:TS}{G:Ghost}{a:Act}{w:World}(h:Rel E ts G a w)(d d':Nat):Rel E (ts.ren d d') (G.set d' (G.β d) (G.κ d)) a w:=by
 have hobj:∀e,(ts.ren d d').obj e=if e=d' then ts.obj d else if e=d then .dead else ts.obj e:=fun e=>by
  simp only[TS.ren,Jp]
 have hβ:∀e,(G.set d' (G.β d) (G.κ d)).β e=if e=d' then G.β d else G.β e:=fun e=>rfl
 have hκ:∀e,(G.set d' (G.β d) (G.κ d)).κ e=if e=d' then G.κ d else G.κ e:=fun e=>rfl
 have live:∀e,Jj (ts.ren d d') (G.set d' (G.β d) (G.κ d)) e→(e=d'∧Jj ts G d)∨(e≠d'∧e≠d∧Jj ts G e):=fun e he=>by
  unfold Jj at he
  rw[hobj,hκ] at he
  by_cases e1:e=d'
  ·simp only[e1,if_true] at he;exact .inl ⟨e1,he⟩
  ·simp only[e1,if_false] at he
   by_cases e2:e=d
   ·simp[e2,Ob.kind] at he
   ·simp only[e2,if_false] at he;exact .inr ⟨e1,e2,he⟩
 have hle:(Jb E G ts w).Le (Jb E (G.set d' (G.β d) (G.κ d)) (ts.ren d d') w) :=
  {blk:=fun b' hM hc=>⟨rfl,by
    rintro(hF|⟨e,he,hb⟩)
    ·exact hM (.inl hF)
    ·simp only[Jb,hβ] at hb
     rcases live e he with ⟨e1,hl⟩|⟨e1,e2,hl⟩
     ·rw[if_pos e1] at hb;exact hM (.inr ⟨d,hl,hb⟩)
     ·rw[if_neg e1] at hb;exact hM (.inr ⟨e,hl,hb⟩)⟩
   gen:=fun e=>by by_cases h:e=d'<;>simp[Jb,TS.ren,Jp,h]
   kind:=fun e k hg hk=>by
    by_cases e1:e=d'
    ·subst e1;simp[Jb,TS.ren] at hg
    ·simp only[Jb,hobj,hβ,hκ,e1,if_false] at hk ⊢
     by_cases e2:e=d
     ·simp[e2,Ob.kind] at hk
     ·simp only[e2,if_false] at hk;exact⟨hk,by simp,by simp⟩ }
 refine⟨h.size,h.defers,fun t=>(h.tmp t).mono hle,fun e=>?_,fun e e' h1 h2 h3=>?_,fun e h1=>?_,h.inF,h.bel,fun j b hj hg=>?_⟩
 ·show ObOk (Jb E (G.set d' (G.β d) (G.κ d)) (ts.ren d d') w) e ((ts.ren d d').obj e)
  rw[hobj]
  by_cases e1:e=d'
  ·rw[if_pos e1]
   have:=h.obj d
   cases ho:ts.obj d with
   |dead=>trivial
   |box cs =>
    rw[ho] at this
    obtain⟨p0,vs,T,p1,p2,p3⟩:=this
    refine⟨by simp only[Jb,hκ,e1,if_true];exact p0,vs,T,by simp only[Jb,hβ,e1,if_true];exact p1,p2,fun i=>(p3 i).mono hle⟩
   |arr sz xs =>
    rw[ho] at this
    obtain⟨p0,p1,p2⟩:=this
    refine⟨p0,p1,?_⟩
    have hk':(Jb E (G.set d' (G.β d) (G.κ d)) (ts.ren d d') w).κ e=(Jb E G ts w).κ d:=by simp only[Jb,hκ,e1,if_true]
    rw[hk']
    cases hc:(Jb E G ts w).κ d with
    |none=>rw[hc] at p2;exact p2
    |some cap =>
     rw[hc] at p2
     obtain⟨vs,T,q1,q2,q3,q4⟩:=p2
     exact⟨vs,T,by simp only[Jb,hβ,e1,if_true];exact q1,q2,q3,fun i j hi hj=>(q4 i j hi hj).mono hle⟩
   |iter l p =>
    rw[ho] at this
    obtain⟨p0,s,p1,p2⟩:=this
    exact⟨by simp only[Jb,hκ,e1,if_true];exact p0,s,by simp only[Jb,hβ,e1,if_true];exact p1,p2⟩
   |mp ks vs =>
    rw[ho] at this
    obtain⟨p0,es,cl,p1,p2,p3,p4,p5,p6⟩:=this
    exact⟨by simp only[Jb,hκ,e1,if_true];exact p0,es,cl,by simp only[Jb,hβ,e1,if_true];exact p1,p2,p3,fun i=>(p4 i).mono hle,fun i=>(p5 i).mono hle,p6⟩
  ·rw[if_neg e1]
   by_cases e2:e=d
   ·rw[if_pos e2];trivial
   ·rw[if_neg e2]
    exact ObOk.mono hle (by simp only[Jb,hκ,e1,if_false]) (by simp only[Jb,hβ,e1,if_false]) (fun _ _=>rfl) (h.obj e)
 ·rw[hβ,hβ] at h3
  rcases live e h1 with ⟨e1,l1⟩|⟨e1,e2,l1⟩<;>rcases live e' h2 with ⟨f1,l2⟩|⟨f1,f2,l2⟩
  ·rw[e1,f1]
  ·rw[if_pos e1,if_neg f1] at h3
   exact absurd (h.sep d e' l1 l2 h3).symm f2
  ·rw[if_neg e1,if_pos f1] at h3
   exact absurd (h.sep e d l1 l2 h3) e2
  ·rw[if_neg e1,if_neg f1] at h3
   exact h.sep e e' l1 l2 h3
 ·rw[hβ]
  rcases live e h1 with ⟨e1,l1⟩|⟨e1,e2,l1⟩
  ·rw[if_pos e1];exact h.own d l1
  ·rw[if_neg e1];exact h.own e l1
 ·rw[hβ]
  by_cases e1:j=d'
  ·subst e1;simp[TS.ren] at hg
  ·rw[if_neg e1];exact h.pin j b hj (by simpa[TS.ren,Jp,e1] using hg)
theorem Ent.renM{ts:TS}(d j e d':Nat){q:List AV×List AV}{len:Nat}{p:Nat×List AV}(h1:(ts.obj d).mp?=some q)(h2:q.2.getD j .any=.os e (ts.gen e) len)(h3:(ts.obj e).arr?=some p)(h4:e≠d∧d'≠d) :
  Ent ts ((ts.ren e d').setObj d (.mp q.1 (q.2.set j (.os d' (ts.gen d'+1) len)))):=fun E G a w hr=>by
 have ho:=Jcd h1
 have ha:=ZD h3
 obtain⟨hne,hne'⟩:=h4
 have hk:=hr.renO e d'
 refine⟨G.set d' (G.β e) (G.κ e),?_⟩
 have hβ:(G.set d' (G.β e) (G.κ e)).β d=G.β d:=by simp[Ghost.set,Jp,hne'.symm]
 have hob:=hk.obj d
 have hod:(ts.ren e d').obj d=.mp q.1 q.2:=by simp[TS.ren,Jp,hne.symm,hne'.symm,ho]
 rw[hod] at hob
 obtain⟨hκ,es,cl,b1,b2,b3,b4,b5,b6⟩:=hob
 have hlive:Jj (ts.ren e d') (G.set d' (G.β e) (G.κ e)) d:=⟨by simp[hod,Ob.kind],hκ⟩
 refine hk.setObj d _ (by simp[hod,Ob.kind]) hlive rfl rfl rfl rfl (fun _ _=>rfl) ?_
 have hle:(Jb E (G.set d' (G.β e) (G.κ e)) (ts.ren e d') w).Le (Jb E (G.set d' (G.β e) (G.κ e)) ((ts.ren e d').setObj d (.mp q.1 (q.2.set j (.os d' (ts.gen d'+1) len)))) w):=Zn E _ _ w w d _ (by simp[hod,Ob.kind]) hlive (fun _ _=>rfl)
 refine⟨hκ,es,cl,b1,b2,by simp[b3],fun i=>(b4 i).mono hle,fun i=>?_,b6⟩
 by_cases hi:j=i
 ·subst hi
  by_cases hl:j<q.2.length
  ·have e1:(q.2.set j (.os d' (ts.gen d'+1) len)).getD j .any=.os d' (ts.gen d'+1) len:=by simp[hl]
   rw[e1]
   have hob0:=hr.obj d
   rw[ho] at hob0
   obtain⟨_,es',cl',c1,_,_,_,c5,_⟩:=hob0
   have he:es'=es∧cl'=cl:=by
    have c1:w.heap[G.β d]?=some (.map es' cl'):=c1
    have b1:w.heap[(G.set d' (G.β e) (G.κ e)).β d]?=some (.map es cl):=b1
    rw[hβ] at b1
    have:=c1.symm.trans b1
    simp only[Option.some.injEq,Obj.map.injEq] at this
    exact this
   obtain⟨rfl,rfl⟩:=he
   have hv:=c5 j
   rw[h2] at hv
   obtain⟨h1c,hgl,hos⟩:=Yn hv
   have hos:=hos rfl (by simp[Jb,ha,Ob.kind])
   refine .os d' _ _ _ h1c (by simp[Jb,TS.ren,TS.setObj]) fun _ _=>?_
   unfold JO at hos ⊢
   simpa[Jb,Ghost.set] using hos
  ·rw[Jbe (by simp;omega)];exact .any _
 ·have e1:(q.2.set j (.os d' (ts.gen d'+1) len)).getD i .any=q.2.getD i .any:=by simp[List.getElem?_set,hi]
  rw[e1];exact(b5 i).mono hle
def JgA(q:Option (List AV×List AV))(ts:TS)(d j e d' len:Nat):TS :=
 match q with
 |some q=>(ts.ren e d').setObj d (.mp q.1 (q.2.set j (.os d' (ts.gen d'+1) len)))
 |none=>ts
def TS.renMp(ts:TS)(d j e d' len:Nat):TS:=JgA (ts.obj d).mp? ts d j e d' len
def JjM(q:Option (List AV×List AV))(p:Option (Nat×List AV))(ts:TS)(d j e d' len:Nat):Prop :=
 match q,p with
 |some q,some _=>q.2.getD j .any=.os e (ts.gen e) len∧e≠d∧d'≠d
 |_,_=>False
@[go_sem] theorem JD2(ts:TS)(d j e d' len:Nat):ts.renMp d j e d' len=JgA (ts.obj d).mp? ts d j e d' len:=rfl
@[go_sem] theorem JD3(q:List AV×List AV)(ts:TS)(d j e d' len:Nat):JgA (some q) ts d j e d' len=(ts.ren e d').setObj d (.mp q.1 (q.2.set j (.os d' (ts.gen d'+1) len))):=rfl
@[go_sem] theorem JDM(q:List AV×List AV)(p:Nat×List AV)(ts:TS)(d j e d' len:Nat):JjM (some q) (some p) ts d j e d' len=(q.2.getD j .any=.os e (ts.gen e) len∧e≠d∧d'≠d):=rfl
theorem Ent.renM2{ts:TS}(d j e d' len:Nat)(h:JjM (ts.obj d).mp? (ts.obj e).arr? ts d j e d' len):Ent ts (ts.renMp d j e d' len):=by
 unfold TS.renMp
 cases hq:(ts.obj d).mp? with
 |none=>rw[hq] at h;exact h.elim
 |some q=>cases hp:(ts.obj e).arr? with
  |none=>rw[hq,hp] at h;exact h.elim
  |some p =>
   rw[hq,hp] at h
   exact Ent.renM d j e d' hq h.1 hp h.2
theorem Ent.frzFrom{d B sz:Nat}{ks:List AV}{xs:List (List AV)}(hB:d<B):∀(k:Nat) (ts:TS) (vs:List AV),k≤xs.length→ts.obj d=.mp ks vs→vs.length=xs.length →
  (∀j,j<xs.length→xs.length-k≤j→vs.getD j .any=.os (j+B) (ts.gen (j+B)) (xs.getD j []).length∧ts.obj (j+B)=.arr sz (xs.getD j [])) →
  (∀j,j<xs.length-k→vs.getD j .any=.slice false (xs.getD j [])) →
  ∃ts',Ent ts ts'∧ts'.n=ts.n∧ts'.tmp=ts.tmp∧ts'.gen=ts.gen∧ts'.obj d=.mp ks (xs.map (AV.slice false))∧∀e,e<B→e≠d→ts'.obj e=ts.obj e
 |0,ts,vs,_,h0,hl,_,h2=>by
  refine⟨ts,Ent.rfl' ts,rfl,rfl,rfl,?_,fun _ _ _=>rfl⟩
  rw[h0]
  congr 1
  refine List.ext_getElem (by simpa using hl) fun j p1 p2=>?_
  have hj:j<xs.length:=by omega
  have:=h2 j (by omega)
  simpa[p1,hj] using this
 |k+1,ts,vs,hk,h0,hl,h1,h2=>by
  have hj:xs.length-(k+1)<xs.length:=by omega
  obtain⟨q1,q2⟩:=h1 _ hj (Nat.le_refl _)
  generalize hj0:xs.length-(k+1)=j at *
  have he:=Ent.frzM (ts:=ts) d j (q:=(ks,vs)) (e:=j+B) (g:=ts.gen (j+B)) (len:=(xs.getD j []).length) (p:=(sz,xs.getD j [])) (by rw[h0];rfl) q1 (by rw[q2];rfl) ⟨⟨rfl,rfl⟩,by omega⟩
  obtain⟨ts',r1,r2,r3,r4,r5,r6⟩:=Ent.frzFrom (ks:=ks) (xs:=xs) (sz:=sz) hB k ((ts.kill (j+B)).setObj d (.mp ks (vs.set j (.slice false (xs.getD j []))))) (vs.set j (.slice false (xs.getD j []))) (by omega) (by simp[TS.setObj]) (by simpa using hl)
   (fun i hi hik=>by
    have hij:i≠j:=by omega
    obtain⟨s1,s2⟩:=h1 i hi (by omega)
    refine⟨?_,?_⟩
    ·rw[show(vs.set j (.slice false (xs.getD j []))).getD i .any=vs.getD i .any by simp[List.getElem?_set,Ne.symm hij]]
     exact s1
    ·have e1:i+B≠d:=by omega
     have e2:i+B≠j+B:=by omega
     simp[TS.setObj,TS.kill,Jp,e1,hij,s2])
   (fun i hi=>by
    by_cases hij:i=j
    ·subst hij
     simp[show i<vs.length by omega]
    ·rw[show(vs.set j (.slice false (xs.getD j []))).getD i .any=vs.getD i .any by simp[List.getElem?_set,Ne.symm hij]]
     exact h2 i (by omega))
  refine⟨ts',he.trans r1,r2,r3,r4,r5,fun e he1 he2=>?_⟩
  rw[r6 e he1 he2]
  have e2:e≠j+B:=by omega
  simp[TS.setObj,TS.kill,Jp,he2,e2]
def Zr(o:Oper):List Operand :=
 match o.op with
 | .extract _ _=>[]
 |_=>o.op.operands.toList
theorem Jpn(T:Tys P){o:Oper}{bad:List Nat}{F:TS}{K:TS→Prop}(h4:(o.op.operands.toList.all fun x=>match x with|.tmp t=>!bad.contains t|_=>true)=true)(ho:Ve bad F (Zr o)=true)(hdr:VJ o=true)
  (hd:∀d,o.dst=some d→bad.contains d=false) (h:opKp T o F K):Same o bad F (VG F o) K fun A K'=>Js T o A K':=by
 by_cases hx:∃x i,o.op=.extract x i
 ·obtain⟨x,i,hx⟩:=hx
  obtain⟨dst,op,ty,pos,after,gd⟩:=o
  subst hx
  have hx:∀J,(Jm bad J F).ev x=F.ev x:=fun J=>by
   cases x with
   |tmp t =>
    have:bad.contains t=false:=by simpa[Op.operands] using h4
    exact(V9 this).1
   |_=>rfl
  have h:=opKp.up h
  rw[Jet] at h
  unfold Jd5 at h
  split at h
  ·rename_i vs hvs
   exact(Same.set (o:=⟨dst,_,ty,pos,after,gd⟩) h.2).mono fun J K' hs=>by rw[Jet,hx,hvs];exact⟨h.1,hs⟩
  ·exact h.elim
 ·have e:Zr o=o.op.operands.toList:=by
   unfold Zr
   split
   ·rename_i x i he;exact absurd ⟨x,i,he⟩ hx
   ·rfl
  rw[e] at ho
  exact Jge T (Jbo _ h4 ho) hdr hd h
def wDrawX(T:Tys P)(all:List Oper):List (List Nat×List Nat)→List Oper→(TS→Prop)→TS→Prop
 | [],l,K,ts=>wOps T all l K ts
 |_ :: _,[],_,_=>False
 | (wr,bad) :: r,o :: l,K,ts=>wGp T all o (wDrawX T all r l K) ts∧(Ve bad ts (Zr o)=true∧JH wr ts o=true)
theorem wDrawX.step{T:Tys P}{all:List Oper}{wrs bads:List (List Nat)}{C:TS→Prop}{i:Nat}{o:Oper}{l:List Oper}{F:TS}{wr bad:List Nat}(hw:wrs.getD i []=wr)(hb:bads.getD i []=bad)
  (hs:YP all wr bad o=true) (ho:Ve bad F (Zr o)=true) (ht:JH wr F o=true)
  (h:wGp T all o (fun F'=>PreOk P (List.toArray all) wrs bads C (i+1) l F') F):PreOk P (List.toArray all) wrs bads C i (o :: l) F:=by
 simp only[YP,Bool.and_eq_true] at hs
 obtain⟨⟨⟨⟨h1,h2⟩,h3⟩,h4⟩,h5⟩:=hs
 have hdst:∀d,o.dst=some d→wr.contains d=true∧bad.contains d=false:=fun d hd=>by
  rw[hd] at h2;simp only[Bool.and_eq_true,Bool.not_eq_true'] at h2;exact h2
 have hmem:∀d,wr.contains d=true→d∈wr:=fun d hd=>List.contains_iff_mem.1 hd
 have main:opKp T o F (fun F'=>PreOk P (List.toArray all) wrs bads C (i+1) l F')→∃g,Loc wr g∧PreOk P (List.toArray all) wrs bads C (i+1) l (g F)∧∀J (K':TS→Prop),K' (g (Jm bad J F))→SpecO P o (Jm bad J F) K':=fun h=>by
  obtain⟨g,ws,g1,g2,g3,g4⟩:=Jpn T h4 ho h1 (fun d hd=>(hdst d hd).2) h
  refine⟨g,g1.wide fun t htw=>?_,g3,fun J K' hk=>Z7 T (g4 J K' hk)⟩
  rcases g2 t htw with hd|htg
  ·exact hmem t (hdst t hd).1
  ·unfold VG at htg
   unfold JH at ht
   split at htg
   ·rename_i p x hop
    rw[hop] at ht
    simp only at ht
    split at htg
    ·rename_i hev;rw[hev] at ht;subst htg;exact hmem _ ht
    ·rename_i hev;rw[hev] at ht;subst htg;exact hmem _ ht
    ·exact htg.elim
   ·rename_i m _ _ hop
    rw[hop] at ht
    simp only at ht
    split at htg
    ·rename_i hev;rw[hev] at ht;subst htg;exact hmem _ ht
    ·exact htg.elim
   ·rename_i m _ hop
    rw[hop] at ht
    simp only at ht
    split at htg
    ·rename_i hev;rw[hev] at ht;subst htg;exact hmem _ ht
    ·exact htg.elim
   ·rename_i m _ _ hop
    rw[hop] at ht
    simp only at ht
    split at htg
    ·rename_i hev;rw[hev] at ht;subst htg;exact hmem _ ht
    ·exact htg.elim
   ·rename_i xs _ hop
    rw[hop] at ht
    simp only at ht
    split at htg
    ·rename_i hev;rw[hev] at ht;subst htg;exact hmem _ ht
    ·exact htg.elim
   ·exact htg.elim
 unfold wGp at h
 split at h
 ·rename_i hg
  obtain⟨g,g1,g2,g3⟩:=main h
  refine PreOk.loc hw hb g1 h3 (fun J=>?_) g2
  unfold SpecG
  rw[hg]
  exact g3 J _ rfl
 ·rename_i j want hg
  rw[hg] at h5
  obtain⟨d,hd1,hd2⟩:=JfQ h5
  have hd1':((List.toArray all)[j]?).bind (·.dst)=some d:=by simpa using hd1
  have hv:Vu F all j=F.tmp d:=by rw[Jeb,hd1]
  have hgd:∀J,YC (List.toArray all) (Jm bad J F) j=YC (List.toArray all) F j:=fun J=>by
   unfold YC
   rw[hd1']
   simp only[(V9 (J:=J) (F:=F) hd2).1]
  generalize hvv:Vu F all j=v at h
  have skip:∀b:Option Bool,YC (List.toArray all) F j=some b→b≠some want→VA o.dst (fun F'=>PreOk P (List.toArray all) wrs bads C (i+1) l F') F→PreOk P (List.toArray all) wrs bads C i (o :: l) F:=fun b hgb hne hs=>by
   unfold VA at hs
   cases hdo:o.dst with
   |none =>
    rw[hdo] at hs
    refine PreOk.loc hw hb (Loc.id wr) h3 (fun J=>?_) hs
    unfold SpecG
    rw[hg]
    refine⟨b,by rw[hgd];exact hgb,?_⟩
    rw[if_neg (by simpa using hne),hdo]
    exact⟨by simp,rfl⟩
   |some e =>
    rw[hdo] at hs
    refine PreOk.loc hw hb ((Loc.put e (.tup [])).wide fun t ht'=>by
     have:t=e:=by simpa using ht'
     subst this;exact hmem _ (hdst _ hdo).1) h3 (fun J=>?_) hs.2
    unfold SpecG
    rw[hg]
    refine⟨b,by rw[hgd];exact hgb,?_⟩
    rw[if_neg (by simpa using hne),hdo]
    exact⟨fun d' e'=>by cases e';exact hs.1,rfl⟩
  unfold gK at h
  split at h
  ·rename_i b
   have hgb:=Jb3 (b:=some b) hvv
   by_cases e:b=want
   ·subst e
    obtain⟨g,g1,g2,g3⟩:=main (h.1 rfl)
    refine PreOk.loc hw hb g1 h3 (fun J=>?_) g2
    unfold SpecG
    rw[hg]
    refine⟨some b,by rw[hgd];exact hgb,?_⟩
    rw[if_pos (by simp)]
    exact g3 J _ rfl
   ·exact skip (some b) hgb (by simpa using e) (h.2 (by cases b<;>cases want<;>simp_all))
  ·exact skip none (Jb3 (b:=none) hvv) (by simp) h
  ·exact h.elim
theorem wDrawX.pre{T:Tys P}{all:List Oper}{wrs bads:List (List Nat)}{K:TS→Prop}:∀(q:List (List Nat×List Nat)) (l:List Oper) (i:Nat) (F:TS),(wrs.zip bads).drop i=q→wrs.length=bads.length→Ja5 all q l=true→all.drop i=l→wDrawX T all q l K F →
  PreOk P (List.toArray all) wrs bads (SpecOs P (List.toArray all) K (all.drop (i+q.length))) i (l.take q.length) F
 | [],l,i,F,_,_,_,hl,h=>by
  rw[List.length_nil,Nat.add_zero,hl]
  exact wOps.sound h
 | (wr,bad) :: r,[],i,F,_,_,_,_,h=>h.elim
 | (wr,bad) :: r,o :: l,i,F,hq,hlen,hs,hl,h=>by
  obtain⟨h1,h2,h3⟩:=h
  simp only[Ja5,Bool.and_eq_true] at hs
  have hzi:(wrs.zip bads)[i]?=some (wr,bad):=by
   have:=congrArg (fun l=>l[0]?) hq
   simpa using this
  have hw:wrs.getD i []=wr:=by
   have:wrs[i]?=some wr:=(List.getElem?_zip_eq_some.1 hzi).1
   simp[this]
  have hb:bads.getD i []=bad:=by
   have:bads[i]?=some bad:=(List.getElem?_zip_eq_some.1 hzi).2
   simp[this]
  have hq':(wrs.zip bads).drop (i+1)=r:=by rw[←List.drop_drop,hq];rfl
  have hl':all.drop (i+1)=l:=by rw[←List.drop_drop,hl];rfl
  have e:i+((wr,bad) :: r).length=i+1+r.length:=by simp;omega
  rw[e]
  refine wDrawX.step (T:=T) hw hb hs.1 h2 h3 ?_
  have mono:∀ {K1 K2:TS→Prop},(∀F',K1 F'→K2 F')→opKp T o F K1→opKp T o F K2:=fun {K1 K2} hk ho=>by
   exact Jgh (by
    have:=hs.1
    simp only[YP,Bool.and_eq_true] at this
    exact this.1.1.1.1) (by
    have:=hs.1
    simp only[YP,Bool.and_eq_true] at this
    refine Jbo _ (List.all_eq_true.2 fun x _=>by cases x<;>simp) ?_
    generalize o.op.operands.toList=xs
    induction xs with
    |nil=>rfl
    |cons x r ih=>cases x<;>simp[Ve,ih,Jfg]) hk ho
  have hk:=fun F' (h:wDrawX T all r l K F')=>wDrawX.pre (wrs:=wrs) (bads:=bads) r l (i+1) F' hq' hlen hs.2 hl' h
  unfold wGp at h1 ⊢
  split
  ·rename_i hg;rw[hg] at h1;exact mono hk h1
  ·rename_i j want hg
   rw[hg] at h1
   simp only at h1
   generalize Vu F all j=v at h1 ⊢
   unfold gK at h1 ⊢
   have skip:VA o.dst (wDrawX T all r l K) F→VA o.dst (fun F'=>PreOk P (List.toArray all) wrs bads (SpecOs P (List.toArray all) K (all.drop (i+1+r.length))) (i+1) (l.take r.length) F') F:=fun h=>by
    unfold VA at h ⊢
    cases hd:o.dst with
    |none=>rw[hd] at h;exact hk _ h
    |some d=>rw[hd] at h;exact⟨h.1,hk _ h.2⟩
   split
   ·exact⟨fun e=>mono hk (h1.1 e),fun e=>skip (h1.2 e)⟩
   ·exact skip h1
   ·rename_i g1 g2
    split at h1
    ·exact(g1 _ rfl).elim
    ·exact(g2 rfl).elim
    ·exact h1
theorem SpecC.drawX(T:Tys P)(hmix:P.follows .mixedOrders=true)(q:List (List Nat×List Nat)){id:Nat}{l:List Oper}{ts:TS}{Q:Exit→TS→Prop}
  (hc:(Ja4 (List.toArray l) q.length (q.map (·.1)) (q.map (·.2)) && Ja5 l q l)=true) (h:∀K,NxK (fun ts'=>Q .normal ts') K→wDrawX T l q l K ts):SpecC P (.region id (List.toArray l) true) ts Q:=by
 simp only[Bool.and_eq_true] at hc
 have hz:=Jfj q
 have:=wDrawX.pre (wrs:=q.map (·.1)) (bads:=q.map (·.2)) q l 0 ts (by rw[hz];rfl) (by simp) hc.2 rfl (h _ ⟨fun _ h=>h⟩)
 exact SpecC.drawP hmix id q.length _ _ hc.1 (by simpa using this)
section
variable (T:Tys P) (all:List Oper) (ts:TS) (K:TS→Prop) (wr bad:List Nat) (r:List (List Nat×List Nat)) (o:Oper) (l:List Oper) (dst:Option Nat) (ty:TypeId) (pos:String) (after:Array Edge) (g:Option (Nat×Bool))
@[go_sem] theorem JGW:wDrawX T all [] l K ts=wOps T all l K ts:=rfl
@[go_sem] theorem JGV:wDrawX T all ((wr,bad) :: r) (o :: l) K ts=(wGp T all o (wDrawX T all r l K) ts∧(Ve bad ts (Zr o)=true∧JH wr ts o=true)):=rfl
@[go_sem] theorem JB7(x:Operand)(i:Nat):Zr ⟨dst,.extract x i,ty,pos,after,g⟩=[]:=rfl
@[go_sem] theorem JCa(x:Operand):Zr ⟨dst,.move x,ty,pos,after,g⟩=[x]:=rfl
@[go_sem] theorem JB8(t:TypeId)(x:Operand):Zr ⟨dst,.load t x,ty,pos,after,g⟩=[x]:=rfl
@[go_sem] theorem JB9(t:TypeId)(m k:Operand):Zr ⟨dst,.mapEntry t m k,ty,pos,after,g⟩=[m,k]:=rfl
@[go_sem] theorem JB6(c:Call):Zr ⟨dst,.call c,ty,pos,after,g⟩=JN ⟨dst,.call c,ty,pos,after,g⟩:=rfl
end
end Go.Proofs.YthjalhfmpffbjaaGreatDoor.Lg
