/- Parts of the proof, one behind the other. -/
import Derived.ChangeKeysEq
import Derived.Laws.Slices
import Derived.Laws.StructEq
import Derived.MapKept
import Derived.WideKeyRuns
import Derived.Carry
import Derived.Test.YthjalhfmpffbjaaGreatDoorG00
set_option linter.unusedVariables false
set_option linter.unusedSimpArgs false
set_option maxRecDepth 100000
set_option maxHeartbeats 64000000
namespace Go.Proofs.YthjalhfmpffbjaaGreatDoor.Lg
open Go
variable {P:Program}
def TS.toArgs(ts:TS):List AV→Option (List AV×List Nat)
 | []=>some ([],[])
 |x :: r=>match x.res ts,ts.toArgs r with
  |some y,some (ys,ds)=>some (y.nrm :: ys,x.owns++ds)
  |_,_=>none
def Ret.flat:Ret→Bool
 | .val x=>x.flat
 | .own _ xs=>AV.flat.flatL xs
def afterK(ts:TS)(dst:Option Nat)(r:Ret)(K:TS→Prop):Prop :=
 match r with
 | .val x=>Jd ts dst x K
 | .own sz xs=>VY ts dst sz xs K
def TS.killL(ts:TS):List Nat→TS
 | []=>ts
 |d :: r=>(ts.kill d).killL r
theorem JfY{G:Ghost}{e:Nat}:∀ {l:List Nat} {ts:TS},Jj (ts.killL l) G e→e ∉ l∧Jj ts G e
 | [],_,h=>⟨by simp,h⟩
 |d :: r,ts,h=>by
  obtain⟨h1,h2⟩:=JfY (l:=r) h
  obtain⟨h3,h4⟩:=VE h2
  exact⟨by simp[h1,h3],h4⟩
theorem Rel.killL{E:Env}{G:Ghost}{a:Act}{w:World}:∀(l:List Nat) {ts:TS},Rel E ts G a w→Rel E (ts.killL l) G a w
 | [],_,h=>h
 |d :: r,_,h=>Rel.killL r (h.kill d)
def Y3(E:Env)(ts:TS)(G:Ghost)(w:World)(lent:List Nat):Env :=
 {w0:=w,X:=fun _=>False,F:=fun b=>E.F b∨∃d,d ∉ lent∧Jj ts G d∧G.β d=b,pin:=fun _=>none }
mutual
theorem Rep.lend{E:Env}{ts:TS}{G:Ghost}{a:Act}{w:World}(h:Rel E ts G a w){c':Ctx}(hw:c'.w=w)(hsub:∀b,¬(Jb E G ts w).M b→b<w.heap.size→¬c'.M b) :
  ∀(x:AV) (v:Value) (y:AV),Rep (Jb E G ts w) v x→x.res ts=some y→(∀d∈x.owns,Jj ts G d→¬c'.M (G.β d))→Rep c' v y
 | .os d g len,v,y,hr,hy,ho=>by
  simp only[AV.res] at hy
  split at hy
  ·rename_i hg
   split at hy
   ·rename_i sz xs hob
    split at hy
    ·rename_i hcond
     cases hy
     exact Rep.plain h hw hsub hr hg hob hcond.1 hcond.2 (ho d (by simp[AV.owns]))
    ·cases hy
   ·cases hy
  ·cases hy
 | .agg cs,v,y,hr,hy,ho=>by
  simp only[AV.res,Option.map_eq_some_iff] at hy
  obtain⟨l,h1,rfl⟩:=hy
  obtain⟨vs,rfl,h2,h3⟩:=Ym hr
  have hl:=(Jdl ts cs l h1).1
  exact .agg vs l (h2.trans hl) (Rep.lendL h hw hsub cs (fun i=>vs.getD i undef) l h3 h1 ho)
 | .tup cs,v,y,hr,hy,ho=>by
  simp only[AV.res,Option.map_eq_some_iff] at hy
  obtain⟨l,h1,rfl⟩:=hy
  obtain⟨vs,rfl,h2,h3⟩:=Jqb hr
  have hl:=(Jdl ts cs l h1).1
  exact .tup vs l (h2.trans hl) (Rep.lendL h hw hsub cs (fun i=>vs.getD i undef) l h3 h1 ho)
 | .mref d g,v,y,hr,hy,ho=>by
  simp only[AV.res] at hy
  split at hy
  ·rename_i hg
   split at hy
   ·rename_i ks vs hob
    split at hy
    ·rename_i hcond
     cases hy
     exact Rep.plainM h hw hsub hr hg hob hcond (ho d (by simp[AV.owns]))
    ·cases hy
   ·cases hy
  ·cases hy
 | .mp _ _,v,y,hr,hy,ho=>by simp[AV.res] at hy;obtain⟨h1,rfl⟩:=hy;exact Rep.mono_pure (fun b hM hlt=>⟨by rw[hw];rfl,hsub b hM hlt⟩) hr (by simpa[AV.pure] using h1)
 | .any,v,y,hr,hy,ho=>by simp[AV.res,AV.pure] at hy;subst hy;exact .any _
 | .bool b,v,y,hr,hy,ho=>by simp[AV.res,AV.pure] at hy;subst hy;exact Rep.mono_pure (fun b hM hlt=>⟨by rw[hw];rfl,hsub b hM hlt⟩) hr rfl
 | .int k n,v,y,hr,hy,ho=>by simp[AV.res,AV.pure] at hy;subst hy;exact Rep.mono_pure (fun b hM hlt=>⟨by rw[hw];rfl,hsub b hM hlt⟩) hr rfl
 | .str s,v,y,hr,hy,ho=>by simp[AV.res,AV.pure] at hy;subst hy;exact Rep.mono_pure (fun b hM hlt=>⟨by rw[hw];rfl,hsub b hM hlt⟩) hr rfl
 | .nilp,v,y,hr,hy,ho=>by simp[AV.res,AV.pure] at hy;subst hy;exact Rep.mono_pure (fun b hM hlt=>⟨by rw[hw];rfl,hsub b hM hlt⟩) hr rfl
 | .nilf,v,y,hr,hy,ho=>by simp[AV.res,AV.pure] at hy;subst hy;exact Rep.mono_pure (fun b hM hlt=>⟨by rw[hw];rfl,hsub b hM hlt⟩) hr rfl
 | .nilm,v,y,hr,hy,ho=>by simp[AV.res,AV.pure] at hy;subst hy;exact Rep.mono_pure (fun b hM hlt=>⟨by rw[hw];rfl,hsub b hM hlt⟩) hr rfl
 | .niface,v,y,hr,hy,ho=>by simp[AV.res,AV.pure] at hy;subst hy;exact Rep.mono_pure (fun b hM hlt=>⟨by rw[hw];rfl,hsub b hM hlt⟩) hr rfl
 | .slice _ _,v,y,hr,hy,ho=>by simp[AV.res] at hy;obtain⟨h1,rfl⟩:=hy;exact Rep.mono_pure (fun b hM hlt=>⟨by rw[hw];rfl,hsub b hM hlt⟩) hr h1
 | .ro _,v,y,hr,hy,ho=>by simp[AV.res] at hy;obtain⟨h1,rfl⟩:=hy;exact Rep.mono_pure (fun b hM hlt=>⟨by rw[hw];rfl,hsub b hM hlt⟩) hr h1
 | .clo _ _ _,v,y,hr,hy,ho=>by simp[AV.res] at hy;obtain⟨h1,rfl⟩:=hy;exact Rep.mono_pure (fun b hM hlt=>⟨by rw[hw];rfl,hsub b hM hlt⟩) hr h1
 | .iface _ _,v,y,hr,hy,ho=>by simp[AV.res] at hy;obtain⟨h1,rfl⟩:=hy;exact Rep.mono_pure (fun b hM hlt=>⟨by rw[hw];rfl,hsub b hM hlt⟩) hr h1
 | .ref _ _ _,v,y,hr,hy,ho=>by simp[AV.res,AV.pure] at hy
 | .eref _ _ _ _,v,y,hr,hy,ho=>by simp[AV.res,AV.pure] at hy
 | .ot _ _ _ _,v,y,hr,hy,ho=>by simp[AV.res,AV.pure] at hy
theorem Rep.lendL{E:Env}{ts:TS}{G:Ghost}{a:Act}{w:World}(h:Rel E ts G a w){c':Ctx}(hw:c'.w=w)(hsub:∀b,¬(Jb E G ts w).M b→b<w.heap.size→¬c'.M b) :
  ∀(cs:List AV) (vs:Nat→Value) (l:List AV),(∀i,Rep (Jb E G ts w) (vs i) (cs.getD i .any))→AV.res.resL ts cs=some l→(∀d∈AV.owns.ownsL cs,Jj ts G d→¬c'.M (G.β d))→∀i,Rep c' (vs i) (l.getD i .any)
 | [],vs,l,hr,hl,ho,i=>by simp[AV.res.resL] at hl;subst hl;exact .any _
 |x :: r,vs,l,hr,hl,ho,i=>by
  simp only[AV.res.resL] at hl
  split at hl
  ·rename_i y s h1 h2
   cases hl
   cases i with
   |zero=>exact Rep.lend h hw hsub x (vs 0) y (by simpa using hr 0) h1 fun d hd=>ho d (by simp[AV.owns.ownsL,hd])
   |succ i =>
    have:=Rep.lendL h hw hsub r (fun i=>vs (i+1)) s (fun i=>by simpa using hr (i+1)) h2 (fun d hd=>ho d (by simp[AV.owns.ownsL,hd])) i
    simpa using this
  ·cases hl
end
theorem Jfa{E:Env}{ts:TS}{G:Ghost}{a:Act}{w:World}(h:Rel E ts G a w){c':Ctx}(hw:c'.w=w)(lent:List Nat)(hc:∀b,c'.M b↔(E.F b∨∃d,d ∉ lent∧Jj ts G d∧G.β d=b)) :
  ∀(vs:List Value) (xs ys:List AV) (ds:List Nat),vs.length=xs.length→(∀i,Rep (Jb E G ts w) (vs.getD i undef) (xs.getD i .any))→ts.toArgs xs=some (ys,ds)→(∀d∈ds,d∈lent) →
   ys.length=xs.length∧(∀i,Rep c' (vs.getD i undef) (ys.getD i .any))∧∀y∈ys,y.pure=true
 | [],[],ys,ds,_,_,h3,_=>by simp[TS.toArgs] at h3;obtain⟨rfl,_⟩:=h3;exact⟨rfl,fun i=>by simp;exact .any _,by simp⟩
 |v :: vs,x :: xs,ys,ds,h1,h2,h3,h4=>by
  have hsub:∀b,¬(Jb E G ts w).M b→b<w.heap.size→¬c'.M b:=fun b hM _ hm=>by
   rcases(hc _).1 hm with hF|⟨d,_,hl,hb⟩
   ·exact hM (.inl hF)
   ·exact hM (.inr ⟨d,hl,hb⟩)
  simp only[TS.toArgs] at h3
  split at h3
  ·rename_i y ys' ds' e1 e2
   cases h3
   obtain⟨b1,b2,b3⟩:=Jfa h hw lent hc vs xs ys' ds' (by simpa using h1) (fun i=>by simpa using h2 (i+1)) e2 fun e he=>h4 e (by simp[he])
   have hx:Rep c' v y:=Rep.lend h hw hsub x v y (by simpa using h2 0) e1 fun d hd hlive hm=>by
    rcases(hc _).1 hm with hF|⟨e,hne,hl,hb⟩
    ·exact(h.own d hlive).2.1 hF
    ·have:=h.sep e d hl hlive hb
     subst this
     exact hne (h4 e (by simp[hd]))
   refine⟨by simp[b1],fun i=>?_,fun z hz=>?_⟩
   ·cases i with
    |zero=>simpa using hx.nrm
    |succ i=>simpa using b2 i
   ·rcases List.mem_cons.1 hz with rfl|hz
    ·rw[JeE];exact JgF ts x y e1
    ·exact b3 z hz
  ·cases h3
 | [],x :: xs,_,_,h1,_,_,_=>by simp at h1
 |v :: vs,[],_,_,h1,_,_,_=>by simp at h1
theorem SpecO.call{o:Oper}{ts:TS}{K:TS→Prop}{fop:Operand}{xs:Array Operand}{at_:Array TypeId}(ho:o.op=.call { callee:=.value fop,args:=xs,argTypes:=at_ })
  {f:FuncId} {caps:List AV} (hf:ts.ev fop=.clo (.func f) [] caps) {args:List AV} {lent:List Nat} (hargs:ts.toArgs ((xs.toList.map ts.ev)++caps)=some (args,lent))
  {R:Ret→(Nat→List AV)→Prop} (hcall:CallV P f (args.map Arg.v) R) (hk:∀r io,R r io→((lent=[]∨r.flat=true)∧afterK ts o.dst r K)∨afterK (ts.killL lent) o.dst r K):SpecO P o ts K:=by
 intro E G a w next Q hr hn
 have hvf:=hr.ev fop
 rw[hf] at hvf
 have hfv:∃c1:Array Value,a.eval fop=.func (.func f) #[] c1∧c1.size=caps.length∧∀i,Rep (Jb E G ts w) (c1.getD i undef) (caps.getD i .any):=by
  generalize a.eval fop=q at hvf
  cases hvf with
  |clo _ f1 c1 _ _ p0 p1 p2 p3 =>
   have:f1=#[]:=Array.eq_empty_of_size_eq_zero (by simpa using p0)
   subst this
   exact⟨c1,rfl,p1,p3⟩
 obtain⟨c1,hfe,hc1,hc1r⟩:=hfv
 let vals:Array Value:=xs.map a.eval++c1
 let E':=Y3 E ts G w lent
 let as:List Arg:=args.map Arg.v
 have hM:∀b,(Jb E' G (Jk as as.length) w).M b↔(E.F b∨∃d,d ∉ lent∧Jj ts G d∧G.β d=b):=fun b=>by
  simp only[Jb,E',Y3]
  constructor
  ·rintro(h1|⟨d,hl,_⟩)
   ·exact h1
   ·have hkind:=hl.1
    simp only[Jk,as] at hkind
    split at hkind
    ·rename_i cs hcs;simp at hcs
    ·rename_i sz xs hcs;simp at hcs
    ·simp[Ob.kind] at hkind
  ·exact fun h1=>.inl h1
 have hvlen:vals.toList.length=((xs.toList.map ts.ev)++caps).length:=by simp[vals,hc1]
 have hvrep:∀i,Rep (Jb E G ts w) (vals.toList.getD i undef) (((xs.toList.map ts.ev)++caps).getD i .any):=fun i=>by
  simp only[vals,Array.toList_append,Array.toList_map,List.getD_eq_getElem?_getD]
  by_cases hi:i<xs.size
  ·rw[List.getElem?_append_left (by simpa using hi),List.getElem?_append_left (by simpa using hi)]
   simp only[List.getElem?_map,Array.getElem?_toList]
   rw[Array.getElem?_eq_getElem hi]
   exact hr.ev _
  ·rw[List.getElem?_append_right (by simp;omega),List.getElem?_append_right (by simp;omega)]
   have:=hc1r (i-xs.size)
   simpa using this
 obtain⟨hlen,hargr,hpure⟩:=Jfa hr (c':=Jb E' G (Jk as as.length) w) rfl lent hM vals.toList _ args lent hvlen hvrep hargs (fun d hd=>hd)
 have hrel':Rel E' (Jk as as.length) G ⟨vals,[]⟩ w:=by
  refine⟨?_,rfl,fun t=>?_,fun d=>?_,fun d d' h1 _ _=>?_,fun d h1=>?_,fun b hb=>?_,Bel.refl _ _,fun j b hj=>by simp[E',Y3] at hj⟩
  ·simp only[Jk,as,List.length_map]
   rw[hlen,←hvlen];simp
  ·have:=hargr t
   have e1:vals.getD t undef=vals.toList.getD t undef:=by simp
   have e2:(Jk as as.length).tmp t=args.getD t .any:=by
    simp only[Jk,as,List.getElem?_map,List.getD_eq_getElem?_getD]
    cases args[t]?<;>rfl
   rw[e1,e2];exact this
  ·have:(Jk as as.length).obj d=.dead:=by
    simp only[Jk,as,List.getElem?_map]
    cases args[d]?<;>rfl
   rw[this];trivial
  ·have:(Jk as as.length).obj d=.dead:=by
    simp only[Jk,as,List.getElem?_map]
    cases args[d]?<;>rfl
   simp[Jj,this,Ob.kind] at h1
  ·have:(Jk as as.length).obj d=.dead:=by
    simp only[Jk,as,List.getElem?_map]
    cases args[d]?<;>rfl
   simp[Jj,this,Ob.kind] at h1
  ·rcases hb with h1|⟨d,_,hl,rfl⟩
   ·exact hr.inF b h1
   ·exact(hr.own d hl).2.2
 have hpin:∀j,(∃cs,as[j]?=some (.io cs))↔∃b,E'.pin j=some b:=fun j=>by
  constructor
  ·rintro⟨cs,hcs⟩;simp only[as,List.getElem?_map] at hcs;cases hh:args[j]?<;>rw[hh] at hcs<;>simp at hcs
  ·rintro⟨b,hb⟩;simp[E',Y3] at hb
 have hC:=hcall E' G vals w rfl hrel' hpin
 have fin:∀(v:Value) (w':World),Post E' R (.returned v) w'→next (a.put o.dst v) w':=by
  rintro v w' ⟨v',r,io,ts',G',hv',hR,hrel,_,hret⟩
  cases hv'
  obtain⟨tsx,hrx,hlx,hfl,hK⟩:∃tsx,Rel E tsx G a w∧(∀d,Jj tsx G d→Jj ts G d)∧((∀d,Jj tsx G d→d ∉ lent)∨r.flat=true)∧afterK tsx o.dst r K:=by
   rcases hk r io hR with ⟨hfl,hK⟩|hK
   ·refine⟨ts,hr,fun _ h=>h,?_,hK⟩
    rcases hfl with rfl|hfl
    ·exact .inl fun d _=>by simp
    ·exact .inr hfl
   ·exact⟨ts.killL lent,hr.killL lent,fun d h=>(JfY h).2,.inl fun d h=>(JfY h).1,hK⟩
  have hbel:=hrel.bel
  have hw:∀i,i<w.heap.size→w'.heap[i]?=w.heap[i]?:=fun i hi=>hbel.block i hi (fun f=>f)
  have hbel':Bel (fun _=>False) w w':=⟨hbel.os,hbel.tape,hbel.output,hbel.size,hbel.block,hbel.drawn⟩
  have hv0:Rep (Jb E' G' ts' w') v (ts'.tmp 0):=by have:=hrel.tmp 0;simpa using this
  have hr2:Rel E tsx G a w':=by
   have hle:(Jb E G tsx w).Le (Jb E G tsx w') :=
    {blk:=fun b' hMa hc=>⟨hw _ hc,hMa⟩,gen:=fun _=>Nat.le_refl _,kind:=fun e k _ hk'=>⟨hk',rfl,rfl⟩ }
   refine⟨hrx.size,hrx.defers,fun t=>(hrx.tmp t).mono hle,fun d=>ObOk.mono hle rfl rfl (fun h1 h2=>hw _ (hrx.own d ⟨h1,h2⟩).2.2) (hrx.obj d),hrx.sep,fun d hd=>?_,fun b hb=>Nat.lt_of_lt_of_le (hrx.inF b hb) hbel.size,hrx.bel.trans ⟨hbel.os,hbel.tape,hbel.output,hbel.size,fun k hk' _=>hw k hk',hbel.drawn⟩,hrx.pin⟩
   obtain⟨p,q,s⟩:=hrx.own d hd
   exact⟨p,q,Nat.lt_of_lt_of_le s hbel.size⟩
  cases r with
  |val x =>
   obtain⟨hxp,hx0⟩:=hret
   rw[hx0] at hv0
   have hxr:Rep (Jb E G tsx w') v x:=by
    rcases hfl with hl0|hfl
    ·refine Rep.mono_pure (c:=Jb E' G' ts' w') ?_ hv0 hxp
     intro ad hMa hc
     refine⟨rfl,?_⟩
     rintro(hF|⟨d,hl,hb⟩)
     ·exact hMa (.inl (.inl hF))
     ·exact hMa (.inl (.inr ⟨d,hl0 d hl,hlx d hl,hb⟩))
    ·exact Rep.mono_flat hv0 hfl
   simp only[afterK,Jd] at hK
   cases hd:o.dst with
   |none=>rw[hd] at hK;exact hn tsx G _ w' hK hr2
   |some d=>rw[hd] at hK;exact hn _ G _ w' hK.2 (hr2.put hK.1 hxr)
  |own sz ys =>
   obtain⟨d0,g0,ht0,hg0,ho0,hp0⟩:=hret
   simp only[afterK,VY] at hK
   cases hd:o.dst with
   |none=>rw[hd] at hK;exact hK.elim
   |some d =>
    rw[hd] at hK
    rw[ht0] at hv0
    obtain⟨_,_,hos⟩:=Yn hv0
    have hos:=hos hg0.symm (by simp[Jb,ho0,Ob.kind])
    have hob:=hrel.obj d0
    rw[ho0] at hob
    obtain⟨h0,hsz,hrest⟩:=hob
    unfold JO at hos
    cases hκ:(Jb E' G' ts' w').κ d0 with
    |none =>
     rw[hκ] at hos hrest
     subst hrest
     obtain⟨_,ad,rfl⟩:=hos
     refine hn _ _ _ _ hK.2 (hrx.newObj (w':=w') hK.1 (.arr sz []) w.heap.size none (Nat.le_refl _) (fun h=>absurd rfl h) hbel' ?_ ?_)
     ·refine .os d _ _ _ rfl (by simp[Jb,TS.new]) fun _ _=>?_
      unfold JO
      simp[Jb,Ghost.set]
     ·refine⟨h0,by simp,?_⟩
      simp[Jb,Ghost.set]
    |some cap =>
     rw[hκ] at hos hrest
     obtain⟨hv,hcap⟩:=hos
     obtain⟨vs,T,hheap,hsize,hfit,hcell⟩:=hrest
     have hlive0:Jj ts' G' d0:=⟨by simp[ho0,Ob.kind],by rw[show G'.κ d0=some cap from hκ];simp⟩
     obtain⟨hown,hnF,hlt⟩:=hrel.own d0 hlive0
     have hge:w.heap.size≤G'.β d0:=by
      rcases hown with h1|h1
      ·exact h1
      ·exact h1.elim
     refine hn _ _ _ _ hK.2 (hrx.newObj (w':=w') hK.1 (.arr sz ys) (G'.β d0) (some cap) hge (fun _=>hlt) hbel' ?_ ?_)
     ·refine .os d _ _ _ ?_ (by simp[Jb,TS.new]) fun _ _=>?_
      ·rw[hv];rfl
      ·unfold JO
       simp only[Jb,Ghost.set,Vc]
       exact⟨hv,hfit⟩
     ·refine⟨h0,hsz,?_⟩
      simp only[Jb,Ghost.set,Vc]
      refine⟨vs,T,hheap,hsize,hfit,fun i j hi hj=>?_⟩
      rcases hfl with hl0|hfl
      ·refine Rep.mono_pure (c:=Jb E' G' ts' w') ?_ (hcell i j hi hj) (JW _ _ (AV.pure_cells (JW ys i hp0)))
       intro ad hMa hc
       refine⟨rfl,?_⟩
       rintro(hF|⟨e,hl,hb⟩)
       ·exact hMa (.inl (.inl hF))
       ·by_cases he:e=d
        ·subst he
         have:G'.β d0=ad:=by simpa[Ghost.set] using hb
         exact hMa (.inr ⟨d0,hlive0,this⟩)
        ·have hl':Jj tsx G e:=by simpa[Jj,TS.new,Ghost.set,Jp,he] using hl
         have hb':G.β e=ad:=by simpa[Ghost.set,Jp,he] using hb
         exact hMa (.inl (.inr ⟨e,hl0 e hl',hlx e hl',hb'⟩))
      ·exact Rep.mono_flat (hcell i j hi hj) (Jba _ _ (AV.flat_cells (Jba ys i hfl)))
 have hexec:(execOp a.eval o).run P w=(callFunc f vals).run P w:=by
  simp[execOp,ho,resolve,hfe,Deferred.ofValue,invoke,vals]
 unfold Oper.wp
 rw[hexec]
 split at hC
 ·rename_i f' args' w1 heq
  rw[heq]
  show Calls P f' args' w1 _
  refine Calls.mono hC ?_
  rintro e w' ⟨v,r,io,ts',G',rfl,rest⟩
  exact fin v w' ⟨v,r,io,ts',G',rfl,rest⟩
 ·rename_i v w1 heq
  rw[heq]
  exact fin v w1 hC
 ·exact hC.elim
theorem SpecO.callRaw{o:Oper}{ts:TS}{K:TS→Prop}{fop:Operand}{xs:Array Operand}{at_:Array TypeId}(ho:o.op=.call { callee:=.value fop,args:=xs,argTypes:=at_ })
  {f:FuncId} {caps:List AV} (hf:ts.ev fop=.clo (.func f) [] caps) {args:List AV} (hargs:(xs.toList.map ts.ev)++caps=args) (hpure0:AV.pure.pureL args=true)
  {R:Ret→(Nat→List AV)→Prop} (hcall:CallV P f (args.map Arg.v) R) (hk:∀r io,R r io→afterK ts o.dst r K):SpecO P o ts K:=by
 let lent:List Nat:=[]
 intro E G a w next Q hr hn
 have hvf:=hr.ev fop
 rw[hf] at hvf
 have hfv:∃c1:Array Value,a.eval fop=.func (.func f) #[] c1∧c1.size=caps.length∧∀i,Rep (Jb E G ts w) (c1.getD i undef) (caps.getD i .any):=by
  generalize a.eval fop=q at hvf
  cases hvf with
  |clo _ f1 c1 _ _ p0 p1 p2 p3 =>
   have:f1=#[]:=Array.eq_empty_of_size_eq_zero (by simpa using p0)
   subst this
   exact⟨c1,rfl,p1,p3⟩
 obtain⟨c1,hfe,hc1,hc1r⟩:=hfv
 let vals:Array Value:=xs.map a.eval++c1
 let E':=Y3 E ts G w lent
 let as:List Arg:=args.map Arg.v
 have hM:∀b,(Jb E' G (Jk as as.length) w).M b↔(E.F b∨∃d,d ∉ lent∧Jj ts G d∧G.β d=b):=fun b=>by
  simp only[Jb,E',Y3]
  constructor
  ·rintro(h1|⟨d,hl,_⟩)
   ·exact h1
   ·have hkind:=hl.1
    simp only[Jk,as] at hkind
    split at hkind
    ·rename_i cs hcs;simp at hcs
    ·rename_i sz xs hcs;simp at hcs
    ·simp[Ob.kind] at hkind
  ·exact fun h1=>.inl h1
 have hvlen:vals.toList.length=((xs.toList.map ts.ev)++caps).length:=by simp[vals,hc1]
 have hvrep:∀i,Rep (Jb E G ts w) (vals.toList.getD i undef) (((xs.toList.map ts.ev)++caps).getD i .any):=fun i=>by
  simp only[vals,Array.toList_append,Array.toList_map,List.getD_eq_getElem?_getD]
  by_cases hi:i<xs.size
  ·rw[List.getElem?_append_left (by simpa using hi),List.getElem?_append_left (by simpa using hi)]
   simp only[List.getElem?_map,Array.getElem?_toList]
   rw[Array.getElem?_eq_getElem hi]
   exact hr.ev _
  ·rw[List.getElem?_append_right (by simp;omega),List.getElem?_append_right (by simp;omega)]
   have:=hc1r (i-xs.size)
   simpa using this
 have hlen:args.length=((xs.toList.map ts.ev)++caps).length:=by rw[hargs]
 have hargr:∀i,Rep (Jb E' G (Jk as as.length) w) (vals.toList.getD i undef) (args.getD i .any):=fun i=>by
  have h1:=hvrep i
  rw[hargs] at h1
  refine Rep.mono_pure (c:=Jb E G ts w) (c':=Jb E' G (Jk as as.length) w) (fun b hb _=>⟨rfl,fun h=>hb ?_⟩) h1 (JW args i hpure0)
  rcases(hM b).1 h with h|⟨d,_,hl,h⟩
  ·exact .inl h
  ·exact .inr ⟨d,hl,h⟩
 have hrel':Rel E' (Jk as as.length) G ⟨vals,[]⟩ w:=by
  refine⟨?_,rfl,fun t=>?_,fun d=>?_,fun d d' h1 _ _=>?_,fun d h1=>?_,fun b hb=>?_,Bel.refl _ _,fun j b hj=>by simp[E',Y3] at hj⟩
  ·simp only[Jk,as,List.length_map]
   rw[hlen,←hvlen];simp
  ·have:=hargr t
   have e1:vals.getD t undef=vals.toList.getD t undef:=by simp
   have e2:(Jk as as.length).tmp t=args.getD t .any:=by
    simp only[Jk,as,List.getElem?_map,List.getD_eq_getElem?_getD]
    cases args[t]?<;>rfl
   rw[e1,e2];exact this
  ·have:(Jk as as.length).obj d=.dead:=by
    simp only[Jk,as,List.getElem?_map]
    cases args[d]?<;>rfl
   rw[this];trivial
  ·have:(Jk as as.length).obj d=.dead:=by
    simp only[Jk,as,List.getElem?_map]
    cases args[d]?<;>rfl
   simp[Jj,this,Ob.kind] at h1
  ·have:(Jk as as.length).obj d=.dead:=by
    simp only[Jk,as,List.getElem?_map]
    cases args[d]?<;>rfl
   simp[Jj,this,Ob.kind] at h1
  ·rcases hb with h1|⟨d,_,hl,rfl⟩
   ·exact hr.inF b h1
   ·exact(hr.own d hl).2.2
 have hpin:∀j,(∃cs,as[j]?=some (.io cs))↔∃b,E'.pin j=some b:=fun j=>by
  constructor
  ·rintro⟨cs,hcs⟩;simp only[as,List.getElem?_map] at hcs;cases hh:args[j]?<;>rw[hh] at hcs<;>simp at hcs
  ·rintro⟨b,hb⟩;simp[E',Y3] at hb
 have hC:=hcall E' G vals w rfl hrel' hpin
 have fin:∀(v:Value) (w':World),Post E' R (.returned v) w'→next (a.put o.dst v) w':=by
  rintro v w' ⟨v',r,io,ts',G',hv',hR,hrel,_,hret⟩
  cases hv'
  obtain⟨tsx,hrx,hlx,hfl,hK⟩:∃tsx,Rel E tsx G a w∧(∀d,Jj tsx G d→Jj ts G d)∧((∀d,Jj tsx G d→d ∉ lent)∨r.flat=true)∧afterK tsx o.dst r K:=by
   exact⟨ts,hr,fun _ h=>h,.inl fun d _=>by simp[lent],hk r io hR⟩
  have hbel:=hrel.bel
  have hw:∀i,i<w.heap.size→w'.heap[i]?=w.heap[i]?:=fun i hi=>hbel.block i hi (fun f=>f)
  have hbel':Bel (fun _=>False) w w':=⟨hbel.os,hbel.tape,hbel.output,hbel.size,hbel.block,hbel.drawn⟩
  have hv0:Rep (Jb E' G' ts' w') v (ts'.tmp 0):=by have:=hrel.tmp 0;simpa using this
  have hr2:Rel E tsx G a w':=by
   have hle:(Jb E G tsx w).Le (Jb E G tsx w') :=
    {blk:=fun b' hMa hc=>⟨hw _ hc,hMa⟩,gen:=fun _=>Nat.le_refl _,kind:=fun e k _ hk'=>⟨hk',rfl,rfl⟩ }
   refine⟨hrx.size,hrx.defers,fun t=>(hrx.tmp t).mono hle,fun d=>ObOk.mono hle rfl rfl (fun h1 h2=>hw _ (hrx.own d ⟨h1,h2⟩).2.2) (hrx.obj d),hrx.sep,fun d hd=>?_,fun b hb=>Nat.lt_of_lt_of_le (hrx.inF b hb) hbel.size,hrx.bel.trans ⟨hbel.os,hbel.tape,hbel.output,hbel.size,fun k hk' _=>hw k hk',hbel.drawn⟩,hrx.pin⟩
   obtain⟨p,q,s⟩:=hrx.own d hd
   exact⟨p,q,Nat.lt_of_lt_of_le s hbel.size⟩
  cases r with
  |val x =>
   obtain⟨hxp,hx0⟩:=hret
   rw[hx0] at hv0
   have hxr:Rep (Jb E G tsx w') v x:=by
    rcases hfl with hl0|hfl
    ·refine Rep.mono_pure (c:=Jb E' G' ts' w') ?_ hv0 hxp
     intro ad hMa hc
     refine⟨rfl,?_⟩
     rintro(hF|⟨d,hl,hb⟩)
     ·exact hMa (.inl (.inl hF))
     ·exact hMa (.inl (.inr ⟨d,hl0 d hl,hlx d hl,hb⟩))
    ·exact Rep.mono_flat hv0 hfl
   simp only[afterK,Jd] at hK
   cases hd:o.dst with
   |none=>rw[hd] at hK;exact hn tsx G _ w' hK hr2
   |some d=>rw[hd] at hK;exact hn _ G _ w' hK.2 (hr2.put hK.1 hxr)
  |own sz ys =>
   obtain⟨d0,g0,ht0,hg0,ho0,hp0⟩:=hret
   simp only[afterK,VY] at hK
   cases hd:o.dst with
   |none=>rw[hd] at hK;exact hK.elim
   |some d =>
    rw[hd] at hK
    rw[ht0] at hv0
    obtain⟨_,_,hos⟩:=Yn hv0
    have hos:=hos hg0.symm (by simp[Jb,ho0,Ob.kind])
    have hob:=hrel.obj d0
    rw[ho0] at hob
    obtain⟨h0,hsz,hrest⟩:=hob
    unfold JO at hos
    cases hκ:(Jb E' G' ts' w').κ d0 with
    |none =>
     rw[hκ] at hos hrest
     subst hrest
     obtain⟨_,ad,rfl⟩:=hos
     refine hn _ _ _ _ hK.2 (hrx.newObj (w':=w') hK.1 (.arr sz []) w.heap.size none (Nat.le_refl _) (fun h=>absurd rfl h) hbel' ?_ ?_)
     ·refine .os d _ _ _ rfl (by simp[Jb,TS.new]) fun _ _=>?_
      unfold JO
      simp[Jb,Ghost.set]
     ·refine⟨h0,by simp,?_⟩
      simp[Jb,Ghost.set]
    |some cap =>
     rw[hκ] at hos hrest
     obtain⟨hv,hcap⟩:=hos
     obtain⟨vs,T,hheap,hsize,hfit,hcell⟩:=hrest
     have hlive0:Jj ts' G' d0:=⟨by simp[ho0,Ob.kind],by rw[show G'.κ d0=some cap from hκ];simp⟩
     obtain⟨hown,hnF,hlt⟩:=hrel.own d0 hlive0
     have hge:w.heap.size≤G'.β d0:=by
      rcases hown with h1|h1
      ·exact h1
      ·exact h1.elim
     refine hn _ _ _ _ hK.2 (hrx.newObj (w':=w') hK.1 (.arr sz ys) (G'.β d0) (some cap) hge (fun _=>hlt) hbel' ?_ ?_)
     ·refine .os d _ _ _ ?_ (by simp[Jb,TS.new]) fun _ _=>?_
      ·rw[hv];rfl
      ·unfold JO
       simp only[Jb,Ghost.set,Vc]
       exact⟨hv,hfit⟩
     ·refine⟨h0,hsz,?_⟩
      simp only[Jb,Ghost.set,Vc]
      refine⟨vs,T,hheap,hsize,hfit,fun i j hi hj=>?_⟩
      rcases hfl with hl0|hfl
      ·refine Rep.mono_pure (c:=Jb E' G' ts' w') ?_ (hcell i j hi hj) (JW _ _ (AV.pure_cells (JW ys i hp0)))
       intro ad hMa hc
       refine⟨rfl,?_⟩
       rintro(hF|⟨e,hl,hb⟩)
       ·exact hMa (.inl (.inl hF))
       ·by_cases he:e=d
        ·subst he
         have:G'.β d0=ad:=by simpa[Ghost.set] using hb
         exact hMa (.inr ⟨d0,hlive0,this⟩)
        ·have hl':Jj tsx G e:=by simpa[Jj,TS.new,Ghost.set,Jp,he] using hl
         have hb':G.β e=ad:=by simpa[Ghost.set,Jp,he] using hb
         exact hMa (.inl (.inr ⟨e,hl0 e hl',hlx e hl',hb'⟩))
      ·exact Rep.mono_flat (hcell i j hi hj) (Jba _ _ (AV.flat_cells (Jba ys i hfl)))
 have hexec:(execOp a.eval o).run P w=(callFunc f vals).run P w:=by
  simp[execOp,ho,resolve,hfe,Deferred.ofValue,invoke,vals]
 unfold Oper.wp
 rw[hexec]
 split at hC
 ·rename_i f' args' w1 heq
  rw[heq]
  show Calls P f' args' w1 _
  refine Calls.mono hC ?_
  rintro e w' ⟨v,r,io,ts',G',rfl,rest⟩
  exact fin v w' ⟨v,r,io,ts',G',rfl,rest⟩
 ·rename_i v w1 heq
  rw[heq]
  exact fin v w1 hC
 ·exact hC.elim
structure But(d:Nat)(ts:TS)(G:Ghost)(w w':World):Prop where
 os:w'.os=w.os
 tape:w'.tape=w.tape
 output:w'.output=w.output
 size:w.heap.size≤w'.heap.size
 drawn:w.drawn≤w'.drawn
 block:∀i,i<w.heap.size→(Jj ts G d→i≠G.β d)→w'.heap[i]?=w.heap[i]?
theorem But.bel{E:Env}{ts:TS}{G:Ghost}{a:Act}{w w':World}{d:Nat}(h:Rel E ts G a w)(hb:But d ts G w w'):Bel E.X E.w0 w' :=
 ⟨hb.os.trans h.bel.os,hb.tape.trans h.bel.tape,hb.output.trans h.bel.output,Nat.le_trans h.bel.size hb.size,fun k hk hx =>
  (hb.block k (Nat.lt_of_lt_of_le hk h.bel.size) fun hl e=>by
   rcases(h.own d hl).1 with h1|h1
   ·omega
   ·exact hx (e▸h1)).trans (h.bel.block k hk hx),Nat.le_trans h.bel.drawn hb.drawn⟩
theorem Rel.moved{E:Env}{ts:TS}{G:Ghost}{a:Act}{w w':World}(h:Rel E ts G a w){d d':Nat}(hd':d' < ts.n)(hbut:But d ts G w w')(o:Ob)(b:Nat)(k:Option Nat)
  (hb:k≠none→(w.heap.size≤b∨(Jj ts G d∧b=G.β d))∧b<w'.heap.size) {v:Value} {x:AV}
  (hr:Rep (Jb E (G.set d' b k) ((ts.kill d).new d' o) w') v x) (ho:ObOk (Jb E (G.set d' b k) ((ts.kill d).new d' o) w') d' o) :
  Rel E (((ts.kill d).new d' o).put d' x) (G.set d' b k) (a.put (some d') v) w':=by
 have live:∀e,e≠d'→Jj ((ts.kill d).new d' o) (G.set d' b k) e→e≠d∧Jj ts G e:=fun e he hl=>by
  have:Jj (ts.kill d) G e:=by simpa[Jj,Ghost.set,TS.new,Jp,he] using hl
  exact VE this
 have hβ:∀e,e≠d'→(G.set d' b k).β e=G.β e:=fun e he=>by simp[Ghost.set,Jp,he]
 have hβd:(G.set d' b k).β d'=b:=by simp[Ghost.set]
 have hkl:Jj ((ts.kill d).new d' o) (G.set d' b k) d'→k≠none:=fun hl=>by have:=hl.2;simpa[Ghost.set] using this
 have hle:(Jb E G ts w).Le (Jb E (G.set d' b k) ((ts.kill d).new d' o) w') :=
  {blk:=fun ad hM hlt=>by
    refine⟨hbut.block _ hlt fun hl e=>hM (.inr ⟨d,hl,e.symm⟩),?_⟩
    rintro(hF|⟨e,he,hbe⟩)
    ·exact hM (.inl hF)
    ·by_cases hed:e=d'
     ·subst hed
      have h1:b=ad:=by simpa[Jb,Ghost.set] using hbe
      rcases(hb (hkl he)).1 with h2|⟨h2,h3⟩
      ·have:ad<w.heap.size:=hlt
       omega
      ·exact hM (.inr ⟨d,h2,by rw[←h3];exact h1⟩)
     ·exact hM (.inr ⟨e,(live e hed he).2,by simpa[Jb,hβ e hed] using hbe⟩)
   gen:=fun e=>by by_cases h:e=d'<;>simp[Jb,TS.new,TS.kill,TS.setObj,Jp,h]
   kind:=fun e k' hg hk=>by
    by_cases h:e=d'
    ·subst h;simp[Jb,TS.new,TS.kill,TS.setObj] at hg
    ·by_cases h2:e=d
     ·subst h2;simp[Jb,TS.new,TS.kill,TS.setObj,Jp,h,Ob.kind] at hk
     ·simp only[Jb,TS.new,TS.kill,TS.setObj,Ghost.set,Jp,h,h2,if_false] at hk ⊢
      exact⟨hk,trivial,trivial⟩ }
 constructor
 ·simp[Act.put,h.size,TS.put,TS.new,TS.kill,TS.setObj]
 ·exact h.defers
 ·intro t
  rw[Jd9 a d' t v (by rw[h.size];exact hd')]
  show Rep (Jb E (G.set d' b k) ((ts.kill d).new d' o) w') _ (Jp ts.tmp d' x t)
  by_cases e:t=d'
  ·subst e;simpa using hr
  ·rw[if_neg e,Vo _ _ e];exact(h.tmp t).mono hle
 ·intro e
  show ObOk (Jb E (G.set d' b k) ((ts.kill d).new d' o) w') e ((Jp (Jp ts.obj d .dead) d' o) e)
  by_cases he:e=d'
  ·subst he;simpa using ho
  ·rw[Vo _ _ he]
   by_cases h2:e=d
   ·subst h2;simp[ObOk]
   ·rw[Vo _ _ h2]
    refine ObOk.mono hle (by simp[Jb,Ghost.set,Jp,he]) (by simp[Jb,Ghost.set,Jp,he]) ?_ (h.obj e)
    intro hkind hk
    exact hbut.block _ (h.own e ⟨hkind,hk⟩).2.2 fun hl hbe=>h2 (h.sep e d ⟨hkind,hk⟩ hl hbe)
 ·intro e e' h1 h2 h3
  have aux:∀e,e≠d'→Jj ((ts.kill d).new d' o) (G.set d' b k) e→Jj ((ts.kill d).new d' o) (G.set d' b k) d'→G.β e≠b:=fun e he hl hl' hbe=>by
   obtain⟨q1,q2⟩:=live e he hl
   rcases(hb (hkl hl')).1 with q3|⟨q3,q4⟩
   ·have:=(h.own e q2).2.2;omega
   ·exact q1 (h.sep e d q2 q3 (by rw[hbe,q4]))
  by_cases he:e=d'<;>by_cases he':e'=d'
  ·rw[he,he']
  ·subst he
   rw[hβd,hβ e' he'] at h3
   exact absurd h3.symm (aux e' he' h2 h1)
  ·subst he'
   rw[hβd,hβ e he] at h3
   exact absurd h3 (aux e he h1 h2)
  ·rw[hβ e he,hβ e' he'] at h3
   exact h.sep e e' (live e he h1).2 (live e' he' h2).2 h3
 ·intro e h1
  by_cases he:e=d'
  ·subst he
   rw[hβd]
   obtain⟨q1,q2⟩:=hb (hkl h1)
   rcases q1 with q1|⟨q1,q3⟩
   ·have:=h.bel.size
    exact⟨.inl (by omega),fun hF=>by have:=h.inF b hF;omega,q2⟩
   ·obtain⟨p,q,r⟩:=h.own d q1
    rw[q3]
    exact⟨p,q,by rw[←q3];exact q2⟩
  ·rw[hβ e he]
   obtain⟨p,q,r⟩:=h.own e (live e he h1).2
   exact⟨p,q,Nat.lt_of_lt_of_le r hbut.size⟩
 ·exact fun b hb=>Nat.lt_of_lt_of_le (h.inF b hb) hbut.size
 ·exact But.bel h hbut
 ·intro j b' hj hg
  by_cases he:j=d'
  ·subst he;simp[TS.put,TS.new] at hg
  ·rw[hβ j he];exact h.pin j b' hj (by simpa[TS.put,TS.new,TS.kill,TS.setObj,Jp,he] using hg)
theorem Rel.gone{E:Env}{ts:TS}{G:Ghost}{a:Act}{w w':World}(h:Rel E ts G a w){d:Nat}(hbut:But d ts G w w'):Rel E (ts.kill d) G a w':=by
 have hle:(Jb E G ts w).Le (Jb E G (ts.kill d) w') :=
  {blk:=fun ad hM hlt=>by
    refine⟨hbut.block _ hlt fun hl e=>hM (.inr ⟨d,hl,e.symm⟩),?_⟩
    rintro(hF|⟨e,he,hbe⟩)
    ·exact hM (.inl hF)
    ·exact hM (.inr ⟨e,(VE he).2,hbe⟩)
   gen:=fun _=>Nat.le_refl _
   kind:=fun e k' hg hk=>by
    by_cases h2:e=d
    ·subst h2;simp[Jb,TS.kill,TS.setObj,Ob.kind] at hk
    ·simp only[Jb,TS.kill,TS.setObj,Jp,h2,if_false] at hk;exact⟨hk,rfl,rfl⟩ }
 refine⟨h.size,h.defers,fun t=>(h.tmp t).mono hle,fun e=>?_,fun e e' h1 h2 h3=>h.sep e e' (VE h1).2 (VE h2).2 h3,fun e h1=>?_,fun b hb=>Nat.lt_of_lt_of_le (h.inF b hb) hbut.size,But.bel h hbut,h.pin⟩
 ·show ObOk _ e ((Jp ts.obj d .dead) e)
  by_cases he:e=d
  ·subst he;simp[ObOk]
  ·rw[Vo _ _ he]
   exact ObOk.mono hle rfl rfl (fun hkind hk=>hbut.block _ (h.own e ⟨hkind,hk⟩).2.2 fun hl hbe=>he (h.sep e d ⟨hkind,hk⟩ hl hbe)) (h.obj e)
 ·obtain⟨p,q,r⟩:=h.own e (VE h1).2
  exact⟨p,q,Nat.lt_of_lt_of_le r hbut.size⟩
theorem Rel.turned{E:Env}{ts:TS}{G:Ghost}{a:Act}{w w':World}(h:Rel E ts G a w){d:Nat}(hbut:But d ts G w w')(o:Ob)(hk:o.kind=(ts.obj d).kind)(ho:ObOk (Jb E G (ts.setObj d o) w') d o):Rel E (ts.setObj d o) G a w':=by
 have hle:(Jb E G ts w).Le (Jb E G (ts.setObj d o) w') :=
  {blk:=fun ad hM hlt=>by
    refine⟨hbut.block _ hlt fun hl e=>hM (.inr ⟨d,hl,e.symm⟩),?_⟩
    rintro(hF|⟨e,he,hbe⟩)
    ·exact hM (.inl hF)
    ·exact hM (.inr ⟨e,(YR hk e).1 he,hbe⟩)
   gen:=fun _=>Nat.le_refl _
   kind:=fun e k' _ hk'=>by
    by_cases he:e=d
    ·subst he;simp only[Jb,TS.setObj,Vc,hk] at hk';exact⟨hk',rfl,rfl⟩
    ·simp only[Jb,TS.setObj,Jp,he,if_false] at hk';exact⟨hk',rfl,rfl⟩ }
 refine⟨h.size,h.defers,fun t=>(h.tmp t).mono hle,fun e=>?_,fun e e' h1 h2 h3=>h.sep e e' ((YR hk e).1 h1) ((YR hk e').1 h2) h3,fun e h1=>?_,fun b hb=>Nat.lt_of_lt_of_le (h.inF b hb) hbut.size,But.bel h hbut,h.pin⟩
 ·show ObOk _ e ((Jp ts.obj d o) e)
  by_cases he:e=d
  ·subst he;simpa using ho
  ·rw[Vo _ _ he]
   exact ObOk.mono hle rfl rfl (fun hkind hk=>hbut.block _ (h.own e ⟨hkind,hk⟩).2.2 fun hl hbe=>he (h.sep e d ⟨hkind,hk⟩ hl hbe)) (h.obj e)
 ·obtain⟨p,q,r⟩:=h.own e ((YR hk e).1 h1)
  exact⟨p,q,Nat.lt_of_lt_of_le r hbut.size⟩
def Vj(E:Env)(ts:TS)(G:Ghost)(w:World)(d:Nat)(io:Bool):Env :=
 {w0:=w,X:=fun b=>Jj ts G d∧b=G.β d,F:=fun b=>E.F b∨∃e,e≠d∧Jj ts G e∧G.β e=b,pin:=fun j=>if j=0∧io=true then some (G.β d) else none }
theorem Jhx{E:Env}{ts:TS}{G:Ghost}{a:Act}{w:World}(hr:Rel E ts G a w){d:Nat}{ob ob':Ob}{x0:AV}{arg:Arg}{io:Bool}(hob:ts.obj d=ob)(hkind:ob.kind≠none)(hkind':ob'.kind=ob.kind)
  {v0:Value} {vs:List Value} {rest as:List AV} (hvs:vs.length=rest.length) (hrep:∀i,Rep (Jb E G ts w) (vs.getD i undef) (rest.getD i .any)) (hargs:ts.toArgs rest=some (as,[]))
  (harg:∀n,(Jk (arg :: as.map Arg.v) n).tmp 0=x0∧(Jk (arg :: as.map Arg.v) n).obj 0=ob')
  (hv0:Rep (Jb (Vj E ts G w d io) (G.set 0 (G.β d) (G.κ d)) (Jk (arg :: as.map Arg.v) (as.length+1)) w) v0 x0)
  (hob':∀c':Ctx,c'.w=w→c'.κ 0=G.κ d→c'.β 0=G.β d→(∀b,c'.M b→(Jb E G ts w).M b)→ObOk c' 0 ob') (hio:io=true→G.κ d≠none) :
  Rel (Vj E ts G w d io) (Jk (arg :: as.map Arg.v) (arg :: as.map Arg.v).length) (G.set 0 (G.β d) (G.κ d)) ⟨(v0 :: vs).toArray,[]⟩ w:=by
 have hlenA:(arg :: as.map Arg.v).length=as.length+1:=by simp
 rw[hlenA]
 have hG0:(G.set 0 (G.β d) (G.κ d)).β 0=G.β d∧(G.set 0 (G.β d) (G.κ d)).κ 0=G.κ d:=by simp[Ghost.set]
 have hdead:∀e,e≠0→(Jk (arg :: as.map Arg.v) (as.length+1)).obj e=.dead:=fun e he=>by
  obtain⟨q,rfl⟩:∃q,e=q+1:=⟨e-1,by omega⟩
  simp only[Jk,List.getElem?_cons_succ,List.getElem?_map]
  cases as[q]?<;>rfl
 have hlive:∀e,Jj (Jk (arg :: as.map Arg.v) (as.length+1)) (G.set 0 (G.β d) (G.κ d)) e↔e=0∧Jj ts G d:=fun e=>by
  unfold Jj
  by_cases he:e=0
  ·subst he
   rw[(harg _).2,hG0.2,hkind',hob]
   simp
  ·rw[hdead e he];simp[Ob.kind,he]
 have hM:∀b,(Jb (Vj E ts G w d io) (G.set 0 (G.β d) (G.κ d)) (Jk (arg :: as.map Arg.v) (as.length+1)) w).M b↔(E.F b∨∃e,e ∉ ([]:List Nat)∧Jj ts G e∧G.β e=b):=fun b=>by
  simp only[Jb,Vj,List.not_mem_nil,not_false_eq_true,true_and]
  constructor
  ·rintro((h1|⟨e,_,hl,hb⟩)|⟨e,hl,hb⟩)
   ·exact .inl h1
   ·exact .inr ⟨e,hl,hb⟩
   ·obtain⟨rfl,hl'⟩:=(hlive e).1 hl
    exact .inr ⟨d,hl',by rw[←hG0.1];exact hb⟩
  ·rintro(h1|⟨e,hl,hb⟩)
   ·exact .inl (.inl h1)
   ·by_cases hed:e=d
    ·subst hed;exact .inr ⟨0,(hlive 0).2 ⟨rfl,hl⟩,by rw[hG0.1];exact hb⟩
    ·exact .inl (.inr ⟨e,hed,hl,hb⟩)
 obtain⟨hlen,hargr,hpure⟩:=Jfa hr (c':=Jb (Vj E ts G w d io) (G.set 0 (G.β d) (G.κ d)) (Jk (arg :: as.map Arg.v) (as.length+1)) w) rfl [] hM vs rest as [] hvs hrep hargs (fun _ h=>h)
 refine⟨by simp[Jk,hvs,hlen],rfl,fun t=>?_,fun e=>?_,fun e e' h1 h2 _=>?_,fun e h1=>?_,fun b hb=>?_,Bel.refl _ _,fun j b hj hg=>?_⟩
 ·cases t with
  |zero=>rw[(harg _).1];simpa using hv0
  |succ t =>
   have e2:(Jk (arg :: as.map Arg.v) (as.length+1)).tmp (t+1)=as.getD t .any:=by
    simp only[Jk,List.getElem?_cons_succ,List.getElem?_map,List.getD_eq_getElem?_getD]
    cases as[t]?<;>rfl
   rw[e2]
   simpa using hargr t
 ·by_cases he:e=0
  ·subst he
   rw[(harg _).2]
   refine hob' _ rfl hG0.2 hG0.1 fun b hb=>?_
   rcases(hM b).1 hb with h1|⟨e,_,hl,hb⟩
   ·exact .inl h1
   ·exact .inr ⟨e,hl,hb⟩
  ·rw[hdead e he];trivial
 ·rw[((hlive e).1 h1).1,((hlive e').1 h2).1]
 ·obtain⟨rfl,hl⟩:=(hlive e).1 h1
  rw[hG0.1]
  refine⟨.inr ⟨hl,rfl⟩,?_,(hr.own d hl).2.2⟩
  rintro(h2|⟨e,hne,hle,hb⟩)
  ·exact(hr.own d hl).2.1 h2
  ·exact hne (hr.sep e d hle hl hb)
 ·rcases hb with h1|⟨e,_,hl,rfl⟩
  ·exact hr.inF b h1
  ·exact(hr.own e hl).2.2
 ·simp only[Vj] at hj
  split at hj
  ·rename_i hc;cases hj;rw[hc.1,hG0.1]
  ·cases hj
theorem Jkw{c:Ctx}{d sz:Nat}{xs:List AV}(h:ObOk c d (.arr sz xs))(n:Nat):ObOk c d (.arr sz (xs.take n)):=by
 obtain⟨h0,h1,h2⟩:=h
 refine⟨h0,fun x hx=>h1 x (List.mem_of_mem_take hx),?_⟩
 cases hκ:c.κ d with
 |none=>rw[hκ] at h2;simp[h2]
 |some cap =>
  rw[hκ] at h2
  obtain⟨vs,T,g1,g2,g3,g4⟩:=h2
  refine⟨vs,T,g1,g2,by simp;omega,fun i j hi hj=>?_⟩
  have hi':i<xs.length∧i<n:=by simp at hi;omega
  have e:(xs.take n).getD i .any=xs.getD i .any:=by simp[List.getElem?_take,hi'.2]
  rw[e];exact g4 i j hi'.1 hj
theorem ObOk.plain{c c':Ctx}{d d':Nat}{o:Ob}(hp:(match o with|.box cs=>AV.pure.pureL cs|.arr _ xs=>AV.pure.pureL xs|.dead=>true|.iter _ _=>true|.mp ks vs=>AV.pure.pureL ks && AV.pure.pureL vs)=true)(hw:c'.w=c.w)(hM:∀b,c'.M b→c.M b)(hκ:c'.κ d'=c.κ d)(hβ:c'.β d'=c.β d)(h:ObOk c d o):ObOk c' d' o:=by
 have hmono:∀ {v x},Rep c v x→x.pure=true→Rep c' v x:=fun hr hx=>Rep.mono_pure (fun b hm _=>⟨by rw[hw],fun h=>hm (hM _ h)⟩) hr hx
 cases o with
 |dead=>trivial
 |box cs =>
  obtain⟨h0,vs,T,h1,h2,h3⟩:=h
  exact⟨by rw[hκ];exact h0,vs,T,by rw[hw,hβ];exact h1,h2,fun i=>hmono (h3 i) (JW cs i hp)⟩
 |arr sz xs =>
  obtain⟨h0,h1,h2⟩:=h
  refine⟨h0,h1,?_⟩
  rw[hκ]
  cases hc:c.κ d with
  |none=>rw[hc] at h2;exact h2
  |some cap =>
   rw[hc] at h2
   obtain⟨vs,T,h3,h4,h5,h6⟩:=h2
   exact⟨vs,T,by rw[hw,hβ];exact h3,h4,h5,fun i j hi hj=>hmono (h6 i j hi hj) (JW _ _ (AV.pure_cells (JW xs i hp)))⟩
 |iter l p =>
  obtain⟨h0,s,h1,h2⟩:=h
  exact⟨by rw[hκ];exact h0,s,by rw[hw,hβ];exact h1,h2⟩
 |mp ks vs =>
  simp only[Bool.and_eq_true] at hp
  obtain⟨h0,es,cl,h1,h2,h3,h4,h5,h6⟩:=h
  exact⟨by rw[hκ];exact h0,es,cl,by rw[hw,hβ];exact h1,h2,h3,fun i=>hmono (h4 i) (JW ks i hp.1),fun i=>hmono (h5 i) (JW vs i hp.2),h6⟩
theorem SpecO.callM{o:Oper}{ts:TS}{K:TS→Prop}{fop:Operand}{xs:Array Operand}{at_:Array TypeId}(ho:o.op=.call { callee:=.value fop,args:=xs,argTypes:=at_ })
  {f:FuncId} {caps:List AV} (hf:ts.ev fop=.clo (.func f) [] caps) {d g len sz:Nat} {zs rest as:List AV} (hvs:(xs.toList.map ts.ev)++caps=.os d g len :: rest) (hg:g=ts.gen d) (hob:ts.obj d=.arr sz zs) (hlen:len≤zs.length)
  (hpure:AV.pure.pureL zs=true) (hargs:ts.toArgs rest=some (as,[])) {r:Ret} (hcall:CallV P f (.own sz (zs.take len) :: as.map Arg.v) fun r' _=>r'=r) (hk:afterK (ts.kill d) o.dst r K):SpecO P o ts K:=by
 intro E G a w next Q hr hn
 have hvf:=hr.ev fop
 rw[hf] at hvf
 have hfv:∃c1:Array Value,a.eval fop=.func (.func f) #[] c1∧c1.size=caps.length∧∀i,Rep (Jb E G ts w) (c1.getD i undef) (caps.getD i .any):=by
  generalize a.eval fop=q at hvf
  cases hvf with
  |clo _ f1 c1 _ _ p0 p1 p2 p3 =>
   have:f1=#[]:=Array.eq_empty_of_size_eq_zero (by simpa using p0)
   subst this
   exact⟨c1,rfl,p1,p3⟩
 obtain⟨c1,hfe,hc1,hc1r⟩:=hfv
 let vals:Array Value:=xs.map a.eval++c1
 have hvlen:vals.toList.length=(AV.os d g len :: rest).length:=by rw[←hvs];simp[vals,hc1]
 have hvrep:∀i,Rep (Jb E G ts w) (vals.toList.getD i undef) ((AV.os d g len :: rest).getD i .any):=fun i=>by
  rw[←hvs]
  simp only[vals,Array.toList_append,Array.toList_map,List.getD_eq_getElem?_getD]
  by_cases hi:i<xs.size
  ·rw[List.getElem?_append_left (by simpa using hi),List.getElem?_append_left (by simpa using hi)]
   simp only[List.getElem?_map,Array.getElem?_toList]
   rw[Array.getElem?_eq_getElem hi]
   exact hr.ev _
  ·rw[List.getElem?_append_right (by simp;omega),List.getElem?_append_right (by simp;omega)]
   have:=hc1r (i-xs.size)
   simpa using this
 obtain⟨v0,vs,hv0⟩:∃v0 vs,vals.toList=v0 :: vs:=by
  cases hv:vals.toList with
  |nil=>rw[hv] at hvlen;simp at hvlen
  |cons v0 vs=>exact⟨v0,vs,rfl⟩
 rw[hv0] at hvlen hvrep
 have hvals:vals=(v0 :: vs).toArray:=by rw[←hv0]
 have h00:Rep (Jb E G ts w) v0 (.os d g len):=by simpa using hvrep 0
 obtain⟨h1c,hgl,hos⟩:=Yn h00
 have hos:=hos hg (by simp[Jb,hob,Ob.kind])
 have hobk:=hr.obj d
 rw[hob] at hobk
 have htl:(zs.take len).length=len:=by simp;omega
 have hpt:AV.pure.pureL (zs.take len)=true:=JjD zs len hpure
 have hrel':=Jhx (io:=false) (arg:=.own sz (zs.take len)) (ob':=.arr sz (zs.take len)) (x0:=.os 0 0 len) (v0:=v0) hr hob (by simp[Ob.kind]) rfl (vs:=vs) (rest:=rest) (as:=as) (by simpa using hvlen) (fun i=>by simpa using hvrep (i+1)) hargs
  (fun n=>⟨by simp[Jk,htl],by simp[Jk]⟩) (.os 0 0 len v0 h1c (Nat.zero_le _) fun _ _=>by
   unfold JO at hos ⊢
   simpa[Jb,Ghost.set] using hos)
  (fun c' hw hκ hβ hM=>ObOk.plain (c:=Jb E G ts w) (d:=d) hpt hw hM hκ hβ (Jkw hobk len)) (by simp)
 have hC:=hcall (Vj E ts G w d false) (G.set 0 (G.β d) (G.κ d)) (v0 :: vs).toArray w rfl hrel' fun j=>by
  constructor
  ·rintro⟨cs,hcs⟩
   cases j with
   |zero=>simp at hcs
   |succ j=>simp only[List.getElem?_cons_succ,List.getElem?_map] at hcs;cases hh:as[j]?<;>rw[hh] at hcs<;>simp at hcs
  ·rintro⟨b,hb⟩;simp[Vj] at hb
 have fin:∀(v:Value) (w':World),Post (Vj E ts G w d false) (fun r' _=>r'=r) (.returned v) w'→next (a.put o.dst v) w':=by
  rintro v w' ⟨v',r',io,ts',G',hv',hR,hrel,_,hret⟩
  cases hv'
  subst hR
  have hbel:=hrel.bel
  have hbut:But d ts G w w':=⟨hbel.os,hbel.tape,hbel.output,hbel.size,hbel.drawn,fun i hi hne=>hbel.block i hi fun hx=>hne hx.1 hx.2⟩
  have hv0':Rep (Jb (Vj E ts G w d false) G' ts' w') v (ts'.tmp 0):=by have:=hrel.tmp 0;simpa using this
  cases r' with
  |val x =>
   obtain⟨hxp,hx0⟩:=hret
   rw[hx0] at hv0'
   have hr2:=Rel.gone (d:=d) hr hbut
   have hxr:Rep (Jb E G (ts.kill d) w') v x:=by
    refine Rep.mono_pure (c:=Jb (Vj E ts G w d false) G' ts' w') (c':=Jb E G (ts.kill d) w') ?_ hv0' hxp
    intro ad hMa hc
    refine⟨rfl,?_⟩
    rintro(hF|⟨e,hl,hb⟩)
    ·exact hMa (.inl (.inl hF))
    ·exact hMa (.inl (.inr ⟨e,(VE hl).1,(VE hl).2,hb⟩))
   simp only[afterK,Jd] at hk
   cases hd:o.dst with
   |none=>rw[hd] at hk;exact hn _ G _ w' hk hr2
   |some d'=>rw[hd] at hk;exact hn _ G _ w' hk.2 (hr2.put hk.1 hxr)
  |own sz' ys =>
   obtain⟨d0,g0,ht0,hg0,ho0,hp0⟩:=hret
   simp only[afterK,VY] at hk
   cases hd:o.dst with
   |none=>rw[hd] at hk;exact hk.elim
   |some d' =>
    rw[hd] at hk
    rw[ht0] at hv0'
    obtain⟨_,_,hos'⟩:=Yn hv0'
    have hos':=hos' hg0.symm (by simp[Jb,ho0,Ob.kind])
    have hob':=hrel.obj d0
    rw[ho0] at hob'
    unfold JO at hos'
    have hgen:(ts.kill d).gen=ts.gen:=rfl
    have hn':d' < ts.n:=hk.1
    cases hκ:(Jb (Vj E ts G w d false) G' ts' w').κ d0 with
    |none =>
     rw[hκ] at hos'
     obtain⟨h0,hsz,hrest⟩:=hob'
     rw[hκ] at hrest
     subst hrest
     obtain⟨_,ad,rfl⟩:=hos'
     refine hn _ _ _ _ hk.2 (hr.moved (w':=w') hn' hbut (.arr sz' []) w.heap.size none (fun h=>absurd rfl h) ?_ ?_)
     ·refine .os d' _ _ _ rfl (by simp[Jb,TS.new]) fun _ _=>?_
      unfold JO
      simp[Jb,Ghost.set]
     ·refine⟨h0,by simp,?_⟩
      simp[Jb,Ghost.set]
    |some cap =>
     rw[hκ] at hos'
     obtain⟨hv,hcap⟩:=hos'
     have hκ':G'.κ d0=some cap:=hκ
     have hlive0:Jj ts' G' d0:=⟨by simp[ho0,Ob.kind],by rw[hκ'];simp⟩
     obtain⟨hown,hnF,hlt⟩:=hrel.own d0 hlive0
     refine hn _ _ _ _ hk.2 (hr.moved (w':=w') hn' hbut (.arr sz' ys) (G'.β d0) (some cap) (fun _=>⟨hown,hlt⟩) ?_ ?_)
     ·refine .os d' _ _ _ ?_ (by simp[Jb,TS.new]) fun _ _=>?_
      ·rw[hv];rfl
      ·unfold JO
       simp only[Jb,Ghost.set,Vc]
       exact⟨hv,hcap⟩
     ·refine ObOk.plain (c:=Jb (Vj E ts G w d false) G' ts' w') (d:=d0) hp0 rfl (fun b hb=>?_) (by simp[Jb,Ghost.set,hκ']) (by simp[Jb,Ghost.set]) hob'
      rcases hb with hF|⟨e,hl,hb⟩
      ·exact .inl (.inl hF)
      ·by_cases he:e=d'
       ·subst he
        have:G'.β d0=b:=by simpa[Ghost.set,Jb] using hb
        exact .inr ⟨d0,hlive0,this⟩
       ·have hl':Jj (ts.kill d) G e:=by simpa[Jj,TS.new,Ghost.set,Jp,he] using hl
        have hb':G.β e=b:=by simpa[Ghost.set,Jp,he] using hb
        exact .inl (.inr ⟨e,(VE hl').1,(VE hl').2,hb'⟩)
 have hexec:(execOp a.eval o).run P w=(callFunc f (v0 :: vs).toArray).run P w:=by
  rw[←hvals]
  simp[execOp,ho,resolve,hfe,Deferred.ofValue,invoke,vals]
 unfold Oper.wp
 rw[hexec]
 split at hC
 ·rename_i f' args' w1 heq
  rw[heq]
  show Calls P f' args' w1 _
  refine Calls.mono hC ?_
  rintro e w' ⟨v,r,io,ts',G',rfl,rest⟩
  exact fin v w' ⟨v,r,io,ts',G',rfl,rest⟩
 ·rename_i v w1 heq
  rw[heq]
  exact fin v w1 hC
 ·exact hC.elim
theorem SpecO.callI{o:Oper}{ts:TS}{K:TS→Prop}{fop:Operand}{xs:Array Operand}{at_:Array TypeId}(ho:o.op=.call { callee:=.value fop,args:=xs,argTypes:=at_ })
  {f:FuncId} {caps:List AV} (hf:ts.ev fop=.clo (.func f) [] caps) {d g:Nat} {cs cs' rest as:List AV} (hvs:(xs.toList.map ts.ev)++caps=.ref d g 0 :: rest) (hg:g=ts.gen d) (hob:ts.obj d=.box cs)
  (hpure:AV.pure.pureL cs=true) (hargs:ts.toArgs rest=some (as,[])) {x:AV} (hcall:CallV P f (.io cs :: as.map Arg.v) fun r' io=>r'=.val x∧io 0=cs') (hk:Jd (ts.setObj d (.box cs')) o.dst x K):SpecO P o ts K:=by
 intro E G a w next Q hr hn
 have hvf:=hr.ev fop
 rw[hf] at hvf
 have hfv:∃c1:Array Value,a.eval fop=.func (.func f) #[] c1∧c1.size=caps.length∧∀i,Rep (Jb E G ts w) (c1.getD i undef) (caps.getD i .any):=by
  generalize a.eval fop=q at hvf
  cases hvf with
  |clo _ f1 c1 _ _ p0 p1 p2 p3 =>
   have:f1=#[]:=Array.eq_empty_of_size_eq_zero (by simpa using p0)
   subst this
   exact⟨c1,rfl,p1,p3⟩
 obtain⟨c1,hfe,hc1,hc1r⟩:=hfv
 let vals:Array Value:=xs.map a.eval++c1
 have hvlen:vals.toList.length=(AV.ref d g 0 :: rest).length:=by rw[←hvs];simp[vals,hc1]
 have hvrep:∀i,Rep (Jb E G ts w) (vals.toList.getD i undef) ((AV.ref d g 0 :: rest).getD i .any):=fun i=>by
  rw[←hvs]
  simp only[vals,Array.toList_append,Array.toList_map,List.getD_eq_getElem?_getD]
  by_cases hi:i<xs.size
  ·rw[List.getElem?_append_left (by simpa using hi),List.getElem?_append_left (by simpa using hi)]
   simp only[List.getElem?_map,Array.getElem?_toList]
   rw[Array.getElem?_eq_getElem hi]
   exact hr.ev _
  ·rw[List.getElem?_append_right (by simp;omega),List.getElem?_append_right (by simp;omega)]
   have:=hc1r (i-xs.size)
   simpa using this
 obtain⟨v0,vs,hv0⟩:∃v0 vs,vals.toList=v0 :: vs:=by
  cases hv:vals.toList with
  |nil=>rw[hv] at hvlen;simp at hvlen
  |cons v0 vs=>exact⟨v0,vs,rfl⟩
 rw[hv0] at hvlen hvrep
 have hvals:vals=(v0 :: vs).toArray:=by rw[←hv0]
 have h00:Rep (Jb E G ts w) v0 (.ref d g 0):=by simpa using hvrep 0
 obtain⟨h1c,hgl,hos⟩:=Jdi h00
 have hos:=hos hg (by simp[Jb,hob,Ob.kind])
 have hobk:=hr.obj d
 rw[hob] at hobk
 have hκd:G.κ d≠none:=hobk.1
 have hlive:Jj ts G d:=⟨by simp[hob,Ob.kind],hκd⟩
 have hrel':=Jhx (io:=true) (arg:=.io cs) (ob':=.box cs) (x0:=.ref 0 0 0) (v0:=v0) hr hob (by simp[Ob.kind]) rfl (vs:=vs) (rest:=rest) (as:=as) (by simpa using hvlen) (fun i=>by simpa using hvrep (i+1)) hargs
  (fun n=>⟨by simp[Jk],by simp[Jk]⟩) (.ref 0 0 0 v0 h1c (Nat.zero_le _) fun _ _=>by simpa[Jb,Ghost.set] using hos)
  (fun c' hw hκ hβ hM=>ObOk.plain (c:=Jb E G ts w) (d:=d) hpure hw hM hκ hβ hobk) (fun _=>hκd)
 have hC:=hcall (Vj E ts G w d true) (G.set 0 (G.β d) (G.κ d)) (v0 :: vs).toArray w rfl hrel' fun j=>by
  constructor
  ·rintro⟨cs,hcs⟩
   cases j with
   |zero=>exact⟨G.β d,by simp[Vj]⟩
   |succ j=>simp only[List.getElem?_cons_succ,List.getElem?_map] at hcs;cases hh:as[j]?<;>rw[hh] at hcs<;>simp at hcs
  ·rintro⟨b,hb⟩
   cases j with
   |zero=>exact⟨cs,by simp⟩
   |succ j=>simp[Vj] at hb
 have fin:∀(v:Value) (w':World),Post (Vj E ts G w d true) (fun r' io=>r'=.val x∧io 0=cs') (.returned v) w'→next (a.put o.dst v) w':=by
  rintro v w' ⟨v',r',io,ts',G',hv',hR,hrel,hio,hret⟩
  cases hv'
  obtain⟨hR,hio0⟩:=hR
  subst hR
  obtain⟨q1,q2,q3⟩:=hio 0 (G.β d) (by simp[Vj])
  rw[hio0] at q2 q3
  have hpin:=hrel.pin 0 (G.β d) (by simp[Vj]) q1
  have hbel:=hrel.bel
  have hbut:But d ts G w w':=⟨hbel.os,hbel.tape,hbel.output,hbel.size,hbel.drawn,fun i hi hne=>hbel.block i hi fun hx=>hne hx.1 hx.2⟩
  have hv0':Rep (Jb (Vj E ts G w d true) G' ts' w') v (ts'.tmp 0):=by have:=hrel.tmp 0;simpa using this
  have hob0:=hrel.obj 0
  rw[q2] at hob0
  have hlive0:Jj ts' G' 0:=⟨by simp[q2,Ob.kind],hob0.1⟩
  have hkd:(Ob.box cs').kind=(ts.obj d).kind:=by rw[hob];rfl
  have hM2:∀b,(Jb E G (ts.setObj d (.box cs')) w').M b→(Jb (Vj E ts G w d true) G' ts' w').M b:=fun b hb=>by
   rcases hb with hF|⟨e,hl,hb⟩
   ·exact .inl (.inl hF)
   ·have hl':=(YR hkd e).1 hl
    by_cases he:e=d
    ·subst he;exact .inr ⟨0,hlive0,by rw[hpin];exact hb⟩
    ·exact .inl (.inr ⟨e,he,hl',hb⟩)
  have hr2:=Rel.turned (d:=d) hr hbut (.box cs') hkd (by
   obtain⟨_,us,T,h1,h2,h3⟩:=hob0
   refine⟨hκd,us,T,?_,h2,fun i=>Rep.mono_pure (c:=Jb (Vj E ts G w d true) G' ts' w') (c':=Jb E G (ts.setObj d (.box cs')) w') (fun b hm _=>⟨rfl,fun h=>hm (hM2 _ h)⟩) (h3 i) (JW cs' i q3)⟩
   show w'.heap[G.β d]?=_
   rw[←hpin];exact h1)
  obtain⟨hxp,hx0⟩:=hret
  rw[hx0] at hv0'
  have hxr:Rep (Jb E G (ts.setObj d (.box cs')) w') v x:=Rep.mono_pure (c:=Jb (Vj E ts G w d true) G' ts' w') (c':=Jb E G (ts.setObj d (.box cs')) w') (fun b hm _=>⟨rfl,fun h=>hm (hM2 _ h)⟩) hv0' hxp
  simp only[Jd] at hk
  cases hd:o.dst with
  |none=>rw[hd] at hk;exact hn _ G _ w' hk hr2
  |some d'=>rw[hd] at hk;exact hn _ G _ w' hk.2 (hr2.put hk.1 hxr)
 have hexec:(execOp a.eval o).run P w=(callFunc f (v0 :: vs).toArray).run P w:=by
  rw[←hvals]
  simp[execOp,ho,resolve,hfe,Deferred.ofValue,invoke,vals]
 unfold Oper.wp
 rw[hexec]
 split at hC
 ·rename_i f' args' w1 heq
  rw[heq]
  show Calls P f' args' w1 _
  refine Calls.mono hC ?_
  rintro e w' ⟨v,r,io,ts',G',rfl,rest⟩
  exact fin v w' ⟨v,r,io,ts',G',rfl,rest⟩
 ·rename_i v w1 heq
  rw[heq]
  exact fin v w1 hC
 ·exact hC.elim
def JdG(P:Program)(f g:FuncId)(sz:Nat)(zs zs':List AV):Prop :=
 ∀(E:Env) (ts:TS) (G:Ghost) (a:Act) (w:World) (d:Nat) (v0:Value),Rel E ts G a w→ts.obj d=.arr sz zs→JO (Jb E G ts w) d zs.length v0 →
  match (callFunc f #[v0,.func (.func g) #[] #[]]).run P w with
  | .ok (.enter f' args') w1=>Calls P f' args' w1 fun e w'=>e=.returned (.tuple #[])∧But d ts G w w'∧ObOk (Jb E G (ts.setObj d (.arr sz zs')) w') d (.arr sz zs')
  |_=>False
theorem SpecO.callA{o:Oper}{ts:TS}{K:TS→Prop}{fop:Operand}{xs:Array Operand}{at_:Array TypeId}(ho:o.op=.call { callee:=.value fop,args:=xs,argTypes:=at_ })
  {f:FuncId} {caps:List AV} (hf:ts.ev fop=.clo (.func f) [] caps) {d g fg sz:Nat} {zs zs':List AV} (hvs:(xs.toList.map ts.ev)++caps=[.os d g zs.length,.clo (.func fg) [] []]) (hg:g=ts.gen d) (hob:ts.obj d=.arr sz zs)
  (hcall:JdG P f fg sz zs zs') (hk:Jd (ts.setObj d (.arr sz zs')) o.dst (.tup []) K):SpecO P o ts K:=by
 intro E G a w next Q hr hn
 have hvf:=hr.ev fop
 rw[hf] at hvf
 have hfv:∃c1:Array Value,a.eval fop=.func (.func f) #[] c1∧c1.size=caps.length∧∀i,Rep (Jb E G ts w) (c1.getD i undef) (caps.getD i .any):=by
  generalize a.eval fop=q at hvf
  cases hvf with
  |clo _ f1 c1 _ _ p0 p1 p2 p3 =>
   have:f1=#[]:=Array.eq_empty_of_size_eq_zero (by simpa using p0)
   subst this
   exact⟨c1,rfl,p1,p3⟩
 obtain⟨c1,hfe,hc1,hc1r⟩:=hfv
 let vals:Array Value:=xs.map a.eval++c1
 have hvlen:vals.toList.length=2:=by
  have e:((xs.toList.map ts.ev)++caps).length=2:=by rw[hvs];rfl
  rw[←e];simp[vals,hc1]
 have hvrep:∀i,Rep (Jb E G ts w) (vals.toList.getD i undef) (([.os d g zs.length,.clo (.func fg) [] []]:List AV).getD i .any):=fun i=>by
  rw[←hvs]
  simp only[vals,Array.toList_append,Array.toList_map,List.getD_eq_getElem?_getD]
  by_cases hi:i<xs.size
  ·rw[List.getElem?_append_left (by simpa using hi),List.getElem?_append_left (by simpa using hi)]
   simp only[List.getElem?_map,Array.getElem?_toList]
   rw[Array.getElem?_eq_getElem hi]
   exact hr.ev _
  ·rw[List.getElem?_append_right (by simp;omega),List.getElem?_append_right (by simp;omega)]
   have:=hc1r (i-xs.size)
   simpa using this
 obtain⟨v0,v1,hv0⟩:∃v0 v1,vals.toList=[v0,v1]:=by
  match hv:vals.toList,hvlen with
  | [v0,v1],_=>exact⟨v0,v1,rfl⟩
 rw[hv0] at hvrep
 have hvals:vals=#[v0,v1]:=by
  have:vals=vals.toList.toArray:=rfl
  rw[this,hv0]
 have h00:Rep (Jb E G ts w) v0 (.os d g zs.length):=by simpa using hvrep 0
 have h01:Rep (Jb E G ts w) v1 (.clo (.func fg) [] []):=by simpa using hvrep 1
 have hv1:v1=.func (.func fg) #[] #[]:=by
  cases h01 with
  |clo _ f1 c1 _ _ p0 p1 p2 p3 =>
   have e1:f1=#[]:=Array.eq_empty_of_size_eq_zero (by simpa using p0)
   have e2:c1=#[]:=Array.eq_empty_of_size_eq_zero (by simpa using p1)
   rw[e1,e2]
 subst hv1
 obtain⟨h1c,hgl,hos⟩:=Yn h00
 have hos:=hos hg (by simp[Jb,hob,Ob.kind])
 have hC:=hcall E ts G a w d v0 hr hob hos
 have hexec:(execOp a.eval o).run P w=(callFunc f #[v0,.func (.func fg) #[] #[]]).run P w:=by
  rw[←hvals]
  simp[execOp,ho,resolve,hfe,Deferred.ofValue,invoke,vals]
 unfold Oper.wp
 rw[hexec]
 split at hC
 ·rename_i f' args' w1 heq
  rw[heq]
  show Calls P f' args' w1 _
  refine Calls.mono hC ?_
  rintro e w' ⟨rfl,hbut,hok⟩
  have hr2:=Rel.turned (d:=d) hr hbut (.arr sz zs') (by rw[hob];rfl) hok
  simp only[Jd] at hk
  cases hd:o.dst with
  |none=>rw[hd] at hk;exact hn _ G _ w' hk hr2
  |some d' =>
   rw[hd] at hk
   refine hn _ G _ w' hk.2 (hr2.put hk.1 ?_)
   exact .tup _ _ rfl fun i=>by simpa using Rep.any _
 ·exact hC.elim
end Go.Proofs.YthjalhfmpffbjaaGreatDoor.Lg
namespace Go.Proofs.YthjalhfmpffbjaaGreatDoor.Lg
open Go
variable {P:Program}
def TS.optI(ts:TS)(x:Option Operand)(dflt:Int):Option Int :=
 match x with
 |none=>some dflt
 |some y=>match ts.ev y with
  | .int _ n=>some n
  |_=>none
theorem Jcm{E:Env}{ts:TS}{G:Ghost}{a:Act}{w:World}(h:Rel E ts G a w){x:Operand}{d n:Int}(hn:ts.optI (some x) d=some n):∃k,a.eval x=.int k n:=by
 unfold TS.optI at hn
 simp only at hn
 have:=h.ev x
 split at hn
 ·rename_i k m e
  cases hn
  rw[e] at this
  exact⟨k,Vh this⟩
 ·cases hn
theorem Jdn(isS:Bool)(w:World){E:Env}{ts:TS}{G:Ghost}{a:Act}(h:Rel E ts G a w)(len cap:Nat)(hcap:len≤cap)(lo hi:Option Operand){l u:Int}(hl:ts.optI lo 0=some l)(hu:ts.optI hi len=some u)
  (h0:0≤l) (h1:l≤u) (h2:u≤cap):(Instr.sliceBounds isS len cap (lo.map a.eval) (hi.map a.eval) none).run P w=.ok (l.toNat,u.toNat,cap) w:=by
 cases hi with
 |none =>
  simp[TS.optI] at hu
  subst hu
  cases lo with
  |none=>simp[TS.optI] at hl;subst hl;simp[Instr.sliceBounds]
  |some y =>
   obtain⟨k,hk⟩:=Jcm h hl
   have:0≤l∧l≤(len:Int):=⟨h0,h1⟩
   simp[Instr.sliceBounds,Instr.sliceBound,asIntOf,hk,this]
 |some z =>
  obtain⟨k',hk'⟩:=Jcm h hu
  have hc:0≤u∧u≤(cap:Int):=⟨by omega,h2⟩
  cases lo with
  |none=>simp[TS.optI] at hl;subst hl;cases isS<;>simp[Instr.sliceBounds,Instr.sliceBound,asIntOf,hk',hc]
  |some y =>
   obtain⟨k,hk⟩:=Jcm h hl
   have hlu:0≤l∧l≤((u.toNat:Nat):Int):=⟨h0,by omega⟩
   cases isS<;>simp[Instr.sliceBounds,Instr.sliceBound,asIntOf,hk,hk',hc]<;>(intro q1;have:=q1 h0;omega)
theorem Jj0(w:World){E:Env}{ts:TS}{G:Ghost}{a:Act}(h:Rel E ts G a w)(len cap:Nat)(lo:Option Operand)(hi mx:Operand){l u m:Int}(hl:ts.optI lo 0=some l)(hu:ts.optI (some hi) len=some u)(hm:ts.optI (some mx) 0=some m)
  (h0:0≤l) (h1:l≤u) (h2:u≤m) (h3:m≤cap):(Instr.sliceBounds true len cap (lo.map a.eval) (some (a.eval hi)) (some (a.eval mx))).run P w=.ok (l.toNat,u.toNat,m.toNat) w:=by
 obtain⟨k',hk'⟩:=Jcm h hu
 obtain⟨k'',hk''⟩:=Jcm h hm
 have hc:0≤m∧m≤(cap:Int):=⟨by omega,h3⟩
 have hum:0≤u∧u≤((m.toNat:Nat):Int):=⟨by omega,by omega⟩
 cases lo with
 |none =>
  simp[TS.optI] at hl;subst hl
  simp only[Instr.sliceBounds,Instr.sliceBound,asIntOf,hk',hk'',Sem.run_bind,Sem.run_pure,Result.andThen_ok,if_pos hc,if_pos hum,Option.map_none]
  rfl
 |some y =>
  obtain⟨k,hk⟩:=Jcm h hl
  have hlu:0≤l∧l≤((u.toNat:Nat):Int):=⟨h0,by omega⟩
  simp only[Instr.sliceBounds,Instr.sliceBound,asIntOf,hk,hk',hk'',Sem.run_bind,Sem.run_pure,Result.andThen_ok,if_pos hc,if_pos hum,if_pos hlu,Option.map_some,Option.isSome_some,if_true]
theorem Rep.piece{c:Ctx}{v:Value}{clip:Bool}{xs:List AV}(h:Rep c v (.slice clip xs)){sz:Nat}(hsz:∀x∈xs,x.cells.length=sz){l u m:Nat}(h1:l≤u)(h2:u≤xs.length)(hum:u≤m)(clip':Bool)(hcl:clip'=true→m=u) :
  ∃a cap,v=.slice a xs.length cap∧Rep c (.slice (if m=l then a else a.map (·.add (l*sz))) (u-l) (m-l)) (.slice clip' ((xs.take u).drop l)):=by
 have hlen:((xs.take u).drop l).length=u-l:=by simp;omega
 have hempty:u-l=0→(xs.take u).drop l=[]:=fun e=>List.eq_nil_of_length_eq_zero (by rw[hlen,e])
 cases h with
 |slice0 _ a cap hc =>
  refine⟨a,cap,rfl,?_⟩
  have hu0:u=0:=by simpa using h2
  rw[hempty (by omega)]
  rw[show u-l=0 by omega]
  exact .slice0 clip' _ _ (fun e=>by have:=hcl e;omega)
 |slice _ b off cap sz' _ f p0 p1 hM hcap hclip hsz' hc hr =>
  refine⟨_,cap,rfl,?_⟩
  by_cases hlu:u-l=0
  ·rw[hempty hlu,hlu]
   exact .slice0 clip' _ _ (fun e=>by have:=hcl e;omega)
  ·have:sz'=sz:=by
    have hm:=List.getElem_mem (List.length_pos_iff.2 p0)
    rw[←hsz' _ hm,hsz _ hm]
   subst this
   rw[if_neg (by omega)]
   simp only[Option.map_some,Addr.add0]
   have hgd:∀i,i<u-l→((xs.take u).drop l).getD i .any=xs.getD (l+i) .any:=fun i hi=>by
    simp only[List.getD_eq_getElem?_getD,List.getElem?_drop,List.getElem?_take]
    rw[if_pos (by omega)]
   suffices key:Rep c (.slice (some ⟨b,off+l*sz',none⟩) ((xs.take u).drop l).length (m-l)) (.slice clip' ((xs.take u).drop l)) by
    rw[hlen] at key;exact key
   refine .slice clip' b (off+l*sz') (m-l) sz' _ (fun i j=>if i<u-l then f (l+i) j else undef) (by intro e;rw[e] at hlen;simp at hlen;omega) p1 hM (by rw[hlen];omega) (fun e=>by rw[hlen];have:=hcl e;omega)
    (fun x hx=>hsz' x (List.mem_of_mem_take (List.mem_of_mem_drop hx))) (fun i j hi hj=>?_) fun i j=>?_
   ·rw[hlen] at hi
    rw[if_pos hi]
    have:=hc (l+i) j (by omega) hj
    rw[Nat.add_mul] at this
    rw[show off+l*sz'+i*sz'+j=off+(l*sz'+i*sz')+j by omega]
    exact this
   ·by_cases hi:i<u-l
    ·rw[if_pos hi,hgd i hi];exact hr (l+i) j
    ·rw[if_neg hi]
     have:((xs.take u).drop l).getD i .any=.any:=by
      simp only[List.getD_eq_getElem?_getD];rw[List.getElem?_eq_none (by rw[hlen];omega)];rfl
     rw[this]
     simp only[AV.cells]
     cases j<;>(simp;exact .any _)
theorem SpecO.sliceS{T:Tys P}{o:Oper}{ts:TS}{K:TS→Prop}{t e:TypeId}{x:Operand}{lo hi:Option Operand}(ho:o.op=.slice t x lo hi none)(ht:(T.ty t).k=.slice e)(he:(T.ty e).k≠.unk)
  {clip:Bool} {xs:List AV} (hx:ts.ev x=.slice clip xs) (hsz:∀x∈xs,x.cells.length=(T.ty e).sz) {l u:Int} (hl:ts.optI lo 0=some l) (hu:ts.optI hi xs.length=some u) (h0:0≤l) (h1:l≤u) (h2:u≤xs.length)
  (hk:Jd ts o.dst (.slice (clip && (u == xs.length)) ((xs.take u.toNat).drop l.toNat)) K):SpecO P o ts K :=
 SpecO.val hk fun E G a w hr=>by
  have hut:=Tys.slice ht
  have hv:=hr.ev x
  rw[hx] at hv
  obtain⟨ad0,cap0,hq0,hcap⟩:=Jdv (ts:=ts) (xs:=xs) rfl hv
  have hcapclip:clip=true→cap0=xs.length:=by
   intro ec
   rw[hq0] at hv
   generalize hqq:Value.slice ad0 xs.length cap0=q at hv
   cases hv with
   |slice0 _ a cap hc=>simp at hqq;rw[hqq.2];simpa using hc ec
   |slice _ b off cap sz' _ f p0 p1 hM hcap' hclip=>simp at hqq;rw[hqq.2];exact hclip ec
  obtain⟨ad,cap,hq,hrep⟩:=Rep.piece hv hsz (l:=l.toNat) (u:=u.toNat) (m:=cap0) (by omega) (by omega) (by omega) (clip && (u == xs.length)) (fun e=>by
   simp only[Bool.and_eq_true,beq_iff_eq] at e
   have:=hcapclip e.1
   omega)
  have:ad=ad0∧cap=cap0:=by rw[hq0] at hq;simp at hq;exact⟨hq.1.symm,hq.2.symm⟩
  obtain⟨rfl,rfl⟩:=this
  refine⟨_,?_,hrep⟩
  have hb:=Jdn (P:=P) true w hr xs.length cap hcap lo hi hl hu h0 h1 (by omega)
  simp only[execOp,ho,Instr.sliceAt,Sem.run_bind,run_underlying hut,Result.andThen_ok,hq,Instr.slice,Option.map_none,hb,Tys.run_sizeOf he,Sem.run_pure]
theorem SpecO.slice3{T:Tys P}{o:Oper}{ts:TS}{K:TS→Prop}{t e:TypeId}{x hi mx:Operand}{lo:Option Operand}(ho:o.op=.slice t x lo (some hi) (some mx))(ht:(T.ty t).k=.slice e)(he:(T.ty e).k≠.unk)
  {clip:Bool} {xs:List AV} (hx:ts.ev x=.slice clip xs) (hsz:∀x∈xs,x.cells.length=(T.ty e).sz) {l u m:Int} (hl:ts.optI lo 0=some l) (hu:ts.optI (some hi) xs.length=some u) (hm:ts.optI (some mx) 0=some m) (h0:0≤l) (h1:l≤u) (h2:u≤m) (h3:m≤xs.length)
  (hk:Jd ts o.dst (.slice (m == u) ((xs.take u.toNat).drop l.toNat)) K):SpecO P o ts K :=
 SpecO.val hk fun E G a w hr=>by
  have hut:=Tys.slice ht
  have hv:=hr.ev x
  rw[hx] at hv
  obtain⟨ad0,cap0,hq0,hcap⟩:=Jdv (ts:=ts) (xs:=xs) rfl hv
  obtain⟨ad,cap,hq,hrep⟩:=Rep.piece hv hsz (l:=l.toNat) (u:=u.toNat) (m:=m.toNat) (by omega) (by omega) (by omega) (m == u) (fun e=>by simp only[beq_iff_eq] at e;omega)
  have:ad=ad0∧cap=cap0:=by rw[hq0] at hq;simp at hq;exact⟨hq.1.symm,hq.2.symm⟩
  obtain⟨rfl,rfl⟩:=this
  refine⟨_,?_,hrep⟩
  have hb:=Jj0 (P:=P) w hr xs.length cap lo hi mx hl hu hm h0 h1 h2 (by omega)
  simp only[execOp,ho,Instr.sliceAt,Sem.run_bind,run_underlying hut,Result.andThen_ok,hq,Instr.slice,Option.map_some,hb,Tys.run_sizeOf he,Sem.run_pure]
theorem SpecO.sliceO{T:Tys P}{o:Oper}{ts:TS}{K:TS→Prop}{t e:TypeId}{x:Operand}{lo hi:Option Operand}(ho:o.op=.slice t x lo hi none)(ht:(T.ty t).k=.slice e)(he:(T.ty e).k≠.unk)
  {d g len:Nat} (hx:ts.ev x=.os d g len) (hlive:ts.live d g=true) (hl:ts.optI lo 0=some 0) {u:Int} (hu:ts.optI hi len=some u) (h1:0≤u) (h2:u≤len)
  (hk:Jd ts o.dst (.os d g u.toNat) K):SpecO P o ts K :=
 SpecO.val hk fun E G a w hr=>by
  have hut:=Tys.slice ht
  have hv:=hr.ev x
  rw[hx] at hv
  obtain⟨_,hg,hh⟩:=Yn hv
  simp only[TS.live,Bool.and_eq_true,beq_iff_eq] at hlive
  have hos:=hh hlive.1 (by intro e;have:=hlive.2;simp[show(ts.obj d).kind=none from e] at this)
  unfold JO at hos
  split at hos
  ·rename_i cap hκ
   have hb:=Jdn (P:=P) true w hr len cap hos.2 lo hi hl hu (Int.le_refl 0) h1 (by omega)
   refine⟨.slice (some ⟨(Jb E G ts w).β d,0,none⟩) u.toNat cap,?_,.os d g _ _ rfl hg fun _ _=>?_⟩
   ·simp only[execOp,ho,Instr.sliceAt,Sem.run_bind,run_underlying hut,Result.andThen_ok,hos.1,Instr.slice,Option.map_none,hb,Tys.run_sizeOf he,Sem.run_pure]
    simp[Addr.add0]
   ·unfold JO;rw[hκ];exact⟨rfl,by omega⟩
  ·rename_i hκ
   obtain⟨h0,ad,hq⟩:=hos
   subst h0
   have hb:=Jdn (P:=P) true w hr 0 0 (Nat.le_refl _) lo hi hl hu (Int.le_refl 0) h1 h2
   have hu0:u=0:=by simp at h2;omega
   subst hu0
   refine⟨.slice ad 0 0,?_,.os d g _ _ rfl hg fun _ _=>?_⟩
   ·simp only[execOp,ho,Instr.sliceAt,Sem.run_bind,run_underlying hut,Result.andThen_ok,hq,Instr.slice,Option.map_none,hb,Tys.run_sizeOf he,Sem.run_pure]
    simp
   ·unfold JO;rw[hκ];exact⟨rfl,ad,rfl⟩
theorem SpecO.sliceOt{T:Tys P}{o:Oper}{ts:TS}{K:TS→Prop}{t e:TypeId}{x:Operand}{lo hi mx:Option Operand}(ho:o.op=.slice t x lo hi mx)(ht:(T.ty t).k=.slice e)(he:(T.ty e).k≠.unk)
  {d g len:Nat} {xs:List AV} (hx:ts.ev x=.os d g len) (hg:g=ts.gen d) (hob:ts.obj d=.arr (T.ty e).sz xs) {l u:Int} (hl:ts.optI lo 0=some l) (hu:ts.optI hi len=some u) (h0:0≤l) (h1:l≤u) (h2:u≤xs.length)
  (hm:∀m,mx=some m→hi.isSome=true∧∃n,ts.optI (some m) 0=some n∧u≤n∧n≤xs.length)
  (hk:Jd ts o.dst (.ot d g l.toNat (u.toNat-l.toNat)) K):SpecO P o ts K :=
 SpecO.val hk fun E G a w hr=>by
  have hut:=Tys.slice ht
  have hv:=hr.ev x
  rw[hx] at hv
  obtain⟨_,hgl,hh⟩:=Yn hv
  have hos:=hh hg (by simp[Jb,hob,Ob.kind])
  have hobk:=hr.obj d
  rw[hob] at hobk
  obtain⟨_,_,hrest⟩:=hobk
  unfold JO at hos
  have main:∃ad cap,a.eval x=.slice ad len cap∧len≤cap∧xs.length≤cap∧(0<xs.length→ad=some ⟨G.β d,0,none⟩∧G.κ d=some cap):=by
   cases hκ:(Jb E G ts w).κ d with
   |none =>
    rw[hκ] at hos hrest
    obtain⟨hl0,ad,hq⟩:=hos
    subst hrest hl0
    exact⟨ad,0,hq,Nat.le_refl _,Nat.le_refl _,fun h=>by simp at h⟩
   |some cap =>
    rw[hκ] at hos hrest
    obtain⟨vs,tt,_,_,hfit,_⟩:=hrest
    exact⟨_,cap,hos.1,hos.2,hfit,fun _=>⟨rfl,hκ⟩⟩
  obtain⟨ad,cap,hq,hlc,hxc,hreal⟩:=main
  have hb:∃mm:Nat,u.toNat≤mm∧mm≤cap∧(Instr.sliceBounds true len cap (lo.map a.eval) (hi.map a.eval) (mx.map a.eval)).run P w=.ok (l.toNat,u.toNat,mm) w:=by
   cases hmx:mx with
   |none=>exact⟨cap,by omega,Nat.le_refl _,Jdn (P:=P) true w hr len cap hlc lo hi hl hu h0 h1 (by omega)⟩
   |some m =>
    obtain⟨his,n,hn,hun,hnx⟩:=hm m hmx
    obtain⟨hh',rfl⟩:=Option.isSome_iff_exists.1 his
    exact⟨n.toNat,by omega,by omega,Jj0 (P:=P) w hr len cap lo hh' m hl hu hn h0 h1 hun (by omega)⟩
  obtain⟨mm,hm1,hm2,hb⟩:=hb
  refine⟨.slice (if mm=l.toNat then ad else ad.map (·.add (l.toNat*(T.ty e).sz))) (u.toNat-l.toNat) (mm-l.toNat),?_,.ot d g _ _ _ rfl hgl fun sz _ hk'=>?_⟩
  ·simp only[execOp,ho,Instr.sliceAt,Sem.run_bind,run_underlying hut,Result.andThen_ok,hq,Instr.slice,hb,Tys.run_sizeOf he,Sem.run_pure]
  ·have hsz:sz=(T.ty e).sz:=by simp[Jb,hob,Ob.kind] at hk';exact hk'.symm
   subst hsz
   refine⟨_,_,rfl,by omega,fun hpos=>?_⟩
   obtain⟨had,hκ⟩:=hreal (by omega)
   subst had
   refine⟨by rw[if_neg (by omega)];simp[Jb,Addr.add0],cap,hκ,by omega⟩
def JR(k:TyK)(zs:List AV):AV:=if k.agg then .agg zs else zs.getD 0 .any
def VU(xs:List AV)(off len:Nat)(z:AV):List AV:=xs.take off++List.replicate len z++xs.drop (off+len)
theorem SpecO.clear{T:Tys P}{o:Oper}{ts:TS}{K:TS→Prop}{t e:TypeId}{x:Operand}(ho:o.op=.call { callee:=.builtin .clear,args:=#[x],argTypes:=#[t] })(ht:(T.ty t).k=.slice e)(he:(T.ty e).k≠.unk)(h0:0<(T.ty e).sz)
  {d g off len:Nat} {xs:List AV} (hx:ts.ev x=.ot d g off len) (hg:g=ts.gen d) (hob:ts.obj d=.arr (T.ty e).sz xs) (hfits:off+len≤xs.length) (hd:o.dst=none)
  (hz:(JR (T.ty e).k (T.ty e).zero).cells=(T.ty e).zero) (hz1:(T.ty e).zero.all AV.one=true)
  (hk:K (ts.setObj d (.arr (T.ty e).sz (VU xs off len (JR (T.ty e).k (T.ty e).zero))))):SpecO P o ts K:=by
 intro E G a w next Q hr hnext
 have hut:=Tys.slice ht
 obtain⟨ti,hi,hsz,hby,⟨z,hzv,hzm,hzs⟩,_⟩:=Tys.get (T:=T) he
 obtain⟨hzsz,hzr⟩:=Jdj (c:=Jb E G ts w) hzm
 have hzl:(T.ty e).zero.length=(T.ty e).sz:=by rw[←hzsz,hzs,hsz]
 have hv:=hr.ev x
 rw[hx] at hv
 obtain⟨_,hgl,hh⟩:=JeM hv
 obtain⟨ad,cap',hq,hcap',hp⟩:=hh (T.ty e).sz hg (by simp[Jb,hob,Ob.kind])
 have hex:∀w',(Builtin.clear_ #[t] o.type #[.slice ad len cap']).run P w=.ok (.tuple #[]) w'→(execOp a.eval o).run P w=.ok (.value (.tuple #[])) w':=fun w' h=>by
  simp[execOp,ho,resolve,invoke,builtin,hq,h]
 unfold Oper.wp
 rcases Nat.eq_zero_or_pos len with hl0|hpos
 ·subst hl0
  rw[hex w (by cases ad<;>simp[Builtin.clear_,run_underlying hut])]
  show next (a.put o.dst _) w
  rw[hd]
  refine hnext _ G _ _ hk ?_
  have e1:ts.setObj d (.arr (T.ty e).sz (VU xs off 0 (JR (T.ty e).k (T.ty e).zero)))=ts:=by
   have:VU xs off 0 (JR (T.ty e).k (T.ty e).zero)=xs:=by simp[VU]
   rw[this]
   simp only[TS.setObj]
   cases ts
   simp only at hob
   congr 1
   funext q
   by_cases hq:q=d
   ·subst hq;simp[hob]
   ·simp[Jp,hq]
  rw[e1]
  exact hr
 ·obtain⟨had,cap,hκ,hfc⟩:=hp hpos
  subst had
  have hobk:=hr.obj d
  rw[hob] at hobk
  obtain⟨_,hszs,hrest⟩:=hobk
  rw[hκ] at hrest
  obtain⟨vs,et,hheap,hsize,hfit,hcell⟩:=hrest
  have hκ':G.κ d=some cap:=hκ
  have hlive:Jj ts G d:=⟨by simp[hob,Ob.kind],by rw[hκ'];simp⟩
  have hzc:(Builtin.zeroCells z.cells len).toList.length=len*(T.ty e).sz:=by
   have:=size_zeroCells z.cells len
   simp only[Array.length_toList,this,hzs,hsz]
  have hspl:off*(T.ty e).sz+(Builtin.zeroCells z.cells len).toList.length≤vs.toList.length:=by
   rw[hzc,←Nat.add_mul,Array.length_toList,hsize]
   exact Nat.mul_le_mul_right _ hfc
  have hone:∀v∈(Builtin.zeroCells z.cells len).toList,v.oneCell'=true:=fun v hv=>by
   have hzz:∀v∈z.cells.toList,v.oneCell'=true:=fun v hv=>by
    refine(JgB (Jb E G ts w) v).one ?_
    have:Y8 v∈(T.ty e).zero:=by rw[←hzm];exact List.mem_map_of_mem hv
    exact List.all_eq_true.1 hz1 _ this
   unfold Builtin.zeroCells at hv
   simp only[Array.toList_map,List.mem_map] at hv
   obtain⟨p,_,rfl⟩:=hv
   have hpos':0<z.cells.size:=by rw[hzs,hsz];exact h0
   have hlt:=Nat.mod_lt p hpos'
   rw[getElem!_pos z.cells _ hlt]
   exact hzz _ (by simp)
  have hst:=run_storeCells_at P (G.β d) (off*(T.ty e).sz) et (Builtin.zeroCells z.cells len).toList 0 vs w hheap (by simpa using hspl) hone
  simp only[Nat.add_zero] at hst
  have hzval:∀w,(zeroValue e).run P w=.ok z w:=fun w=>by simp[zeroValue,typeInfo,hi,hzv]
  obtain⟨m,rfl⟩:∃m,len=m+1:=⟨len-1,by omega⟩
  rw[hex (w.setRow (G.β d) (vs.toList.take (off*(T.ty e).sz)++(Builtin.zeroCells z.cells (m+1)).toList++vs.toList.drop (off*(T.ty e).sz+(Builtin.zeroCells z.cells (m+1)).toList.length)).toArray) (by simp[Builtin.clear_,run_underlying hut,hzval,Jb,hst])]
  show next (a.put o.dst _) _
  rw[hd]
  have hcl:(JR (T.ty e).k (T.ty e).zero).cells.length=(T.ty e).sz:=by rw[hz,hzl]
  have hlen2:(VU xs off (m+1) (JR (T.ty e).k (T.ty e).zero)).length=xs.length:=by
   have:=ZT xs (List.replicate (m+1) (JR (T.ty e).k (T.ty e).zero)) off (by simpa using hfits)
   simpa[VU] using this
  refine hnext _ G _ _ hk (hr.setObj (w':=(w.setRow (G.β d) (vs.toList.take (off*(T.ty e).sz)++(Builtin.zeroCells z.cells (m+1)).toList++vs.toList.drop (off*(T.ty e).sz+(Builtin.zeroCells z.cells (m+1)).toList.length)).toArray)) d _ (by simp[hob,Ob.kind]) hlive rfl rfl rfl (by simp[World.setRow]) (fun i hi=>setRow_other w _ i _ hi) ?_)
  have hle:=Zn E G ts w (w.setRow (G.β d) (vs.toList.take (off*(T.ty e).sz)++(Builtin.zeroCells z.cells (m+1)).toList++vs.toList.drop (off*(T.ty e).sz+(Builtin.zeroCells z.cells (m+1)).toList.length)).toArray) d (.arr (T.ty e).sz (VU xs off (m+1) (JR (T.ty e).k (T.ty e).zero))) (by simp[hob,Ob.kind]) hlive (fun i hi=>setRow_other w _ i _ hi)
  refine⟨h0,fun q hq'=>?_,?_⟩
  ·unfold VU at hq'
   rcases List.mem_append.1 hq' with hq'|hq'
   ·rcases List.mem_append.1 hq' with hq'|hq'
    ·exact hszs q (List.mem_of_mem_take hq')
    ·rw[List.eq_of_mem_replicate hq'];exact hcl
   ·exact hszs q (List.mem_of_mem_drop hq')
  ·show match G.κ d with|none=>_|some cap=>_
   rw[hκ']
   refine⟨_,et,setRow_heap w _ vs _ et _ hheap,?_,by rw[hlen2];exact hfit,fun i j hi hj=>?_⟩
   ·simp only[List.size_toArray,ZT _ _ _ hspl];simpa using hsize
   ·rw[hlen2] at hi
    have eA:∀(l:List Value) (k:Nat),l.toArray.getD k undef=l.getD k undef:=fun l k=>by simp
    rw[eA,Jag _ _ _ _ _ hspl]
    have eC:(VU xs off (m+1) (JR (T.ty e).k (T.ty e).zero)).getD i .any=if off≤i∧i<off+(m+1) then JR (T.ty e).k (T.ty e).zero else xs.getD i .any:=by
     have:=Jag xs (List.replicate (m+1) (JR (T.ty e).k (T.ty e).zero)) off i .any (by simpa using hfits)
     simp only[List.length_replicate] at this
     unfold VU
     rw[this]
     split
     ·rename_i hc
      simp[show i-off<m+1 by omega]
     ·rfl
    rw[eC]
    have hm1:off*(T.ty e).sz≤i*(T.ty e).sz+j↔off≤i:=by
     constructor
     ·intro h
      by_cases hc:off≤i
      ·exact hc
      ·have:(i+1)*(T.ty e).sz≤off*(T.ty e).sz:=Nat.mul_le_mul_right _ (by omega)
       rw[Nat.add_mul,Nat.one_mul] at this
       omega
     ·intro h
      have:=Nat.mul_le_mul_right (T.ty e).sz h
      omega
    have hm2:i*(T.ty e).sz+j<off*(T.ty e).sz+(Builtin.zeroCells z.cells (m+1)).toList.length↔i<off+(m+1):=by
     rw[hzc,←Nat.add_mul]
     constructor
     ·intro h
      by_cases hc:i<off+(m+1)
      ·exact hc
      ·have:=Nat.mul_le_mul_right (T.ty e).sz (show off+(m+1)≤i by omega)
       omega
     ·intro h;exact Zv h (Nat.le_refl _) hj
    by_cases hin:off≤i∧i<off+(m+1)
    ·rw[if_pos ⟨hm1.2 hin.1,hm2.2 hin.2⟩,if_pos hin]
     have e2:i*(T.ty e).sz+j-off*(T.ty e).sz=(i-off)*(T.ty e).sz+j:=by
      have:=Nat.mul_le_mul_right (T.ty e).sz hin.1
      rw[Nat.sub_mul];omega
     have e3:(Builtin.zeroCells z.cells (m+1)).toList.getD ((i-off)*(T.ty e).sz+j) undef=z.cells.getD j undef:=by
      have hlt:(i-off)*(T.ty e).sz+j<(m+1)*z.cells.size:=by rw[hzs,hsz];exact Zv (by omega) (Nat.le_refl _) hj
      have hjz:j<z.cells.size:=by rw[hzs,hsz];exact hj
      have hmod:((i-off)*(T.ty e).sz+j) % z.cells.size=j:=by
       rw[hzs,hsz,Nat.mul_add_mod_self_right];exact Nat.mod_eq_of_lt hj
      simp[Builtin.zeroCells,hlt,hmod,hjz]
     rw[e2,e3,hz]
     exact(hzr j).mono hle
    ·rw[if_neg (fun h=>hin ⟨hm1.1 h.1,hm2.1 h.2⟩),if_neg hin]
     have:=(hcell i j hi hj).mono hle
     simpa using this
theorem SpecO.sliceStr{T:Tys P}{o:Oper}{ts:TS}{K:TS→Prop}{t:TypeId}{x:Operand}{lo hi:Option Operand}(ho:o.op=.slice t x lo hi none)(ht:(T.ty t).k=.str)
  {s:List UInt8} (hx:ts.ev x=.str s) {l u:Int} (hl:ts.optI lo 0=some l) (hu:ts.optI hi s.length=some u) (h0:0≤l) (h1:l≤u) (h2:u≤s.length)
  (hk:Jd ts o.dst (.str ((s.take u.toNat).drop l.toNat)) K):SpecO P o ts K :=
 SpecO.val hk fun E G a w hr=>by
  have hut:=Tys.strT ht
  have hv:=hr.ev x
  rw[hx] at hv
  obtain⟨b,hq,rfl⟩:=Yo hv
  have hlen:b.data.toList.length=b.size:=by cases b;rfl
  rw[hlen] at hu h2
  have hb:=Jdn (P:=P) false w hr b.size b.size (Nat.le_refl _) lo hi hl hu h0 h1 h2
  refine⟨.string (b.extract l.toNat u.toNat),?_,.str _ _ ?_⟩
  ·simp only[execOp,ho,Instr.sliceAt,Sem.run_bind,run_underlying hut,Result.andThen_ok,hq,Instr.slice,Option.map_none]
   simp only[Option.isSome_none,Bool.false_eq_true,if_false]
   rw[show(do
    let __discr ←Instr.sliceBounds false b.size b.size (Option.map a.eval lo) (Option.map a.eval hi) none
    match __discr with
    | (l,h,_)=>pure (Value.string (b.extract l h)):Sem Value)=(Instr.sliceBounds false b.size b.size (Option.map a.eval lo) (Option.map a.eval hi) none >>= fun r=>pure (Value.string (b.extract r.1 r.2.1))) from rfl]
   rw[Sem.run_bind,hb]
   rfl
  ·simp[ByteArray.data_extract,Array.toList_extract,List.extract_eq_take_drop,List.drop_take]
theorem SpecO.indexStr{T:Tys P}{o:Oper}{ts:TS}{K:TS→Prop}{t:TypeId}{x i:Operand}(ho:o.op=.index t x i)(ht:(T.ty t).k=.str)
  {s:List UInt8} (hx:ts.ev x=.str s) {k:IntKind} {n:Int} (hi:ts.ev i=.int k n) (h0:0≤n) (h1:n<s.length)
  (hk:Jd ts o.dst (.int .u8 (s.getD n.toNat 0).toNat) K):SpecO P o ts K :=
 SpecO.val hk fun E G a w hr=>by
  have hut:=Tys.strT ht
  have hv:=hr.ev x
  rw[hx] at hv
  obtain⟨b,hq,rfl⟩:=Yo hv
  have hvi:=hr.ev i
  rw[hi] at hvi
  have hlen:b.data.toList.length=b.size:=by cases b;rfl
  rw[hlen] at h1
  have hlt:n.toNat<b.size:=by omega
  refine⟨.int .u8 (b[n.toNat]).toNat,?_,?_⟩
  ·simp[execOp,ho,Instr.index,hq,Vh hvi,asIntOf,run_underlying hut,h0,hlt]
  ·have:b.data.toList.getD n.toNat 0=b[n.toNat]:=by
    have h2:n.toNat<b.data.toList.length:=by omega
    simp only[List.getD_eq_getElem?_getD,List.getElem?_eq_getElem h2,Option.getD_some]
    rfl
   rw[this];exact .int _ _
def J4(d g:Nat)(cs:List AV):AV→AV
 | .ref d' g' off=>if d'=d∧g'=g∧off<cs.length then .ro (cs.drop off) else .ref d' g' off
 |x=>x
def TS.frzBox(ts:TS)(d:Nat):TS :=
 match ts.obj d with
 | .box cs=>{ ts with tmp:=fun t=>J4 d (ts.gen d) cs (ts.tmp t),obj:=Jp ts.obj d .dead }
 |_=>ts
theorem Rel.frzBox{E:Env}{ts:TS}{G:Ghost}{a:Act}{w:World}(h:Rel E ts G a w)(d:Nat):Rel E (ts.frzBox d) G a w:=by
 unfold TS.frzBox
 split
 ·rename_i cs ho
  have hk:=h.kill d
  have hle:=JaC E G ts w d
  refine⟨hk.size,hk.defers,fun t=>?_,hk.obj,hk.sep,hk.own,hk.inF,hk.bel,hk.pin⟩
  show Rep (Jb E G (ts.kill d) w) _ (J4 d (ts.gen d) cs (ts.tmp t))
  have ht:=h.tmp t
  have ht':=hk.tmp t
  show Rep _ _ (J4 d (ts.gen d) cs (ts.tmp t))
  generalize hx:ts.tmp t=x at ht
  have hx':(ts.kill d).tmp t=x:=hx
  rw[hx'] at ht'
  cases x with
  |ref d' g' off =>
   simp only[J4]
   split
   ·rename_i hc
    obtain⟨rfl,rfl,hoff⟩:=hc
    obtain⟨_,_,hh⟩:=Jdi ht
    have hv:=hh rfl (by simp[Jb,ho,Ob.kind])
    have hob:=h.obj d'
    rw[ho] at hob
    obtain⟨hκ,vs,T,hheap,hsize,hcell⟩:=hob
    have hlive:Jj ts G d':=⟨by simp[ho,Ob.kind],hκ⟩
    rw[hv]
    refine .ro _ off _ (fun j=>vs.getD (off+j) undef) (by intro e;have:=congrArg List.length e;simp at this;omega) ?_ (fun j hj=>?_) fun j=>?_
    ·rintro(hF|⟨e,he,hb⟩)
     ·exact(h.own d' hlive).2.1 hF
     ·obtain⟨hne,hl⟩:=VE he
      exact hne (h.sep e d' hl hlive hb)
    ·simp only[List.length_drop] at hj
     exact Z2 hheap (by omega)
    ·have:=(hcell (off+j)).mono hle
     simpa[List.getElem?_drop] using this
   ·exact ht'
  |_=>exact ht'
 ·exact h
theorem SpecO.frz{o:Oper}{ts:TS}{K:TS→Prop}(d:Nat)(h:SpecO P o (ts.frzBox d) K):SpecO P o ts K :=
 fun E G a w next Q hr hn=>h E G a w next Q (hr.frzBox d) hn
theorem SpecO.makeFunc{o:Oper}{ts:TS}{K:TS→Prop}{fn:Fn}{first caps:Array Operand}(ho:o.op=.makeFunc fn first caps)(hk:Jd ts o.dst (.clo fn (first.toList.map ts.ev) (caps.toList.map ts.ev)) K):SpecO P o ts K :=
 SpecO.val hk fun E G a w hr=>by
  have hl:∀(l:Array Operand) (i:Nat),Rep (Jb E G ts w) ((l.map a.eval).getD i undef) ((l.toList.map ts.ev).getD i .any):=fun l i=>by
   simp only[Array.getD_eq_getD_getElem?,Array.getElem?_map,List.getD_eq_getElem?_getD,List.getElem?_map,Array.getElem?_toList]
   cases l[i]? with
   |none=>exact .any _
   |some x=>exact hr.ev x
  exact⟨.func fn (first.map a.eval) (caps.map a.eval),by simp[execOp,ho,Instr.makeFunc],.clo _ _ _ _ _ (by simp) (by simp) (hl first) (hl caps)⟩
def JU(k:TyK)(x y:AV):Option Bool :=
 match k,x,y with
 | .int _,.int k a,.int k' b=>if k=k' then some (decide (a=b)) else none
 | .bool,.bool a,.bool b=>some (decide (a=b))
 | .str,.str a,.str b=>some (decide (a=b))
 |_,_,_=>none
def Yj(T:Tys P)(xs ys:List AV):List (Nat×Nat×String)→Option Bool
 | []=>some true
 | f :: r => if f.2.2 = "_" then none else
  match JU (T.ty f.2.1).k (xs.getD f.1 .any) (ys.getD f.1 .any),Yj T xs ys r with
  |some b,some c=>some (b && c)
  |_,_=>none
def ZG(k:TyK)(xs ys:List AV):List Nat→Option Bool
 | []=>some true
 |i :: r=>match JU k (xs.getD i .any) (ys.getD i .any),ZG k xs ys r with
  |some b,some c=>some (b && c)
  |_,_=>none
def V6(T:Tys P)(k:TyK)(sz off:Nat)(xs ys:List AV):Option Bool :=
 match k with
 | .array n e=>if(T.ty e).sz=1∧(T.ty e).k≠.unk∧n≤sz then ZG (T.ty e).k (xs.drop off) (ys.drop off) (List.range n) else none
 |k=>JU k (xs.getD off .any) (ys.getD off .any)
def Z3(T:Tys P)(t:Nat)(k:TyK)(sz off:Nat)(xs ys:List AV):Option Bool :=
 match k with
 | .struct fs=>if P.stoodInHeld t=true then none else Yj T ((xs.drop off).take sz) ((ys.drop off).take sz) fs
 |k=>V6 T k sz off xs ys
def Zj(T:Tys P)(xs ys:List AV):List (Nat×Nat×String)→Option Bool
 | []=>some true
 | f :: r => if f.2.2 = "_" then none else
  match Z3 T f.2.1 (T.ty f.2.1).k (T.ty f.2.1).sz f.1 xs ys,Zj T xs ys r with
  |some b,some c=>some (b && c)
  |_,_=>none
def eqA(T:Tys P)(n e:Nat)(op:BinOp)(x y:AV):Option Bool :=
 match op,x,y with
 | .eql,.agg xs,.agg ys=>V6 T (.array n e) n 0 xs ys
 | .neq,.agg xs,.agg ys=>(V6 T (.array n e) n 0 xs ys).map (!·)
 |_,_,_=>none
def eqS(T:Tys P)(fs:List (Nat×Nat×String))(op:BinOp)(x y:AV):Option Bool :=
 match op,x,y with
 | .eql,.agg xs,.agg ys=>Zj T xs ys fs
 | .neq,.agg xs,.agg ys=>(Zj T xs ys fs).map (!·)
 |_,_,_=>none
theorem Jbz{T:Tys P}{t off:Nat}{vs:Array Value}{v:Value}(ht:(T.ty t).k≠.unk)(ha:(T.ty t).k.agg=false)(hv:vs.getD off undef=v)(hd:v≠undef)(w:World):(part t vs off).run P w=.ok v w:=by
 have h1:vs[off]?=some v:=by
  rw[Array.getD_eq_getD_getElem?] at hv
  cases h:vs[off]? with
  |some u=>rw[h] at hv;simpa using hv
  |none=>rw[h] at hv;exact absurd hv.symm hd
 simp only[part,Sem.run_bind,Tys.run_isAgg ht,Result.andThen_ok,ha,Bool.false_eq_true,if_false,h1,Sem.run_pure]
theorem Jm9{s s':ByteArray}{l l':List UInt8}(h:s.data.toList=l)(h':s'.data.toList=l'):(s.toList == s'.toList)=decide (l=l'):=by
 rw[ByteArray.toList_eq,ByteArray.toList_eq]
 subst h h'
 exact Bool.eq_iff_iff.2 (by simp)
theorem Jby{T:Tys P}{c:Ctx}{t:Nat}{v u:Value}{x y:AV}{b:Bool}(hx:Rep c v x)(hy:Rep c u y)(h:JU (T.ty t).k x y=some b)(w:World)(d:Nat) :
  (Op.equalIn (d+1) t v u).run P w=.ok b w∧(T.ty t).k≠.unk∧(T.ty t).k.agg=false∧v≠undef∧u≠undef:=by
 unfold JU at h
 split at h
 ·rename_i k k1 a k2 b' hk
  split at h
  rotate_left
  ·cases h
  rename_i hkk
  subst hkk
  cases h
  obtain⟨ti,_,_,_,_,de,h1,h2⟩:=Tys.get (T:=T) (t:=t) (by rw[hk];simp)
  rw[hk] at h2
  have hd:∃k',de=.int k':=by cases de<;>simp[VD] at h2<;>exact⟨_,rfl⟩
  obtain⟨k',rfl⟩:=hd
  rw[Vh hx,Vh hy]
  exact⟨by rw[run_equalIn_int w d t k1 k' a b' h1];rfl,by rw[hk];simp,by rw[hk];rfl,by simp[undef],by simp[undef]⟩
 ·rename_i a b' hk
  cases h
  rw[Yx hx,Yx hy]
  exact⟨by rw[run_equalIn_bool' w d t a b' (Tys.boolT hk)];rfl,by rw[hk];simp,by rw[hk];rfl,by simp[undef],by simp[undef]⟩
 ·rename_i a b' hk
  cases h
  obtain⟨s,rfl,hs⟩:=Yo hx
  obtain⟨s',rfl,hs'⟩:=Yo hy
  exact⟨by rw[run_equalIn_string w d t s s' (Tys.strT hk),Jm9 hs hs'],by rw[hk];simp,by rw[hk];rfl,by simp[undef],by simp[undef]⟩
 ·cases h
theorem JgJ{T:Tys P}{c:Ctx}{vs us:Array Value}{xs ys:List AV}(hx:∀i,Rep c (vs.getD i undef) (xs.getD i .any))(hy:∀i,Rep c (us.getD i undef) (ys.getD i .any))(w:World)(d:Nat) :
  ∀(l:List Field) (b:Bool),Yj T xs ys (l.map fun f=>(f.offset,f.type,f.name))=some b→(Op.eqFields (d+1) vs us l).run P w=.ok b w
 | [],b,h=>by simp[Yj] at h;subst h;rfl
 |f :: r,b,h=>by
  simp only[List.map_cons,Yj] at h
  split at h
  ·cases h
  ·rename_i hne
   split at h
   ·rename_i b1 c1 h1 h2
    cases h
    obtain⟨e1,e2,e3,e4,e5⟩:=Jby (hx f.offset) (hy f.offset) h1 w d
    have ih:=JgJ hx hy w d r c1 h2
    simp only[Op.eqFields,hne,ne_eq,not_false_eq_true,if_true,Sem.run_bind,Jbz e2 e3 rfl e4,Jbz e2 e3 rfl e5,Result.andThen_ok,e1]
    cases b1
    ·simp
    ·simpa using ih
   ·cases h
theorem Jj3{T:Tys P}{c:Ctx}{e:Nat}{vs us:Array Value}{xs ys:List AV}(w:World)(d:Nat) :
  ∀(is:List Nat) (b:Bool),(∀i∈is,Rep c (vs.getD i undef) (xs.getD i .any)∧Rep c (us.getD i undef) (ys.getD i .any))→ZG (T.ty e).k xs ys is=some b→(Op.eqItems (d+1) e 1 vs us is).run P w=.ok b w
 | [],b,_,h=>by simp[ZG] at h;subst h;rfl
 |i :: r,b,hr,h=>by
  simp only[ZG] at h
  split at h
  ·rename_i b1 c1 h1 h2
   cases h
   obtain⟨e1,e2,e3,e4,e5⟩:=Jby (hr i (by simp)).1 (hr i (by simp)).2 h1 w d
   have ih:=Jj3 w d r c1 (fun j hj=>hr j (by simp[hj])) h2
   simp only[Op.eqItems,Sem.run_bind,Nat.mul_one,Jbz e2 e3 rfl e4,Jbz e2 e3 rfl e5,Result.andThen_ok,e1]
   cases b1
   ·simp
   ·simpa using ih
  ·cases h
theorem Jj2{T:Tys P}{c:Ctx}{t n e:Nat}(ht:(T.ty t).k=.array n e)(he:(T.ty e).k≠.unk)(hsz:(T.ty e).sz=1){vs us:Array Value}{xs ys:List AV}
  (hx:∀i,i<n→Rep c (vs.getD i undef) (xs.getD i .any)) (hy:∀i,i<n→Rep c (us.getD i undef) (ys.getD i .any)) {b:Bool} (h:ZG (T.ty e).k xs ys (List.range n)=some b) (w:World) (d:Nat) :
  (Op.equalIn (d+2) t (.agg vs) (.agg us)).run P w=.ok b w:=by
 obtain⟨ti,hti,_⟩:=Tys.get he
 have hc:P.cellsOf e=1:=by
  have h1:=Tys.run_sizeOf he w
  have h2:=Go.run_sizeOf (P:=P) w hti
  rw[h1] at h2
  simp only[Result.ok.injEq] at h2
  omega
 rw[Go.run_equalIn_array (P:=P) (w:=w) (d+1) vs us (Tys.arrayT ht) hti,hc]
 exact Jj3 w d _ b (fun i hi=>⟨hx i (List.mem_range.1 hi),hy i (List.mem_range.1 hi)⟩) h
theorem JeU{T:Tys P}{t:Nat}(ht:(T.ty t).k≠.unk)(ha:(T.ty t).k.agg=true)(vs:Array Value)(off:Nat)(w:World):(part t vs off).run P w=.ok (.agg (vs.extract off (off+(T.ty t).sz))) w:=by
 simp only[part,Sem.run_bind,Tys.run_isAgg ht,ha,if_true,Tys.run_sizeOf ht,Result.andThen_ok,Sem.run_pure]
theorem Jqq{T:Tys P}{c:Ctx}{t off:Nat}{vs us:Array Value}{xs ys:List AV}(hx:∀i,Rep c (vs.getD i undef) (xs.getD i .any))(hy:∀i,Rep c (us.getD i undef) (ys.getD i .any)){b:Bool}(h:V6 T (T.ty t).k (T.ty t).sz off xs ys=some b)(w:World)(d:Nat) :
  ∃v u,(part t vs off).run P w=.ok v w∧(part t us off).run P w=.ok u w∧(Op.equalIn (d+2) t v u).run P w=.ok b w:=by
 unfold V6 at h
 split at h
 ·rename_i n e hk
  split at h
  ·rename_i hc
   obtain⟨hsz,he,hle⟩:=hc
   have hun:(T.ty t).k≠.unk:=by rw[hk];simp
   have hag:(T.ty t).k.agg=true:=by rw[hk];rfl
   refine⟨_,_,JeU hun hag vs off w,JeU hun hag us off w,?_⟩
   have key:∀(ws:Array Value) (zs:List AV),(∀i,Rep c (ws.getD i undef) (zs.getD i .any))→∀i,i<n→Rep c ((ws.extract off (off+(T.ty t).sz)).getD i undef) ((zs.drop off).getD i .any):=fun ws zs hz i hi=>by
    have e1:(ws.extract off (off+(T.ty t).sz)).getD i undef=ws.getD (off+i) undef:=by
     by_cases hlt:off+i<ws.size
     ·simp[Array.getElem?_extract,show i<min (off+(T.ty t).sz) ws.size-off by omega,Array.getElem?_eq_getElem hlt]
     ·simp[Array.getElem?_extract,show ¬i<min (off+(T.ty t).sz) ws.size-off by omega,Array.getElem?_eq_none (show ws.size≤off+i by omega)]
    have e2:(zs.drop off).getD i .any=zs.getD (off+i) .any:=by simp
    rw[e1,e2];exact hz _
   exact Jj2 hk he hsz (key vs xs hx) (key us ys hy) h w d
  ·cases h
 ·obtain⟨e1,e2,e3,e4,e5⟩:=Jby (hx off) (hy off) h w (d+1)
  exact⟨_,_,Jbz e2 e3 rfl e4 w,Jbz e2 e3 rfl e5 w,e1⟩
theorem Jqr{T:Tys P}{c:Ctx}{t off:Nat}{vs us:Array Value}{xs ys:List AV}(hx:∀i,Rep c (vs.getD i undef) (xs.getD i .any))(hy:∀i,Rep c (us.getD i undef) (ys.getD i .any)){b:Bool}(h:Z3 T t (T.ty t).k (T.ty t).sz off xs ys=some b)(w:World)(d:Nat) :
  ∃v u,(part t vs off).run P w=.ok v w∧(part t us off).run P w=.ok u w∧(Op.equalIn (d+2) t v u).run P w=.ok b w:=by
 unfold Z3 at h
 split at h
 ·rename_i fs hk
  split at h
  ·cases h
  ·rename_i hst
   have hst:P.stoodInHeld t=false:=by simpa using hst
   have hun:(T.ty t).k≠.unk:=by rw[hk];simp
   have hag:(T.ty t).k.agg=true:=by rw[hk];rfl
   obtain⟨fd,hu,hfd⟩:=Tys.structT hk
   have hfo:P.underlying t=some (.struct (P.fieldsOf t)):=by rw[hu];simp[Program.fieldsOf,hu]
   have hfo2:P.fieldsOf t=fd:=by simp[Program.fieldsOf,hu]
   have key:∀(ws:Array Value) (zs:List AV),(∀i,Rep c (ws.getD i undef) (zs.getD i .any))→∀i,Rep c ((ws.extract off (off+(T.ty t).sz)).getD i undef) (((zs.drop off).take (T.ty t).sz).getD i .any):=fun ws zs hz i=>by
    by_cases hi:i<(T.ty t).sz
    ·have e1:(ws.extract off (off+(T.ty t).sz)).getD i undef=ws.getD (off+i) undef:=by
      by_cases hlt:off+i<ws.size
      ·simp[Array.getElem?_extract,show i<min (off+(T.ty t).sz) ws.size-off by omega,Array.getElem?_eq_getElem hlt]
      ·simp[Array.getElem?_extract,show ¬i<min (off+(T.ty t).sz) ws.size-off by omega,Array.getElem?_eq_none (show ws.size≤off+i by omega)]
     have e2:((zs.drop off).take (T.ty t).sz).getD i .any=zs.getD (off+i) .any:=by
      rw[List.getD_eq_getElem?_getD,List.getElem?_take,if_pos hi,List.getElem?_drop,List.getD_eq_getElem?_getD]
     rw[e1,e2];exact hz _
    ·have e2:((zs.drop off).take (T.ty t).sz).getD i .any=.any:=by
      rw[List.getD_eq_getElem?_getD,List.getElem?_take,if_neg hi];rfl
     rw[e2];exact .any _
   have:=JgJ (P:=P) (T:=T) (key vs xs hx) (key us ys hy) w d fd.toList b (by rw[hfd];exact h)
   refine⟨_,_,JeU hun hag vs off w,JeU hun hag us off w,?_⟩
   rw[run_equalIn_agg w (d+1) t _ _ hfo hst,hfo2]
   exact this
 ·exact Jqq hx hy h w d
theorem JgK{T:Tys P}{c:Ctx}{vs us:Array Value}{xs ys:List AV}(hx:∀i,Rep c (vs.getD i undef) (xs.getD i .any))(hy:∀i,Rep c (us.getD i undef) (ys.getD i .any))(w:World)(d:Nat) :
  ∀(l:List Field) (b:Bool),Zj T xs ys (l.map fun f=>(f.offset,f.type,f.name))=some b→(Op.eqFields (d+2) vs us l).run P w=.ok b w
 | [],b,h=>by simp[Zj] at h;subst h;rfl
 |f :: r,b,h=>by
  simp only[List.map_cons,Zj] at h
  split at h
  ·cases h
  ·rename_i hne
   split at h
   ·rename_i b1 c1 h1 h2
    cases h
    obtain⟨v,u,e1,e2,e3⟩:=Jqr hx hy h1 w d
    have ih:=JgK hx hy w d r c1 h2
    simp only[Op.eqFields,hne,ne_eq,not_false_eq_true,if_true,Sem.run_bind,e1,e2,Result.andThen_ok,e3]
    cases b1
    ·simp
    ·simpa using ih
   ·cases h
theorem SpecO.eqS{T:Tys P}{o:Oper}{ts:TS}{K:TS→Prop}{op:BinOp}{t u:TypeId}{x y:Operand}(ho:o.op=.binOp op t x y u){fs:List (Nat×Nat×String)}(hk:(T.ty t).k=.struct fs)
  (hg:P.eqGuardType P.depth t=false) (hs:P.stoodInHeld t=false) {r:Bool} (hb:Lg.eqS T fs op (ts.ev x) (ts.ev y)=some r) (hK:Jd ts o.dst (.bool r) K):SpecO P o ts K :=
 SpecO.val hK fun E G a w hr=>by
  have hx:=hr.ev x
  have hy:=hr.ev y
  obtain⟨fd,hu,hfd⟩:=Tys.structT hk
  have hfo:P.underlying t=some (.struct (P.fieldsOf t)):=by rw[hu];simp[Program.fieldsOf,hu]
  have hfo2:P.fieldsOf t=fd:=by simp[Program.fieldsOf,hu]
  unfold Lg.eqS at hb
  refine⟨.bool r,?_,.bool r⟩
  split at hb
  ·rename_i xs ys e1 e2
   rw[e1] at hx;rw[e2] at hy
   obtain⟨vs,hv,_,hv3⟩:=Ym hx
   obtain⟨us,hu1,_,hu3⟩:=Ym hy
   have:=JgK (P:=P) (T:=T) hv3 hu3 w 9997 fd.toList r (by rw[hfd];exact hb)
   simp only[execOp,ho,hv,hu1]
   simp only[Sem.run_bind,run_eqGuard_agg _ _ _ _ _ _ _ hg,Result.andThen_ok,run_eql_struct,show(10000:Nat)=9999+1 from rfl,run_equalIn_agg w 9999 t vs us hfo hs,hfo2,this]
   rfl
  ·rename_i xs ys e1 e2
   rw[e1] at hx;rw[e2] at hy
   obtain⟨vs,hv,_,hv3⟩:=Ym hx
   obtain⟨us,hu1,_,hu3⟩:=Ym hy
   obtain⟨r',hb1,rfl⟩:=Option.map_eq_some_iff.1 hb
   have:=JgK (P:=P) (T:=T) hv3 hu3 w 9997 fd.toList r' (by rw[hfd];exact hb1)
   simp only[execOp,ho,hv,hu1]
   simp only[Sem.run_bind,run_eqGuard_agg _ _ _ _ _ _ _ hg,Result.andThen_ok,run_neq_struct,show(10000:Nat)=9999+1 from rfl,run_equalIn_agg w 9999 t vs us hfo hs,hfo2,this]
   rfl
  ·cases hb
theorem SpecO.eqA{T:Tys P}{o:Oper}{ts:TS}{K:TS→Prop}{op:BinOp}{t u:TypeId}{x y:Operand}(ho:o.op=.binOp op t x y u){n e:Nat}(hk:(T.ty t).k=.array n e)
  (hg:P.eqGuardType P.depth t=false) {r:Bool} (hb:Lg.eqA T n e op (ts.ev x) (ts.ev y)=some r) (hK:Jd ts o.dst (.bool r) K):SpecO P o ts K :=
 SpecO.val hK fun E G a w hr=>by
  have hx:=hr.ev x
  have hy:=hr.ev y
  have key:∀ {vs us:Array Value} {xs ys:List AV} {r:Bool},(∀i,Rep (Jb E G ts w) (vs.getD i undef) (xs.getD i .any))→(∀i,Rep (Jb E G ts w) (us.getD i undef) (ys.getD i .any))→V6 T (.array n e) n 0 xs ys=some r →
    (Op.equalIn 10000 t (.agg vs) (.agg us)).run P w=.ok r w:=fun h1 h2 h=>by
   unfold V6 at h
   simp only at h
   split at h
   ·rename_i hc
    exact Jj2 hk hc.2.1 hc.1 (fun i _=>h1 i) (fun i _=>h2 i) h w 9998
   ·cases h
  unfold Lg.eqA at hb
  refine⟨.bool r,?_,.bool r⟩
  split at hb
  ·rename_i xs ys e1 e2
   rw[e1] at hx;rw[e2] at hy
   obtain⟨vs,hv,_,hv3⟩:=Ym hx
   obtain⟨us,hu1,_,hu3⟩:=Ym hy
   simp only[execOp,ho,hv,hu1]
   simp only[Sem.run_bind,run_eqGuard_agg _ _ _ _ _ _ _ hg,Result.andThen_ok,run_eql_struct,key hv3 hu3 hb]
   rfl
  ·rename_i xs ys e1 e2
   rw[e1] at hx;rw[e2] at hy
   obtain⟨vs,hv,_,hv3⟩:=Ym hx
   obtain⟨us,hu1,_,hu3⟩:=Ym hy
   obtain⟨r',hb1,rfl⟩:=Option.map_eq_some_iff.1 hb
   simp only[execOp,ho,hv,hu1]
   simp only[Sem.run_bind,run_eqGuard_agg _ _ _ _ _ _ _ hg,Result.andThen_ok,run_neq_struct,key hv3 hu3 hb1]
   rfl
  ·cases hb
theorem JfB(p q:Bool):(p == q)=decide (p=q):=rfl
def eqB(op:BinOp)(x y:AV):Option Bool :=
 match op,x,y with
 | .eql,.bool a,.bool b=>some (decide (a=b))
 | .neq,.bool a,.bool b=>some (decide (a≠b))
 |_,_,_=>none
theorem SpecO.eqB{T:Tys P}{o:Oper}{ts:TS}{K:TS→Prop}{op:BinOp}{t u:TypeId}{x y:Operand}(ho:o.op=.binOp op t x y u)(hk:(T.ty t).k=.bool)
  {r:Bool} (hb:Lg.eqB op (ts.ev x) (ts.ev y)=some r) (hK:Jd ts o.dst (.bool r) K):SpecO P o ts K :=
 SpecO.val hK fun E G a w hr=>by
  have hx:=hr.ev x
  have hy:=hr.ev y
  unfold Lg.eqB at hb
  refine⟨.bool r,?_,.bool r⟩
  have key:∀p q:Bool,(Op.equalIn 10000 t (.bool p) (.bool q)).run P w=.ok (p == q) w:=fun p q=>run_equalIn_bool' w 9999 t p q (Tys.boolT hk)
  split at hb
  ·rename_i p q e1 e2
   rw[e1] at hx;rw[e2] at hy
   cases hb
   simp only[execOp,ho,Yx hx,Yx hy]
   simp[eqGuard,binOp,Op.equal,Op.maxDepth,key,JfB]
  ·rename_i p q e1 e2
   rw[e1] at hx;rw[e2] at hy
   cases hb
   simp only[execOp,ho,Yx hx,Yx hy]
   simp[eqGuard,binOp,Op.equal,Op.maxDepth,key,JfB]
  ·cases hb
theorem SpecO.sliceArr{T:Tys P}{o:Oper}{ts:TS}{K:TS→Prop}{t e n:Nat}{x:Operand}(ho:o.op=.slice t x none none none)(ht:(T.ty t).k=.array n e)(he:(T.ty e).k≠.unk)(hsz:(T.ty e).sz=1)
  {cs:List AV} (hx:ts.ev x=.ro cs) (hn:0<n) (hl:n≤cs.length) (h1:∀y∈cs.take n,y.cells=[y]) (hk:Jd ts o.dst (.slice true (cs.take n)) K):SpecO P o ts K :=
 SpecO.val hk fun E G a w hr=>by
  have hv:=hr.ev x
  rw[hx] at hv
  have hu:=Tys.arrayT ht
  have hA:P.arrayLen t=n:=by simp[Program.arrayLen,hu]
  have hE:P.elem t=e:=by simp[Program.elem,hu]
  have hu':P.underlying t=some (.array (P.arrayLen t) (P.elem t)):=by rw[hA,hE];exact hu
  have hlen:(cs.take n).length=n:=by simp;omega
  generalize hv0:a.eval x=v at hv
  cases hv with
  |ro b off _ f h0 hM hc hr' =>
   refine⟨.slice (some ⟨b,off,none⟩) n n,?_,?_⟩
   ·simp only[execOp,ho,hv0,Option.map_none,Sem.run_bind,run_sliceAt_array_all w t _ hu',hA,hE,Tys.run_sizeOf he,Result.andThen_ok,slicedAt]
    simp[Addr.add0,show ¬n=0 by omega]
   ·have:=Rep.slice (c:=Jb E G ts w) true b off n 1 (cs.take n) (fun i j=>if i<n∧j=0 then f i else undef) (by intro h;rw[h] at hlen;simp at hlen;omega) (by omega) hM (by omega) (fun _=>hlen.symm)
     (fun y hy=>by rw[h1 y hy];rfl) (fun i j hi hj=>by
      have hj0:j=0:=by omega
      subst hj0
      rw[hlen] at hi
      simp only[Nat.mul_one,Nat.add_zero,hi,and_self,if_true]
      exact hc i (by omega)) (fun i j=>by
      by_cases hi:i<n∧j=0
      ·obtain⟨hi,rfl⟩:=hi
       have e1:(cs.take n).getD i .any=cs.getD i .any:=by simp[List.getElem?_take,hi]
       have hm:cs.getD i .any∈cs.take n:=by
        have:i<(cs.take n).length:=by omega
        rw[←e1]
        simp only[List.getD_eq_getElem?_getD,List.getElem?_eq_getElem this,Option.getD_some]
        exact List.getElem_mem this
       rw[e1,h1 _ hm]
       simp only[hi,and_self,if_true,List.getD_cons_zero]
       exact hr' i
      ·have e2:((cs.take n).getD i .any).cells.getD j .any=.any:=by
        by_cases hi2:i<n
        ·have e1:(cs.take n).getD i .any=cs.getD i .any:=by simp[List.getElem?_take,hi2]
         have hm:cs.getD i .any∈cs.take n:=by
          have:i<(cs.take n).length:=by omega
          rw[←e1]
          simp only[List.getD_eq_getElem?_getD,List.getElem?_eq_getElem this,Option.getD_some]
          exact List.getElem_mem this
         rw[e1,h1 _ hm]
         have:j≠0:=fun h=>hi ⟨hi2,h⟩
         cases j with
         |zero=>exact absurd rfl this
         |succ j=>rfl
        ·have e1:(cs.take n).getD i .any=.any:=by simp[List.getElem?_take,hi2]
         rw[e1]
         cases j<;>rfl
       rw[e2];exact .any _)
    rwa [hlen] at this
end Go.Proofs.YthjalhfmpffbjaaGreatDoor.Lg
namespace Go.Proofs.YthjalhfmpffbjaaGreatDoor.Lg
open Go
variable {P:Program}
def J1(T:Tys P)(kt:Nat)(x y:AV):Option Bool :=
 match (T.ty kt).k,x,y with
 | .struct fs,.agg xs,.agg ys=>Yj T xs ys fs
 | .int k,x,y=>JU (.int k) x y
 | .bool,x,y=>JU .bool x y
 | .str,x,y=>JU .str x y
 |_,_,_=>none
def J3(T:Tys P)(kt:Nat)(x:AV):List AV→Nat→Option (Option Nat)
 | [],_=>some none
 |k :: ks,i=>match J1 T kt x k with
  |some true=>some (some i)
  |some false=>J3 T kt x ks (i+1)
  |none=>none
def ZM:List (Nat×Nat×String)→Nat→Bool
 | [],_=>true
 | f :: r, i => f.1 == i && f.2.2 != "_" && ZM r (i + 1)
def VM(T:Tys P)(kt:Nat):Prop :=
 match (T.ty kt).k with
 | .struct fs=>P.stoodInHeld kt=false∧ZM fs 0=true∧fs.length=(T.ty kt).sz
 |_=>True
section raw
variable {T:Tys P} {c:Ctx} {kt:Nat} {v u:Value} {x y:AV} {b:Bool}
theorem Jj4(hkt:VM T kt)(hx:Rep c v x)(hy:Rep c u y)(h:J1 T kt x y=some b)(w:World):(Op.equal kt v u).run P w=.ok b w:=by
 unfold J1 at h
 split at h
 ·rename_i fs xs ys hk
  obtain⟨vs,rfl,_,hv⟩:=Ym hx
  obtain⟨us,rfl,_,hu⟩:=Ym hy
  obtain⟨fd,hu1,hfd⟩:=Tys.structT hk
  have hfo:P.underlying kt=some (.struct (P.fieldsOf kt)):=by rw[hu1];simp[Program.fieldsOf,hu1]
  have hfo2:P.fieldsOf kt=fd:=by simp[Program.fieldsOf,hu1]
  have hs:P.stoodInHeld kt=false:=by
   unfold VM at hkt
   rw[hk] at hkt
   exact hkt.1
  have:=JgJ (P:=P) (T:=T) hv hu w 9998 fd.toList b (by rw[hfd];exact h)
  show(Op.equalIn 10000 kt _ _).run P w=_
  rw[show(10000:Nat)=9999+1 from rfl,run_equalIn_agg w 9999 kt vs us hfo hs,hfo2,this]
 ·rename_i k hk;exact(Jby (T:=T) (t:=kt) hx hy (by rw[hk];exact h) w 9999).1
 ·rename_i hk;exact(Jby (T:=T) (t:=kt) hx hy (by rw[hk];exact h) w 9999).1
 ·rename_i hk;exact(Jby (T:=T) (t:=kt) hx hy (by rw[hk];exact h) w 9999).1
 ·cases h
theorem Jku{s s':ByteArray}{l:List UInt8}(h:s.data.toList=l)(h':s'.data.toList=l):s=s':=by
 cases s;cases s';simp only at h h';congr 1;exact Array.toList_inj.1 (h.trans h'.symm)
theorem Jd3{k:TyK}(hx:Rep c v x)(hy:Rep c u y)(h:JU k x y=some true):v=u∧∀n,Instr.sameBits n v u=true:=by
 unfold JU at h
 split at h
 ·split at h
  ·rename_i hk
   subst hk
   simp only[Option.some.injEq,decide_eq_true_eq] at h
   subst h
   rw[Vh hx,Vh hy]
   exact⟨rfl,fun n=>by cases n<;>simp[Instr.sameBits]⟩
  ·cases h
 ·simp only[Option.some.injEq,decide_eq_true_eq] at h
  subst h
  rw[Yx hx,Yx hy]
  exact⟨rfl,fun n=>by cases n<;>simp[Instr.sameBits]⟩
 ·simp only[Option.some.injEq,decide_eq_true_eq] at h
  subst h
  obtain⟨s,rfl,hs⟩:=Yo hx
  obtain⟨s',rfl,hs'⟩:=Yo hy
  have:=Jku hs hs'
  subst this
  exact⟨rfl,fun n=>by cases n<;>simp[Instr.sameBits,MapKept.bytes_beq]⟩
 ·cases h
theorem Jh5{T:Tys P}{xs ys:List AV}{vs us:Nat→Value}(hx:∀i,Rep c (vs i) (xs.getD i .any))(hy:∀i,Rep c (us i) (ys.getD i .any)) :
  ∀(l:List (Nat×Nat×String)) (i:Nat),ZM l i=true→Yj T xs ys l=some true→∀j,i≤j→j<i+l.length→vs j=us j∧∀n,Instr.sameBits n (vs j) (us j)=true
 | [],i,_,_,j,h1,h2=>by simp at h2;omega
 |f :: r,i,hp,h,j,h1,h2=>by
  simp only[ZM,Bool.and_eq_true,beq_iff_eq] at hp
  obtain⟨⟨p1,p2⟩,p3⟩:=hp
  simp only[Yj] at h
  split at h
  ·cases h
  ·split at h
   ·rename_i b c' hb hc
    simp only[Option.some.injEq,Bool.and_eq_true] at h
    obtain⟨rfl,rfl⟩:=h
    by_cases hj:j=i
    ·subst hj
     rw[p1] at hb
     exact Jd3 (hx j) (hy j) hb
    ·exact Jh5 hx hy r (i+1) p3 hc j (by omega) (by simp at h2;omega)
   ·cases h
theorem JiQ(hkt:VM T kt)(hx:Rep c v x)(hy:Rep c u y)(h:J1 T kt x y=some true)(hlx:x.cells.length=(T.ty kt).sz)(hly:y.cells.length=(T.ty kt).sz):Instr.sameBits 10000 u v=true:=by
 unfold J1 at h
 split at h
 ·rename_i fs xs ys hk
  unfold VM at hkt
  rw[hk] at hkt
  obtain⟨_,h1,h2⟩:=hkt
  obtain⟨vs,rfl,e1,hv⟩:=Ym hx
  obtain⟨us,rfl,e2,hu⟩:=Ym hy
  have hlx':vs.size=fs.length:=by rw[e1,h2];exact hlx
  have hly':us.size=fs.length:=by rw[e2,h2];exact hly
  have key:=Jh5 hv hu fs 0 h1 h
  simp only[Instr.sameBits,Bool.and_eq_true,beq_iff_eq]
  refine⟨by omega,List.all_eq_true.2 ?_⟩
  rintro⟨p,q⟩ hm
  obtain⟨j,hj,e⟩:=List.getElem_of_mem hm
  simp only[List.length_zip,Array.length_toList] at hj
  simp only[List.getElem_zip,Array.getElem_toList,Prod.mk.injEq] at e
  obtain⟨k1,k2⟩:=key j (by omega) (by omega)
  have g1:vs.getD j undef=q:=by rw[←e.2];simp[Array.getD,show j<vs.size by omega]
  have g2:us.getD j undef=p:=by rw[←e.1];simp[Array.getD,show j<us.size by omega]
  rw[g1,g2] at k1 k2
  show Instr.sameBits 9999 p q=true
  rw[←k1]
  have:=k2 9999
  rwa [←k1] at this
 ·obtain⟨e,hs⟩:=Jd3 hx hy h;rw[←e];rw[←e] at hs;exact hs _
 ·obtain⟨e,hs⟩:=Jd3 hx hy h;rw[←e];rw[←e] at hs;exact hs _
 ·obtain⟨e,hs⟩:=Jd3 hx hy h;rw[←e];rw[←e] at hs;exact hs _
 ·cases h
theorem Jd8{l r:List AV}{i:Nat}(h:i<l.length):(l++r).getD i .any=l.getD i .any:=by
 simp[List.getD_eq_getElem?_getD,List.getElem?_append_left h]
theorem Jbe{l:List AV}{i:Nat}(h:l.length≤i):l.getD i .any=.any:=by
 simp[List.getD_eq_getElem?_getD,List.getElem?_eq_none h]
def Ents(c:Ctx)(es:List MapEntry)(ks:List AV):Prop:=es.length=ks.length∧∀i,Rep c ((es[i]?).elim undef (·.key)) (ks.getD i .any)
theorem Ents.tail{e:MapEntry}{es:List MapEntry}{k:AV}{ks:List AV}(h:Ents c (e :: es) (k :: ks)):Rep c e.key k∧Ents c es ks :=
 ⟨by simpa using h.2 0,by simpa using h.1,fun i=>by simpa using h.2 (i+1)⟩
theorem Jj5(hkt:VM T kt)(hx:Rep c v x)(w:World):∀(es:List MapEntry) (ks:List AV) (i:Nat) (r:Option Nat),Ents c es ks→J3 T kt x ks i=some r →
  ∃q,(Instr.findAsking kt v es i).run P w=.ok q w∧((r=none∧q=none)∨∃j,r=some (i+j)∧j<es.length∧∃e,es[j]?=some e∧q=some (i+j,e.val)∧∃y,ks[j]?=some y∧Rep c e.key y∧J1 T kt x y=some true)
 | [],[],i,r,_,h=>by simp only[J3,Option.some.injEq] at h;subst h;exact⟨none,by simp[Instr.findAsking],.inl ⟨rfl,rfl⟩⟩
 | [],k :: ks,i,r,he,_=>by simp[Ents] at he
 |e :: es,[],i,r,he,_=>by simp[Ents] at he
 |e :: es,k :: ks,i,r,he,h=>by
  obtain⟨h1,h2⟩:=he.tail
  simp only[J3] at h
  split at h
  ·rename_i hq
   simp only[Option.some.injEq] at h
   subst h
   have:=Jj4 hkt hx h1 hq w
   exact⟨some (i,e.val),by simp[Instr.findAsking,this],.inr ⟨0,by simp,by simp,e,rfl,by simp,k,rfl,h1,hq⟩⟩
  ·rename_i hq
   have:=Jj4 hkt hx h1 hq w
   obtain⟨q,e1,e2⟩:=Jj5 hkt hx w es ks (i+1) r h2 h
   refine⟨q,by simp[Instr.findAsking,this,e1],?_⟩
   rcases e2 with e2|⟨j,f1,f2,e',f3,f4,y,f5,f6,f7⟩
   ·exact .inl e2
   ·exact .inr ⟨j+1,by rw[f1];congr 1;omega,by simp;omega,e',by simpa using f3,by rw[f4];congr 2;omega,y,by simpa using f5,f6,f7⟩
  ·cases h
theorem Jj8{d:TypeDesc}{k:TyK}(hd:VD d=k)(hk:(∃q,k=.int q)∨k=.bool∨k=.str)(hx:Rep c v x)(hy:Rep c u y)(h:JU k x y=some b):Instr.sameNow d v u=some b:=by
 unfold JU at h
 split at h
 ·split at h
  ·rename_i hkk
   subst hkk
   cases h
   rw[Vh hx,Vh hy]
   cases d<;>simp[VD] at hd
   simp only[Instr.sameNow,if_true,Option.some.injEq];exact Bool.eq_iff_iff.2 (by simp)
  ·cases h
 ·cases h
  rw[Yx hx,Yx hy]
  cases d<;>simp[VD] at hd
  simp[Instr.sameNow,JfB]
 ·cases h
  obtain⟨s,rfl,hs⟩:=Yo hx
  obtain⟨s',rfl,hs'⟩:=Yo hy
  cases d<;>simp[VD] at hd
  simp only[Instr.sameNow,Option.some.injEq]
  rw[Bool.eq_iff_iff,MapKept.bytes_beq,decide_eq_true_eq]
  constructor
  ·rintro rfl;rw[←hs,←hs']
  ·intro e;exact Jku hs (by rw[hs',e])
 ·cases h
theorem Jie{d:TypeDesc}{k:TyK}(hk0:(T.ty kt).k=k)(hd:VD d=k)(hk:(∃q,k=.int q)∨k=.bool∨k=.str)(hx:Rep c v x):∀(es:List MapEntry) (ks:List AV) (i:Nat) (r:Option Nat),Ents c es ks→J3 T kt x ks i=some r →
  ∃q,Instr.findNow d v es i=some q∧((r=none∧q=none)∨∃j,r=some (i+j)∧j<es.length∧∃e,es[j]?=some e∧q=some (i+j,e.val)∧∃y,ks[j]?=some y∧Rep c e.key y∧J1 T kt x y=some true)
 | [],[],i,r,_,h=>by simp only[J3,Option.some.injEq] at h;subst h;exact⟨none,rfl,.inl ⟨rfl,rfl⟩⟩
 | [],k :: ks,i,r,he,_=>by simp[Ents] at he
 |e :: es,[],i,r,he,_=>by simp[Ents] at he
 |e :: es,k' :: ks,i,r,he,h=>by
  obtain⟨h1,h2⟩:=he.tail
  have hQ:∀b,J1 T kt x k'=some b→JU k x k'=some b:=fun b hb=>by
   unfold J1 at hb
   rw[hk0] at hb
   rcases hk with ⟨q,rfl⟩|rfl|rfl<;>exact hb
  simp only[J3] at h
  split at h
  ·rename_i hq
   simp only[Option.some.injEq] at h
   subst h
   have:=Jj8 hd hk hx h1 (hQ _ hq)
   exact⟨some (i,e.val),by simp[Instr.findNow,this],.inr ⟨0,by simp,by simp,e,rfl,by simp,k',rfl,h1,hq⟩⟩
  ·rename_i hq
   have:=Jj8 hd hk hx h1 (hQ _ hq)
   obtain⟨q,e1,e2⟩:=Jie hk0 hd hk hx es ks (i+1) r h2 h
   refine⟨q,by simp[Instr.findNow,this,e1],?_⟩
   rcases e2 with e2|⟨j,f1,f2,e',f3,f4,y,f5,f6,f7⟩
   ·exact .inl e2
   ·exact .inr ⟨j+1,by rw[f1];congr 1;omega,by simp;omega,e',by simpa using f3,by rw[f4];congr 2;omega,y,by simpa using f5,f6,f7⟩
  ·cases h
theorem JoC{b:Bool}(h:J1 T kt x y=some b):(∃fs,(T.ty kt).k=.struct fs)∨(∃q,(T.ty kt).k=.int q)∨(T.ty kt).k=.bool∨(T.ty kt).k=.str:=by
 unfold J1 at h
 split at h
 ·rename_i hk;exact .inl ⟨_,hk⟩
 ·rename_i hk;exact .inr (.inl ⟨_,hk⟩)
 ·rename_i hk;exact .inr (.inr (.inl hk))
 ·rename_i hk;exact .inr (.inr (.inr hk))
 ·cases h
theorem JgL(hkt:VM T kt)(hx:Rep c v x)(hq0:J1 T kt x x=some true)(w:World){es:List MapEntry}{ks:List AV}{r:Option Nat}(he:Ents c es ks)(h:J3 T kt x ks 0=some r) :
  ∃q,(Instr.findKey kt v es).run P w=.ok q w∧((r=none∧q=none)∨∃j,r=some j∧j<es.length∧∃e,es[j]?=some e∧q=some (j,e.val)∧∃y,ks[j]?=some y∧Rep c e.key y∧J1 T kt x y=some true):=by
 rcases JoC hq0 with ⟨fs,hk⟩|hk
 ·obtain⟨fd,hu,_⟩:=Tys.structT hk
  have hfk:=run_findKey_eq (P:=P) (w:=w) (k:=kt) (by rw[hu]) v es
  rw[hfk]
  simpa using Jj5 hkt hx w es ks 0 r he h
 ·obtain⟨ti,_,_,_,_,d,hu,hd⟩:=Tys.get (T:=T) (t:=kt) (by rcases hk with ⟨q,hk⟩|hk|hk<;>rw[hk]<;>simp)
  obtain⟨q,h1,h2⟩:=Jie (T:=T) (kt:=kt) rfl hd hk hx es ks 0 r he h
  exact⟨q,MapKept.run_findKey hu h1,by simpa using h2⟩
theorem JeT{k:TyK}{t:Nat}(hk:(T.ty t).k=k)(hx:Rep c v x)(h:JU k x y=some b)(em:Bool)(n:Nat)(w:World):(Instr.checkKey em (n+1) t v).run P w=.ok () w:=by
 have hne:(T.ty t).k≠.unk:=by
  rw[hk];intro e;rw[e] at h;simp[JU] at h
 obtain⟨ti,_,_,_,_,d,hu,hd⟩:=Tys.get (T:=T) (t:=t) hne
 rw[hk] at hd
 unfold Instr.checkKey
 simp only[Sem.run_bind,run_underlying hu,Result.andThen_ok]
 unfold JU at h
 split at h
 ·cases d<;>simp[VD] at hd
  rw[Vh hx];rfl
 ·cases d<;>simp[VD] at hd
  rw[Yx hx];rfl
 ·cases d<;>simp[VD] at hd
  obtain⟨s,rfl,_⟩:=Yo hx;rfl
 ·cases h
theorem Jj1{xs ys:List AV}{vs:Array Value}(hx:∀i,Rep c (vs.getD i undef) (xs.getD i .any))(em:Bool)(n:Nat)(w:World):∀(l:List Field) (b:Bool),Yj T xs ys (l.map fun f=>(f.offset,f.type,f.name))=some b →
  (forIn l PUnit.unit fun(f:Field) (_:PUnit)=>(do
   if f.name ≠ "_" then do
    Instr.checkKey em (n+1) f.type (←part f.type vs f.offset)
    pure (ForInStep.yield PUnit.unit)
   else pure (ForInStep.yield PUnit.unit):Sem (ForInStep PUnit))).run P w=.ok PUnit.unit w
 | [],_,_=>by simp
 |f :: r,b,h=>by
  simp only[List.map_cons,Yj] at h
  split at h
  ·cases h
  ·rename_i hn
   split at h
   ·rename_i p q hp hq
    have hxv:=hx f.offset
    have e1:=Jby (T:=T) (t:=f.type) hxv hxv (y:=xs.getD f.offset .any) (b:=true) (by
     generalize xs.getD f.offset .any=x1 at hp
     generalize (T.ty f.type).k=k1 at hp
     unfold JU at hp
     split at hp
     ·simp[JU]
     ·simp[JU]
     ·simp[JU]
     ·cases hp) w 0
    have e2:=Jbz (T:=T) (P:=P) e1.2.1 e1.2.2.1 (rfl:vs.getD f.offset undef=_) e1.2.2.2.1 w
    have e3:=JeT (T:=T) (t:=f.type) rfl hxv hp em n w
    simp only[List.forIn_cons,Sem.run_bind,hn,ne_eq,not_false_eq_true,if_true,e2,Result.andThen_ok,e3,Sem.run_pure]
    exact Jj1 hx em n w r q hq
   ·cases h
theorem JaQ(hx:Rep c v x)(h:J1 T kt x y=some b)(em:Bool)(w:World):(Instr.checkKey em 10000 kt v).run P w=.ok () w:=by
 unfold J1 at h
 split at h
 ·rename_i fs xs ys hk
  obtain⟨vs,rfl,_,hv⟩:=Ym hx
  obtain⟨fd,hu,hfd⟩:=Tys.structT hk
  rw[show(10000:Nat)=9998+1+1 from rfl,Instr.checkKey]
  simp only[Sem.run_bind,run_underlying hu,Result.andThen_ok]
  rw[←Array.forIn_toList]
  have:=Jj1 (P:=P) (T:=T) hv em 9998 w fd.toList b (by rw[hfd];exact h)
  first|exact this|(rw[this];rfl)
 ·rename_i k hk;exact JeT hk hx h em 9999 w
 ·rename_i hk;exact JeT hk hx h em 9999 w
 ·rename_i hk;exact JeT hk hx h em 9999 w
 ·cases h
end raw
theorem Born.push{es:Array MapEntry}{cl:Nat}(h:Born es cl){k v:Value}:Born (es.push ⟨k,v,cl⟩) (cl+1):=by
 obtain⟨rfl,h2⟩:=h
 refine⟨by simp,fun j e he=>?_⟩
 rw[Array.getElem?_push] at he
 split at he
 ·rename_i hj;cases he;exact hj.symm
 ·exact h2 j e he
theorem Born.modify{es:Array MapEntry}{cl:Nat}(h:Born es cl)(i:Nat)(f:MapEntry→MapEntry)(hf:∀e,(f e).born=e.born):Born (es.modify i f) cl:=by
 obtain⟨rfl,h2⟩:=h
 refine⟨by simp,fun j e he=>?_⟩
 rw[Array.getElem?_modify] at he
 split at he
 ·obtain⟨e',h3,rfl⟩:=Option.map_eq_some_iff.1 he
  rw[hf];exact h2 j e' h3
 ·exact h2 j e he
def TS.mapOf(ts:TS):AV→Option (List AV×List AV)
 | .mp ks vs=>some (ks,vs)
 | .mref d g=>if g=ts.gen d then (match ts.obj d with|.mp ks vs=>some (ks,vs)|_=>none) else none
 | .nilm=>some ([],[])
 |_=>none
theorem JoQ{E:Env}{ts:TS}{G:Ghost}{a:Act}{w:World}(h:Rel E ts G a w){x:AV}{q:List AV×List AV}(hq:ts.mapOf x=some q){v:Value}(hv:Rep (Jb E G ts w) v x) :
  (v=.map none∧q=([],[]))∨∃(r:Nat) (es:Array MapEntry) (cl:Nat),v=.map (some r)∧w.heap[r]?=some (.map es cl)∧es.size=q.1.length∧es.size=q.2.length ∧
   (∀i,Rep (Jb E G ts w) ((es[i]?).elim undef (·.key)) (q.1.getD i .any))∧∀i,Rep (Jb E G ts w) ((es[i]?).elim undef (·.val)) (q.2.getD i .any):=by
 unfold TS.mapOf at hq
 split at hq
 ·cases hq
  cases hv with
  |mp r es cl _ _ hM hb hk hv h1 h2=>exact .inr ⟨r,es,cl,rfl,hb,hk,hv,h1,h2⟩
 ·rename_i d g
  split at hq
  ·rename_i hg
   split at hq
   ·rename_i ks vs ho
    cases hq
    have hob:=h.obj d
    rw[ho] at hob
    obtain⟨h0,es,cl,h1,h2,h3,h4,h5,_⟩:=hob
    exact .inr ⟨_,es,cl,(Jdh hv).2.2 hg (by simp[Jb,ho,Ob.kind]),h1,h2,h3,h4,h5⟩
   ·cases hq
  ·cases hq
 ·cases hq
  exact .inl ⟨JjQ hv,rfl⟩
 ·cases hq
theorem Jj7{T:Tys P}{e:Nat}(he:(T.ty e).k≠.unk)(w:World):∃z,(zeroValue e).run P w=.ok z w∧∀c,Rep c z (JR (T.ty e).k (T.ty e).zero):=by
 obtain⟨ti,hi,hsz,hby,⟨z,hzv,hzm,hzs⟩,_⟩:=Tys.get (T:=T) he
 obtain⟨ti',z',hi',hzv',hag⟩:=(T.okz e).resolve_left he
 rw[hi] at hi'
 cases hi'
 rw[hzv] at hzv'
 cases hzv'
 refine⟨z,by simp[zeroValue,typeInfo,hi,hzv],fun c=>?_⟩
 obtain⟨h1,h2⟩:=Jdj (c:=c) hzm
 unfold JR
 split
 ·rename_i ha
  rw[ha] at hag
  cases z with
  |agg cs=>exact .agg cs _ h1 h2
  |_=>cases hag
 ·rename_i ha
  have:z.cells=#[z]:=by
   cases z with
   |agg cs=>exact absurd hag.symm ha
   |_=>rfl
  have:=h2 0
  simpa[‹z.cells=#[z]›] using this
def YS(ok:Bool)(z:AV)(vs:List AV)(r:Option Nat):AV :=
 if ok then .tup [match r with|some i=>vs.getD i .any|none=>z,.bool r.isSome] else match r with|some i=>vs.getD i .any|none=>z
theorem Tys.mapT{T:Tys P}{t kt e:Nat}(h:(T.ty t).k=.map kt e):P.underlying t=some (.map kt e):=by
 obtain⟨ti,_,_,_,_,d,h1,h2⟩:=Tys.get (T:=T) (t:=t) (by rw[h];simp)
 rw[h] at h2
 cases d<;>simp[VD] at h2
 obtain⟨rfl,rfl⟩:=h2;exact h1
theorem SpecO.lookup{T:Tys P}{o:Oper}{ts:TS}{K:TS→Prop}{t:TypeId}{x k:Operand}{ok:Bool}(ho:o.op=.lookup t x k ok){kt et:Nat}(ht:(T.ty t).k=.map kt et)(he:(T.ty et).k≠.unk)(hkt:VM T kt)
  (hq0:J1 T kt (ts.ev k) (ts.ev k)=some true) {q:List AV×List AV} (hq:ts.mapOf (ts.ev x)=some q) {r:Option Nat} (hr:J3 T kt (ts.ev k) q.1 0=some r)
  (hk:Jd ts o.dst (YS ok (JR (T.ty et).k (T.ty et).zero) q.2 r) K):SpecO P o ts K :=
 SpecO.val hk fun E G a w hrel=>by
  obtain⟨z,hz1,hz2⟩:=Jj7 (T:=T) he w
  have hkr:=hrel.ev k
  have hmt:=Tys.mapT ht
  have fin:∀(es:Array MapEntry) (cl:Nat),Ents (Jb E G ts w) es.toList q.1→(∀i,Rep (Jb E G ts w) ((es[i]?).elim undef (·.val)) (q.2.getD i .any)) →
    (∀q',(Instr.findKey kt (a.eval k) es.toList).run P w=.ok q' w→(Instr.lookup t (a.eval x) (a.eval k) ok).run P w=.ok (if ok then .tuple #[match q' with|some (_,v)=>v|none=>z,.bool q'.isSome] else match q' with|some (_,v)=>v|none=>z) w) →
    ∃v,(execOp a.eval o).run P w=.ok (.value v) w∧Rep (Jb E G ts w) v (YS ok (JR (T.ty et).k (T.ty et).zero) q.2 r):=by
   intro es cl hents hvals hrun
   obtain⟨q',h1,h2⟩:=JgL (T:=T) hkt hkr hq0 w hents hr
   have h3:=hrun q' h1
   refine⟨_,by simp[execOp,ho,h3];rfl,?_⟩
   rcases h2 with ⟨rfl,rfl⟩|⟨j,rfl,hj,e,he,rfl,_⟩
   ·unfold YS
    cases ok with
    |true=>exact .tup _ _ rfl fun i=>match i with|0=>hz2 _|1=>.bool _|n+2=>.any _
    |false=>exact hz2 _
   ·have hv:=hvals j
    have he':es[j]?=some e:=by simpa using he
    rw[he'] at hv
    unfold YS
    cases ok with
    |true=>exact .tup _ _ rfl fun i=>match i with|0=>hv|1=>.bool _|n+2=>.any _
    |false=>exact hv
  rcases JoQ hrel hq (hrel.ev x) with ⟨hv,rfl⟩|⟨rr,es,cl,hv,hheap,s1,s2,r1,r2⟩
  ·refine fin #[] 0 ⟨rfl,fun i=>by simp;exact .any _⟩ (fun i=>by simp;exact .any _) fun q' h1=>?_
   rw[hv]
   cases q' with
   |none=>simp[Instr.lookup,run_underlying hmt,JaQ hkr hq0,h1,hz1,Result.andThen]
   |some p=>simp[Instr.lookup,run_underlying hmt,JaQ hkr hq0,h1,hz1,Result.andThen]
  ·refine fin es cl ⟨by simpa using s1,fun i=>by simpa using r1 i⟩ r2 fun q' h1=>?_
   rw[hv]
   cases q' with
   |none=>simp[Instr.lookup,run_underlying hmt,MapKept.run_getObj_map hheap,JaQ hkr hq0,h1,hz1,Result.andThen]
   |some p=>simp[Instr.lookup,run_underlying hmt,MapKept.run_getObj_map hheap,JaQ hkr hq0,h1,hz1,Result.andThen]
def Jce(ts:TS)(dst:Option Nat)(K:TS→Prop):Prop :=
 match dst with
 |some d=>d<ts.n∧K ((ts.new d (.mp [] [])).put d (.mref d (ts.gen d+1)))
 |none=>False
theorem SpecO.makeMap{o:Oper}{ts:TS}{K:TS→Prop}{t:TypeId}(ho:o.op=.makeMap t none)(hk:Jce ts o.dst K):SpecO P o ts K:=by
 intro E G a w next Q hr hn
 have hrun:(execOp a.eval o).run P w=.ok (.value (.map (some w.heap.size))) (w.alloc (.map #[] 0)):=by
  have:=@Go.RowKit.run_makeMap P t w
  simp[execOp,ho,this]
 unfold Oper.wp
 rw[hrun]
 show next (a.put o.dst _) _
 unfold Jce at hk
 cases hd:o.dst with
 |none=>rw[hd] at hk;exact hk.elim
 |some d =>
  rw[hd] at hk
  refine hn _ _ _ _ hk.2 (hr.newObj (w':=w.alloc (.map #[] 0)) hk.1 (.mp [] []) w.heap.size (some 0) (Nat.le_refl _) (fun _=>by simp) ((Bel.refl _ _).alloc _) ?_ ?_)
  ·exact .mref d _ _ rfl (by simp[Jb,TS.new]) fun _ _=>by simp[Jb,Ghost.set]
  ·refine⟨by simp[Jb,Ghost.set],#[],0,?_,rfl,rfl,fun i=>by simp;exact .any _,fun i=>by simp;exact .any _,rfl,by simp⟩
   simp only[Jb,Ghost.set,Vc]
   exact heap_alloc_new w _
def J2(ks:List AV)(k:AV):Option Nat→List AV
 |some i=>ks.set i k
 |none=>ks++[k]
def Ob.mp?:Ob→Option (List AV×List AV)
 | .mp ks vs=>some (ks,vs)
 |_=>none
theorem Jcd{o:Ob}{q:List AV×List AV}(h:o.mp?=some q):o=.mp q.1 q.2:=by
 cases o<;>simp[Ob.mp?] at h
 subst h;rfl
theorem SpecO.mapUpdate{T:Tys P}{o:Oper}{ts:TS}{K:TS→Prop}{t:TypeId}{m k x:Operand}(ho:o.op=.mapUpdate t m k x){kt et:Nat}(ht:(T.ty t).k=.map kt et)(hkt:VM T kt)
  (hq0:J1 T kt (ts.ev k) (ts.ev k)=some true) (hk1:(ts.ev k).cells.length=(T.ty kt).sz) {d g:Nat} (hm:ts.ev m=.mref d g) (hg:g=ts.gen d) {q:List AV×List AV} (hob:ts.obj d=.mp q.1 q.2)
  (hks:∀y∈q.1,y.cells.length=(T.ty kt).sz) {r:Option Nat} (hr:J3 T kt (ts.ev k) q.1 0=some r) (hd:o.dst=none) (hK:K (ts.setObj d (.mp (J2 q.1 (ts.ev k) r) (J2 q.2 (ts.ev x) r)))):SpecO P o ts K:=by
 intro E G a w next Q hrel hn
 have hkr:=hrel.ev k
 have hxr:=hrel.ev x
 have hmr:=hrel.ev m
 rw[hm] at hmr
 have hmt:=Tys.mapT ht
 have hmv:=(Jdh hmr).2.2 hg (by simp[Jb,hob,Ob.kind])
 have hobk:=hrel.obj d
 rw[hob] at hobk
 obtain⟨hκ,es,cl,hheap,s1,s2,r1,r2,hborn⟩:=hobk
 have hheap:w.heap[G.β d]?=some (.map es cl):=hheap
 have hlive:Jj ts G d:=⟨by simp[hob,Ob.kind],hκ⟩
 obtain⟨q',h1,h2⟩:=JgL (T:=T) hkt hkr hq0 w (es:=es.toList) ⟨by simpa using s1,fun i=>by simpa using r1 i⟩ hr
 have hle:∀o',o'.kind=(ts.obj d).kind→∀ob',(Jb E G ts w).Le (Jb E G (ts.setObj d o') { w with heap:=w.heap.setIfInBounds (G.β d) ob' }):=fun o' hk' ob' =>
  Zn E G ts w _ d o' hk' hlive fun i hi=>by simp[Array.getElem?_setIfInBounds,Ne.symm hi]
 have fin:∀(es':Array MapEntry) (cl':Nat) (ks' vs':List AV),(execOp a.eval o).run P w=.ok .skip { w with heap:=w.heap.setIfInBounds (G.β d) (.map es' cl') } →
   Born es' cl'→es'.size=ks'.length→es'.size=vs'.length→(∀i,Rep (Jb E G ts w) ((es'[i]?).elim undef (·.key)) (ks'.getD i .any))→(∀i,Rep (Jb E G ts w) ((es'[i]?).elim undef (·.val)) (vs'.getD i .any)) →
   K (ts.setObj d (.mp ks' vs'))→o.wp P a w next Q:=by
  intro es' cl' ks' vs' hrun q0 q1 q2 q3 q4 hK'
  unfold Oper.wp
  rw[hrun]
  show next (a.put o.dst undef) _
  rw[hd]
  refine hn _ G a _ hK' ?_
  have hl:=hle (.mp ks' vs') (by simp[hob,Ob.kind]) (.map es' cl')
  refine hrel.setObj d _ (by simp[hob,Ob.kind]) hlive rfl rfl rfl (by simp) (fun i hi=>by simp[Array.getElem?_setIfInBounds,Ne.symm hi]) ?_
  refine⟨hκ,es',cl',?_,q1,q2,fun i=>(q3 i).mono hl,fun i=>(q4 i).mono hl,q0⟩
  have hlt:G.β d<w.heap.size:=JcQ hheap
  show(w.heap.setIfInBounds (G.β d) _)[G.β d]?=_
  simp[hlt]
 rcases h2 with ⟨rfl,rfl⟩|⟨j,rfl,hj,e,he,rfl,y,hy,hey,hkq⟩
 ·refine fin (es.push ⟨a.eval k,a.eval x,cl⟩) (cl+1) _ _ ?_ hborn.push (by simp[J2,s1]) (by simp[J2,s2]) (fun i=>?_) (fun i=>?_) hK
  ·have:(Instr.mapUpdate t (a.eval m) (a.eval k) (a.eval x)).run P w=.ok () { w with heap:=w.heap.setIfInBounds (G.β d) (.map (es.push ⟨a.eval k,a.eval x,cl⟩) (cl+1)) }:=by
    rw[hmv]
    show(Instr.mapUpdate t (.map (some (G.β d))) (a.eval k) (a.eval x)).run P w=_
    simp[Instr.mapUpdate,run_underlying hmt,MapKept.run_getObj_map hheap,JaQ hkr hq0,h1,MapKept.run_setObj_map _ hheap,Result.andThen]
   simp[execOp,ho,this]
  ·simp only[J2]
   by_cases hi:i<es.size
   ·have:=r1 i
    rw[Array.getElem?_push,if_neg (by omega)]
    rw[Jd8 (by omega)]
    exact this
   ·by_cases hi2:i=es.size
    ·rw[hi2,Array.getElem?_push,if_pos rfl,s1]
     simp only[Option.elim_some,List.getD_eq_getElem?_getD,List.getElem?_concat_length,Option.getD_some]
     exact hkr
    ·rw[Array.getElem?_push,if_neg hi2,Array.getElem?_eq_none (by omega),Jbe (by simp;omega)]
     exact .any _
  ·simp only[J2]
   by_cases hi:i<es.size
   ·have:=r2 i
    rw[Array.getElem?_push,if_neg (by omega)]
    rw[Jd8 (by omega)]
    exact this
   ·by_cases hi2:i=es.size
    ·rw[hi2,Array.getElem?_push,if_pos rfl,s2]
     simp only[Option.elim_some,List.getD_eq_getElem?_getD,List.getElem?_concat_length,Option.getD_some]
     exact hxr
    ·rw[Array.getElem?_push,if_neg hi2,Array.getElem?_eq_none (by omega),Jbe (by simp;omega)]
     exact .any _
 ·have hj':j<es.size:=by simpa using hj
  have he':es[j]?=some e:=by simpa using he
  have hsame:Instr.sameBits 10000 e.key (a.eval k)=true:=JiQ hkt hkr hey hkq hk1 (hks _ (List.mem_of_getElem? hy))
  refine fin (es.modify j fun e=>{ e with key:=a.eval k,val:=a.eval x }) cl _ _ ?_ (hborn.modify _ _ fun _=>rfl) (by simp[J2,s1]) (by simp[J2,s2]) (fun i=>?_) (fun i=>?_) hK
  ·have:(Instr.mapUpdate t (a.eval m) (a.eval k) (a.eval x)).run P w=.ok () { w with heap:=w.heap.setIfInBounds (G.β d) (.map (es.modify j fun e=>{ e with key:=a.eval k,val:=a.eval x }) cl) }:=by
    rw[hmv]
    show(Instr.mapUpdate t (.map (some (G.β d))) (a.eval k) (a.eval x)).run P w=_
    simp[Instr.mapUpdate,run_underlying hmt,MapKept.run_getObj_map hheap,JaQ hkr hq0,h1,MapKept.run_setObj_map _ hheap,Result.andThen,Instr.keyThatStays,he',hsame]
   simp[execOp,ho,this]
  ·simp only[J2,Array.getElem?_modify,List.getD_eq_getElem?_getD,List.getElem?_set]
   by_cases hi:j=i
   ·subst hi
    have hjl:j<q.1.length:=by omega
    simp only[if_true,he',Option.map_some,Option.elim_some,if_pos hjl,Option.getD_some]
    exact hkr
   ·have:=r1 i
    simpa[hi] using this
  ·simp only[J2,Array.getElem?_modify,List.getD_eq_getElem?_getD,List.getElem?_set]
   by_cases hi:j=i
   ·subst hi
    have hjl:j<q.2.length:=by omega
    simp only[if_true,he',Option.map_some,Option.elim_some,if_pos hjl,Option.getD_some]
    exact hxr
   ·have:=r2 i
    simpa[hi] using this
def entK(T:Tys P)(t:Nat)(m k:AV)(ts:TS)(dst:Option Nat)(K:TS→Prop):Prop :=
 match (T.ty t).k,m,dst with
 | .map kt et,.mref d g,some e=>g=ts.gen d∧e<ts.n∧(T.ty et).k≠.unk∧VM T kt∧J1 T kt k k=some true∧k.cells.length=(T.ty kt).sz∧∃q,(ts.obj d).mp?=some q∧(∀y∈q.1,y.cells.length=(T.ty kt).sz) ∧
   ∃r,J3 T kt k q.1 0=some r∧entKK d e k (JR (T.ty et).k (T.ty et).zero) q r ts K
 |_,_,_=>False
where entKK (d e:Nat) (k z:AV) (q:List AV×List AV) (r:Option Nat) (ts:TS) (K:TS→Prop):Prop :=
 match r with
 |some i=>K ((ts.setObj d (.mp (q.1.set i k) q.2)).put e (.tup [q.2.getD i .any,.int .i64 i]))
 |none=>K ((ts.setObj d (.mp (q.1++[k]) (q.2++[z]))).put e (.tup [z,.int .i64 q.1.length]))
theorem entK.sound{T:Tys P}{o:Oper}{ts:TS}{K:TS→Prop}{t:TypeId}{m k:Operand}(ho:o.op=.mapEntry t m k)(h:entK T t (ts.ev m) (ts.ev k) ts o.dst K):SpecO P o ts K:=by
 unfold entK at h
 split at h
 rotate_left
 ·exact h.elim
 rename_i kt et d g e ht hm hdst
 obtain⟨hg,he,het,hkt,hq0,hk1,q,hob,hks,r,hr,h⟩:=h
 have hob:=Jcd hob
 intro E G a w next Q hrel hn
 have hkr:=hrel.ev k
 have hmr:=hrel.ev m
 rw[hm] at hmr
 have hmt:=Tys.mapT ht
 have hmv:=(Jdh hmr).2.2 hg (by simp[Jb,hob,Ob.kind])
 have hobk:=hrel.obj d
 rw[hob] at hobk
 obtain⟨hκ,es,cl,hheap,s1,s2,r1,r2,hborn⟩:=hobk
 have hheap:w.heap[G.β d]?=some (.map es cl):=hheap
 have hlive:Jj ts G d:=⟨by simp[hob,Ob.kind],hκ⟩
 obtain⟨z,hz1,hz2⟩:=Jj7 (T:=T) het w
 obtain⟨q',h1,h2⟩:=JgL (T:=T) hkt hkr hq0 w (es:=es.toList) ⟨by simpa using s1,fun i=>by simpa using r1 i⟩ hr
 have hle:∀o',o'.kind=(ts.obj d).kind→∀ob',(Jb E G ts w).Le (Jb E G (ts.setObj d o') { w with heap:=w.heap.setIfInBounds (G.β d) ob' }):=fun o' hk' ob' =>
  Zn E G ts w _ d o' hk' hlive fun i hi=>by simp[Array.getElem?_setIfInBounds,Ne.symm hi]
 have fin:∀(es':Array MapEntry) (cl':Nat) (ks' vs':List AV) (v:Value) (n:Nat) (x:AV),(Instr.mapEntry t (a.eval m) (a.eval k)).run P w=.ok (.tuple #[v,goInt n]) { w with heap:=w.heap.setIfInBounds (G.β d) (.map es' cl') } →
   Rep (Jb E G ts w) v x→Born es' cl'→es'.size=ks'.length→es'.size=vs'.length→(∀i,Rep (Jb E G ts w) ((es'[i]?).elim undef (·.key)) (ks'.getD i .any))→(∀i,Rep (Jb E G ts w) ((es'[i]?).elim undef (·.val)) (vs'.getD i .any)) →
   K ((ts.setObj d (.mp ks' vs')).put e (.tup [x,.int .i64 n]))→o.wp P a w next Q:=by
  intro es' cl' ks' vs' v n x hrun hvx q0 q1 q2 q3 q4 hK'
  have hl:=hle (.mp ks' vs') (by simp[hob,Ob.kind]) (.map es' cl')
  unfold Oper.wp
  have:(execOp a.eval o).run P w=.ok (.value (.tuple #[v,goInt n])) { w with heap:=w.heap.setIfInBounds (G.β d) (.map es' cl') }:=by simp[execOp,ho,hrun]
  rw[this]
  show next (a.put o.dst _) _
  rw[hdst]
  refine hn _ G _ _ hK' (Rel.put (hrel.setObj (w':={ w with heap:=w.heap.setIfInBounds (G.β d) (.map es' cl') }) d (.mp ks' vs') (by simp[hob,Ob.kind]) hlive rfl rfl rfl (by simp) (fun i hi=>by simp[Array.getElem?_setIfInBounds,Ne.symm hi]) ?_) he ?_)
  ·refine⟨hκ,es',cl',?_,q1,q2,fun i=>(q3 i).mono hl,fun i=>(q4 i).mono hl,q0⟩
   have hlt:G.β d<w.heap.size:=JcQ hheap
   show(w.heap.setIfInBounds (G.β d) _)[G.β d]?=_
   simp[hlt]
  ·exact .tup _ _ rfl fun i=>match i with|0=>hvx.mono hl|1=>.int _ _|n+2=>.any _
 rcases h2 with ⟨rfl,rfl⟩|⟨j,rfl,hj,en,hen,rfl,y,hy,hey,hkq⟩
 ·refine fin (es.push ⟨a.eval k,z,cl⟩) (cl+1) _ _ z cl _ ?_ (hz2 _) hborn.push ?_ ?_ (fun i=>?_) (fun i=>?_) (by rw[hborn.1,s1];exact h)
  ·rw[hmv]
   show(Instr.mapEntry t (.map (some (G.β d))) (a.eval k)).run P w=_
   simp[Instr.mapEntry,run_underlying hmt,MapKept.run_getObj_map hheap,JaQ hkr hq0,h1,hz1,MapKept.run_setObj_map _ hheap,Result.andThen]
  ·simp[s1]
  ·simp[s2]
  ·by_cases hi:i<es.size
   ·have:=r1 i
    rw[Array.getElem?_push,if_neg (by omega),Jd8 (by omega)]
    exact this
   ·by_cases hi2:i=es.size
    ·rw[hi2,Array.getElem?_push,if_pos rfl,s1]
     simp only[Option.elim_some,List.getD_eq_getElem?_getD,List.getElem?_concat_length,Option.getD_some]
     exact hkr
    ·rw[Array.getElem?_push,if_neg hi2,Array.getElem?_eq_none (by omega),Jbe (by simp;omega)]
     exact .any _
  ·by_cases hi:i<es.size
   ·have:=r2 i
    rw[Array.getElem?_push,if_neg (by omega),Jd8 (by omega)]
    exact this
   ·by_cases hi2:i=es.size
    ·rw[hi2,Array.getElem?_push,if_pos rfl,s2]
     simp only[Option.elim_some,List.getD_eq_getElem?_getD,List.getElem?_concat_length,Option.getD_some]
     exact hz2 _
    ·rw[Array.getElem?_push,if_neg hi2,Array.getElem?_eq_none (by omega),Jbe (by simp;omega)]
     exact .any _
 ·have hj':j<es.size:=by simpa using hj
  have he':es[j]?=some en:=by simpa using hen
  have hsame:Instr.sameBits 10000 en.key (a.eval k)=true:=JiQ hkt hkr hey hkq hk1 (hks _ (List.mem_of_getElem? hy))
  have hbn:=hborn.2 j en he'
  have hv:Rep (Jb E G ts w) en.val (q.2.getD j .any):=by
   have:=r2 j
   rwa [he'] at this
  refine fin (es.modify j fun e=>{ e with key:=a.eval k }) cl _ _ en.val j _ ?_ hv (hborn.modify _ _ fun _=>rfl) (by simp[s1]) (by simp[s2]) (fun i=>?_) (fun i=>?_) h
  ·rw[hmv]
   show(Instr.mapEntry t (.map (some (G.β d))) (a.eval k)).run P w=_
   simp[Instr.mapEntry,run_underlying hmt,MapKept.run_getObj_map hheap,JaQ hkr hq0,h1,MapKept.run_setObj_map _ hheap,Result.andThen,Instr.keyThatStays,he',hsame,hbn]
  ·simp only[Array.getElem?_modify,List.getD_eq_getElem?_getD,List.getElem?_set]
   by_cases hi:j=i
   ·subst hi
    have hjl:j<q.1.length:=by omega
    simp only[if_true,he',Option.map_some,Option.elim_some,if_pos hjl,Option.getD_some]
    exact hkr
   ·have:=r1 i
    simpa[hi] using this
  ·simp only[Array.getElem?_modify]
   by_cases hi:j=i
   ·subst hi
    simp only[if_true,he',Option.map_some,Option.elim_some]
    exact hv
   ·have:=r2 i
    simpa[hi] using this
def entPutK(m s x:AV)(ts:TS)(dst:Option Nat)(K:TS→Prop):Prop :=
 match m,s with
 | .mref d g,.int .i64 n=>g=ts.gen d∧dst=none∧∃q,(ts.obj d).mp?=some q∧0≤n∧n<q.2.length∧K (ts.setObj d (.mp q.1 (q.2.set n.toNat x)))
 |_,_=>False
theorem entPutK.sound{o:Oper}{ts:TS}{K:TS→Prop}{t:TypeId}{m s x:Operand}(ho:o.op=.entryStore t m s x)(h:entPutK (ts.ev m) (ts.ev s) (ts.ev x) ts o.dst K):SpecO P o ts K:=by
 unfold entPutK at h
 split at h
 rotate_left
 ·exact h.elim
 rename_i d g n hm hs
 obtain⟨hg,hd,q,hob,hn0,hn1,hK⟩:=h
 have hob:=Jcd hob
 intro E G a w next Q hrel hn
 have hxr:=hrel.ev x
 have hmr:=hrel.ev m
 rw[hm] at hmr
 have hsr:=hrel.ev s
 rw[hs] at hsr
 have hsv:=Vh hsr
 have hmv:=(Jdh hmr).2.2 hg (by simp[Jb,hob,Ob.kind])
 have hobk:=hrel.obj d
 rw[hob] at hobk
 obtain⟨hκ,es,cl,hheap,s1,s2,r1,r2,hborn⟩:=hobk
 have hheap:w.heap[G.β d]?=some (.map es cl):=hheap
 have hlive:Jj ts G d:=⟨by simp[hob,Ob.kind],hκ⟩
 obtain⟨j,rfl⟩:∃j:Nat,n=j:=⟨n.toNat,by omega⟩
 have hj:j<es.size:=by omega
 have hfind:es.findIdx? (fun e=>(e.born:Int) == (j:Int))=some j:=by
  rw[Array.findIdx?_eq_some_iff_getElem]
  refine⟨hj,?_,fun i hi=>?_⟩
  ·have:=hborn.2 j es[j] (by simp[hj])
   simp[this]
  ·have hi':i<es.size:=Nat.lt_trans hi hj
   have h1:=hborn.2 i es[i] (by simp)
   have h2:¬(i:Int)=(j:Int):=by omega
   simpa[h1] using h2
 have hrun:(execOp a.eval o).run P w=.ok .skip { w with heap:=w.heap.setIfInBounds (G.β d) (.map (es.modify j fun e=>{ e with val:=a.eval x }) cl) }:=by
  have:(Instr.entryStore t (a.eval m) (a.eval s) (a.eval x)).run P w=.ok () { w with heap:=w.heap.setIfInBounds (G.β d) (.map (es.modify j fun e=>{ e with val:=a.eval x }) cl) }:=by
   rw[hmv,hsv]
   show(Instr.entryStore t (.map (some (G.β d))) (.int .i64 j) (a.eval x)).run P w=_
   simp[Instr.entryStore,MapKept.run_getObj_map hheap,asInt,asIntOf,hfind,MapKept.run_setObj_map _ hheap,Result.andThen]
  simp[execOp,ho,this]
 unfold Oper.wp
 rw[hrun]
 show next (a.put o.dst undef) _
 rw[hd]
 have hl:(Jb E G ts w).Le (Jb E G (ts.setObj d (.mp q.1 (q.2.set j (ts.ev x)))) { w with heap:=w.heap.setIfInBounds (G.β d) (.map (es.modify j fun e=>{ e with val:=a.eval x }) cl) }) :=
  Zn E G ts w _ d _ (by simp[hob,Ob.kind]) hlive fun i hi=>by simp[Array.getElem?_setIfInBounds,Ne.symm hi]
 refine hn _ G a _ hK (hrel.setObj (w':={ w with heap:=w.heap.setIfInBounds (G.β d) (.map (es.modify j fun e=>{ e with val:=a.eval x }) cl) }) d (.mp q.1 (q.2.set j (ts.ev x))) (by simp[hob,Ob.kind]) hlive rfl rfl rfl (by simp) (fun i hi=>by simp[Array.getElem?_setIfInBounds,Ne.symm hi]) ?_)
 show ObOk _ d (.mp q.1 (q.2.set j (ts.ev x)))
 refine⟨hκ,es.modify j fun e=>{ e with val:=a.eval x },cl,?_,by simp[s1],by simp[s2],fun i=>?_,fun i=>?_,hborn.modify _ _ fun _=>rfl⟩
 ·have hlt:G.β d<w.heap.size:=JcQ hheap
  show(w.heap.setIfInBounds (G.β d) _)[G.β d]?=_
  simp[hlt]
 ·have:=(r1 i).mono hl
  simp only[Array.getElem?_modify]
  by_cases hi:j=i
  ·subst hi
   simpa[hj] using this
  ·simpa[hi] using this
 ·simp only[Array.getElem?_modify,List.getD_eq_getElem?_getD,Int.toNat_natCast,List.getElem?_set]
  by_cases hi:j=i
  ·subst hi
   have hjl:j<q.2.length:=by omega
   simp only[if_true,if_pos hjl,Option.getD_some]
   have:=hxr.mono hl
   simpa[hj] using this
  ·have:=(r2 i).mono hl
   simpa[hi] using this
end Go.Proofs.YthjalhfmpffbjaaGreatDoor.Lg
namespace Go.Proofs.YthjalhfmpffbjaaGreatDoor.Lg
open Go
variable {P:Program}
def AV.renM(d g H:Nat):AV→AV
 | .mref d' g'=>if d'=d∧g'=g then .mref H 0 else .mref d' g'
 | .agg cs=>.agg (renML cs)
 | .tup cs=>.tup (renML cs)
 | .slice c cs=>.slice c (renML cs)
 | .ro cs=>.ro (renML cs)
 | .clo fn a b=>.clo fn (renML a) (renML b)
 | .mp a b=>.mp (renML a) (renML b)
 | .iface t x=>.iface t (x.renM d g H)
 |x=>x
where renML:List AV→List AV
 | []=>[]
 |x :: r=>x.renM d g H :: renML r
def AV.pureH(d g:Nat):AV→Bool
 | .mref d' g'=>d' == d && g' == g
 | .os ..|.ref ..|.eref ..|.ot ..=>false
 | .agg cs|.tup cs|.slice _ cs|.ro cs=>pureHL cs
 | .clo _ a b=>pureHL a && pureHL b
 | .mp a b=>pureHL a && pureHL b
 | .iface _ x=>x.pureH d g
 |_=>true
where pureHL:List AV→Bool
 | []=>true
 |x :: r=>x.pureH d g && pureHL r
section
variable {d g H:Nat}
theorem JeJ:∀l:List AV,AV.renM.renML d g H l=l.map (AV.renM d g H)
 | []=>rfl
 |x :: r=>by simp[AV.renM.renML,JeJ r]
theorem ZR(l:List AV)(i:Nat):(AV.renM.renML d g H l).getD i .any=(l.getD i .any).renM d g H:=by
 rw[JeJ]
 simp only[List.getD_eq_getElem?_getD,List.getElem?_map]
 cases l[i]?<;>rfl
theorem YI(l:List AV):(AV.renM.renML d g H l).length=l.length:=by rw[JeJ];simp
theorem JjN{l:List AV}(h:l≠[]):AV.renM.renML d g H l≠[]:=by
 intro e;have:=YI (d:=d) (g:=g) (H:=H) l;rw[e] at this;exact h (List.length_eq_zero_iff.1 this.symm)
theorem JjO(x:AV):(x.renM d g H).cells=AV.renM.renML d g H x.cells:=by
 cases x with
 |mref d' g'=>simp only[AV.renM,AV.cells,AV.renM.renML];split<;>rename_i h<;>split at h<;>simp_all
 |_=>rfl
theorem Zu:∀(l:List AV) (i:Nat),AV.pureH.pureHL d g l=true→(l.getD i .any).pureH d g=true
 | [],i,_=>by simp[AV.pureH]
 |x :: r,0,h=>by simp[AV.pureH.pureHL] at h;simpa using h.1
 |x :: r,i+1,h=>by simp[AV.pureH.pureHL] at h;simpa using Zu r i h.2
theorem JpI{x:AV}(h:x.pureH d g=true):AV.pureH.pureHL d g x.cells=true:=by
 cases x<;>simp_all[AV.cells,AV.pureH,AV.pureH.pureHL]
theorem Jp9{c c':Ctx}(hw:c'.w=c.w)(hM:∀b,c'.M b→c.M b)(hg:g=c.gen d)(hk:c.kind d≠none)(hβ:c'.β H=c.β d):∀ {v:Value} {x:AV},Rep c v x→x.pureH d g=true→Rep c' v (x.renM d g H):=by
 intro v x h
 induction h with
 |any v=>exact fun _=>.any v
 |bool b=>exact fun _=>.bool b
 |int k n=>exact fun _=>.int k n
 |str s l h=>exact fun _=>.str s l h
 |agg cs as hl _ ih=>exact fun hp=>.agg cs _ (by rw[YI];exact hl) fun i=>by rw[ZR];exact ih i (Zu as i (by simpa[AV.pureH] using hp))
 |tup cs as hl _ ih=>exact fun hp=>.tup cs _ (by rw[YI];exact hl) fun i=>by rw[ZR];exact ih i (Zu as i (by simpa[AV.pureH] using hp))
 |slice0 clip a cap h=>exact fun _=>.slice0 clip a cap h
 |slice clip b off cap sz xs f h0 hs hMb hcap hclip hsz hcell _ ih =>
  intro hp
  have:=Rep.slice (c:=c') clip b off cap sz (AV.renM.renML d g H xs) f (JjN h0) hs (fun h=>hMb (hM _ h)) (by rw[YI];exact hcap) (by rw[YI];exact hclip)
   (fun x hx=>by
    rw[JeJ] at hx
    obtain⟨y,hy,rfl⟩:=List.mem_map.1 hx
    rw[JjO,YI];exact hsz y hy)
   (fun i j hi hj=>by rw[hw];exact hcell i j (by rwa [YI] at hi) hj)
   (fun i j=>by rw[ZR,JjO,ZR];exact ih i j (Zu _ _ (JpI (Zu xs i (by simpa[AV.pureH] using hp)))))
  rw[YI] at this
  exact this
 |ro b off cs f h0 hMb hcell _ ih =>
  intro hp
  exact .ro b off _ f (JjN h0) (fun h=>hMb (hM _ h)) (fun j hj=>by rw[hw];exact hcell j (by rwa [YI] at hj)) fun j=>by rw[ZR];exact ih j (Zu cs j (by simpa[AV.pureH] using hp))
 |nilp=>exact fun _=>.nilp
 |clo fn f1 c1 f2 c2 hf hcc _ _ i1 i2 =>
  intro hp
  simp only[AV.pureH,Bool.and_eq_true] at hp
  exact .clo fn f1 c1 _ _ (by rw[YI];exact hf) (by rw[YI];exact hcc) (fun i=>by rw[ZR];exact i1 i (Zu f2 i hp.1)) (fun i=>by rw[ZR];exact i2 i (Zu c2 i hp.2))
 |nilf=>exact fun _=>.nilf
 |nilm=>exact fun _=>.nilm
 |niface=>exact fun _=>.niface
 |iface t v x _ ih=>exact fun hp=>.iface t v _ (ih (by simpa[AV.pureH] using hp))
 |os _ _ _ v h1v _ _=>intro hp;simp[AV.pureH] at hp
 |ref _ _ _ v h1v _ _=>intro hp;simp[AV.pureH] at hp
 |eref _ _ _ _ v h1v _ _=>intro hp;simp[AV.pureH] at hp
 |ot _ _ _ _ v h1v _ _=>intro hp;simp[AV.pureH] at hp
 |mp b es cl ks vs hMb hb hkk hv _ _ i1 i2 =>
  intro hp
  simp only[AV.pureH,Bool.and_eq_true] at hp
  exact .mp b es cl _ _ (fun h=>hMb (hM _ h)) (by rw[hw];exact hb) (by rw[YI];exact hkk) (by rw[YI];exact hv) (fun i=>by rw[ZR];exact i1 i (Zu ks i hp.1)) (fun i=>by rw[ZR];exact i2 i (Zu vs i hp.2))
 |mref d' g' v h1v hg' h =>
  intro hp
  simp only[AV.pureH,Bool.and_eq_true,beq_iff_eq] at hp
  obtain⟨rfl,rfl⟩:=hp
  simp only[AV.renM,and_self,if_true]
  refine .mref H 0 v h1v (Nat.zero_le _) fun _ _=>?_
  rw[hβ];exact h hg hk
end
def Yh(args:List AV)(H:Nat)(ks vs:List AV)(n:Nat):TS :=
 {n,tmp:=fun t=>args.getD t .any,gen:=fun _=>0,obj:=fun d=>if d=H then .mp ks vs else .dead }
def JdH(E:Env)(H:Nat)(x:AV)(ks vs:List AV)(e:Ending)(w':World):Prop :=
 ∃v ts' G',e=.returned v∧Rel E ts' G' ⟨#[v],[]⟩ w'∧ts'.gen H=0∧ts'.obj H=.mp ks vs∧AV.pure.pureL ks=true∧AV.pure.pureL vs=true∧x.pure=true∧ts'.tmp 0=x
def CallH(P:Program)(f:FuncId)(H:Nat)(args ks vs:List AV)(x:AV)(ks' vs':List AV):Prop :=
 ∀(E:Env) (G:Ghost) (vals:Array Value) (w:World),E.w0=w→Rel E (Yh args H ks vs args.length) G ⟨vals,[]⟩ w→(∀j b,E.pin j=some b↔(j=H∧b=G.β H)) →
  match (callFunc f vals).run P w with
  | .ok (.enter f' args') w1=>Calls P f' args' w1 (JdH E H x ks' vs')
  |_=>False
def EndH(T:Tys P)(rs:List ResultVar)(H:Nat)(x:AV)(ks vs:List AV)(ts:TS):Prop :=
 optK0 (ts.result T rs) (fun y=>y=x)∧x.pure=true∧ts.gen H=0∧ts.obj H=.mp ks vs∧AV.pure.pureL ks=true∧AV.pure.pureL vs=true
where optK0 (r:Option AV) (K:AV→Prop):Prop:=∃a,r=some a∧K a
theorem JmV{E:Env}{G:Ghost}{args:List AV}{H:Nat}{ks vs:List AV}{vals:Array Value}{w:World}{n:Nat}(hn:args.length≤n)(h:Rel E (Yh args H ks vs args.length) G ⟨vals,[]⟩ w) :
  Rel E (Yh args H ks vs n) G ⟨vals++Array.replicate (n-vals.size) undef,[]⟩ w:=by
 have hs:vals.size=args.length:=h.size
 refine⟨by simp[Yh];omega,rfl,fun t=>?_,h.obj,h.sep,h.own,h.inF,h.bel,h.pin⟩
 have:=h.tmp t
 show Rep (Jb E G (Yh args H ks vs args.length) w) _ (args.getD t .any)
 by_cases ht:t<vals.size
 ·have e:(vals++Array.replicate (n-vals.size) undef).getD t undef=vals.getD t undef:=by
   simp only[Array.getD_eq_getD_getElem?,Array.getElem?_append_left ht]
  rw[e];exact this
 ·rw[Jbe (by omega)];exact .any _
theorem CallH.of_body{T:Tys P}{f:FuncId}{fn:Func}{c:Code}{H:Nat}{args ks vs:List AV}{x:AV}{ks' vs':List AV}(hcall:∀(vals:Array Value) (w:World),(callFunc f vals).run P w=.ok (.enter f vals) w)
  (hf:P.funcs[f]?=some fn) (hb:fn.body=some c) (hn:args.length≤fn.ntmps) (h:SpecC P c (Yh args H ks vs fn.ntmps) (fun ex ts=>(ex=.normal∨ex=.ret)∧EndH T fn.results.toList H x ks' vs' ts)):CallH P f H args ks vs x ks' vs':=by
 intro E G vals w hw hrel hpin
 rw[hcall]
 dsimp only
 refine calls_of_wp hf hb ?_
 refine wp_mono (h E G _ w (JmV hn hrel)) ?_
 rintro e a' w' ⟨ts',G',⟨hex,⟨y,h1,rfl⟩,hp,h2,h3,h4,h5⟩,hr'⟩
 obtain⟨v,hv,hrep⟩:=JgN hr' h1
 have hov:=hr'.over
 have hrep':Rep (Jb E G' (ts'.over E) w') v y:=Rep.mono_pure (JfW E G' ts' w').blk hrep hp
 have hpost:bodyPost P fn (JdH E H y ks' vs') e a' w':=by
  have key:a'.defers=[]∧∃v,(results fn a'.tmps).run P w'=.ok v w'∧JdH E H y ks' vs' (.returned v) w':=by
   refine⟨hr'.defers,v,hv,v,{ (ts'.over E) with n:=1,tmp:=fun t=>if t=0 then y else .any },G',rfl,?_,h2,?_,h4,h5,hp,by simp⟩
   ·refine⟨rfl,rfl,fun t=>?_,hov.obj,hov.sep,hov.own,hov.inF,hov.bel,hov.pin⟩
    show Rep (Jb E G' (ts'.over E) w') _ (if t=0 then y else .any)
    split
    ·rename_i e0;subst e0;exact hrep'
    ·exact .any _
   ·show(if(E.pin H).isSome && ts'.gen H == 0 then ts'.obj H else .dead)=_
    have:=(hpin H (G.β H)).2 ⟨rfl,rfl⟩
    simp[this,h2,h3]
  rcases hex with rfl|rfl<;>exact key
 exact hpost
theorem SpecO.callH{o:Oper}{ts:TS}{K:TS→Prop}{fop:Operand}{xs:Array Operand}{at_:Array TypeId}(ho:o.op=.call { callee:=.value fop,args:=xs,argTypes:=at_ })
  {f:FuncId} {caps:List AV} (hf:ts.ev fop=.clo (.func f) [] caps) {d g H:Nat} {ks vl ks' vl' args:List AV} (hargs:(xs.toList.map ts.ev)++caps=args) (hg:g=ts.gen d) (hob:ts.obj d=.mp ks vl)
  (hpure:AV.pure.pureL ks=true∧AV.pure.pureL vl=true) (hH:AV.pureH.pureHL d g args=true) {x:AV} (hcall:CallH P f H (AV.renM.renML d g H args) ks vl x ks' vl') (hk:Jd (ts.setObj d (.mp ks' vl')) o.dst x K):SpecO P o ts K:=by
 intro E G a w next Q hr hn
 have hvf:=hr.ev fop
 rw[hf] at hvf
 have hfv:∃c1:Array Value,a.eval fop=.func (.func f) #[] c1∧c1.size=caps.length∧∀i,Rep (Jb E G ts w) (c1.getD i undef) (caps.getD i .any):=by
  generalize a.eval fop=q at hvf
  cases hvf with
  |clo _ f1 c1 _ _ p0 p1 p2 p3 =>
   have:f1=#[]:=Array.eq_empty_of_size_eq_zero (by simpa using p0)
   subst this
   exact⟨c1,rfl,p1,p3⟩
 obtain⟨c1,hfe,hc1,hc1r⟩:=hfv
 let vals:Array Value:=xs.map a.eval++c1
 have hvlen:vals.toList.length=args.length:=by rw[←hargs];simp[vals,hc1]
 have hvrep:∀i,Rep (Jb E G ts w) (vals.toList.getD i undef) (args.getD i .any):=fun i=>by
  rw[←hargs]
  simp only[vals,Array.toList_append,Array.toList_map,List.getD_eq_getElem?_getD]
  by_cases hi:i<xs.size
  ·rw[List.getElem?_append_left (by simpa using hi),List.getElem?_append_left (by simpa using hi)]
   simp only[List.getElem?_map,Array.getElem?_toList]
   rw[Array.getElem?_eq_getElem hi]
   exact hr.ev _
  ·rw[List.getElem?_append_right (by simp;omega),List.getElem?_append_right (by simp;omega)]
   have:=hc1r (i-xs.size)
   simpa using this
 have hobk:=hr.obj d
 rw[hob] at hobk
 have hκd:G.κ d≠none:=hobk.1
 have hlive:Jj ts G d:=⟨by simp[hob,Ob.kind],hκd⟩
 let E':Env:={ w0:=w,X:=fun b=>b=G.β d,F:=fun b=>E.F b∨∃e,e≠d∧Jj ts G e∧G.β e=b,pin:=fun j=>if j=H then some (G.β d) else none }
 let G0:Ghost:=G.set H (G.β d) (G.κ d)
 let as:=AV.renM.renML d g H args
 have hG0:G0.β H=G.β d∧G0.κ H=G.κ d:=by simp[G0,Ghost.set]
 have hlive0:∀e,Jj (Yh as H ks vl as.length) G0 e↔e=H:=fun e=>by
  unfold Jj
  by_cases he:e=H
  ·subst he;rw[hG0.2];simp[Yh,Ob.kind,hκd]
  ·simp[Yh,he,Ob.kind]
 have hM:∀b,(Jb E' G0 (Yh as H ks vl as.length) w).M b→(Jb E G ts w).M b:=fun b hb=>by
  rcases hb with (hF|⟨e,_,hl,hb⟩)|⟨e,hl,hb⟩
  ·exact .inl hF
  ·exact .inr ⟨e,hl,hb⟩
  ·have:=(hlive0 e).1 hl
   subst this
   exact .inr ⟨d,hlive,by rw[←hG0.1];exact hb⟩
 have hrep0:∀i,Rep (Jb E' G0 (Yh as H ks vl as.length) w) (vals.getD i undef) (as.getD i .any):=fun i=>by
  have h1:=hvrep i
  have h2:=Jp9 (c:=Jb E G ts w) (c':=Jb E' G0 (Yh as H ks vl as.length) w) (H:=H) rfl hM hg (by simp[Jb,hob,Ob.kind]) hG0.1 h1 (Zu args i hH)
  show Rep _ _ ((AV.renM.renML d g H args).getD i .any)
  rw[ZR]
  simpa using h2
 have hmono:∀ {u y},Rep (Jb E G ts w) u y→y.pure=true→Rep (Jb E' G0 (Yh as H ks vl as.length) w) u y:=fun h hp=>Rep.mono_pure (c:=Jb E G ts w) (c':=Jb E' G0 (Yh as H ks vl as.length) w) (fun b hb _=>⟨rfl,fun h=>hb (hM _ h)⟩) h hp
 have hrel':Rel E' (Yh as H ks vl as.length) G0 ⟨vals,[]⟩ w:=by
  refine⟨?_,rfl,hrep0,fun e=>?_,fun e e' h1 h2 _=>?_,fun e h1=>?_,fun b hb=>?_,Bel.refl _ _,fun j b hj hgj=>?_⟩
  ·show vals.size=as.length
   rw[show as.length=args.length from YI args,←hvlen];simp
  ·show ObOk _ e (if e=H then _ else _)
   by_cases he:e=H
   ·subst he
    rw[if_pos rfl]
    obtain⟨_,es,cl,p1,p2,p3,p4,p5,p6⟩:=hobk
    exact⟨by rw[show(Jb E' G0 _ w).κ e=G.κ d from hG0.2];exact hκd,es,cl,by rw[show(Jb E' G0 _ w).β e=G.β d from hG0.1];exact p1,p2,p3,fun i=>hmono (p4 i) (JW ks i hpure.1),fun i=>hmono (p5 i) (JW vl i hpure.2),p6⟩
   ·rw[if_neg he];trivial
  ·rw[(hlive0 e).1 h1,(hlive0 e').1 h2]
  ·have:=(hlive0 e).1 h1
   subst this
   rw[hG0.1]
   refine⟨.inr rfl,?_,(hr.own d hlive).2.2⟩
   rintro(h2|⟨e',hne,hle,hb⟩)
   ·exact(hr.own d hlive).2.1 h2
   ·exact hne (hr.sep e' d hle hlive hb)
  ·rcases hb with h1|⟨e,_,hl,rfl⟩
   ·exact hr.inF b h1
   ·exact(hr.own e hl).2.2
  ·simp only[E'] at hj
   split at hj
   ·rename_i hc;cases hj;rw[hc,hG0.1]
   ·cases hj
 have hC:=hcall E' G0 vals w rfl hrel' fun j b=>by
  simp only[E']
  rw[hG0.1]
  constructor
  ·intro h;split at h
   ·rename_i hj;cases h;exact⟨hj,rfl⟩
   ·cases h
  ·rintro⟨rfl,rfl⟩;simp
 have fin:∀(v:Value) (w':World),JdH E' H x ks' vl' (.returned v) w'→next (a.put o.dst v) w':=by
  rintro v w' ⟨v',ts',G',hv',hrel,q1,q2,q3,q4,hxp,hx0⟩
  cases hv'
  have hpin:=hrel.pin H (G.β d) (by simp[E']) q1
  have hbel:=hrel.bel
  have hbut:But d ts G w w':=⟨hbel.os,hbel.tape,hbel.output,hbel.size,hbel.drawn,fun i hi hne=>hbel.block i hi fun hx=>hne hlive hx⟩
  have hv0':Rep (Jb E' G' ts' w') v (ts'.tmp 0):=by have:=hrel.tmp 0;simpa using this
  have hob0:=hrel.obj H
  rw[q2] at hob0
  have hliveH:Jj ts' G' H:=⟨by simp[q2,Ob.kind],hob0.1⟩
  have hkd:(Ob.mp ks' vl').kind=(ts.obj d).kind:=by rw[hob];rfl
  have hM2:∀b,(Jb E G (ts.setObj d (.mp ks' vl')) w').M b→(Jb E' G' ts' w').M b:=fun b hb=>by
   rcases hb with hF|⟨e,hl,hb⟩
   ·exact .inl (.inl hF)
   ·have hl':=(YR hkd e).1 hl
    by_cases he:e=d
    ·subst he;exact .inr ⟨H,hliveH,by rw[hpin];exact hb⟩
    ·exact .inl (.inr ⟨e,he,hl',hb⟩)
  have hmono2:∀ {u y},Rep (Jb E' G' ts' w') u y→y.pure=true→Rep (Jb E G (ts.setObj d (.mp ks' vl')) w') u y:=fun h hp=>Rep.mono_pure (c:=Jb E' G' ts' w') (c':=Jb E G (ts.setObj d (.mp ks' vl')) w') (fun b hb _=>⟨rfl,fun h=>hb (hM2 _ h)⟩) h hp
  have hr2:=Rel.turned (d:=d) hr hbut (.mp ks' vl') hkd (by
   obtain⟨_,es,cl,h1,h2,h3,h4,h5,h6⟩:=hob0
   refine⟨hκd,es,cl,?_,h2,h3,fun i=>hmono2 (h4 i) (JW ks' i q3),fun i=>hmono2 (h5 i) (JW vl' i q4),h6⟩
   show w'.heap[G.β d]?=_
   rw[←hpin];exact h1)
  rw[hx0] at hv0'
  have hxr:=hmono2 hv0' hxp
  simp only[Jd] at hk
  cases hd:o.dst with
  |none=>rw[hd] at hk;exact hn _ G _ w' hk hr2
  |some d'=>rw[hd] at hk;exact hn _ G _ w' hk.2 (hr2.put hk.1 hxr)
 have hexec:(execOp a.eval o).run P w=(callFunc f vals).run P w:=by
  simp[execOp,ho,resolve,hfe,Deferred.ofValue,invoke,vals]
 unfold Oper.wp
 rw[hexec]
 split at hC
 ·rename_i f' args' w1 heq
  rw[heq]
  show Calls P f' args' w1 _
  refine Calls.mono hC ?_
  rintro e w' ⟨v,ts',G',rfl,rest⟩
  exact fin v w' ⟨v,ts',G',rfl,rest⟩
 ·exact hC.elim
end Go.Proofs.YthjalhfmpffbjaaGreatDoor.Lg
namespace Go.Proofs.YthjalhfmpffbjaaGreatDoor.Lg
open Go
variable {P:Program}
def YE(T:Tys P)(t:Nat)(cs:List AV)(ts:TS)(dst:Option Nat)(K:TS→Prop):Prop :=
 match (T.ty t).k with
 | .unk=>False
 |k=>(if k.agg then (T.ty t).sz else 1)≤cs.length∧Jd ts dst (if k.agg then .agg (cs.take (T.ty t).sz) else cs.getD 0 .any) K
def Ji{α:Type}(x:Option α)(K:α→Prop):Prop :=
 match x with
 |some a=>K a
 |none=>False
theorem Jv{α:Type}{x:Option α}{K:α→Prop}(h:Ji x K):∃a,x=some a∧K a:=by
 cases x with
 |none=>exact h.elim
 |some a=>exact⟨a,rfl,h⟩
theorem Jjp{α:Type}{x:Option α}{K:α→Prop}:Ji x K=∃a,x=some a∧K a:=by
 cases x<;>simp[Ji]
def Jaq(x:AV)(K:Bool→Prop):Prop :=
 match x with
 | .bool b=>K b
 |_=>False
theorem JdU{x:AV}{K:Bool→Prop}(h:Jaq x K):∃b,x=.bool b∧K b:=by
 cases x<;>first|exact h.elim|exact⟨_,rfl,h⟩
def Y5(x:AV)(K:IntKind→Int→Prop):Prop :=
 match x with
 | .int k n=>K k n
 |_=>False
theorem Jaz{x:AV}{K:IntKind→Int→Prop}(h:Y5 x K):∃k n,x=.int k n∧K k n:=by
 cases x<;>first|exact h.elim|exact⟨_,_,rfl,h⟩
def JaD:TyK→AV→Bool
 | .slice _,.slice ..=>true
 | .slice _,.os ..=>true
 | .slice _,.ot ..=>true
 | .str,.str _=>true
 | .map ..,.nilm=>true
 |_,_=>false
def Jc3(T:Tys P)(t:Nat)(x:AV)(ts:TS)(dst:Option Nat)(K:TS→Prop):Prop :=
 JaD (T.ty t).k x=true∧Ji (ts.len x) fun n=>Jd ts dst (.int .i64 n) K
theorem SpecO.conseq{o:Oper}{ts:TS}{K K':TS→Prop}(h:SpecO P o ts K)(hk:∀ts',K ts'→∃ts'',K' ts''∧∀E G a w,Rel E ts' G a w→Rel E ts'' G a w):SpecO P o ts K':=by
 intro E G a w next Q hr hn
 refine h E G a w next Q hr fun ts' G' a' w' hK hr'=>?_
 obtain⟨ts'',h1,h2⟩:=hk ts' hK
 exact hn ts'' G' a' w' h1 (h2 _ _ _ _ hr')
theorem Rel.nrmArr{E:Env}{ts:TS}{G:Ghost}{a:Act}{w:World}(h:Rel E ts G a w){d sz:Nat}{xs ys:List AV}(ho:ts.obj d=.arr sz (xs++ys)):Rel E (ts.setObj d (.arr sz (xs++AV.nrm.nrmL ys))) G a w:=by
 have hkind:(fun e=>((ts.setObj d (.arr sz (xs++AV.nrm.nrmL ys))).obj e).kind)=fun e=>(ts.obj e).kind:=by
  funext e
  simp only[TS.setObj]
  by_cases he:e=d
  ·subst he;rw[Vc,ho];rfl
  ·rw[Vo _ _ he]
 have hlive:∀e,Jj (ts.setObj d (.arr sz (xs++AV.nrm.nrmL ys))) G e↔Jj ts G e:=fun e=>by
  unfold Jj
  rw[congrFun hkind e]
 have hctx:Jb E G (ts.setObj d (.arr sz (xs++AV.nrm.nrmL ys))) w=Jb E G ts w:=by
  unfold Jb
  have e1:(fun b=>E.F b∨∃e,Jj (ts.setObj d (.arr sz (xs++AV.nrm.nrmL ys))) G e∧G.β e=b)=fun b=>E.F b∨∃e,Jj ts G e∧G.β e=b:=by
   funext b
   simp only[hlive]
  rw[e1,hkind]
  rfl
 refine⟨h.size,h.defers,fun t=>by rw[hctx];exact h.tmp t,fun e=>?_,fun e e' h1 h2 h3=>h.sep e e' ((hlive e).1 h1) ((hlive e').1 h2) h3,fun e h1=>h.own e ((hlive e).1 h1),h.inF,h.bel,h.pin⟩
 rw[hctx]
 by_cases he:e=d
 ·subst he
  have:=h.obj e
  rw[ho] at this
  show ObOk _ e (Jp ts.obj e _ e)
  rw[Vc]
  obtain⟨h1,h2,h3⟩:=this
  refine⟨h1,fun x hx=>?_,?_⟩
  ·rcases List.mem_append.1 hx with hx|hx
   ·exact h2 x (List.mem_append_left _ hx)
   ·rw[Jci] at hx
    obtain⟨y,hy,rfl⟩:=List.mem_map.1 hx
    rw[Jes,Yb]
    exact h2 y (List.mem_append_right _ hy)
  ·revert h3
   cases (Jb E G ts w).κ e with
   |none =>
    intro h3
    simp only at h3 ⊢
    obtain⟨e1,e2⟩:=List.append_eq_nil_iff.1 h3
    rw[e1,e2];rfl
   |some cap =>
    intro h3
    simp only at h3 ⊢
    obtain⟨vs,T,g1,g2,g3,g4⟩:=h3
    refine⟨vs,T,g1,g2,by simpa[Yb] using g3,fun i j hi hj=>?_⟩
    have hi':i<(xs++ys).length:=by simpa[Yb] using hi
    have:=g4 i j hi' hj
    by_cases hx:i<xs.length
    ·have e1:(xs++AV.nrm.nrmL ys).getD i .any=(xs++ys).getD i .any:=by simp[List.getElem?_append,hx]
     rw[e1];exact this
    ·have e1:(xs++AV.nrm.nrmL ys).getD i .any=(AV.nrm.nrmL ys).getD (i-xs.length) .any:=by simp[List.getElem?_append,hx]
     have e2:(xs++ys).getD i .any=ys.getD (i-xs.length) .any:=by simp[List.getElem?_append,hx]
     rw[e2] at this
     rw[e1,Y6,Jes,Y6]
     exact this.nrm
 ·show ObOk _ e (Jp ts.obj d _ e)
  rw[Vo _ _ he]
  exact h.obj e
theorem SpecO.nrmNew{o:Oper}{ts ts2:TS}{K:TS→Prop}{d sz:Nat}{v:AV}{xs ys:List AV}(h:SpecO P o ts (fun ts3=>ts3=(ts2.new d (.arr sz (xs++ys))).put d v))(hk:K ((ts2.new d (.arr sz (xs++AV.nrm.nrmL ys))).put d v)):SpecO P o ts K:=by
 refine h.conseq fun ts' e=>⟨_,hk,fun E G a w hr=>?_⟩
 subst e
 have:=hr.nrmArr (d:=d) (sz:=sz) (xs:=xs) (ys:=ys) (by simp[TS.put,TS.new])
 have e:((ts2.new d (.arr sz (xs++ys))).put d v).setObj d (.arr sz (xs++AV.nrm.nrmL ys))=(ts2.new d (.arr sz (xs++AV.nrm.nrmL ys))).put d v:=by
  simp only[TS.setObj,TS.put,TS.new]
  congr 1
  funext u
  by_cases hu:u=d
  ·subst hu;simp
  ·simp[Jp,hu]
 rwa [e] at this
def Jan(T:Tys P)(t tx:Nat)(s x:AV)(ts:TS)(dst:Option Nat)(K:TS→Prop):Prop :=
 match (T.ty t).k,(T.ty tx).k,dst with
 | .slice e,.slice _,some d =>
  (T.ty e).k≠.unk∧0<(T.ty e).sz∧d<ts.n ∧
  Ji (ts.base s (T.ty e).sz) fun b=>Ji (ts.sl x) fun ys =>
   (∀y∈ys,y.cells.length=(T.ty e).sz)∧(∀y∈ys,y.cells.all AV.one=true)∧((b.2.length+ys.length)*(T.ty e).bytes≤140737488355328∧b.2.length+ys.length≤9223372036854775807) ∧
   K (((ts.unbase b.1).new d (.arr (T.ty e).sz (b.2++AV.nrm.nrmL ys))).put d (.os d (ts.gen d+1) (b.2.length+ys.length)))
 |_,_,_=>False
def Ob.arr?:Ob→Option (Nat×List AV)
 | .arr sz xs=>some (sz,xs)
 |_=>none
theorem ZD{o:Ob}{q:Nat×List AV}(h:o.arr?=some q):o=.arr q.1 q.2:=by
 cases o<;>simp[Ob.arr?] at h
 subst h;rfl
def Jc5(ts:TS)(hi mx:Option Operand)(u:Int)(n:Nat):Prop :=
 match mx with
 |none=>True
 |some m=>hi.isSome=true∧Ji (ts.optI (some m) 0) fun k=>u≤k∧k≤n
def sliceOtK(T:Tys P)(e d g len:Nat)(lo hi mx:Option Operand)(ts:TS)(dst:Option Nat)(K:TS→Prop):Prop :=
 g=ts.gen d∧Ji (ts.obj d).arr? fun q=>q.1=(T.ty e).sz∧Ji (ts.optI lo 0) fun l=>Ji (ts.optI hi len) fun u=>0≤l∧l≤u∧u≤q.2.length ∧
    Jc5 ts hi mx u q.2.length∧Jd ts dst (.ot d g l.toNat (u.toNat-l.toNat)) K
theorem sliceOtK.sound{T:Tys P}{o:Oper}{ts:TS}{K:TS→Prop}{t e:TypeId}{x:Operand}{lo hi mx:Option Operand}(ho:o.op=.slice t x lo hi mx)(ht:(T.ty t).k=.slice e)(he:(T.ty e).k≠.unk)
  {d g len:Nat} (hx:ts.ev x=.os d g len) (h:sliceOtK T e d g len lo hi mx ts o.dst K):SpecO P o ts K:=by
 obtain⟨hg,h⟩:=h
 obtain⟨⟨sz,xs⟩,hob,rfl,h⟩:=Jv h
 have hob:=ZD hob
 obtain⟨l,h1,h⟩:=Jv h
 obtain⟨u,h2,h3,h4,h5,h6,h7⟩:=Jv h
 refine SpecO.sliceOt ho ht he hx hg hob h1 h2 h3 h4 h5 (fun m hm=>?_) h7
 subst hm
 obtain⟨q1,q2⟩:=h6
 obtain⟨n,q3,q4⟩:=Jv q2
 exact⟨q1,n,q3,q4⟩
def Jdw(T:Tys P)(t:Nat)(x:AV)(lo hi mx:Option Operand)(ts:TS)(dst:Option Nat)(K:TS→Prop):Prop :=
 match (T.ty t).k,x with
 | .slice e,.slice clip xs =>
  (T.ty e).k≠.unk∧(∀x∈xs,x.cells.length=(T.ty e).sz)∧Ji (ts.optI lo 0) fun l=>Ji (ts.optI hi xs.length) fun u =>
   (match mx with
    |none=>0≤l∧l≤u∧u≤xs.length∧Jd ts dst (.slice (clip && (u == xs.length)) ((xs.take u.toNat).drop l.toNat)) K
    |some m=>hi.isSome=true∧Ji (ts.optI (some m) 0) fun m=>0≤l∧l≤u∧u≤m∧m≤xs.length∧Jd ts dst (.slice (m == u) ((xs.take u.toNat).drop l.toNat)) K)
 | .slice e,.os d g len =>
  (T.ty e).k≠.unk∧match lo,mx with
   |none,none=>ts.live d g=true∧Ji (ts.optI hi len) fun u=>0≤u∧u≤len∧Jd ts dst (.os d g u.toNat) K
   |_,_=>sliceOtK T e d g len lo hi mx ts dst K
 | .str,.str s =>
  mx.isNone=true∧Ji (ts.optI lo 0) fun l=>Ji (ts.optI hi s.length) fun u=>0≤l∧l≤u∧u≤s.length∧Jd ts dst (.str ((s.take u.toNat).drop l.toNat)) K
 | .array n e,.ro cs=>(lo.isNone && hi.isNone && mx.isNone)=true∧(T.ty e).k≠.unk∧(T.ty e).sz=1∧0<n∧n≤cs.length∧(cs.take n).all AV.one=true∧Jd ts dst (.slice true (cs.take n)) K
 |_,_=>False
def TS.frzAll(ts:TS):List AV→TS
 | []=>ts
 | .ref d _ 0 :: r=>(ts.frzBox d).frzAll r
 |_ :: r=>ts.frzAll r
theorem SpecO.frzAll{o:Oper}{K:TS→Prop}:∀(l:List AV) (ts:TS),SpecO P o (ts.frzAll l) K→SpecO P o ts K
 | [],_,h=>h
 |x :: r,ts,h=>by
  unfold TS.frzAll at h
  split at h
  ·rename_i heq;cases heq
  ·rename_i d g r' heq;cases heq;exact SpecO.frz d (SpecO.frzAll r _ h)
  ·rename_i y r' _ heq;cases heq;exact SpecO.frzAll r _ h
theorem TS.setObj_self{ts:TS}{d:Nat}{o:Ob}(h:ts.obj d=o):ts.setObj d o=ts:=by
 have e:Jp ts.obj d o=ts.obj:=by
  funext u
  by_cases hu:u=d
  ·subst hu;rw[Vc,h]
  ·rw[Vo _ _ hu]
 unfold TS.setObj
 rw[e]
def callX(m:Bool)(P:Program)(f:FuncId)(vs:List AV)(q:Option (List AV×List Nat))(dst:Option Nat)(ts:TS)(K:TS→Prop):Prop :=
 ((∃as lent r,q=some (as,lent)∧CallV P f (as.map Arg.v) (fun r' _=>r'=r)∧(lent=[]∨r.flat=true)∧afterK ts dst r K) ∨
  (∃d g cs rest as x,vs=.ref d g 0 :: rest∧g=ts.gen d∧ts.obj d=.box cs∧AV.pure.pureL cs=true∧ts.toArgs rest=some (as,[]) ∧
   CallV P f (.io cs :: as.map Arg.v) (fun r' io=>r'=.val x∧io 0=cs)∧Jd ts dst x K)) ∨
 (m=true∧((∃d g len sz zs rest as r,vs=.os d g len :: rest∧g=ts.gen d∧ts.obj d=.arr sz zs∧len≤zs.length∧AV.pure.pureL zs=true∧ts.toArgs rest=some (as,[]) ∧
   CallV P f (.own sz (zs.take len) :: as.map Arg.v) (fun r' _=>r'=r)∧afterK (ts.kill d) dst r K) ∨
  (∃d g cs cs' rest as x,vs=.ref d g 0 :: rest∧g=ts.gen d∧ts.obj d=.box cs∧AV.pure.pureL cs=true∧ts.toArgs rest=some (as,[]) ∧
   CallV P f (.io cs :: as.map Arg.v) (fun r' io=>r'=.val x∧io 0=cs')∧Jd (ts.setObj d (.box cs')) dst x K) ∨
  (∃d g fg sz zs zs',vs=[.os d g zs.length,.clo (.func fg) [] []]∧g=ts.gen d∧ts.obj d=.arr sz zs∧JdG P f fg sz zs zs'∧Jd (ts.setObj d (.arr sz zs')) dst (.tup []) K) ∨
  (∃as lent r,q=some (as,lent)∧CallV P f (as.map Arg.v) (fun r' _=>r'=r)∧afterK (ts.killL lent) dst r K) ∨
  (∃d g H ks vl ks' vl' x,g=ts.gen d∧ts.obj d=.mp ks vl∧(AV.pure.pureL ks=true∧AV.pure.pureL vl=true)∧AV.pureH.pureHL d g vs=true∧CallH P f H (AV.renM.renML d g H vs) ks vl x ks' vl'∧Jd (ts.setObj d (.mp ks' vl')) dst x K) ∨
  (AV.pure.pureL vs=true∧∃r,CallV P f (vs.map Arg.v) (fun r' _=>r'=r)∧afterK ts dst r K)))
def YB(m:Bool)(P:Program)(fv:AV)(args:List AV)(dst:Option Nat)(ts:TS)(K:TS→Prop):Prop :=
 match fv with
 | .clo (.func f) [] caps=>callX m P f (args++caps) (ts.toArgs (args++caps)) dst ts K
 |_=>False
def clearK(T:Tys P)(t:Nat)(x:AV)(ts:TS)(dst:Option Nat)(K:TS→Prop):Prop :=
 match (T.ty t).k,x with
 | .slice e,.ot d g off len=>(T.ty e).k≠.unk∧0<(T.ty e).sz∧g=ts.gen d∧dst=none∧(JR (T.ty e).k (T.ty e).zero).cells=(T.ty e).zero∧(T.ty e).zero.all AV.one=true ∧
  Ji (ts.obj d).arr? fun q=>q.1=(T.ty e).sz∧off+len≤q.2.length∧K (ts.setObj d (.arr q.1 (VU q.2 off len (JR (T.ty e).k (T.ty e).zero))))
 |_,_=>False
theorem clearK.sound{T:Tys P}{o:Oper}{ts:TS}{K:TS→Prop}{t:TypeId}{x:Operand}(ho:o.op=.call { callee:=.builtin .clear,args:=#[x],argTypes:=#[t] })(h:clearK T t (ts.ev x) ts o.dst K):SpecO P o ts K:=by
 unfold clearK at h
 split at h
 ·rename_i e d g off len he hx
  obtain⟨h1,h2,h3,h4,h5,h6,h7⟩:=h
  obtain⟨⟨sz,xs⟩,hob,rfl,h8,h9⟩:=Jv h7
  have hob:=ZD hob
  exact SpecO.clear ho he h1 h2 hx h3 hob h8 h4 h5 h6 h9
 ·exact h.elim
def appendInK(T:Tys P)(t tx:Nat)(s x:AV)(ts:TS)(dst:Option Nat)(K:TS→Prop):Prop :=
 match (T.ty t).k,(T.ty tx).k,s,dst with
 | .slice e,.slice _,.os d g len,some d'=>(T.ty e).k≠.unk∧0<(T.ty e).sz∧d' < ts.n∧g=ts.gen d ∧
  Ji (ts.obj d).arr? fun q=>q.1=(T.ty e).sz∧Ji (ts.sl x) fun ys=>(∀y∈ys,y.cells.length=(T.ty e).sz)∧(∀y∈ys,y.cells.all AV.one=true)∧len+ys.length≤q.2.length ∧
    K ((ts.setObj d (.arr q.1 (q.2.take len++ys++q.2.drop (len+ys.length)))).put d' (.os d g (len+ys.length)))
 |_,_,_,_=>False
theorem appendInK.sound{T:Tys P}{o:Oper}{ts:TS}{K:TS→Prop}{t tx:TypeId}{s x:Operand}(ho:o.op=.call { callee:=.builtin .append,args:=#[s,x],argTypes:=#[t,tx] })(h:appendInK T t tx (ts.ev s) (ts.ev x) ts o.dst K):SpecO P o ts K:=by
 unfold appendInK at h
 split at h
 ·rename_i e e' d g len d' he he' hs hd
  obtain⟨h1,h2,h3,h4,h5⟩:=h
  obtain⟨⟨sz,xs⟩,hob,rfl,h6⟩:=Jv h5
  have hob:=ZD hob
  obtain⟨ys,h7,h8,h9,h10,h11⟩:=Jv h6
  exact SpecO.appendIn ho he he' h1 h2 hs h4 hob h7 h8 h9 h10 hd h3 h11
 ·exact h.elim
def appendMakeK(T:Tys P)(t tx:Nat)(s:AV)(n:Int)(ts:TS)(dst:Option Nat)(K:TS→Prop):Prop :=
 match (T.ty t).k,(T.ty tx).k,s with
 | .slice e,.int _,.slice true []=>(T.ty e).k≠.unk∧0<(T.ty e).sz∧0<n∧n.toNat*(T.ty e).bytes≤140737488355328∧n.toNat≤9223372036854775807 ∧
   VY ts dst (T.ty e).sz (List.replicate n.toNat (.agg (List.replicate (T.ty e).sz .any))) K
 |_,_,_=>False
theorem appendMakeK.sound{T:Tys P}{o:Oper}{ts:TS}{K:TS→Prop}{t tx:TypeId}{s x:Operand}{k:IntKind}{n:Int}(ho:o.op=.call { callee:=.builtin .append,args:=#[s,x],argTypes:=#[t,tx] })(hx:ts.ev x=.int k n)(h:appendMakeK T t tx (ts.ev s) n ts o.dst K):SpecO P o ts K:=by
 unfold appendMakeK at h
 split at h
 ·rename_i e k' he he' hs
  obtain⟨h1,h2,h3,h4,h5,h6⟩:=h
  exact SpecO.appendMake ho he he' h1 h2 hs hx h3 h4 h5 h6
 ·exact h.elim
def Zi(T:Tys P)(t:Nat)(x:AV)(ts:TS)(dst:Option Nat)(K:TS→Prop):Prop :=
 match (T.ty t).k,x with
 | .slice _,.slice true xs=>Jd ts dst (.int .i64 xs.length) K
 |_,_=>False
def Jeo(ts:TS)(dst:Option Nat)(xs:List AV)(K:TS→Prop):Prop :=
 match dst with
 |some d=>d<ts.n∧K ((ts.new d .dead).put d (.slice false xs))
 |none=>False
theorem SpecO.frzNew{o:Oper}{ts:TS}{K:TS→Prop}{sz:Nat}{xs:List AV}(h:∀K',VY ts o.dst sz xs K'→SpecO P o ts K')(hk:Jeo ts o.dst xs K):SpecO P o ts K:=by
 cases hd:o.dst with
 |none=>rw[hd] at hk;exact hk.elim
 |some d =>
  rw[hd] at hk h
  refine(h (fun ts3=>ts3=(ts.new d (.arr sz xs)).put d (.os d (ts.gen d+1) xs.length)) ⟨hk.1,rfl⟩).conseq fun ts' e=>⟨_,hk.2,fun E G a w hr=>?_⟩
  subst e
  have hv:=hr.tmp d
  have ht:((ts.new d (.arr sz xs)).put d (.os d (ts.gen d+1) xs.length)).tmp d=.os d (ts.gen d+1) xs.length:=by simp[TS.put]
  rw[ht] at hv
  have hfr:=Rep.frozen hr hv (by simp[TS.put,TS.new]) (sz:=sz) (xs:=xs) (by simp[TS.put,TS.new]) (Nat.le_refl _)
  rw[List.take_length] at hfr
  have hr2:=(hr.kill d).reput hfr
  have e:(((ts.new d (.arr sz xs)).put d (.os d (ts.gen d+1) xs.length)).kill d).put d (.slice false xs)=(ts.new d .dead).put d (.slice false xs):=by
   simp only[TS.kill,TS.setObj,TS.put,TS.new]
   congr 1 <;>
   ·funext u
    by_cases hu:u=d
    ·subst hu;simp
    ·simp[Jp,hu]
  rwa [e] at hr2
def VS(T:Tys P)(t tx:Nat)(s x:AV)(ts:TS)(dst:Option Nat)(K:TS→Prop):Prop :=
 match x with
 | .int _ n=>appendMakeK T t tx s n ts dst K
 | .ot ..=>appendInK T t tx s x ts dst K
 |_=>Jan T t tx s x ts dst K
def minmaxK(b:Bool)(x y:AV)(ts:TS)(dst:Option Nat)(K:TS→Prop):Prop :=
 match x,y with
 | .int k n,.int _ m=>Jd ts dst (.int k (if b then max n m else min n m)) K
 |_,_=>False
theorem minmaxK.sound{o:Oper}{ts:TS}{K:TS→Prop}{b:Bool}{x y:Operand}{at_:Array TypeId}(ho:o.op=.call { callee:=.builtin (if b then .max else .min),args:=#[x,y],argTypes:=at_ })(h:minmaxK b (ts.ev x) (ts.ev y) ts o.dst K):SpecO P o ts K:=by
 unfold minmaxK at h
 split at h
 ·rename_i k n k' m hx hy
  refine SpecO.val h fun E G a w hr=>?_
  have hvx:=hr.ev x
  have hvy:=hr.ev y
  rw[hx] at hvx
  rw[hy] at hvy
  have ex:=Vh hvx
  have ey:=Vh hvy
  refine⟨.int k (if b then max n m else min n m),?_,.int _ _⟩
  cases b with
  |true =>
   have e1:(if m > n then m else n)=max n m:=by rw[Int.max_def];split<;>split<;>omega
   simp[execOp,ho,resolve,invoke,builtin,ex,ey,Builtin.max_,Builtin.max2,e1]
  |false =>
   have e1:(if m<n then m else n)=min n m:=by rw[Int.min_def];split<;>split<;>omega
   simp[execOp,ho,resolve,invoke,builtin,ex,ey,Builtin.min_,Builtin.min2,e1]
 ·exact h.elim
def max4K(x y z u:AV)(ts:TS)(dst:Option Nat)(K:TS→Prop):Prop :=
 match x,y,z,u with
 | .int k a,.int _ b,.int _ c,.int _ d=>Jd ts dst (.int k (max (max (max a b) c) d)) K
 |_,_,_,_=>False
theorem max4K.sound{o:Oper}{ts:TS}{K:TS→Prop}{x y z u:Operand}{at_:Array TypeId}(ho:o.op=.call { callee:=.builtin .max,args:=#[x,y,z,u],argTypes:=at_ })(h:max4K (ts.ev x) (ts.ev y) (ts.ev z) (ts.ev u) ts o.dst K):SpecO P o ts K:=by
 unfold max4K at h
 split at h
 ·rename_i k a k2 b k3 c k4 d hx hy hz hu
  refine SpecO.val h fun E G at2 w hr=>?_
  have hvx:=hr.ev x
  have hvy:=hr.ev y
  have hvz:=hr.ev z
  have hvu:=hr.ev u
  rw[hx] at hvx
  rw[hy] at hvy
  rw[hz] at hvz
  rw[hu] at hvu
  have ex:=Vh hvx
  have ey:=Vh hvy
  have ez:=Vh hvz
  have eu:=Vh hvu
  refine⟨.int k (max (max (max a b) c) d),?_,.int _ _⟩
  have e1:∀n m:Int,(if m > n then m else n)=max n m:=fun n m=>by rw[Int.max_def];split<;>split<;>omega
  simp[execOp,ho,resolve,invoke,builtin,ex,ey,ez,eu,Builtin.max_,Builtin.max2,e1]
 ·exact h.elim
def JdW(T:Tys P)(c:Call)(o:Oper)(ts:TS)(K:TS→Prop):Prop :=
 match c.callee with
 | .value f=>YB true P (ts.ev f) (c.args.toList.map ts.ev) o.dst ts K
 | .builtin b =>
  match b,c.args.toList,c.argTypes.toList with
  | .len,[x],[t]=>Jc3 T t (ts.ev x) ts o.dst K
  | .append,[s,x],[t,tx]=>VS T t tx (ts.ev s) (ts.ev x) ts o.dst K
  | .clear,[x],[t]=>clearK T t (ts.ev x) ts o.dst K
  | .cap,[x],[t]=>Zi T t (ts.ev x) ts o.dst K
  | .max,[x,y],_=>minmaxK true (ts.ev x) (ts.ev y) ts o.dst K
  | .max,[x,y,z,u],_=>max4K (ts.ev x) (ts.ev y) (ts.ev z) (ts.ev u) ts o.dst K
  | .min,[x,y],_=>minmaxK false (ts.ev x) (ts.ev y) ts o.dst K
  |_,_,_=>SpecO P o ts K
 |_=>SpecO P o ts K
def Zh(T:Tys P)(op:BinOp)(t:TypeId)(a b:AV)(ts:TS)(dst:Option Nat)(K:TS→Prop):Prop :=
 match (T.ty t).k with
 | .struct fs=>P.eqGuardType P.depth t=false∧P.stoodInHeld t=false∧Ji (eqS T fs op a b) fun r=>Jd ts dst (.bool r) K
 | .array n e=>P.eqGuardType P.depth t=false∧Ji (eqA T n e op a b) fun r=>Jd ts dst (.bool r) K
 | .bool=>Ji (eqB op a b) fun r=>Jd ts dst (.bool r) K
 |_=>Ji (JS op a b) fun r=>Jd ts dst r K
def Jcb(T:Tys P)(t:Nat)(x k:AV)(ok:Bool)(ts:TS)(dst:Option Nat)(K:TS→Prop):Prop :=
 match (T.ty t).k with
 | .map kt et=>(T.ty et).k≠.unk∧VM T kt∧J1 T kt k k=some true∧Ji (ts.mapOf x) fun q=>Ji (J3 T kt k q.1 0) fun r=>Jd ts dst (YS ok (JR (T.ty et).k (T.ty et).zero) q.2 r) K
 |_=>False
def Jcc(T:Tys P)(t:Nat)(m k x:AV)(ts:TS)(dst:Option Nat)(K:TS→Prop):Prop :=
 match (T.ty t).k,m with
 | .map kt _,.mref d g=>g=ts.gen d∧dst=none∧VM T kt∧J1 T kt k k=some true∧k.cells.length=(T.ty kt).sz∧Ji (ts.obj d).mp? fun q=>(∀y∈q.1,y.cells.length=(T.ty kt).sz) ∧
   Ji (J3 T kt k q.1 0) fun r=>K (ts.setObj d (.mp (J2 q.1 k r) (J2 q.2 x r)))
 |_,_=>False
def Tys.fzD(T:Tys P)(dst:Option Nat):Bool:=dst.elim false T.fz
def arrK(b:Bool)(ts:TS)(dst:Option Nat)(sz:Nat)(xs:List AV)(K:TS→Prop):Prop:=if b then Jeo ts dst xs K else VY ts dst sz xs K
def Jax(b:Bool)(ts:TS)(dst:Option Nat)(fn:Fn)(first caps:List Operand)(K:TS→Prop):Prop :=
 if b then Jd ts dst (.clo fn (first.map ts.ev) (caps.map ts.ev)) K
 else Jd (ts.frzAll (caps.map ts.ev)) dst (.clo fn (first.map (ts.frzAll (caps.map ts.ev)).ev) (caps.map (ts.frzAll (caps.map ts.ev)).ev)) K
def TS.there(ts:TS):AV→Bool
 | .ref d g _=>ts.live d g
 | .ro _=>true
 |_=>false
theorem SpecO.nilCheck{o:Oper}{ts:TS}{K:TS→Prop}{x:Operand}(ho:o.op=.nilCheck x)(hx:ts.there (ts.ev x)=true)(hk:Jd ts o.dst (ts.ev x) K):SpecO P o ts K :=
 SpecO.val hk fun E G a w hr=>by
  have hv:=hr.ev x
  refine⟨a.eval x,?_,hv⟩
  have:∃ad,a.eval x=.pointer (some ad):=by
   revert hx hv
   generalize a.eval x=q
   generalize ts.ev x=y
   intro hx hv
   cases y<;>simp[TS.there] at hx
   ·cases hv;exact⟨_,rfl⟩
   ·rename_i d g off
    simp only[TS.live,Bool.and_eq_true,beq_iff_eq] at hx
    cases hv with
    |ref _ _ _ _ h1 h2 h3=>exact⟨_,h3 hx.1 (by simp only[Jb];cases hh:ts.obj d<;>simp_all[Ob.kind])⟩
  obtain⟨ad,hq⟩:=this
  simp[execOp,ho,hq]
theorem SpecO.makeIface{T:Tys P}{o:Oper}{ts:TS}{K:TS→Prop}{t:TypeId}{x:Operand}(ho:o.op=.makeInterface t x)(ht:(T.ty t).k≠.unk)(ht2:(T.ty t).k≠.iface)(hk:Jd ts o.dst (.iface t (ts.ev x)) K):SpecO P o ts K :=
 SpecO.val hk fun E G a w hr=>by
  obtain⟨ti,_,_,_,_,d,h1,h2⟩:=Tys.get (T:=T) ht
  refine⟨.iface t (a.eval x),?_,.iface t _ _ (hr.ev x)⟩
  have hd:∀m,d≠.interface m:=fun m e=>by subst e;exact ht2 h2.symm
  simp only[execOp,ho,Instr.makeInterface,Sem.run_bind,run_underlying h1,Result.andThen_ok]
  cases d<;>simp_all
def Js(T:Tys P)(o:Oper)(ts:TS)(K:TS→Prop):Prop :=
 match o.op with
 | .move x|.assign x=>Jd ts o.dst (ts.ev x) K
 | .pick c x y=>Jaq (ts.ev c) fun b=>Jd ts o.dst (if b then ts.ev x else ts.ev y) K
 | .alloc t=>(T.ty t).k≠.unk∧ZK ts o.dst (T.ty t).zero K
 | .box _ x=>(ts.ev x).known=true∧ZK ts o.dst (ts.ev x).cells K
 | .build t parts =>
  match (T.ty t).k with
  | .struct fs=>(∀f∈fs,(T.ty f.2.1).k≠.unk)∧Ji (Zl (JaJ T fs) (T.ty t).zero (parts.toList.map fun p=>(p.1,ts.ev p.2))) fun cs=>Jd ts o.dst (.agg cs) K
  | .array _ e=>(T.ty e).k≠.unk∧(parts.toList.map fun p=>(p.1,ts.ev p.2))=[]∧Jd ts o.dst (.agg (T.ty t).zero) K
  |_=>False
 | .buildSlice t n parts =>
  match (T.ty t).k with
  | .slice e=>(T.ty e).k≠.unk∧0<(T.ty e).sz∧parts.toList.map (·.1)=List.range n∧n*(T.ty e).sz≤16777216 ∧
    (∀p∈parts.toList,(ts.ev p.2).known=true∧(ts.ev p.2).cells.length=(T.ty e).sz)∧arrK (T.fzD o.dst) ts o.dst (T.ty e).sz (parts.toList.map fun p=>ts.ev p.2) K
  |_=>False
 | .load t x=>Ji (ts.ptr (ts.ev x)) fun cs=>YE T t cs ts o.dst K
 | .store t p x=>(T.ty t).k≠.unk∧(ts.ev x).known=true∧(ts.ev x).cells.length=(T.ty t).sz∧(ts.ev x).cells.all AV.one=true ∧
   Ji (ts.poke (ts.ev p) (ts.ev x).cells) fun q=>(∀e,o.dst=some e→e<ts.n)∧K (Jab (ts.setObj q.1 q.2) o.dst .any)
 | .fieldAddr s x f =>
  match (T.ty s).k with
  | .struct fs=>Ji fs[f]? fun q=>(T.ty q.2.1).k≠.unk∧(T.ty q.2.1).sz≠0∧Ji (ts.shift (ts.ev x) q.1) fun y=>Jd ts o.dst y K
  |_=>False
 | .field s x f =>
  match (T.ty s).k,ts.ev x with
  | .struct fs,.agg cs=>Ji fs[f]? fun q=>YE T q.2.1 (cs.drop q.1) ts o.dst K
  |_,_=>False
 | .indexAddr t x i =>
  match (T.ty t).k with
  | .slice e=>(T.ty e).k≠.unk∧(T.ty e).sz≠0∧Y5 (ts.ev i) fun _ n=>Ji (ts.at (ts.ev x) (T.ty e).sz n) fun y=>Jd ts o.dst y K
  | .array n e=>(T.ty e).k≠.unk∧Y5 (ts.ev i) fun _ m=>0≤m∧m<n∧Ji (ts.shift (ts.ev x) (m.toNat*(T.ty e).sz)) fun y=>Jd ts o.dst y K
  |_=>False
 | .index t x i =>
  match (T.ty t).k,ts.ev x with
  | .str,.str s=>Y5 (ts.ev i) fun _ n=>0≤n∧n<s.length∧Jd ts o.dst (.int .u8 (s.getD n.toNat 0).toNat) K
  |_,_=>False
 | .slice t x lo hi mx=>Jdw T t (ts.ev x) lo hi mx ts o.dst K
 | .binOp op t x y _ =>
  match op,y with
  | .eql,.const (.slice none 0 0)=>match (T.ty t).k with
   | .slice _=>Ji (ts.sl (ts.ev x)) fun xs=>∀b:Bool,(b=true→xs=[])→Jd ts o.dst (.bool b) K
   |_=>False
  |_,_=>Zh T op t (ts.ev x) (ts.ev y) ts o.dst K
 | .unOp op _ x =>
  match op with
  | .not=>Jaq (ts.ev x) fun b=>Jd ts o.dst (.bool !b) K
  | .neg=>Y5 (ts.ev x) fun k n=>Jd ts o.dst (.int k (k.wrap (0-n))) K
  |_=>False
 | .extract x i=>match ts.ev x with
  | .tup vs=>i<vs.length∧Jd ts o.dst (vs.getD i .any) K
  |_=>False
 | .makeFunc fn first caps=>Jax (T.fzD o.dst) ts o.dst fn first.toList caps.toList K
 | .makeInterface t x=>(T.ty t).k≠.unk∧(T.ty t).k≠.iface∧Jd ts o.dst (.iface t (ts.ev x)) K
 | .nilCheck x=>ts.there (ts.ev x)=true∧Jd ts o.dst (ts.ev x) K
 | .range t x=>Jcr T t (ts.ev x) ts o.dst K
 | .next x true=>Jc7 (ts.ev x) ts o.dst K
 | .lookup t x k ok=>Jcb T t (ts.ev x) (ts.ev k) ok ts o.dst K
 | .mapUpdate t m k x=>Jcc T t (ts.ev m) (ts.ev k) (ts.ev x) ts o.dst K
 | .makeMap _ none=>Jce ts o.dst K
 | .mapEntry t m k=>entK T t (ts.ev m) (ts.ev k) ts o.dst K
 | .entryStore _ m s x=>entPutK (ts.ev m) (ts.ev s) (ts.ev x) ts o.dst K
 | .call c=>JdW T c o ts K
 |_=>SpecO P o ts K
theorem Z7(T:Tys P){o:Oper}{ts:TS}{K:TS→Prop}(h:Js T o ts K):SpecO P o ts K:=by
 unfold Js at h
 split at h
 ·rename_i x ho;exact SpecO.move (.inl ho) h
 ·rename_i x ho;exact SpecO.move (.inr ho) h
 ·rename_i c x y ho
  obtain⟨b,h1,h2⟩:=JdU h
  exact SpecO.pick ho h1 h2
 ·rename_i t ho;exact SpecO.alloc ho h.1 h.2
 ·rename_i t x ho;exact SpecO.box ho h.1 h.2
 ·rename_i t parts ho
  split at h
  ·rename_i fs hfs
   obtain⟨cs,h1,h2⟩:=Jv h.2
   exact SpecO.build ho hfs h.1 h1 h2
  ·rename_i hfs;exact SpecO.build0 ho hfs h.1 h.2.1 h.2.2
  ·exact h.elim
 ·rename_i t n parts ho
  split at h
  ·rename_i e he
   obtain⟨h1,h2,h3,h4,h5,h6⟩:=h
   unfold arrK at h6
   split at h6
   ·exact SpecO.frzNew (fun K' hk'=>SpecO.buildSlice ho he h1 h2 h3 h4 h5 hk') h6
   ·exact SpecO.buildSlice ho he h1 h2 h3 h4 h5 h6
  ·exact h.elim
 ·rename_i t x ho
  obtain⟨cs,h1,h2⟩:=Jv h
  unfold YE at h2
  split at h2
  ·exact h2.elim
  ·rename_i hne
   exact SpecO.load (T:=T) ho (by simpa using hne) h1 h2.1 h2.2
 ·rename_i t p x ho
  obtain⟨h1,h2,h3,h4,h5⟩:=h
  obtain⟨q,h6,h7,h8⟩:=Jv h5
  exact SpecO.store (T:=T) ho h1 h2 h3 h4 h6 h7 h8
 ·rename_i s x f ho
  split at h
  ·rename_i fs hfs
   obtain⟨q,h1,h2,h3,h4⟩:=Jv h
   obtain⟨y,h5,h6⟩:=Jv h4
   exact SpecO.fieldAddr ho hfs h1 h2 h3 h5 h6
  ·exact h.elim
 ·rename_i s x f ho
  split at h
  ·rename_i fs cs hfs hx
   obtain⟨q,h1,h2⟩:=Jv h
   unfold YE at h2
   split at h2
   ·exact h2.elim
   ·rename_i hne
    exact SpecO.field (T:=T) ho hfs h1 (by simpa using hne) hx h2.1 h2.2
  ·exact h.elim
 ·rename_i t x i ho
  split at h
  ·rename_i e he
   obtain⟨h1,h2,h3⟩:=h
   obtain⟨k,n,h4,h5⟩:=Jaz h3
   obtain⟨y,h6,h7⟩:=Jv h5
   exact SpecO.indexAddr ho he h1 h2 h4 h6 h7
  ·rename_i n e he
   obtain⟨h1,h3⟩:=h
   obtain⟨k,m,h4,q1,q2,h5⟩:=Jaz h3
   obtain⟨y,h6,h7⟩:=Jv h5
   exact SpecO.indexArr ho he h1 h4 q1 q2 h6 h7
  ·exact h.elim
 ·rename_i t x i ho
  split at h
  ·rename_i s ht hx
   obtain⟨k,n,h4,h5,h6,h7⟩:=Jaz h
   exact SpecO.indexStr ho ht hx h4 h5 h6 h7
  ·exact h.elim
 ·rename_i t x lo hi mx ho
  unfold Jdw at h
  split at h
  ·rename_i e clip xs he hx
   obtain⟨h1,h2,h3⟩:=h
   obtain⟨l,h4,h5⟩:=Jv h3
   obtain⟨u,h6,h7⟩:=Jv h5
   cases mx with
   |none=>obtain⟨q1,q2,q3,q4⟩:=h7;exact SpecO.sliceS ho he h1 hx h2 h4 h6 q1 q2 q3 q4
   |some m =>
    obtain⟨q0,h8⟩:=h7
    obtain⟨m',h9,q1,q2,q3,q4,q5⟩:=Jv h8
    cases hi with
    |none=>simp at q0
    |some hi=>exact SpecO.slice3 ho he h1 hx h2 h4 h6 h9 q1 q2 q3 q4 q5
  ·rename_i e d g len he hx
   obtain⟨h1,h2⟩:=h
   split at h2
   ·obtain⟨h3,h4⟩:=h2
    obtain⟨u,h6,h7,h8,h9⟩:=Jv h4
    exact SpecO.sliceO ho he h1 hx h3 rfl h6 h7 h8 h9
   ·exact sliceOtK.sound ho he h1 hx h2
  ·rename_i s he hx
   obtain⟨h1,h2⟩:=h
   obtain⟨l,h4,h5⟩:=Jv h2
   obtain⟨u,h6,q1,q2,q3,q4⟩:=Jv h5
   cases mx with
   |some m=>simp at h1
   |none=>exact SpecO.sliceStr ho he hx h4 h6 q1 q2 q3 q4
  ·rename_i n e cs he hx
   obtain⟨h0,h1,h2,h3,h4,h5,h6⟩:=h
   simp only[Bool.and_eq_true,Option.isNone_iff_eq_none] at h0
   obtain⟨⟨rfl,rfl⟩,rfl⟩:=h0
   exact SpecO.sliceArr ho he h1 h2 hx h3 h4 (fun y hy=>by have:=List.all_eq_true.1 h5 y hy;cases y<;>first|rfl|simp[AV.one] at this) h6
  ·exact h.elim
 ·rename_i op t x y u ho
  split at h
  ·split at h
   ·rename_i e he
    obtain⟨xs,h1,h2⟩:=Jv h
    exact SpecO.nilEq ho he h1 h2
   ·exact h.elim
  ·unfold Zh at h
   split at h
   ·rename_i fs hk
    obtain⟨hg,hs,h⟩:=h
    obtain⟨r,h1,h2⟩:=Jv h
    exact SpecO.eqS ho hk hg hs h1 h2
   ·rename_i n e hk
    obtain⟨hg,h⟩:=h
    obtain⟨r,h1,h2⟩:=Jv h
    exact SpecO.eqA ho hk hg h1 h2
   ·rename_i hk
    obtain⟨r,h1,h2⟩:=Jv h
    exact SpecO.eqB ho hk h1 h2
   ·obtain⟨r,h1,h2⟩:=Jv h
    exact SpecO.bin ho h1 h2
 ·rename_i op t x ho
  split at h
  ·obtain⟨b,h1,h2⟩:=JdU h;exact SpecO.not ho h1 h2
  ·obtain⟨k,n,h1,h2⟩:=Jaz h;exact SpecO.neg ho h1 h2
  ·exact h.elim
 ·rename_i x i ho
  split at h
  ·rename_i vs hx;exact SpecO.extract ho hx h.1 h.2
  ·exact h.elim
 ·rename_i fn first caps ho
  unfold Jax at h
  split at h
  ·exact SpecO.makeFunc ho h
  ·exact SpecO.frzAll _ _ (SpecO.makeFunc ho h)
 ·rename_i t x ho;exact SpecO.makeIface ho h.1 h.2.1 h.2.2
 ·rename_i x ho;exact SpecO.nilCheck ho h.1 h.2
 ·rename_i t x ho;exact SpecO.rangeStr ho h
 ·rename_i x ho;exact SpecO.nextStr ho h
 ·rename_i t x k ok ho
  unfold Jcb at h
  split at h
  ·rename_i kt et ht
   obtain⟨h1,h2,h3,h4⟩:=h
   obtain⟨q,h5,h6⟩:=Jv h4
   obtain⟨r,h7,h8⟩:=Jv h6
   exact SpecO.lookup ho ht h1 h2 h3 h5 h7 h8
  ·exact h.elim
 ·rename_i t m k x ho
  unfold Jcc at h
  split at h
  ·rename_i kt et d g ht hm
   obtain⟨h1,h2,h3,h4,h5,h6⟩:=h
   obtain⟨q,h7,h8,h9⟩:=Jv h6
   obtain⟨r,h10,h11⟩:=Jv h9
   exact SpecO.mapUpdate ho ht h3 h4 h5 hm h1 (Jcd h7) h8 h10 h2 h11
  ·exact h.elim
 ·rename_i t ho;exact SpecO.makeMap ho h
 ·rename_i t m k ho;exact entK.sound ho h
 ·rename_i t m s x ho;exact entPutK.sound ho h
 ·rename_i c ho
  obtain⟨callee,args,argTypes⟩:=c
  unfold JdW at h
  dsimp only at h
  split at h
  ·rename_i f
   unfold YB at h
   split at h
   ·rename_i f' caps hfe
    rcases h with (⟨as,lent,r,h1,h2,h3,h4⟩|⟨d,g,cs,rest,as,x,q1,q2,q3,q4,q5,q6,q7⟩)|⟨_,⟨d,g,len,sz,zs,rest,as,r,q1,q2,q3,q4,q5,q6,q7,q8⟩|⟨d,g,cs,cs',rest,as,x,q1,q2,q3,q4,q5,q6,q7⟩|⟨d,g,fg,sz,zs,zs',q1,q2,q3,q4,q5⟩|⟨as,lent,r,q1,q2,q3⟩|⟨d,g,H,ks,vl,ks',vl',x,q1,q2,q3,q4,q5,q6⟩|⟨q1,r,q2,q3⟩⟩
    ·exact SpecO.call ho hfe h1 h2 fun r' io e=>by subst e;exact .inl ⟨h3,h4⟩
    ·exact SpecO.callI ho hfe q1 q2 q3 q4 q5 q6 (by rw[TS.setObj_self q3];exact q7)
    ·exact SpecO.callM ho hfe q1 q2 q3 q4 q5 q6 q7 q8
    ·exact SpecO.callI ho hfe q1 q2 q3 q4 q5 q6 q7
    ·exact SpecO.callA ho hfe q1 q2 q3 q4 q5
    ·exact SpecO.call ho hfe q1 q2 fun r' io e=>by subst e;exact .inr q3
    ·exact SpecO.callH ho hfe rfl q1 q2 q3 q4 q5 q6
    ·exact SpecO.callRaw ho hfe rfl q1 q2 fun r' io e=>by subst e;exact q3
   ·exact h.elim
  ·rename_i b
   split at h
   ·rename_i x t ha hat
    have ea:args=#[x]:=by rw[←Array.toArray_toList (xs:=args),ha]
    have eat:argTypes=#[t]:=by rw[←Array.toArray_toList (xs:=argTypes),hat]
    subst ea eat
    obtain⟨h1,h2⟩:=h
    obtain⟨n,h3,h4⟩:=Jv h2
    refine SpecO.len (T:=T) ho ?_ h3 h4
    unfold JaD at h1
    exact h1
   ·rename_i s x t tx ha hat
    have ea:args=#[s,x]:=by rw[←Array.toArray_toList (xs:=args),ha]
    have eat:argTypes=#[t,tx]:=by rw[←Array.toArray_toList (xs:=argTypes),hat]
    subst ea eat
    unfold VS at h
    split at h
    ·rename_i k n hxe;exact appendMakeK.sound ho hxe h
    ·exact appendInK.sound ho h
    unfold Jan at h
    split at h
    ·rename_i e e' d he he' hd
     obtain⟨h1,h2,h3,h4⟩:=h
     obtain⟨b,h5,h6⟩:=Jv h4
     obtain⟨ys,h7,h8,h9,⟨h10,h10'⟩,h11⟩:=Jv h6
     exact SpecO.nrmNew (SpecO.append ho he he' h1 h2 h5 h7 h8 h9 h10 h10' hd h3 (K:=fun ts2=>ts2=_) rfl) (by rw[List.length_append];exact h11)
    ·exact h.elim
   ·rename_i x t ha hat
    have ea:args=#[x]:=by rw[←Array.toArray_toList (xs:=args),ha]
    have eat:argTypes=#[t]:=by rw[←Array.toArray_toList (xs:=argTypes),hat]
    subst ea eat
    exact clearK.sound ho h
   ·rename_i x t ha hat
    have ea:args=#[x]:=by rw[←Array.toArray_toList (xs:=args),ha]
    have eat:argTypes=#[t]:=by rw[←Array.toArray_toList (xs:=argTypes),hat]
    subst ea eat
    unfold Zi at h
    split at h
    ·rename_i e xs he hxe;exact SpecO.cap ho he hxe h
    ·exact h.elim
   ·rename_i x y ha
    have ea:args=#[x,y]:=by rw[←Array.toArray_toList (xs:=args),ha]
    subst ea
    exact minmaxK.sound (b:=true) ho h
   ·rename_i x y z u ha
    have ea:args=#[x,y,z,u]:=by rw[←Array.toArray_toList (xs:=args),ha]
    subst ea
    exact max4K.sound ho h
   ·rename_i x y ha
    have ea:args=#[x,y]:=by rw[←Array.toArray_toList (xs:=args),ha]
    subst ea
    exact minmaxK.sound (b:=false) ho h
   ·exact h
  ·exact h
 ·exact h
theorem SpecC.region_k{id:Nat}{ops:Array Oper}{ts:TS}{Q:Exit→TS→Prop}{l:List Oper}(hl:ops.toList=l)(h:SpecOs P ops (Q .normal) l ts):SpecC P (.region id ops false) ts Q :=
 SpecC.region (by rw[hl];exact h)
theorem SpecOs.step(T:Tys P){ops:Array Oper}{o:Oper}{l:List Oper}{ts:TS}{K:TS→Prop}(hg:o.guard=none)(h:∀K':TS→Prop,(∀ts',SpecOs P ops K l ts'→K' ts')→Js T o ts K'):SpecOs P ops K (o :: l) ts:=by
 unfold SpecOs SpecG
 rw[hg]
 exact Z7 T (h _ fun _ h=>h)
theorem SpecOs.guard(T:Tys P){ops:Array Oper}{o:Oper}{l:List Oper}{ts:TS}{K:TS→Prop}{j:Nat}{want:Bool}{b:Option Bool}(hg:o.guard=some (j,want))(hb:YC ops ts j=some b)
  (ht:b=some want→∀K':TS→Prop,(∀ts',SpecOs P ops K l ts'→K' ts')→Js T o ts K') (hf:b≠some want→(∀d,o.dst=some d→d<ts.n)∧SpecOs P ops K l (Jab ts o.dst (.tup []))):SpecOs P ops K (o :: l) ts:=by
 unfold SpecOs SpecG
 rw[hg]
 refine⟨b,hb,?_⟩
 by_cases e:b=some want
 ·rw[if_pos (by simp[e])];exact Z7 T (ht e _ fun _ h=>h)
 ·rw[if_neg (by simp[e])];exact hf e
end Go.Proofs.YthjalhfmpffbjaaGreatDoor.Lg
