/- Parts of the proof, one behind the other. -/
import Derived.OrdersIn
import Derived.RangeFuncCalls
import Derived.Test.YtmjkjmoeicnbnaaGreatDoorG23
namespace Go.Proofs.YtmjkjmoeicnbnaaGreatDoor.Lg
set_option maxRecDepth 100000
set_option linter.unusedVariables false
set_option linter.unusedSimpArgs false
open Go
structure Wide(F:Fence):Prop where
 fn:∀f,F.fn f
 dep:F.depth=none
 calls:∀ {n:Nat} {P:Program} {f:FuncId} {args:Array Value} {w:World} {R:Ending→World→Prop},CallsIn Fence.wide n P f args w R→CallsIn F n P f args w R
 steps:∀ {P:Program} {m m':Machine},Steps P m m'→StepsIn (Machine.fenced P F) P m m'
theorem Jae:Wide Fence.wide:=⟨fun _=>trivial,rfl,fun h=>h,fun h=>stepsIn_wide.2 h⟩
theorem JiD(l:Nat):Wide (Fence.wide.inRound l):=⟨fun _=>trivial,rfl,fun h=>CallsIn.inRound l h,fun h=>stepsIn_wide.2 h⟩
theorem Oper.wp_round{P:Program}{o:Oper}{a:Act}{w:World}{K:Act→World→Prop}{Q:Exit→Act→World→Prop}{F:Fence}(hF:Wide F)(n:Nat)(hd:∀c,o.op≠.defer c)(h:o.wp P a w K Q) :
  o.wpIn F n P a w K Q:=by
 refine⟨fun _ _=>hF.fn _,?_⟩
 rw[Oper.semAt_eq _ _ _ hd]
 unfold Oper.wp at h
 generalize (execOp a.eval o).run P w=r at *
 cases r with
 |ok x w' =>
  cases x<;>simp only[Oper.upon,Oper.uponIn] at h ⊢ <;>
   first
    |exact h
    |exact h.elim
    |exact⟨fun h=>(by rw[hF.dep] at h;cases h),hF.calls (callsIn_wide.2 h)⟩
    |exact⟨fun h=>(by rw[hF.dep] at h;cases h),fun c cs _=>let⟨v,w'',hr,hs⟩:=h c cs; ⟨v,w'',hr,hF.steps hs⟩⟩
 |halt x w'=>cases x<;>simp only[Oper.upon,Oper.uponIn] at h ⊢<;>exact h
def Y1(ops:Array Oper):Bool:=ops.toList.all fun o=>match o.op with|.defer _=>false|_=>true
theorem Jli{ops:Array Oper}(h:Y1 ops=true){i:Nat}{o:Oper}(ho:ops[i]?=some o):∀c,o.op≠.defer c:=by
 intro c hc
 have h2:=List.all_eq_true.1 h o (by
  obtain⟨hi,rfl⟩:=Array.getElem?_eq_some_iff.1 ho
  simp)
 rw[hc] at h2
 cases h2
theorem Jfu{P:Program}{ops:Array Oper}{Q:Exit→Act→World→Prop}{F:Fence}(hF:Wide F)(n:Nat)(hd:Y1 ops=true)(hl:¬LetsOut Q){i:Nat}{K:Act→World→Prop}{a:Act}{w:World}(h:wpOp P ops Q i K a w) :
  wpOpIn F n P ops Q i K a w:=by
 unfold wpOp at h
 unfold wpOpIn
 cases ho:ops[i]? with
 |none=>simp only[ho] at h ⊢;exact h
 |some o =>
  simp only[ho] at h ⊢
  by_cases hw:Region.wanted o (yielded ops a.tmps)=true
  ·simp only[hw,if_true] at h ⊢
   rcases h with h|h
   ·exact Oper.wp_round hF n (Jli hd ho) h
   ·exact absurd h.2 hl
  ·simp only[hw] at h ⊢
   exact⟨fun _ _=>hF.fn _,h⟩
theorem Jfv{P:Program}{ops:Array Oper}{Q:Exit→Act→World→Prop}{F:Fence}(hF:Wide F)(n:Nat)(hd:Y1 ops=true)(hl:¬LetsOut Q):∀(is:List Nat) (a:Act) (w:World),wpOps P ops Q is a w→wpOpsIn F n P ops Q is a w
 | [],_,_,h=>h
 |i :: is,a,w,h=>by
  rw[wpOps_cons] at h
  rw[wpOpsIn_cons]
  exact wpOpIn_mono (fun a w=>Jfv hF n hd hl is a w) (Jfu hF n hd hl h)
theorem Jfs{P:Program}{md:Region.Mode}{ops:Array Oper}{Q:Exit→Act→World→Prop}{F:Fence}(hF:Wide F)(n:Nat)(hd:Y1 ops=true)(hl:¬LetsOut Q):∀(fuel:Nat) (li:Array Bool) (a:Act) (w:World),
  wpAny P md ops Q fuel li a w→wpAnyIn F n P md ops Q fuel li a w
 |0,_,_,_,h=>h
 |fuel+1,li,a,w,h=>⟨h.1,fun i hi=>wpOpIn_mono (fun a w=>Jfs hF n hd hl fuel _ a w) (Jfu hF n hd hl (h.2 i hi))⟩
def SpecR(P:Program)(c:Code)(ts:TS)(K:TS→Prop):Prop :=
 ∀(E:Env) (G:Ghost) (a:Act) (w:World) (F:Fence) (n:Nat),Wide F→Rel E ts G a w →
  c.wpIn F n P (fun ex a' w'=>ex=.normal∧∃ts' G',K ts'∧Rel E ts' G' a' w') a w
theorem Jdl{R:Act→World→Prop}:¬LetsOut (fun ex a' w'=>ex=Exit.normal∧R a' w'):=fun⟨_,_,h,_⟩=>by cases h
theorem SpecR.regW{P:Program}(T:Tys P){id:Nat}{l:List Oper}{ts:TS}{Q:TS→Prop}(hd:Y1 (List.toArray l)=true)(h:∀K,NxK Q K→wOps T l l K ts):SpecR P (.region id (List.toArray l) false) ts Q:=by
 intro E G a w F n hF hr
 refine wpIn_region (Jfv hF n hd Jdl _ _ _ ?_)
 have hs:=SpecOs.sound (P:=P) (ops:=List.toArray l) l 0 (by simp) (wOps.sound (h _ ⟨fun _ h=>h⟩)) E G a w (fun ex a' w'=>ex=.normal∧∃ts' G',Q ts'∧Rel E ts' G' a' w') hr fun ts' G' a' w' hK hr'=>⟨rfl,ts',G',hK,hr'⟩
 simpa[List.range_eq_range'] using hs
theorem Jgg{P:Program}{ops:Array Oper}{ts:TS}{Q:TS→Prop}(m:Nat)(wr bads:List (List Nat))(hc:ZR ops m wr bads=true)
  (h:PreOk P ops wr bads (SpecOs P ops Q (ops.toList.drop m)) 0 (ops.toList.take m) ts):∀(E:Env) (G:Ghost) (a:Act) (w:World),Rel E ts G a w →
  wpAny P .any ops (fun ex a' w'=>ex=.normal∧∃ts' G',Q ts'∧Rel E ts' G' a' w') ops.size (Array.replicate ops.size false) a { w with drawn:=w.drawn+1 }:=by
 have hd:=Jgf hc
 obtain⟨Fs,g1,g2,g3⟩:=JeU hd.le (C:=SpecOs P ops Q (ops.toList.drop m)) m 0 ts (by omega) (by simpa using h)
 have hn:∀k,k≤m→(Fs k).n=(Fs 0).n:=by
  intro k
  induction k with
  |zero=>intro _;rfl
  |succ k ih=>intro hk;exact(g3 k (by have:=hd.le;omega) (Nat.zero_le _) (by omega)).1.trans (ih (by omega))
 intro E G a w hr
 have hlist:∀j,¬JS (Array.replicate ops.size false) j:=fun j=>by
  unfold JS
  by_cases h:j<ops.size<;>simp[h]
 refine Jgh hd (E:=E) (K:=Q) (Q:=fun ex a' w'=>ex=.normal∧∃ts' G',Q ts'∧Rel E ts' G' a' w') (fun ts' G' a' w' hK hr'=>⟨rfl,ts',G',hK,hr'⟩) hn
  (fun i hi t ht=>(g3 i (by have:=hd.le;omega) (Nat.zero_le _) hi).2.1 t ht) (fun i hi him ts1 hn1 hag=>?_) g2 ops.size _ ts G a { w with drawn:=w.drawn+1 } (by simp)
  (by unfold left;exact Nat.le_trans (List.length_filter_le _ _) (by simp)) (fun i _ hl=>absurd hl (hlist i)) (fun j _ _=>hlist j) ⟨by rw[g1],fun t k hk h1 h2=>?_⟩ hr.drew
 ·have:=(g3 i hi (Nat.zero_le _) him).2.2 ts1
  have he:Jn (bads.getD i []) ts1 (Fs i)=ts1:=by
   refine JcD (by show(Fs i).n=ts1.n;rw[hn i (by omega),hn1]) fun t=>?_
   cases hb:(bads.getD i []).contains t with
   |true=>exact Jdg hb
   |false=>exact(Y0 hb).trans (hag t hb).symm
  rw[he] at this
  exact this
 ·have hF:∀i,i<m→∀t,t ∉ wr.getD i []→SameSlot (Fs (i+1)) (Fs i) t:=fun i hi t ht=>(g3 i (by have:=hd.le;omega) (Nat.zero_le _) hi).2.1 t ht
  have:=JdM hF (t:=t) k 0 (by omega) fun j _ h4 hw=>hlist j (h1 j (by omega) hw)
  rw[Nat.zero_add,g1] at this
  exact this.symm
theorem SpecR.drawP{P:Program}(hmix:P.follows .mixedOrders=true)(id:Nat){ops:Array Oper}{ts:TS}{Q:TS→Prop}(m:Nat)(wr bads:List (List Nat))(hnd:Y1 ops=true)(hc:ZR ops m wr bads=true)
  (h:PreOk P ops wr bads (SpecOs P ops Q (ops.toList.drop m)) 0 (ops.toList.take m) ts):SpecR P (.region id ops true) ts Q:=fun E G a w F n hF hr =>
 wpIn_region_any hmix (Jfs hF n hnd Jdl _ _ _ _ (Jgg m wr bads hc h E G a w hr))
theorem SpecR.drawW{P:Program}(T:Tys P)(hmix:P.follows .mixedOrders=true)(q:List (List Nat×List Nat)){id:Nat}{l:List Oper}{ts:TS}{Q:TS→Prop}(hnd:Y1 (List.toArray l)=true)
  (hc:(ZR (List.toArray l) q.length (q.map (·.1)) (q.map (·.2)) && ZT l q l)=true) (h:∀K,NxK Q K→wDraw T l q l K ts):SpecR P (.region id (List.toArray l) true) ts Q:=by
 simp only[Bool.and_eq_true] at hc
 have hz:=JcJ q
 have:=wDraw.pre (wrs:=q.map (·.1)) (bads:=q.map (·.2)) q l 0 ts (by rw[hz];rfl) (by simp) hc.2 rfl (h _ ⟨fun _ h=>h⟩)
 exact SpecR.drawP hmix id q.length _ _ hnd hc.1 (by simpa using this)
theorem SpecR.block{P:Program}{id:Nat}{c:Code}{ts:TS}{Q:TS→Prop}(h:SpecR P c ts Q):SpecR P (.block id c) ts Q:=by
 intro E G a w F n hF hr
 refine wpIn_block (wpIn_mono (h E G a w F n hF hr) ?_)
 rintro e a' w' ⟨rfl,h⟩
 exact⟨rfl,h⟩
theorem SpecR.seq{P:Program}{x y:Code}{ts:TS}{Q:TS→Prop}(h:SpecR P x ts fun ts'=>SpecR P y ts' Q):SpecR P (.seq x y) ts Q:=by
 intro E G a w F n hF hr
 refine wpIn_seq (wpIn_mono (h E G a w F n hF hr) ?_)
 rintro e a' w' ⟨rfl,ts',G',h,hr'⟩
 exact h E G' a' w' F n hF hr'
def wD(a:Go.Act)(ds:List Deferred):Go.Act:={ a with defers:=ds }
theorem JdS(a:Go.Act)(ds:List Deferred)(d:Option Tmp)(v:Value):(wD a ds).put d v=wD (a.put d v) ds:=by cases d<;>rfl
theorem JlE(a:Go.Act)(d:Option Tmp)(v:Value):(a.put d v).defers=a.defers:=by cases d<;>rfl
theorem Oper.wp_lift{P:Program}{o:Oper}{a:Go.Act}{w:World}{N:Go.Act→World→Prop}{Q:Exit→Go.Act→World→Prop}(ds:List Deferred)(hN:∀a w,N a w→a.defers=[])(h:o.wp P a w N (fun _ _ _=>False)) :
  o.wp P (wD a ds) w (fun a' w'=>∃a1,N a1 w'∧a'=wD a1 ds) Q:=by
 unfold Oper.wp at h ⊢
 have he:(wD a ds).eval=a.eval:=rfl
 rw[he]
 generalize (execOp a.eval o).run P w=r at *
 cases r with
 |ok x w' =>
  cases x<;>simp only[Oper.upon] at h ⊢ <;>
   first
    |exact⟨_,h,JdS _ _ _ _⟩
    |exact h.elim
    | (have:=hN _ _ h;rw[JlE] at this;cases this)
    | (refine Calls.mono h ?_;intro e w'' he;cases e<;>first|exact⟨_,he,JdS _ _ _ _⟩|exact he.elim|(obtain⟨_,_,hf⟩:=he;exact hf.elim))
    | (refine Rows.mono h ?_;intro v w'' he;exact⟨_,he,JdS _ _ _ _⟩)
 |halt x w'=>cases x<;>simp only[Oper.upon] at h ⊢<;>exact h.elim
theorem SpecO.lift{P:Program}{o:Oper}{ts:TS}{K:TS→Prop}(h:SpecO P o ts K){E:Env}{G:Ghost}{a:Go.Act}{w:World}{Q:Exit→Go.Act→World→Prop}{next:Go.Act→World→Prop}(ds:List Deferred)(hr:Rel E ts G a w)
  (hn:∀ts' G' a' w',K ts'→Rel E ts' G' a' w'→next (wD a' ds) w'):o.wp P (wD a ds) w next Q:=by
 have h1:=h E G a w (fun a' w'=>∃ts' G',K ts'∧Rel E ts' G' a' w') (fun _ _ _=>False) hr fun ts' G' a' w' hK hr'=>⟨ts',G',hK,hr'⟩
 refine Oper.wp_mono ?_ (Oper.wp_lift ds (fun a w ⟨_,_,_,hr'⟩=>hr'.defers) h1)
 rintro _ w' ⟨a1,⟨ts',G',hK,hr'⟩,rfl⟩
 exact hn ts' G' a1 w' hK hr'
theorem SpecG.soundD{P:Program}{ops:Array Oper}{o:Oper}{ts:TS}{K:TS→Prop}(h:SpecG P ops o ts K){E:Env}{G:Ghost}{a:Go.Act}{w:World}{Q:Exit→Go.Act→World→Prop}{next:Go.Act→World→Prop}{i:Nat}(ds:List Deferred)
  (ho:ops[i]?=some o) (hr:Rel E ts G a w) (hn:∀ts' G' a' w',K ts'→Rel E ts' G' a' w'→next (wD a' ds) w'):wpOp P ops Q i next (wD a ds) w:=by
 unfold wpOp
 rw[ho]
 dsimp only
 unfold SpecG at h
 have ht:(wD a ds).tmps=a.tmps:=rfl
 rw[ht]
 split at h
 ·rename_i hg
  have:Region.wanted o (yielded ops a.tmps)=true:=by simp[Region.wanted,hg]
  rw[if_pos this]
  exact .inl (SpecO.lift h ds hr hn)
 ·rename_i j want hg
  obtain⟨b,hb,h⟩:=h
  have hy:=JiK hr hb
  have hw:Region.wanted o (yielded ops a.tmps)=(b == some want):=by
   simp only[Region.wanted,hg,hy]
  rw[hw]
  split at h
  ·rename_i e;rw[if_pos e];exact .inl (SpecO.lift h ds hr hn)
  ·rename_i e
   rw[if_neg e,JdS]
   exact hn _ G _ w h.2 (hr.put_undef o.dst h.1)
theorem SpecOs.soundD{P:Program}{ops:Array Oper}{K:TS→Prop}(ds:List Deferred):∀(l:List Oper) (i:Nat),ops.toList.drop i=l→∀ {ts:TS},SpecOs P ops K l ts→∀(E:Env) (G:Ghost) (a:Go.Act) (w:World) (Q:Exit→Go.Act→World→Prop),Rel E ts G a w →
  (∀ts' G' a' w',K ts'→Rel E ts' G' a' w'→Q .normal (wD a' ds) w')→wpOps P ops Q (List.range' i l.length) (wD a ds) w
 | [],i,_,ts,h=>fun E G a w Q hr hn=>by simp only[List.length_nil,List.range',wpOps];exact hn ts G a w h hr
 |o :: l,i,hd,ts,h=>fun E G a w Q hr hn=>by
  have ho:ops[i]?=some o:=by
   have:ops.toList[i]?=some o:=by rw[←Nat.add_zero i,←List.getElem?_drop,hd];rfl
   simpa using this
  have hd':ops.toList.drop (i+1)=l:=by rw[←List.drop_drop,hd];rfl
  simp only[List.length_cons,List.range'_succ]
  rw[wpOps_cons]
  exact SpecG.soundD h ds ho hr fun ts' G' a' w' hK hr'=>SpecOs.soundD ds l (i+1) hd' hK E G' a' w' Q hr' hn
theorem Jl0{P:Program}(T:Tys P){id:Nat}{l:List Oper}{ts:TS}{Q:TS→Prop}(ds:List Deferred)(h:∀K,NxK Q K→wOps T l l K ts){E:Env}{G:Ghost}{a:Go.Act}{w:World}(hr:Rel E ts G a w) :
  (Code.region id (List.toArray l) false).wp P (fun e a' w'=>e=.normal∧∃a1 ts' G',Q ts'∧Rel E ts' G' a1 w'∧a'=wD a1 ds) (wD a ds) w:=by
 refine wp_region ?_
 have hs:=SpecOs.soundD (P:=P) (ops:=List.toArray l) ds l 0 (by simp) (wOps.sound (h _ ⟨fun _ h=>h⟩)) E G a w (fun e a' w'=>e=.normal∧∃a1 ts' G',Q ts'∧Rel E ts' G' a1 w'∧a'=wD a1 ds) hr
  fun ts' G' a' w' hK hr'=>⟨rfl,a',ts',G',hK,hr',rfl⟩
 simpa[List.range_eq_range'] using hs
def Env.at(E:Env)(ts:TS)(G:Ghost)(w:World):Env:={ E with w0:=w,X:=fun b=>∃d,Jf ts G d∧G.β d=b }
theorem Rel.rebase{E:Env}{ts:TS}{G:Ghost}{a:Go.Act}{w:World}(h:Rel E ts G a w):Rel (E.at ts G w) ts G a w :=
 ⟨h.size,h.defers,h.tmp,h.obj,h.sep,fun d hd=>⟨.inr ⟨d,hd,rfl⟩,(h.own d hd).2⟩,h.inF,Bel.refl _ _,h.pin⟩
theorem Rel.unbase{E:Env}{ts ts':TS}{G G':Ghost}{a a':Go.Act}{w w':World}(h:Rel E ts G a w)(h':Rel (E.at ts G w) ts' G' a' w'):Rel E ts' G' a' w':=by
 have hb:=h'.bel
 refine⟨h'.size,h'.defers,h'.tmp,h'.obj,h'.sep,fun d hd=>?_,h'.inF,?_,h'.pin⟩
 ·obtain⟨p,q⟩:=h'.own d hd
  refine⟨?_,q⟩
  rcases p with p|⟨e,he,hx⟩
  ·exact .inl (Nat.le_trans h.bel.size p)
  ·rw[←hx];exact(h.own e he).1
 ·refine⟨hb.os.trans h.bel.os,hb.tape.trans h.bel.tape,hb.output.trans h.bel.output,Nat.le_trans h.bel.size hb.size,fun k hk hx=>?_,Nat.le_trans h.bel.drawn hb.drawn⟩
  refine(hb.block k (Nat.lt_of_lt_of_le hk h.bel.size) ?_).trans (h.bel.block k hk hx)
  rintro⟨d,hd,rfl⟩
  rcases(h.own d hd).1 with p|p
  ·exact absurd hk (by omega)
  ·exact hx p
theorem SpecC.framed{P:Program}{c:Code}{ts:TS}{Q:Exit→TS→Prop}(h:SpecC P c ts Q){E:Env}{G:Ghost}{a:Go.Act}{w:World}(hr:Rel E ts G a w) :
  c.wp P (fun ex a' w'=>∃ts' G',Q ex ts'∧Rel E ts' G' a' w'∧Bel (fun b=>∃d,Jf ts G d∧G.β d=b) w w') a w:=by
 refine wp_mono (h _ G a w hr.rebase) ?_
 rintro ex a' w' ⟨ts',G',hq,hr'⟩
 exact⟨ts',G',hq,hr.unbase hr',hr'.bel⟩
theorem SpecR.framed{P:Program}{c:Code}{ts:TS}{Q:TS→Prop}(h:SpecR P c ts Q){E:Env}{G:Ghost}{a:Go.Act}{w:World}{F:Fence}(hF:Wide F)(n:Nat)(hr:Rel E ts G a w) :
  c.wpIn F n P (fun ex a' w'=>ex=.normal∧∃ts' G',Q ts'∧Rel E ts' G' a' w'∧Bel (fun b=>∃d,Jf ts G d∧G.β d=b) w w') a w:=by
 refine wpIn_mono (h _ G a w F n hF hr.rebase) ?_
 rintro ex a' w' ⟨rfl,ts',G',hq,hr'⟩
 exact⟨rfl,ts',G',hq,hr.unbase hr',hr'.bel⟩
theorem Rel.foreign{E:Env}{ts:TS}{G:Ghost}{a:Go.Act}{w w':World}(h:Rel E ts G a w){C:Nat→Prop}(hC:∀b,C b→E.F b)(hb:Bel C w w')(hX:∀b,C b→b<E.w0.heap.size→E.X b):Rel E ts G a w':=by
 have hw:∀i,i<w.heap.size→¬E.F i→w'.heap[i]?=w.heap[i]?:=fun i hi hf=>hb.block i hi fun hc=>hf (hC i hc)
 have hle:(Jb E G ts w).Le (Jb E G ts w') :=
  {blk:=fun b' hMa hc=>⟨hw _ hc fun hf=>hMa (.inl hf),hMa⟩,gen:=fun _=>Nat.le_refl _,kind:=fun e k _ hk'=>⟨hk',rfl,rfl⟩ }
 refine⟨h.size,h.defers,fun t=>(h.tmp t).mono hle,fun d=>ObOk.mono hle rfl rfl (fun h1 h2=>hw _ (h.own d ⟨h1,h2⟩).2.2 (h.own d ⟨h1,h2⟩).2.1) (h.obj d),h.sep,fun d hd=>?_,fun b hb'=>Nat.lt_of_lt_of_le (h.inF b hb') hb.size,
  ⟨hb.os.trans h.bel.os,hb.tape.trans h.bel.tape,hb.output.trans h.bel.output,Nat.le_trans h.bel.size hb.size,fun k hk hx=>?_,Nat.le_trans h.bel.drawn hb.drawn⟩,h.pin⟩
 ·obtain⟨p,q,s⟩:=h.own d hd
  exact⟨p,q,Nat.lt_of_lt_of_le s hb.size⟩
 ·exact(hb.block k (Nat.lt_of_lt_of_le hk h.bel.size) fun hf=>hx (hX k hf hk)).trans (h.bel.block k hk hx)
theorem Rel.moreF{E:Env}{ts:TS}{G:Ghost}{a:Go.Act}{w w':World}(h:Rel E ts G a w)(hb:Bel (fun _=>False) w w')(F:Nat→Prop)(hF:∀b,F b→w.heap.size≤b∧b<w'.heap.size) :
  Rel { E with F:=fun b=>E.F b∨F b } ts G a w':=by
 have hw:∀i,i<w.heap.size→w'.heap[i]?=w.heap[i]?:=fun i hi=>hb.block i hi (fun f=>f)
 have hle:(Jb E G ts w).Le (Jb { E with F:=fun b=>E.F b∨F b } G ts w') :=
  {blk:=fun b' hMa hc=>⟨hw _ hc,by
    have hc':b' < w.heap.size:=hc
    rintro((hf|hf)|hl)
    ·exact hMa (.inl hf)
    ·have:=(hF _ hf).1;omega
    ·exact hMa (.inr hl)⟩,gen:=fun _=>Nat.le_refl _,kind:=fun e k _ hk'=>⟨hk',rfl,rfl⟩ }
 refine⟨h.size,h.defers,fun t=>(h.tmp t).mono hle,fun d=>ObOk.mono hle rfl rfl (fun h1 h2=>hw _ (h.own d ⟨h1,h2⟩).2.2) (h.obj d),h.sep,fun d hd=>?_,fun b hb'=>?_,
  h.bel.trans ⟨hb.os,hb.tape,hb.output,hb.size,fun k hk' _=>hw k hk',hb.drawn⟩,h.pin⟩
 ·obtain⟨p,q,s⟩:=h.own d hd
  refine⟨p,?_,Nat.lt_of_lt_of_le s hb.size⟩
  rintro(hf|hf)
  ·exact q hf
  ·have:=(hF _ hf).1;omega
 ·rcases hb' with hf|hf
  ·exact Nat.lt_of_lt_of_le (h.inF b hf) hb.size
  ·exact(hF _ hf).2
def Jar(E:Env)(ts:TS)(G:Ghost)(w:World):Env:={ w0:=w,X:=(Jb E G ts w).M,F:=(Jb E G ts w).M,pin:=fun _=>none }
theorem Jkr{E:Env}{ts:TS}{G:Ghost}{a:Go.Act}{w:World}(h:Rel E ts G a w)(l:Nat)(cv:Value)(c0:AV)(hc:Rep (Jb E G ts w) cv c0)(hp:c0.pure=true) :
  Rel (Jar E ts G w) (Jh [.v (.clo (.yield l) [] []),.v c0] 2) G ⟨#[.func (.yield l) #[] #[],cv],[]⟩ w:=by
 have hob:∀d,(Jh [.v (.clo (.yield l) [] []),.v c0] 2).obj d=.dead:=fun d=>by
  match d with
  |0=>rfl
  |1=>rfl
  |d+2=>simp[Jh]
 have hno:∀d,¬Jf (Jh [.v (.clo (.yield l) [] []),.v c0] 2) G d:=fun d hd=>hd.1 (by rw[hob];rfl)
 have hM:∀b,(Jb (Jar E ts G w) G (Jh [.v (.clo (.yield l) [] []),.v c0] 2) w).M b→(Jb E G ts w).M b:=by
  rintro b (hf|⟨d,hd,_⟩)
  ·exact hf
  ·exact absurd hd (hno d)
 have hr:Rep (Jb (Jar E ts G w) G (Jh [.v (.clo (.yield l) [] []),.v c0] 2) w) cv c0:=by
  refine Rep.mono_pure (c:=Jb E G ts w) (c':=Jb (Jar E ts G w) G (Jh [.v (.clo (.yield l) [] []),.v c0] 2) w) (fun b hMb hlt=>⟨rfl,?_⟩) hc hp
  intro hm
  exact hMb (hM b hm)
 refine⟨rfl,rfl,fun t=>?_,fun d=>by rw[hob];trivial,fun d d' h1 _ _=>absurd h1 (hno d),fun d h1=>absurd h1 (hno d),fun b hb=>?_,Bel.refl _ _,fun j b hj=>by simp[Jar] at hj⟩
 ·match t with
  |0=>exact .clo _ #[] #[] [] [] rfl rfl (fun i=>by simpa using .any _) (fun i=>by simpa using .any _)
  |1=>exact hr
  |t+2=>simp[Jh];exact .any _
 ·rcases hb with hf|⟨d,hd,rfl⟩
  ·exact h.inF b hf
  ·exact(h.own d hd).2.2
def KeepT(S:List Nat)(a a':Go.Act):Prop:=a'.tmps.size=a.tmps.size∧∀t∈S,a'.tmps.getD t undef=a.tmps.getD t undef
theorem KeepT.rfl'{S:List Nat}{a:Go.Act}:KeepT S a a:=⟨rfl,fun _ _=>rfl⟩
theorem KeepT.trans{S:List Nat}{a b c:Go.Act}(h:KeepT S a b)(k:KeepT S b c):KeepT S a c:=⟨k.1.trans h.1,fun t ht=>(k.2 t ht).trans (h.2 t ht)⟩
theorem KeepT.put{S:List Nat}{a:Go.Act}{d:Option Tmp}(hd:∀t,d=some t→t ∉ S)(v:Value):KeepT S a (a.put d v):=by
 cases d with
 |none=>exact KeepT.rfl'
 |some t =>
  refine⟨by simp[Go.Act.put],fun u hu=>?_⟩
  have hne:t≠u:=fun e=>hd t rfl (e▸hu)
  simp[Go.Act.put,Array.getElem?_setIfInBounds,hne]
def Z3(S:List Nat)(ops:Array Oper):Bool:=ops.toList.all fun o=>match o.dst with|some t=>!S.contains t|none=>true
theorem Jhb{S:List Nat}{ops:Array Oper}(h:Z3 S ops=true){i:Nat}{o:Oper}(ho:ops[i]?=some o):∀t,o.dst=some t→t ∉ S:=by
 intro t ht hS
 have h2:=List.all_eq_true.1 h o (by
  obtain⟨hi,rfl⟩:=Array.getElem?_eq_some_iff.1 ho
  simp)
 rw[ht] at h2
 simp at h2
 exact h2 hS
theorem Oper.wp_keep{P:Program}{o:Oper}{a0 a:Go.Act}{w:World}{N:Go.Act→World→Prop}{Q:Exit→Go.Act→World→Prop}{S:List Nat}(hd:∀t,o.dst=some t→t ∉ S)(hl:¬LetsOut Q)(h0:KeepT S a0 a)(h:o.wp P a w N Q) :
  o.wp P a w (fun a' w'=>N a' w'∧KeepT S a0 a') (fun e a' w'=>Q e a' w'∧KeepT S a0 a'):=by
 unfold Oper.wp at h ⊢
 generalize (execOp a.eval o).run P w=r at *
 cases r with
 |ok x w' =>
  cases x<;>simp only[Oper.upon] at h ⊢ <;>
   first
    |exact h.elim
    |exact⟨h,h0.trans (KeepT.put hd _)⟩
    |exact⟨h,h0.trans (KeepT.put (a:={ a with defers:=_ }) hd _)⟩
    | (refine Calls.mono h ?_;intro e w'' he;cases e<;>first|exact⟨he,h0.trans (KeepT.put hd _)⟩|exact⟨he,h0⟩|exact absurd he hl)
    | (refine Rows.mono h ?_;intro v w'' he;exact⟨he,h0.trans (KeepT.put hd _)⟩)
 |halt x w'=>cases x<;>simp only[Oper.upon] at h ⊢<;>first|exact⟨h,h0⟩|exact h
theorem Jft{P:Program}{ops:Array Oper}{Q:Exit→Go.Act→World→Prop}{S:List Nat}(hn:Z3 S ops=true)(hl:¬LetsOut Q){i:Nat}{K:Go.Act→World→Prop}{a0 a:Go.Act}{w:World}(h0:KeepT S a0 a)(h:wpOp P ops Q i K a w) :
  wpOp P ops (fun e a' w'=>Q e a' w'∧KeepT S a0 a') i (fun a' w'=>K a' w'∧KeepT S a0 a') a w:=by
 unfold wpOp at h ⊢
 cases ho:ops[i]? with
 |none=>simp only[ho] at h ⊢;exact⟨h,h0⟩
 |some o =>
  simp only[ho] at h ⊢
  by_cases hw:Region.wanted o (yielded ops a.tmps)=true
  ·simp only[hw,if_true] at h ⊢
   rcases h with h|h
   ·exact .inl (Oper.wp_keep (Jhb hn ho) hl h0 h)
   ·exact absurd h.2 hl
  ·simp only[hw] at h ⊢
   exact⟨h,h0.trans (KeepT.put (Jhb hn ho) _)⟩
theorem JiJ{P:Program}{ops:Array Oper}{Q:Exit→Go.Act→World→Prop}{S:List Nat}(hn:Z3 S ops=true)(hl:¬LetsOut Q){a0:Go.Act}:∀(is:List Nat) (a:Go.Act) (w:World),KeepT S a0 a→wpOps P ops Q is a w →
  wpOps P ops (fun e a' w'=>Q e a' w'∧KeepT S a0 a') is a w
 | [],_,_,h0,h=>⟨h,h0⟩
 |i :: is,a,w,h0,h=>by
  rw[wpOps_cons] at h ⊢
  exact wpOp_mono (fun a w ⟨h1,h2⟩=>JiJ hn hl is a w h2 h1) (Jft hn hl h0 h)
theorem JiI{P:Program}{md:Region.Mode}{ops:Array Oper}{Q:Exit→Go.Act→World→Prop}{S:List Nat}(hn:Z3 S ops=true)(hl:¬LetsOut Q){a0:Go.Act}:∀(fuel:Nat) (li:Array Bool) (a:Go.Act) (w:World),KeepT S a0 a →
  wpAny P md ops Q fuel li a w→wpAny P md ops (fun e a' w'=>Q e a' w'∧KeepT S a0 a') fuel li a w
 |0,_,_,_,h0,h=>⟨h.1,h.2,h0⟩
 |fuel+1,li,a,w,h0,h=>⟨fun e=>⟨h.1 e,h0⟩,fun i hi=>wpOp_mono (fun a w ⟨h1,h2⟩=>JiI hn hl fuel _ a w h2 h1) (Jft hn hl h0 (h.2 i hi))⟩
def SpecK(P:Program)(S:List Nat)(c:Code)(ts:TS)(K:TS→Prop):Prop :=
 ∀(E:Env) (G:Ghost) (a:Go.Act) (w:World) (F:Fence) (n:Nat),Wide F→Rel E ts G a w →
  c.wpIn F n P (fun ex a' w'=>(ex=.normal∧∃ts' G',K ts'∧Rel E ts' G' a' w')∧KeepT S a a') a w
theorem Jhc{R:Go.Act→World→Prop}{S:List Nat}{a:Go.Act}:¬LetsOut (fun ex a' w'=>(ex=Exit.normal∧R a' w')∧KeepT S a a'):=fun⟨_,_,⟨h,_⟩,_⟩=>by cases h
theorem SpecK.regW{P:Program}{S:List Nat}(T:Tys P){id:Nat}{l:List Oper}{ts:TS}{Q:TS→Prop}(hd:(Y1 (List.toArray l) && Z3 S (List.toArray l))=true)(h:∀K,NxK Q K→wOps T l l K ts):SpecK P S (.region id (List.toArray l) false) ts Q:=by
 intro E G a w F n hF hr
 simp only[Bool.and_eq_true] at hd
 refine wpIn_region (Jfv hF n hd.1 Jhc _ _ _ (JiJ hd.2 Jdl _ _ _ KeepT.rfl' ?_))
 have hs:=SpecOs.sound (P:=P) (ops:=List.toArray l) l 0 (by simp) (wOps.sound (h _ ⟨fun _ h=>h⟩)) E G a w (fun ex a' w'=>ex=.normal∧∃ts' G',Q ts'∧Rel E ts' G' a' w') hr fun ts' G' a' w' hK hr'=>⟨rfl,ts',G',hK,hr'⟩
 simpa[List.range_eq_range'] using hs
theorem SpecK.drawW{P:Program}{S:List Nat}(T:Tys P)(hmix:P.follows .mixedOrders=true)(q:List (List Nat×List Nat)){id:Nat}{l:List Oper}{ts:TS}{Q:TS→Prop}(hnd:(Y1 (List.toArray l) && Z3 S (List.toArray l))=true)
  (hc:(ZR (List.toArray l) q.length (q.map (·.1)) (q.map (·.2)) && ZT l q l)=true) (h:∀K,NxK Q K→wDraw T l q l K ts):SpecK P S (.region id (List.toArray l) true) ts Q:=by
 simp only[Bool.and_eq_true] at hc hnd
 have hz:=JcJ q
 have:=wDraw.pre (wrs:=q.map (·.1)) (bads:=q.map (·.2)) q l 0 ts (by rw[hz];rfl) (by simp) hc.2 rfl (h _ ⟨fun _ h=>h⟩)
 intro E G a w F n hF hr
 exact wpIn_region_any hmix (Jfs hF n hnd.1 Jhc _ _ _ _ (JiI hnd.2 Jdl _ _ _ _ KeepT.rfl' (Jgg q.length _ _ hc.1 (by simpa using this) E G a w hr)))
theorem SpecK.block{P:Program}{S:List Nat}{id:Nat}{c:Code}{ts:TS}{Q:TS→Prop}(h:SpecK P S c ts Q):SpecK P S (.block id c) ts Q:=by
 intro E G a w F n hF hr
 refine wpIn_block (wpIn_mono (h E G a w F n hF hr) ?_)
 rintro e a' w' ⟨⟨rfl,h⟩,hk⟩
 exact⟨⟨rfl,h⟩,hk⟩
theorem SpecK.framed{P:Program}{S:List Nat}{c:Code}{ts:TS}{Q:TS→Prop}(h:SpecK P S c ts Q){E:Env}{G:Ghost}{a:Go.Act}{w:World}{F:Fence}(hF:Wide F)(n:Nat)(hr:Rel E ts G a w) :
  c.wpIn F n P (fun ex a' w'=>ex=.normal∧KeepT S a a'∧∃ts' G',Q ts'∧Rel E ts' G' a' w'∧Bel (fun b=>∃d,Jf ts G d∧G.β d=b) w w'∧∀d,Jf ts' G' d→w.heap.size≤G'.β d∨∃e,Jf ts G e∧G.β e=G'.β d) a w:=by
 refine wpIn_mono (h _ G a w F n hF hr.rebase) ?_
 rintro ex a' w' ⟨⟨rfl,ts',G',hq,hr'⟩,hk⟩
 exact⟨rfl,hk,ts',G',hq,hr.unbase hr',hr'.bel,fun d hd=>(hr'.own d hd).1⟩
theorem Rel.lessF{E:Env}{F:Nat→Prop}{ts:TS}{G:Ghost}{a:Go.Act}{w:World}(h:Rel { E with F:=F } ts G a w)(hF:∀b,E.F b→F b):Rel E ts G a w:=by
 have hle:(Jb { E with F:=F } G ts w).Le (Jb E G ts w) :=
  {blk:=fun b' hMa hc=>⟨rfl,by
    rintro(hf|hl)
    ·exact hMa (.inl (hF _ hf))
    ·exact hMa (.inr hl)⟩,gen:=fun _=>Nat.le_refl _,kind:=fun e k _ hk'=>⟨hk',rfl,rfl⟩ }
 exact⟨h.size,h.defers,fun t=>(h.tmp t).mono hle,fun d=>ObOk.mono hle rfl rfl (fun _ _=>rfl) (h.obj d),h.sep,fun d hd=>⟨(h.own d hd).1,fun hf=>(h.own d hd).2.1 (hF _ hf),(h.own d hd).2.2⟩,fun b hb=>h.inF b (hF b hb),h.bel,h.pin⟩
theorem Bel.putObj{w:World}{D:Nat}{o:Obj}:Bel (fun b=>b=D) w (w.putObj D o) :=
 ⟨rfl,rfl,rfl,by rw[World.putObj_size];exact Nat.le_refl _,fun k _ hx=>World.putObj_heap_other hx,Nat.le_refl _⟩
theorem CallR.of_marks{P:Program}{T:Tys P}{f:FuncId}{fn:Func}{c:Code}{args:List AV}{z:AV}(hcall:∀(vals:Array Value) (w:World),(callFunc f vals).run P w=.ok (.enter f vals) w)
  (hf:P.funcs[f]?=some fn) (hb:fn.body=some c) (hn:args.length≤fn.ntmps)
  (h:∀(E:Env) (G:Ghost) (a:Go.Act) (w:World),E.w0=w→(∀j,E.pin j=none)→Rel E (Jh (args.map Arg.v) fn.ntmps) G a w→c.wpIn Fence.wide 3 P (fun ex a' w'=>ex=.ret∧∃(D:Nat) (F:Nat→Prop) (ts':TS) (G':Ghost) (a1:Go.Act),a'=wD a1 [{ target:=.collected D,args:=#[] }] ∧
   w'.heap[D]?=some (.deferred (some []))∧Rel { E with F:=F } ts' G' a1 w'∧(∀b,E.F b→F b)∧F D∧w.heap.size≤D∧V0 T fn.results.toList (.val z) ts') a w):CallR P f args (.val z):=by
 unfold CallR
 refine CallV.fit (fun j cs h=>by simp only[List.getElem?_map] at h;cases hh:args[j]?<;>rw[hh] at h<;>simp at h) ?_
 intro E G vals w hw hrel hpin
 rw[hcall]
 dsimp only
 have hs:vals.size=(args.map Arg.v).length:=hrel.size
 have hpn:∀j b,E.pin j=some b→False:=fun j b hj=>by
  obtain⟨cs,hcs⟩:=(hpin j).2 ⟨b,hj⟩
  simp only[List.getElem?_map] at hcs
  cases hh:args[j]?<;>rw[hh] at hcs<;>simp at hcs
 have hpn0:∀j,E.pin j=none:=fun j=>by
  cases hj:E.pin j with
  |none=>rfl
  |some b=>exact(hpn j b hj).elim
 refine callsIn_wide.1 (callsIn_of_wp_marks (n:=3) hf hb trivial (wpIn_mono (h E G _ w hw hpn0 (JbX (by simpa using hn) hrel)) ?_))
 rintro ex a' w' ⟨rfl,D,F,ts',G',a1,rfl,hD,hr1,hFF,hFD,hDw,hx⟩
 refine⟨by simp,.inl ⟨D,_,rfl,run_takeDeferred hD,?_⟩⟩
 have hr2:Rel { E with F:=F } ts' G' a1 (w'.putObj D (.deferred none)):=hr1.foreign (C:=fun b=>b=D) (fun b hb=>by rw[hb];exact hFD) Bel.putObj (fun b hb hlt=>by rw[hb] at hlt;rw[show({ E with F:=F }:Env).w0=w from hw] at hlt;omega)
 have hr':Rel E ts' G' a1 (w'.putObj D (.deferred none)):=hr2.lessF hFF
 obtain⟨x,h1,h4⟩:=Jt hx
 obtain⟨y,h2,h6⟩:=Jt h4
 obtain⟨v,hv,hrep⟩:=Jcz hr' h1
 have hrep':=Rep.res hr' (fun j b hj _=>(hpn j b hj).elim) hrep h2
 have hov:=hr'.over
 refine⟨v,hv,v,.val y,fun _=>[],{ (ts'.over E) with n:=1,tmp:=fun t=>if t=0 then y else .any },G',rfl,.inl ?_,?_,fun j b hj=>(hpn j b hj).elim,JdD ts' x y h2,by simp⟩
 ·show Ret.val y.nrm=_;rw[h6]
 ·refine⟨rfl,rfl,fun t=>?_,hov.obj,hov.sep,hov.own,hov.inF,hov.bel,hov.pin⟩
  show Rep (Jb E G' (ts'.over E) _) _ (if t=0 then y else .any)
  split
  ·rename_i e0;subst e0;exact hrep'
  ·exact .any _
def TS.only(ts:TS)(S L:List Nat):TS:={ ts with tmp:=fun t=>if S.contains t then ts.tmp t else .any,obj:=fun d=>if L.contains d then ts.obj d else .dead }
theorem Jdf{ts:TS}{S L:List Nat}{G:Ghost}{d:Nat}(h:Jf (ts.only S L) G d):L.contains d=true∧Jf ts G d:=by
 unfold Jf TS.only at h
 dsimp only at h
 split at h
 ·rename_i hd;exact⟨hd,h⟩
 ·exact absurd rfl h.1
theorem Rel.only{E:Env}{ts:TS}{G:Ghost}{a a':Go.Act}{w:World}(h:Rel E ts G a' w)(S L:List Nat)(hk:KeepT S a a')(hd:a.defers=[]):Rel E (ts.only S L) G a w:=by
 have hle:(Jb E G ts w).Le (Jb E G (ts.only S L) w) :=
  {blk:=fun b' hMa hc=>⟨rfl,by
    rintro(hf|⟨d,hl,hb⟩)
    ·exact hMa (.inl hf)
    ·exact hMa (.inr ⟨d,(Jdf hl).2,hb⟩)⟩
   gen:=fun _=>Nat.le_refl _
   kind:=fun e k _ hk'=>(by
    refine⟨?_,rfl,rfl⟩
    simp only[Jb,TS.only] at hk' ⊢
    split at hk'
    ·exact hk'
    ·cases hk') }
 refine⟨hk.1.symm.trans h.size,hd,fun t=>?_,fun d=>?_,fun d d' h1 h2 h3=>h.sep d d' (Jdf h1).2 (Jdf h2).2 h3,fun d h1=>h.own d (Jdf h1).2,h.inF,h.bel,h.pin⟩
 ·show Rep _ _ (if S.contains t then ts.tmp t else .any)
  split
  ·rename_i ht
   rw[←hk.2 t (List.contains_iff_mem.1 ht)]
   exact(h.tmp t).mono hle
  ·exact .any _
 ·show ObOk _ d (if L.contains d then ts.obj d else .dead)
  split
  ·exact ObOk.mono hle rfl rfl (fun _ _=>rfl) (h.obj d)
  ·trivial
def TS.puts(ts:TS):List Nat→List AV→TS
 |p :: ps,x :: xs=>(ts.put p x).puts ps xs
 |_,_=>ts
theorem Rel.puts{E:Env}{G:Ghost}{w:World}:∀(ps:List Nat) (xs:List AV) (vs:List Value) {ts:TS} {a:Go.Act},Rel E ts G a w→vs.length=xs.length→(∀p∈ps,p<ts.n)→(∀i,Rep (Jb E G ts w) (vs.getD i undef) (xs.getD i .any)) →
  Rel E (ts.puts ps xs) G { a with tmps:=(ps.zip vs).foldl (fun t (p,v)=>t.setIfInBounds p v) a.tmps } w
 | [],xs,vs,ts,a,h,_,_,_=>by simpa[TS.puts] using h
 |p :: ps,[],[],ts,a,h,_,_,_=>by simpa[TS.puts] using h
 |p :: ps,x :: xs,v :: vs,ts,a,h,hl,hp,hr=>by
  have h1:Rel E (ts.put p x) G (a.put (some p) v) w:=h.put (hp p (List.mem_cons_self ..)) (by simpa using hr 0)
  have hr':∀i,Rep (Jb E G (ts.put p x) w) (vs.getD i undef) (xs.getD i .any):=fun i=>by
   have:=hr (i+1)
   simp only[List.getD_cons_succ] at this
   exact this
  have:=Rel.puts ps xs vs (ts:=ts.put p x) (a:=a.put (some p) v) h1 (by simpa using hl) (fun q hq=>hp q (List.mem_cons_of_mem _ hq)) hr'
  simpa[TS.puts,Go.Act.put] using this
theorem TS.puts_obj:∀(ps:List Nat) (xs:List AV) (ts:TS),(ts.puts ps xs).obj=ts.obj
 | [],_,_=>by simp[TS.puts]
 |_ :: _,[],_=>by simp[TS.puts]
 |p :: ps,x :: xs,ts=>by rw[TS.puts,TS.puts_obj ps xs];rfl
theorem KeepT.puts{S:List Nat}:∀(ps:List Nat) (vs:List Value) (a:Go.Act),(∀q∈ps,q ∉ S)→KeepT S a { a with tmps:=(ps.zip vs).foldl (fun t (p,v)=>t.setIfInBounds p v) a.tmps }
 | [],_,_,_=>KeepT.rfl'
 |_ :: _,[],_,_=>KeepT.rfl'
 |p :: ps,v :: vs,a,h=>by
  have h1:KeepT S a (a.put (some p) v):=KeepT.put (fun t ht=>by cases ht;exact h p (List.mem_cons_self ..)) v
  have:=h1.trans (KeepT.puts ps vs (a.put (some p) v) fun q hq=>h q (List.mem_cons_of_mem _ hq))
  simpa[Go.Act.put] using this
theorem Bel.into{X Y:Nat→Prop}{w w':World}(h:Bel X w w')(hy:∀b,b<w.heap.size→X b→Y b):Bel Y w w' :=
 ⟨h.os,h.tape,h.output,h.size,fun k hk hx=>h.block k hk fun hX=>hx (hy k hk hX),h.drawn⟩
def Jb5:TS:=Jh [] 0
def JfB(P:Program)(gf:FuncId)(c0:AV)(n:Nat)(enc:Nat→List AV):Prop :=
 ∀(E1:Env) (G1:Ghost) (W:World) (l:Nat) (cv:Value) (J:Nat→World→Prop),E1.w0=W→(∀b,E1.F b→E1.X b)→Rel E1 (Jh [.v (.clo (.yield l) [] []),.v c0] 2) G1 ⟨#[.func (.yield l) #[] #[],cv],[]⟩ W →
  (∀k A B,J k A→Bel (fun _=>False) A B→J k B) →
  (∀k A (vs:Array Value),k<n→J k A→vs.size=(enc k).length→(∀i,Rep (Jb E1 G1 Jb5 A) (vs.toList.getD i undef) ((enc k).getD i .any)) →
   YieldAt Fence.wide 1 P l vs A fun e B=>e=.returned (.bool true)∧J (k+1) B∧Bel E1.F A B)→J 0 W →
  CallsIn Fence.wide 2 P gf #[.func (.yield l) #[] #[],cv] W fun e B=>(∃v,e=.returned v)∧J n B
theorem Jee{r:LoopState→Option Code→Obj}{D:Nat}{st:LoopState}{pe:Option Code}{C:Nat→Prop}{A B:World}(h:Nm.Book r D st pe A)(hb:Bel C A B)(h1:¬C D)(h2:¬C (D+1)):Nm.Book r D st pe B :=
 ⟨(hb.block _ (Array.getElem?_eq_some_iff.1 h.own).1 h2).trans h.own,(hb.block _ (Array.getElem?_eq_some_iff.1 h.def').1 h1).trans h.def'⟩
theorem JlG{P:Program}{E:Env}{ts:TS}{G:Ghost}{a:Go.Act}{w:World}(hr:Rel E ts G a w){g:Operand}{ps:Array Tmp}{assign body:Code}{gf:FuncId}{c0:AV}(hg:ts.ev g=.clo (.func gf) [] [c0])(hp:c0.pure=true)
  (eg:∀args w,(callFunc gf args).run P w=.ok (.enter gf args) w) {n:Nat} {enc:Nat→List AV} (hit:JfB P gf c0 n enc) (hps:∀k,(enc k).length=ps.size) (hep:∀k x,x∈enc k→x.pure=true) (hnp:∀j,E.pin j=none) (hpn:∀q∈ps.toList,q<ts.n) (S L:List Nat) (hpS:∀q∈ps.toList,q ∉ S)
  (p:Nat→Option Nat) (hpin:∀j b,p j=some b→ts.gen j=0→G.β j=b) (I:Nat→TS→Prop) (h0:I 0 (ts.only S L)) (hn:∀k t,I k t→t.n=ts.n)
  (hlive:∀k t d,I k t→(t.obj d).kind≠none→t.gen d=0∧∃b,p d=some b∧∃e,Jf ts G e∧G.β e=b)
  (round:∀k t,k<n→I k t→SpecK P S assign (t.puts ps.toList (enc k)) fun t1=>SpecK P S body t1 fun t2=>I (k+1) (t2.only S L)) :
  (Code.rangeFunc g ps assign body).wpIn Fence.wide 3 P (fun ex a' w'=>ex=.normal∧∃(D:Nat) (F:Nat→Prop) (ts':TS) (G':Ghost),a'=wD a [{ target:=.collected D,args:=#[] }]∧w'.heap[D]?=some (.deferred (some []))∧I n ts' ∧
   Rel { E with F:=F } ts' G' a w'∧(∀b,E.F b→F b)∧F D∧w.heap.size≤D) a w:=by
 have hvf:=hr.ev g
 rw[hg] at hvf
 obtain⟨cv,hge,hcv⟩:∃cv:Value,a.eval g=.func (.func gf) #[] #[cv]∧Rep (Jb E G ts w) cv c0:=by
  generalize a.eval g=q at hvf
  cases hvf with
  |clo _ f1 c1 _ _ q0 q1 q2 q3 =>
   have e1:f1=#[]:=Array.eq_empty_of_size_eq_zero (by simpa using q0)
   subst e1
   have e2:c1.size=1:=by simpa using q1
   obtain⟨l⟩:=c1
   match l,e2 with
   | [v],_=>exact⟨v,rfl,by simpa using q3 0⟩
 refine wpIn_rangeFunc fun fn hfn=>?_
 let r:=Nm.rcd fn a.tmps ps assign body w.heap.size
 let D:=w.heap.size
 let W1:=(w.alloc (.deferred (some []))).alloc (r .ready none)
 have hbk:Nm.Book r D .ready none W1:=by
  constructor
  ·have:=World.alloc_heap_new (w.alloc (.deferred (some []))) (r .ready none)
   rwa [World.size_alloc] at this
  ·exact(((Bel.refl (fun _=>False) _).alloc _).block _ (by simp[D]) (fun f=>f)).trans (World.alloc_heap_new w _)
 have hb1:Bel (fun _=>False) w W1:=((Bel.refl _ _).alloc _).alloc _
 have hs1:W1.heap.size=w.heap.size+2:=by simp[W1]
 let X2:Nat→Prop:=fun b=>∃d,Jf ts G d∧G.β d=b
 let F2:Nat→Prop:=fun b=>E.F b∨(b=D∨b=D+1)
 let E2:Env:={ w0:=W1,X:=fun b=>X2 b∨(b=D∨b=D+1),F:=F2,pin:=p }
 have hm:=hr.moreF hb1 (fun b=>b=D∨b=D+1) (fun b hb=>by rcases hb with rfl|rfl<;>simp only[D]<;>omega)
 have hr2:Rel E2 ts G a W1:=⟨hm.size,hm.defers,hm.tmp,hm.obj,hm.sep,fun d hd=>⟨.inr (.inl ⟨d,hd,rfl⟩),(hm.own d hd).2⟩,hm.inF,Bel.refl _ _,hpin⟩
 have hDX:∀b,F2 b→¬X2 b:=fun b hb ⟨d,hd,he⟩=>(hr2.own d hd).2.1 (he▸hb)
 have hr3:Rel E2 (ts.only S L) G a W1:=hr2.only S L KeepT.rfl' hr.defers
 let J:Nat→World→Prop:=fun k W=>∃t Gk,I k t∧Rel E2 t Gk a W∧Nm.Book r D .ready none W
 have hlv:∀k t Gk W,I k t→Rel E2 t Gk a W→∀d,Jf t Gk d→X2 (Gk.β d):=fun k t Gk W hI hrk d hd=>by
  obtain⟨hg0,b,hb,e,he,heb⟩:=hlive k t d hI hd.1
  rw[hrk.pin d b hb hg0]
  exact⟨e,he,heb⟩
 have hput:∀ {t:TS} {Gk:Ghost} {a':Go.Act} {W:World} (o:Obj),Rel E2 t Gk a' W→Rel E2 t Gk a' (W.putObj (D+1) o):=fun o h =>
  h.foreign (C:=fun b=>b=D+1) (fun b hb=>.inr (.inr hb)) Bel.putObj (fun b hb _=>.inr (.inr hb))
 have hnD:∀ {t:TS} {Gk:Ghost} {a':Go.Act} {W:World},Rel E2 t Gk a' W→∀b,F2 b→¬ ∃d,Jf t Gk d∧Gk.β d=b:=fun h b hb ⟨d,hd,he⟩=>(h.own d hd).2.1 (by rw[he];exact hb)
 refine⟨D+1,[{ target:=.collected D,args:=#[] }],W1,{ target:=.fn (.func gf) #[cv],args:=#[.func (.yield (D+1)) #[] #[]] },W1,gf,#[.func (.yield (D+1)) #[] #[]]++#[cv],W1,run_enterLoop_outer _ _ _ _ _,?_,fun _ _=>trivial,?_,fun h=>(by cases h),?_⟩
 ·simp only[resolve,hge]
  simp[go_sem]
 ·simp[invoke,go_sem,eg]
 have hM1:∀b,(Jar E2 ts G W1).F b↔F2 b∨X2 b:=fun b=>Iff.rfl
 refine(hit (Jar E2 ts G W1) G W1 (D+1) cv J rfl (fun b h=>h) (Jkr hr2 (D+1) cv c0 ?_ hp) ?_ ?_ ⟨_,G,h0,hr3,hbk⟩).mono ?_
 ·exact Rep.mono_pure (c:=Jb E G ts w) (c':=Jb E2 G ts W1) (fun b hMb hlt=>⟨hb1.block b hlt (fun h=>h),by
   have hlt':b<w.heap.size:=hlt
   rintro((hf|hf)|hl)
   ·exact hMb (.inl hf)
   ·simp only[D] at hf;omega
   ·exact hMb (.inr hl)⟩) hcv hp
 ·rintro k A B ⟨t,Gk,hI,hrk,hbkk⟩ hAB
  exact⟨t,Gk,hI,hrk.foreign (C:=fun _=>False) (fun _ h=>h.elim) hAB (fun _ h=>h.elim),Jee hbkk hAB (fun h=>h) (fun h=>h)⟩
 ·rintro k A vs hk ⟨t,Gk,hI,hrk,hbkk⟩ hvs hvr
  have hl2:=hlv k t Gk A hI hrk
  have hrep:∀i,Rep (Jb E2 Gk t A) (vs.toList.getD i undef) ((enc k).getD i .any):=fun i=>by
   by_cases hi:i<(enc k).length
   ·have hpu:((enc k).getD i .any).pure=true:=hep k _ (by rw[List.getD_eq_getElem?_getD,List.getElem?_eq_getElem hi];exact List.getElem_mem hi)
    refine Rep.mono_pure (c:=Jb (Jar E2 ts G W1) G Jb5 A) (c':=Jb E2 Gk t A) (fun b hMb _=>⟨rfl,?_⟩) (hvr i) hpu
    rintro(hf|⟨d,hd,rfl⟩)
    ·exact hMb (.inl (.inl hf))
    ·exact hMb (.inl (.inr (hl2 d hd)))
   ·rw[show(enc k).getD i .any=.any by rw[List.getD_eq_getElem?_getD,List.getElem?_eq_none (by omega)];rfl]
    exact .any _
  have hrp:=Rel.puts ps.toList (enc k) vs.toList hrk (by simpa using hvs) (fun q hq=>by rw[hn k t hI];exact hpn q hq) hrep
  have hact:({ a with tmps:=(ps.toList.zip vs.toList).foldl (fun t (p,v)=>t.setIfInBounds p v) a.tmps }:Go.Act)={ tmps:=(ps.zip vs).foldl (fun t (p,v)=>t.setIfInBounds p v) a.tmps,defers:=[] }:=by
   rw[←Array.foldl_toList,Array.toList_zip]
   simp[hr.defers]
  rw[hact] at hrp
  refine⟨fn,_,assign,body,run_yield (P:=P) (args:=vs) hbkk.own (by rw[hvs];exact hps k),roundIn_of_wpIn hfn ?_⟩
  refine wpIn_mono ((round k t hk hI).framed (JiD _) _ hrp) ?_
  rintro ex a1 W3 ⟨rfl,hk1,t1,G1,hQ,hr1,hbl1,ho1⟩
  have hb3:Nm.Book r D .ready none W3:=Jee hbkk hbl1 (hnD hrp _ (.inr (.inl rfl))) (hnD hrp _ (.inr (.inr rfl)))
  refine⟨_,run_beginRound hb3.own rfl,?_⟩
  have hb4:Nm.Book r D .busy none (W3.putObj (D+1) (r .busy none)):=hb3.put
  have hr4:=hput (r .busy none) hr1
  refine wpIn_mono (hQ.framed (JiD _) _ hr4) ?_
  rintro ex a2 W5 ⟨rfl,hk2,t2,G2,hQ2,hr5,hbl2,ho2⟩
  have hb5:Nm.Book r D .busy none W5:=Jee hb4 hbl2 (hnD hr4 _ (.inr (.inl rfl))) (hnD hr4 _ (.inr (.inr rfl)))
  refine⟨_,_,run_endRound (P:=P) none hb5.own,rfl,⟨t2.only S L,G2,hQ2,?_,hb5.put⟩,?_⟩
  ·have hka:KeepT S a { tmps:=(ps.zip vs).foldl (fun t (p,v)=>t.setIfInBounds p v) a.tmps,defers:=[] }:=by
    rw[←hact];exact KeepT.puts ps.toList vs.toList a hpS
   exact(hput _ hr5).only S L ((hka.trans hk1).trans hk2) hr.defers
  ·let C:Nat→Prop:=fun b=>(F2 b∨X2 b)∨A.heap.size≤b
   have c1:Bel C A W3:=hbl1.into fun b _ ⟨d,hd,he⟩=>.inl (.inr (by
    rw[←he];exact hl2 d ⟨by have:=hd.1;rwa [TS.puts_obj] at this,hd.2⟩))
   have c2:Bel C W3 (W3.putObj (D+1) (r .busy none)):=Bel.putObj.into fun b _ hb=>.inl (.inl (.inr (.inr hb)))
   have c3:Bel C (W3.putObj (D+1) (r .busy none)) W5:=hbl2.into fun b _ ⟨d,hd,he⟩=>by
    rcases ho1 d hd with h|⟨e,he1,he2⟩
    ·exact .inr (by rw[←he];exact h)
    ·exact .inl (.inr (by rw[←he,←he2];exact hl2 e ⟨by have:=he1.1;rwa [TS.puts_obj] at this,he1.2⟩))
   have c4:=((c1.trans c2).trans c3).trans (Bel.into (Y:=C) (Bel.putObj (w:=W5) (D:=D+1) (o:=r .ready none)) fun b _ hb=>.inl (.inl (.inr (.inr hb))))
   exact c4.into fun b hb hc=>hc.elim (fun h=>h.elim (fun h=>.inl h) (fun h=>.inr h)) (fun h=>absurd hb (by omega))
 ·rintro e W2 ⟨⟨v,rfl⟩,t,Gk,hI,hrk,hb⟩
  refine⟨none,_,run_endLoop (P:=P) hb.own (by simp[r,Nm.rcd]),rfl,D,F2,t,Gk,by simp[wD,hr.defers],(World.putObj_heap_other (by omega)).trans hb.def',hI,?_,fun b h=>.inl h,.inr (.inl rfl),Nat.le_refl _⟩
  have hbs:=hr.bel.size
  refine(?_:∀W',Rel E2 t Gk a W'→Rel { E with F:=F2 } t Gk a W') _ (hput _ hrk)
  intro W' hf
  refine⟨hf.size,hf.defers,hf.tmp,hf.obj,hf.sep,fun d hd=>⟨?_,(hf.own d hd).2⟩,hf.inF,?_,fun j b hj=>by rw[show({ E with F:=F2 }:Env).pin j=E.pin j from rfl,hnp] at hj;cases hj⟩
  ·rcases(hf.own d hd).1 with h|(⟨e,he,hx⟩|h)
   ·have h':W1.heap.size≤Gk.β d:=h
    exact .inl (by show E.w0.heap.size≤_;omega)
   ·rw[←hx];exact(hr.own e he).1
   ·exact absurd (.inr h) (hf.own d hd).2.1
  ·have q:=hf.bel
   refine⟨q.os.trans (hb1.os.trans hr.bel.os),q.tape.trans (hb1.tape.trans hr.bel.tape),q.output.trans (hb1.output.trans hr.bel.output),Nat.le_trans hbs (Nat.le_trans hb1.size q.size),fun k hk hx=>?_,Nat.le_trans hr.bel.drawn (Nat.le_trans hb1.drawn q.drawn)⟩
   have hk':k<E.w0.heap.size:=hk
   refine(q.block k (by show k<W1.heap.size;omega) ?_).trans ((hb1.block k (by omega) (fun h=>h)).trans (hr.bel.block k hk hx))
   rintro(⟨e,he,rfl⟩|h)
   ·rcases(hr.own e he).1 with h|h
    ·omega
    ·exact hx h
   ·simp only[D] at h;omega
theorem JjN{P:Program}{o:Oper}{fop x y:Operand}{at_:Array TypeId}(ho:o.op=.call { callee:=.value fop,args:=#[x,y],argTypes:=at_ }){ρ:Operand→Value}{w:World}{l:Nat}(hf:ρ fop=.func (.yield l) #[] #[]){r:Result Next}
  (hy:(Instr.yield l #[ρ x,ρ y]).run P w=r):(execOp ρ o).run P w=r:=by
 simp[execOp,ho,resolve,invoke,hf,go_sem,hy]
theorem Jpx{P:Program}{o:Oper}{fop x y:Operand}{at_:Array TypeId}(ho:o.op=.call { callee:=.value fop,args:=#[x,y],argTypes:=at_ }){a:Go.Act}{w:World}{l:Nat}(hf:a.eval fop=.func (.yield l) #[] #[])
  {R:Ending→World→Prop} (hy:YieldAt Fence.wide 1 P l #[a.eval x,a.eval y] w R) {next:Go.Act→World→Prop} {Q:Exit→Go.Act→World→Prop} (h:∀e B,R e B→∃v,e=.returned v∧next (a.put o.dst v) B) :
  o.wpIn Fence.wide 2 P a w next Q:=by
 obtain⟨fn,tmps,assign,body,hy,hR⟩:=hy
 refine⟨fun _ _=>trivial,?_⟩
 rw[Oper.semAt_eq _ _ _ (by rw[ho];intro c;simp)]
 rw[JjN ho hf hy]
 refine⟨fun h=>(by cases h),hR.mono ?_⟩
 intro e B hB
 obtain⟨v,rfl,hn⟩:=h e B hB
 exact hn
theorem Jpz{P:Program}{ops:Array Oper}{F:Fence}(hF:Wide F){n i:Nat}{K K':Go.Act→World→Prop}{Q':Exit→Go.Act→World→Prop}{a0 a:Go.Act}{w:World}{S:List Nat}(hk:∀a w,K a w→K' a w)
  (h:wpOpIn F n P ops (fun _ a' _=>False∧KeepT S a0 a') i K a w):wpOpIn F n P ops Q' i K' a w:=by
 unfold wpOpIn at h ⊢
 cases ho:ops[i]? with
 |none=>simp only[ho] at h ⊢;exact hk _ _ h
 |some o =>
  simp only[ho] at h ⊢
  by_cases hw:Region.wanted o (yielded ops a.tmps)=true
  ·simp only[hw,if_true] at h ⊢
   refine⟨h.1,?_⟩
   have h:=h.2
   generalize (o.semAt F.round a.eval).run P w=r at *
   cases r with
   |ok x w' =>
    cases x<;>simp only[Oper.uponIn] at h ⊢ <;>
     first
      |exact hk _ _ h
      |exact h.elim
      |exact⟨h.1,h.2.mono fun e B he=>by cases e<;>first|exact hk _ _ he|exact he.1.elim|(obtain⟨_,_,hf,_⟩:=he;exact hf.elim)⟩
      |exact⟨h.1,h.2.mono fun v B he=>hk _ _ he⟩
   |halt x w'=>cases x<;>simp only[Oper.uponIn] at h ⊢<;>first|exact h.1.elim|exact h.elim
  ·simp only[hw] at h ⊢
   exact⟨h.1,hk _ _ h.2⟩
theorem SpecOs.soundIn{P:Program}{ops:Array Oper}{K:TS→Prop}{S:List Nat}{F:Fence}(hF:Wide F)(n:Nat)(hd:Y1 ops=true)(hw:Z3 S ops=true){Q:Exit→Go.Act→World→Prop}{rest:List Nat}:∀(l:List Oper) (i:Nat),(∀j (hj:j<l.length),ops[i+j]?=some l[j])→∀ {ts:TS},
  SpecOs P ops K l ts→∀(E:Env) (G:Ghost) (a:Go.Act) (w:World),Rel E ts G a w→(∀ts' G' a' w',K ts'→Rel E ts' G' a' w'→KeepT S a a'→wpOpsIn F n P ops Q rest a' w')→wpOpsIn F n P ops Q (List.range' i l.length++rest) a w
 | [],i,_,ts,h=>fun E G a w hr hn=>by simpa using hn ts G a w h hr KeepT.rfl'
 |o :: l,i,hl,ts,h=>fun E G a w hr hn=>by
  have ho:ops[i]?=some o:=by have:=hl 0 (by simp);simpa only[Nat.add_zero,List.getElem_cons_zero] using this
  simp only[List.length_cons,List.range'_succ,List.cons_append]
  rw[wpOpsIn_cons]
  have h1:wpOp P ops (fun _ _ _=>False) i (fun a' w'=>∃ts' G',SpecOs P ops K l ts'∧Rel E ts' G' a' w') a w:=SpecG.sound h ho hr fun ts' G' a' w' hK hr'=>⟨ts',G',hK,hr'⟩
  have hnl:¬LetsOut (fun(_:Exit) (_:Go.Act) (_:World)=>False):=fun⟨_,_,h⟩=>h
  have h2:=Jft hw hnl KeepT.rfl' h1
  have hnl2:¬LetsOut (fun(_:Exit) (a':Go.Act) (_:World)=>False∧KeepT S a a'):=fun⟨_,_,h,_⟩=>h
  have h3:=Jfu hF n hd hnl2 h2
  refine Jpz hF ?_ h3
  rintro a' w' ⟨⟨ts',G',hK,hr'⟩,hk⟩
  refine SpecOs.soundIn hF n hd hw l (i+1) (fun j hj=>?_) hK E G' a' w' hr' fun ts'' G'' a'' w'' hK' hr'' hk'=>hn ts'' G'' a'' w'' hK' hr'' (hk.trans hk')
  have:=hl (j+1) (by simpa using hj)
  simpa only[List.getElem_cons_succ,Nat.add_assoc,Nat.add_comm 1 j] using this
theorem wOps.soundTake{P:Program}{S:List Nat}(m:Nat)(T:Tys P){F:Fence}(hF:Wide F)(n:Nat){all:List Oper}(hd:(Y1 (List.toArray all) && Z3 S (List.toArray all) && decide (m≤all.length))=true){K:TS→Prop}{Q:Exit→Go.Act→World→Prop}{ts:TS}
  (h:∀K',NxK K K'→wOps T all (all.take m) K' ts) {E:Env} {G:Ghost} {a:Go.Act} {w:World} (hr:Rel E ts G a w)
  (hn:∀ts' G' a' w',K ts'→Rel E ts' G' a' w'→KeepT S a a'→Bel (fun b=>∃d,Jf ts G d∧G.β d=b) w w'→wpOpsIn F n P (List.toArray all) Q (List.range' m (all.length-m)) a' w'):wpOpsIn F n P (List.toArray all) Q (List.range (List.toArray all).size) a w:=by
 simp only[Bool.and_eq_true,decide_eq_true_eq] at hd
 have hsz:List.range (List.toArray all).size=List.range' 0 (all.take m).length++List.range' m (all.length-m):=by
  rw[List.length_take,Nat.min_eq_left hd.2,List.range_eq_range',List.size_toArray]
  have:=List.range'_append_1 (s:=0) (m:=m) (n:=all.length-m)
  rw[Nat.zero_add] at this
  rw[this,Nat.add_sub_cancel' hd.2]
 rw[hsz]
 refine SpecOs.soundIn hF n hd.1.1 hd.1.2 (all.take m) 0 (fun j hj=>?_) (wOps.sound (h _ ⟨fun _ h=>h⟩)) _ G a w hr.rebase fun ts' G' a' w' hK hr' hk=>hn ts' G' a' w' hK (hr.unbase hr') hk hr'.bel
 rw[Nat.zero_add,List.getElem?_toArray,List.getElem_take,List.getElem?_eq_getElem]
theorem wOps.soundDrop{P:Program}{S:List Nat}(m:Nat)(T:Tys P){F:Fence}(hF:Wide F)(n:Nat){all:List Oper}(hd:(Y1 (List.toArray all) && Z3 S (List.toArray all))=true){K:TS→Prop}{Q:Exit→Go.Act→World→Prop}{ts:TS}
  (h:∀K',NxK K K'→wOps T all (all.drop m) K' ts) {E:Env} {G:Ghost} {a:Go.Act} {w:World} (hr:Rel E ts G a w)
  (hn:∀ts' G' a' w',K ts'→Rel E ts' G' a' w'→KeepT S a a'→Bel (fun b=>∃d,Jf ts G d∧G.β d=b) w w'→Q .normal a' w'):wpOpsIn F n P (List.toArray all) Q (List.range' m (all.length-m)) a w:=by
 simp only[Bool.and_eq_true] at hd
 have:=SpecOs.soundIn (Q:=Q) (rest:=[]) hF n hd.1 hd.2 (all.drop m) m (fun j hj=>by
  rw[List.length_drop] at hj
  rw[List.getElem?_toArray,List.getElem_drop,List.getElem?_eq_getElem]) (wOps.sound (h _ ⟨fun _ h=>h⟩)) _ G a w hr.rebase fun ts' G' a' w' hK hr' hk=>hn ts' G' a' w' hK (hr.unbase hr') hk hr'.bel
 simpa using this
end Go.Proofs.YtmjkjmoeicnbnaaGreatDoor.Lg
