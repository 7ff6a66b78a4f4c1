/- Parts of the proof, one behind the other. -/
import Derived.Test.YtmjkjmoeicnbnaaGreatDoorProg
import Derived.Test.YtmjkjmoeicnbnaaGreatDoorG04
namespace Go.Proofs.YtmjkjmoeicnbnaaGreatDoor.Lg
set_option maxRecDepth 100000
set_option linter.unusedVariables false
set_option linter.unusedSimpArgs false
open Go
def TS.only (ts:TS) (S L:List Nat):TS:={ ts with tmp:=fun t=>if S.contains t then ts.tmp t else .any,obj:=fun d=>if L.contains d then ts.obj d else .dead }
theorem liveR_only {ts:TS} {S L:List Nat} {G:Ghost} {d:Nat} (h:liveR (ts.only S L) G d):L.contains d=true∧liveR ts G d:=by
 unfold liveR TS.only at h
 dsimp only at h
 split at h
 ·rename_i hd; exact ⟨hd,h⟩
 ·exact absurd rfl h.1
theorem Rel.only {E:Env} {ts:TS} {G:Ghost} {a a':Go.Act} {w:World} (h:Rel E ts G a' w) (S L:List Nat) (hk:KeepT S a a') (hd:a.defers=[]):Rel E (ts.only S L) G a w:=by
 have hle:(ctxOf E G ts w).Le (ctxOf E G (ts.only S L) w) :=
  {blk:=fun b' hMa hc=>⟨rfl,by
    rintro (hf|⟨d,hl,hb⟩)
    ·exact hMa (.inl hf)
    ·exact hMa (.inr ⟨d,(liveR_only hl).2,hb⟩)⟩
   gen:=fun _=>Nat.le_refl _
   kind:=fun e k _ hk'=>(by
    refine ⟨?_,rfl,rfl⟩
    simp only [ctxOf,TS.only] at hk' ⊢
    split at hk'
    ·exact hk'
    ·cases hk') }
 refine ⟨hk.1.symm.trans h.size,hd,fun t=>?_,fun d=>?_,fun d d' h1 h2 h3=>h.sep d d' (liveR_only h1).2 (liveR_only h2).2 h3,fun d h1=>h.own d (liveR_only h1).2,h.inF,h.bel,h.pin⟩
 ·show Rep _ _ (if S.contains t then ts.tmp t else .any)
  split
  ·rename_i ht
   rw [← hk.2 t (List.contains_iff_mem.1 ht)]
   exact (h.tmp t).mono hle
  ·exact .any _
 ·show ObOk _ d (if L.contains d then ts.obj d else .dead)
  split
  ·exact ObOk.mono hle rfl rfl (fun _ _=>rfl) (h.obj d)
  ·trivial
def TS.puts (ts:TS):List Nat→List AV→TS
 | p :: ps,x :: xs=>(ts.put p x).puts ps xs
 | _,_=>ts
theorem Rel.puts {E:Env} {G:Ghost} {w:World}:∀ (ps:List Nat) (xs:List AV) (vs:List Value) {ts:TS} {a:Go.Act},Rel E ts G a w→vs.length=xs.length→(∀ p∈ps,p < ts.n)→(∀ i,Rep (ctxOf E G ts w) (vs.getD i undef) (xs.getD i .any)) →
  Rel E (ts.puts ps xs) G { a with tmps:=(ps.zip vs).foldl (fun t (p,v)=>t.setIfInBounds p v) a.tmps } w
 | [],xs,vs,ts,a,h,_,_,_=>by simpa [TS.puts] using h
 | p :: ps,[],[],ts,a,h,_,_,_=>by simpa [TS.puts] using h
 | p :: ps,x :: xs,v :: vs,ts,a,h,hl,hp,hr=>by
  have h1:Rel E (ts.put p x) G (a.put (some p) v) w:=h.put (hp p (List.mem_cons_self ..)) (by simpa using hr 0)
  have hr':∀ i,Rep (ctxOf E G (ts.put p x) w) (vs.getD i undef) (xs.getD i .any):=fun i=>by
   have:=hr (i+1)
   simp only [List.getD_cons_succ] at this
   exact this
  have:=Rel.puts ps xs vs (ts:=ts.put p x) (a:=a.put (some p) v) h1 (by simpa using hl) (fun q hq=>hp q (List.mem_cons_of_mem _ hq)) hr'
  simpa [TS.puts,Go.Act.put] using this
theorem TS.puts_obj:∀ (ps:List Nat) (xs:List AV) (ts:TS),(ts.puts ps xs).obj=ts.obj
 | [],_,_=>by simp [TS.puts]
 | _ :: _,[],_=>by simp [TS.puts]
 | p :: ps,x :: xs,ts=>by rw [TS.puts,TS.puts_obj ps xs]; rfl
theorem KeepT.puts {S:List Nat}:∀ (ps:List Nat) (vs:List Value) (a:Go.Act),(∀ q∈ps,q ∉ S)→KeepT S a { a with tmps:=(ps.zip vs).foldl (fun t (p,v)=>t.setIfInBounds p v) a.tmps }
 | [],_,_,_=>KeepT.rfl'
 | _ :: _,[],_,_=>KeepT.rfl'
 | p :: ps,v :: vs,a,h=>by
  have h1:KeepT S a (a.put (some p) v):=KeepT.put (fun t ht=>by cases ht; exact h p (List.mem_cons_self ..)) v
  have:=h1.trans (KeepT.puts ps vs (a.put (some p) v) fun q hq=>h q (List.mem_cons_of_mem _ hq))
  simpa [Go.Act.put] using this
theorem Bel.into {X Y:Nat→Prop} {w w':World} (h:Bel X w w') (hy:∀ b,b < w.heap.size→X b→Y b):Bel Y w w' :=
 ⟨h.os,h.tape,h.output,h.size,fun k hk hx=>h.block k hk fun hX=>hx (hy k hk hX),h.drawn⟩
def emptyTS:TS:=argTS [] 0
def IterOk (P:Program) (gf:FuncId) (c0:AV) (n:Nat) (enc:Nat→List AV):Prop :=
 ∀ (E1:Env) (G1:Ghost) (W:World) (l:Nat) (cv:Value) (J:Nat→World→Prop),E1.w0=W→(∀ b,E1.F b→E1.X b)→Rel E1 (argTS [.v (.clo (.yield l) [] []),.v c0] 2) G1 ⟨#[.func (.yield l) #[] #[],cv],[]⟩ W →
  (∀ k A B,J k A→Bel (fun _=>False) A B→J k B) →
  (∀ k A (vs:Array Value),k < n→J k A→vs.size=(enc k).length→(∀ i,Rep (ctxOf E1 G1 emptyTS A) (vs.toList.getD i undef) ((enc k).getD i .any)) →
   YieldAt Fence.wide 1 P l vs A fun e B=>e=.returned (.bool true)∧J (k+1) B∧Bel E1.F A B)→J 0 W →
  CallsIn Fence.wide 2 P gf #[.func (.yield l) #[] #[],cv] W fun e B=>(∃ v,e=.returned v)∧J n B
theorem book_bel {r:LoopState→Option Code→Obj} {D:Nat} {st:LoopState} {pe:Option Code} {C:Nat→Prop} {A B:World} (h:Nm.Book r D st pe A) (hb:Bel C A B) (h1:¬ C D) (h2:¬ C (D+1)):Nm.Book r D st pe B :=
 ⟨(hb.block _ (Array.getElem?_eq_some_iff.1 h.own).1 h2).trans h.own,(hb.block _ (Array.getElem?_eq_some_iff.1 h.def').1 h1).trans h.def'⟩
theorem range_wp {P:Program} {E:Env} {ts:TS} {G:Ghost} {a:Go.Act} {w:World} (hr:Rel E ts G a w) {g:Operand} {ps:Array Tmp} {assign body:Code} {gf:FuncId} {c0:AV} (hg:ts.ev g=.clo (.func gf) [] [c0]) (hp:c0.pure=true)
  (eg:∀ args w,(callFunc gf args).run P w=.ok (.enter gf args) w) {n:Nat} {enc:Nat→List AV} (hit:IterOk P gf c0 n enc) (hps:∀ k,(enc k).length=ps.size) (hep:∀ k x,x∈enc k→x.pure=true) (hnp:∀ j,E.pin j=none) (hpn:∀ q∈ps.toList,q < ts.n) (S L:List Nat) (hpS:∀ q∈ps.toList,q ∉ S)
  (p:Nat→Option Nat) (hpin:∀ j b,p j=some b→ts.gen j=0→G.β j=b) (I:Nat→TS→Prop) (h0:I 0 (ts.only S L)) (hn:∀ k t,I k t→t.n=ts.n)
  (hlive:∀ k t d,I k t→(t.obj d).kind≠none→t.gen d=0∧∃ b,p d=some b∧∃ e,liveR ts G e∧G.β e=b)
  (round:∀ k t,k < n→I k t→SpecK P S assign (t.puts ps.toList (enc k)) fun t1=>SpecK P S body t1 fun t2=>I (k+1) (t2.only S L)) :
  (Code.rangeFunc g ps assign body).wpIn Fence.wide 3 P (fun ex a' w'=>ex=.normal∧∃ (D:Nat) (F:Nat→Prop) (ts':TS) (G':Ghost),a'=wD a [{ target:=.collected D,args:=#[] }]∧w'.heap[D]?=some (.deferred (some []))∧I n ts' ∧
   Rel { E with F:=F } ts' G' a w'∧(∀ b,E.F b→F b)∧F D∧w.heap.size≤D) a w:=by
 have hvf:=hr.ev g
 rw [hg] at hvf
 obtain ⟨cv,hge,hcv⟩:∃ cv:Value,a.eval g=.func (.func gf) #[] #[cv]∧Rep (ctxOf E G ts w) cv c0:=by
  generalize a.eval g=q at hvf
  cases hvf with
  | clo _ f1 c1 _ _ q0 q1 q2 q3 =>
   have e1:f1=#[]:=Array.eq_empty_of_size_eq_zero (by simpa using q0)
   subst e1
   have e2:c1.size=1:=by simpa using q1
   obtain ⟨l⟩:=c1
   match l,e2 with
   | [v],_=>exact ⟨v,rfl,by simpa using q3 0⟩
 refine wpIn_rangeFunc fun fn hfn=>?_
 let r:=Nm.rcd fn a.tmps ps assign body w.heap.size
 let D:=w.heap.size
 let W1:=(w.alloc (.deferred (some []))).alloc (r .ready none)
 have hbk:Nm.Book r D .ready none W1:=by
  constructor
  ·have:=World.alloc_heap_new (w.alloc (.deferred (some []))) (r .ready none)
   rwa [World.size_alloc] at this
  ·exact (((Bel.refl (fun _=>False) _).alloc _).block _ (by simp [D]) (fun f=>f)).trans (World.alloc_heap_new w _)
 have hb1:Bel (fun _=>False) w W1:=((Bel.refl _ _).alloc _).alloc _
 have hs1:W1.heap.size=w.heap.size+2:=by simp [W1]
 let X2:Nat→Prop:=fun b=>∃ d,liveR ts G d∧G.β d=b
 let F2:Nat→Prop:=fun b=>E.F b∨(b=D∨b=D+1)
 let E2:Env:={ w0:=W1,X:=fun b=>X2 b∨(b=D∨b=D+1),F:=F2,pin:=p }
 have hm:=hr.moreF hb1 (fun b=>b=D∨b=D+1) (fun b hb=>by rcases hb with rfl|rfl<;>simp only [D]<;>omega)
 have hr2:Rel E2 ts G a W1:=⟨hm.size,hm.defers,hm.tmp,hm.obj,hm.sep,fun d hd=>⟨.inr (.inl ⟨d,hd,rfl⟩),(hm.own d hd).2⟩,hm.inF,Bel.refl _ _,hpin⟩
 have hDX:∀ b,F2 b→¬ X2 b:=fun b hb ⟨d,hd,he⟩=>(hr2.own d hd).2.1 (he▸hb)
 have hr3:Rel E2 (ts.only S L) G a W1:=hr2.only S L KeepT.rfl' hr.defers
 let J:Nat→World→Prop:=fun k W=>∃ t Gk,I k t∧Rel E2 t Gk a W∧Nm.Book r D .ready none W
 have hlv:∀ k t Gk W,I k t→Rel E2 t Gk a W→∀ d,liveR t Gk d→X2 (Gk.β d):=fun k t Gk W hI hrk d hd=>by
  obtain ⟨hg0,b,hb,e,he,heb⟩:=hlive k t d hI hd.1
  rw [hrk.pin d b hb hg0]
  exact ⟨e,he,heb⟩
 have hput:∀ {t:TS} {Gk:Ghost} {a':Go.Act} {W:World} (o:Obj),Rel E2 t Gk a' W→Rel E2 t Gk a' (W.putObj (D+1) o):=fun o h =>
  h.foreign (C:=fun b=>b=D+1) (fun b hb=>.inr (.inr hb)) Bel.putObj (fun b hb _=>.inr (.inr hb))
 have hnD:∀ {t:TS} {Gk:Ghost} {a':Go.Act} {W:World},Rel E2 t Gk a' W→∀ b,F2 b→¬ ∃ d,liveR t Gk d∧Gk.β d=b:=fun h b hb ⟨d,hd,he⟩=>(h.own d hd).2.1 (by rw [he]; exact hb)
 refine ⟨D+1,[{ target:=.collected D,args:=#[] }],W1,{ target:=.fn (.func gf) #[cv],args:=#[.func (.yield (D+1)) #[] #[]] },W1,gf,#[.func (.yield (D+1)) #[] #[]]++#[cv],W1,run_enterLoop_outer _ _ _ _ _,?_,fun _ _=>trivial,?_,fun h=>(by cases h),?_⟩
 ·simp only [resolve,hge]
  simp [go_sem]
 ·simp [invoke,go_sem,eg]
 have hM1:∀ b,(iterEnv E2 ts G W1).F b↔F2 b∨X2 b:=fun b=>Iff.rfl
 refine (hit (iterEnv E2 ts G W1) G W1 (D+1) cv J rfl (fun b h=>h) (iter_rel hr2 (D+1) cv c0 ?_ hp) ?_ ?_ ⟨_,G,h0,hr3,hbk⟩).mono ?_
 ·exact Rep.mono_pure (c:=ctxOf E G ts w) (c':=ctxOf E2 G ts W1) (fun b hMb hlt=>⟨hb1.block b hlt (fun h=>h),by
   have hlt':b < w.heap.size:=hlt
   rintro ((hf|hf)|hl)
   ·exact hMb (.inl hf)
   ·simp only [D] at hf; omega
   ·exact hMb (.inr hl)⟩) hcv hp
 ·rintro k A B ⟨t,Gk,hI,hrk,hbkk⟩ hAB
  exact ⟨t,Gk,hI,hrk.foreign (C:=fun _=>False) (fun _ h=>h.elim) hAB (fun _ h=>h.elim),book_bel hbkk hAB (fun h=>h) (fun h=>h)⟩
 ·rintro k A vs hk ⟨t,Gk,hI,hrk,hbkk⟩ hvs hvr
  have hl2:=hlv k t Gk A hI hrk
  have hrep:∀ i,Rep (ctxOf E2 Gk t A) (vs.toList.getD i undef) ((enc k).getD i .any):=fun i=>by
   by_cases hi:i < (enc k).length
   ·have hpu:((enc k).getD i .any).pure=true:=hep k _ (by rw [List.getD_eq_getElem?_getD,List.getElem?_eq_getElem hi]; exact List.getElem_mem hi)
    refine Rep.mono_pure (c:=ctxOf (iterEnv E2 ts G W1) G emptyTS A) (c':=ctxOf E2 Gk t A) (fun b hMb _=>⟨rfl,?_⟩) (hvr i) hpu
    rintro (hf|⟨d,hd,rfl⟩)
    ·exact hMb (.inl (.inl hf))
    ·exact hMb (.inl (.inr (hl2 d hd)))
   ·rw [show (enc k).getD i .any=.any by rw [List.getD_eq_getElem?_getD,List.getElem?_eq_none (by omega)]; rfl]
    exact .any _
  have hrp:=Rel.puts ps.toList (enc k) vs.toList hrk (by simpa using hvs) (fun q hq=>by rw [hn k t hI]; exact hpn q hq) hrep
  have hact:({ a with tmps:=(ps.toList.zip vs.toList).foldl (fun t (p,v)=>t.setIfInBounds p v) a.tmps }:Go.Act)={ tmps:=(ps.zip vs).foldl (fun t (p,v)=>t.setIfInBounds p v) a.tmps,defers:=[] }:=by
   rw [← Array.foldl_toList,Array.toList_zip]
   simp [hr.defers]
  rw [hact] at hrp
  refine ⟨fn,_,assign,body,run_yield (P:=P) (args:=vs) hbkk.own (by rw [hvs]; exact hps k),roundIn_of_wpIn hfn ?_⟩
  refine wpIn_mono ((round k t hk hI).framed (wide_round _) _ hrp) ?_
  rintro ex a1 W3 ⟨rfl,hk1,t1,G1,hQ,hr1,hbl1,ho1⟩
  have hb3:Nm.Book r D .ready none W3:=book_bel hbkk hbl1 (hnD hrp _ (.inr (.inl rfl))) (hnD hrp _ (.inr (.inr rfl)))
  refine ⟨_,run_beginRound hb3.own rfl,?_⟩
  have hb4:Nm.Book r D .busy none (W3.putObj (D+1) (r .busy none)):=hb3.put
  have hr4:=hput (r .busy none) hr1
  refine wpIn_mono (hQ.framed (wide_round _) _ hr4) ?_
  rintro ex a2 W5 ⟨rfl,hk2,t2,G2,hQ2,hr5,hbl2,ho2⟩
  have hb5:Nm.Book r D .busy none W5:=book_bel hb4 hbl2 (hnD hr4 _ (.inr (.inl rfl))) (hnD hr4 _ (.inr (.inr rfl)))
  refine ⟨_,_,run_endRound (P:=P) none hb5.own,rfl,⟨t2.only S L,G2,hQ2,?_,hb5.put⟩,?_⟩
  ·have hka:KeepT S a { tmps:=(ps.zip vs).foldl (fun t (p,v)=>t.setIfInBounds p v) a.tmps,defers:=[] }:=by
    rw [← hact]; exact KeepT.puts ps.toList vs.toList a hpS
   exact (hput _ hr5).only S L ((hka.trans hk1).trans hk2) hr.defers
  ·let C:Nat→Prop:=fun b=>(F2 b∨X2 b)∨A.heap.size≤b
   have c1:Bel C A W3:=hbl1.into fun b _ ⟨d,hd,he⟩=>.inl (.inr (by
    rw [← he]; exact hl2 d ⟨by have:=hd.1; rwa [TS.puts_obj] at this,hd.2⟩))
   have c2:Bel C W3 (W3.putObj (D+1) (r .busy none)):=Bel.putObj.into fun b _ hb=>.inl (.inl (.inr (.inr hb)))
   have c3:Bel C (W3.putObj (D+1) (r .busy none)) W5:=hbl2.into fun b _ ⟨d,hd,he⟩=>by
    rcases ho1 d hd with h|⟨e,he1,he2⟩
    ·exact .inr (by rw [← he]; exact h)
    ·exact .inl (.inr (by rw [← he,← he2]; exact hl2 e ⟨by have:=he1.1; rwa [TS.puts_obj] at this,he1.2⟩))
   have c4:=((c1.trans c2).trans c3).trans (Bel.into (Y:=C) (Bel.putObj (w:=W5) (D:=D+1) (o:=r .ready none)) fun b _ hb=>.inl (.inl (.inr (.inr hb))))
   exact c4.into fun b hb hc=>hc.elim (fun h=>h.elim (fun h=>.inl h) (fun h=>.inr h)) (fun h=>absurd hb (by omega))
 ·rintro e W2 ⟨⟨v,rfl⟩,t,Gk,hI,hrk,hb⟩
  refine ⟨none,_,run_endLoop (P:=P) hb.own (by simp [r,Nm.rcd]),rfl,D,F2,t,Gk,by simp [wD,hr.defers],(World.putObj_heap_other (by omega)).trans hb.def',hI,?_,fun b h=>.inl h,.inr (.inl rfl),Nat.le_refl _⟩
  have hbs:=hr.bel.size
  refine (?_:∀ W',Rel E2 t Gk a W'→Rel { E with F:=F2 } t Gk a W') _ (hput _ hrk)
  intro W' hf
  refine ⟨hf.size,hf.defers,hf.tmp,hf.obj,hf.sep,fun d hd=>⟨?_,(hf.own d hd).2⟩,hf.inF,?_,fun j b hj=>by rw [show ({ E with F:=F2 }:Env).pin j=E.pin j from rfl,hnp] at hj; cases hj⟩
  ·rcases (hf.own d hd).1 with h|(⟨e,he,hx⟩|h)
   ·have h':W1.heap.size≤Gk.β d:=h
    exact .inl (by show E.w0.heap.size≤_; omega)
   ·rw [← hx]; exact (hr.own e he).1
   ·exact absurd (.inr h) (hf.own d hd).2.1
  ·have q:=hf.bel
   refine ⟨q.os.trans (hb1.os.trans hr.bel.os),q.tape.trans (hb1.tape.trans hr.bel.tape),q.output.trans (hb1.output.trans hr.bel.output),Nat.le_trans hbs (Nat.le_trans hb1.size q.size),fun k hk hx=>?_,Nat.le_trans hr.bel.drawn (Nat.le_trans hb1.drawn q.drawn)⟩
   have hk':k < E.w0.heap.size:=hk
   refine (q.block k (by show k < W1.heap.size; omega) ?_).trans ((hb1.block k (by omega) (fun h=>h)).trans (hr.bel.block k hk hx))
   rintro (⟨e,he,rfl⟩|h)
   ·rcases (hr.own e he).1 with h|h
    ·omega
    ·exact hx h
   ·simp only [D] at h; omega
theorem exec_yield {P:Program} {o:Oper} {fop x y:Operand} {at_:Array TypeId} (ho:o.op=.call { callee:=.value fop,args:=#[x,y],argTypes:=at_ }) {ρ:Operand→Value} {w:World} {l:Nat} (hf:ρ fop=.func (.yield l) #[] #[]) {r:Result Next}
  (hy:(Instr.yield l #[ρ x,ρ y]).run P w=r):(execOp ρ o).run P w=r:=by
 simp [execOp,ho,resolve,invoke,hf,go_sem,hy]
theorem wpIn_yield {P:Program} {o:Oper} {fop x y:Operand} {at_:Array TypeId} (ho:o.op=.call { callee:=.value fop,args:=#[x,y],argTypes:=at_ }) {a:Go.Act} {w:World} {l:Nat} (hf:a.eval fop=.func (.yield l) #[] #[])
  {R:Ending→World→Prop} (hy:YieldAt Fence.wide 1 P l #[a.eval x,a.eval y] w R) {next:Go.Act→World→Prop} {Q:Exit→Go.Act→World→Prop} (h:∀ e B,R e B→∃ v,e=.returned v∧next (a.put o.dst v) B) :
  o.wpIn Fence.wide 2 P a w next Q:=by
 obtain ⟨fn,tmps,assign,body,hy,hR⟩:=hy
 refine ⟨fun _ _=>trivial,?_⟩
 rw [Oper.semAt_eq _ _ _ (by rw [ho]; intro c; simp)]
 rw [exec_yield ho hf hy]
 refine ⟨fun h=>(by cases h),hR.mono ?_⟩
 intro e B hB
 obtain ⟨v,rfl,hn⟩:=h e B hB
 exact hn
theorem wpOpIn_monoQ {P:Program} {ops:Array Oper} {F:Fence} (hF:Wide F) {n i:Nat} {K K':Go.Act→World→Prop} {Q':Exit→Go.Act→World→Prop} {a0 a:Go.Act} {w:World} {S:List Nat} (hk:∀ a w,K a w→K' a w)
  (h:wpOpIn F n P ops (fun _ a' _=>False∧KeepT S a0 a') i K a w):wpOpIn F n P ops Q' i K' a w:=by
 unfold wpOpIn at h ⊢
 cases ho:ops[i]? with
 | none=>simp only [ho] at h ⊢; exact hk _ _ h
 | some o =>
  simp only [ho] at h ⊢
  by_cases hw:Region.wanted o (yielded ops a.tmps)=true
  ·simp only [hw,if_true] at h ⊢
   refine ⟨h.1,?_⟩
   have h:=h.2
   generalize (o.semAt F.round a.eval).run P w=r at *
   cases r with
   | ok x w' =>
    cases x<;>simp only [Oper.uponIn] at h ⊢ <;>
     first
      | exact hk _ _ h
      | exact h.elim
      | exact ⟨h.1,h.2.mono fun e B he=>by cases e<;>first|exact hk _ _ he|exact he.1.elim|(obtain ⟨_,_,hf,_⟩:=he; exact hf.elim)⟩
      | exact ⟨h.1,h.2.mono fun v B he=>hk _ _ he⟩
   | halt x w'=>cases x<;>simp only [Oper.uponIn] at h ⊢<;>first|exact h.1.elim|exact h.elim
  ·simp only [hw] at h ⊢
   exact ⟨h.1,hk _ _ h.2⟩
theorem SpecOs.soundIn {P:Program} {ops:Array Oper} {K:TS→Prop} {S:List Nat} {F:Fence} (hF:Wide F) (n:Nat) (hd:noDefer ops=true) (hw:noWrite S ops=true) {Q:Exit→Go.Act→World→Prop} {rest:List Nat}:∀ (l:List Oper) (i:Nat),(∀ j (hj:j < l.length),ops[i+j]?=some l[j])→∀ {ts:TS},
  SpecOs P ops K l ts→∀ (E:Env) (G:Ghost) (a:Go.Act) (w:World),Rel E ts G a w→(∀ ts' G' a' w',K ts'→Rel E ts' G' a' w'→KeepT S a a'→wpOpsIn F n P ops Q rest a' w')→wpOpsIn F n P ops Q (List.range' i l.length++rest) a w
 | [],i,_,ts,h=>fun E G a w hr hn=>by simpa using hn ts G a w h hr KeepT.rfl'
 | o :: l,i,hl,ts,h=>fun E G a w hr hn=>by
  have ho:ops[i]?=some o:=by have:=hl 0 (by simp); simpa only [Nat.add_zero,List.getElem_cons_zero] using this
  simp only [List.length_cons,List.range'_succ,List.cons_append]
  rw [wpOpsIn_cons]
  have h1:wpOp P ops (fun _ _ _=>False) i (fun a' w'=>∃ ts' G',SpecOs P ops K l ts'∧Rel E ts' G' a' w') a w:=SpecG.sound h ho hr fun ts' G' a' w' hK hr'=>⟨ts',G',hK,hr'⟩
  have hnl:¬ LetsOut (fun (_:Exit) (_:Go.Act) (_:World)=>False):=fun ⟨_,_,h⟩=>h
  have h2:=wpOp_keep hw hnl KeepT.rfl' h1
  have hnl2:¬ LetsOut (fun (_:Exit) (a':Go.Act) (_:World)=>False∧KeepT S a a'):=fun ⟨_,_,h,_⟩=>h
  have h3:=wpOp_round hF n hd hnl2 h2
  refine wpOpIn_monoQ hF ?_ h3
  rintro a' w' ⟨⟨ts',G',hK,hr'⟩,hk⟩
  refine SpecOs.soundIn hF n hd hw l (i+1) (fun j hj=>?_) hK E G' a' w' hr' fun ts'' G'' a'' w'' hK' hr'' hk'=>hn ts'' G'' a'' w'' hK' hr'' (hk.trans hk')
  have:=hl (j+1) (by simpa using hj)
  simpa only [List.getElem_cons_succ,Nat.add_assoc,Nat.add_comm 1 j] using this
theorem wOps.soundTake {P:Program} {S:List Nat} (m:Nat) (T:Tys P) {F:Fence} (hF:Wide F) (n:Nat) {all:List Oper} (hd:(noDefer (List.toArray all) && noWrite S (List.toArray all) && decide (m≤all.length))=true) {K:TS→Prop} {Q:Exit→Go.Act→World→Prop} {ts:TS}
  (h:∀ K',NxK K K'→wOps T all (all.take m) K' ts) {E:Env} {G:Ghost} {a:Go.Act} {w:World} (hr:Rel E ts G a w)
  (hn:∀ ts' G' a' w',K ts'→Rel E ts' G' a' w'→KeepT S a a'→Bel (fun b=>∃ d,liveR ts G d∧G.β d=b) w w'→wpOpsIn F n P (List.toArray all) Q (List.range' m (all.length - m)) a' w'):wpOpsIn F n P (List.toArray all) Q (List.range (List.toArray all).size) a w:=by
 simp only [Bool.and_eq_true,decide_eq_true_eq] at hd
 have hsz:List.range (List.toArray all).size=List.range' 0 (all.take m).length++List.range' m (all.length - m):=by
  rw [List.length_take,Nat.min_eq_left hd.2,List.range_eq_range',List.size_toArray]
  have:=List.range'_append_1 (s:=0) (m:=m) (n:=all.length - m)
  rw [Nat.zero_add] at this
  rw [this,Nat.add_sub_cancel' hd.2]
 rw [hsz]
 refine SpecOs.soundIn hF n hd.1.1 hd.1.2 (all.take m) 0 (fun j hj=>?_) (wOps.sound (h _ ⟨fun _ h=>h⟩)) _ G a w hr.rebase fun ts' G' a' w' hK hr' hk=>hn ts' G' a' w' hK (hr.unbase hr') hk hr'.bel
 rw [Nat.zero_add,List.getElem?_toArray,List.getElem_take,List.getElem?_eq_getElem]
theorem wOps.soundDrop {P:Program} {S:List Nat} (m:Nat) (T:Tys P) {F:Fence} (hF:Wide F) (n:Nat) {all:List Oper} (hd:(noDefer (List.toArray all) && noWrite S (List.toArray all))=true) {K:TS→Prop} {Q:Exit→Go.Act→World→Prop} {ts:TS}
  (h:∀ K',NxK K K'→wOps T all (all.drop m) K' ts) {E:Env} {G:Ghost} {a:Go.Act} {w:World} (hr:Rel E ts G a w)
  (hn:∀ ts' G' a' w',K ts'→Rel E ts' G' a' w'→KeepT S a a'→Bel (fun b=>∃ d,liveR ts G d∧G.β d=b) w w'→Q .normal a' w'):wpOpsIn F n P (List.toArray all) Q (List.range' m (all.length - m)) a w:=by
 simp only [Bool.and_eq_true] at hd
 have:=SpecOs.soundIn (Q:=Q) (rest:=[]) hF n hd.1 hd.2 (all.drop m) m (fun j hj=>by
  rw [List.length_drop] at hj
  rw [List.getElem?_toArray,List.getElem_drop,List.getElem?_eq_getElem]) (wOps.sound (h _ ⟨fun _ h=>h⟩)) _ G a w hr.rebase fun ts' G' a' w' hK hr' hk=>hn ts' G' a' w' hK (hr.unbase hr') hk hr'.bel
 simpa using this
theorem infoOf {i:Nat} {ti:TypeInfo} (h:Tryz.prog.types[i]?=some ti):Tryz.prog.info? i=some ti:=by
 have hlt:i < Tryz.prog.types.size:=(Array.getElem?_eq_some_iff.1 h).1
 simp only [Tables.info?,if_pos hlt,h]
def ty1:TyI:=⟨.func,1,8,[.nilf]⟩
theorem tyOk1:TyOk Tryz.prog 1 ty1:=.inr ⟨Tryz.t1,infoOf Tryz.type1,rfl,rfl,⟨_,rfl,rfl,rfl⟩,_,Tryz.underlying1,rfl⟩
theorem tyZ1:TyZ Tryz.prog 1 ty1:=.inr ⟨Tryz.t1,_,infoOf Tryz.type1,rfl,rfl⟩
def ty2:TyI:=⟨.int .i64,1,8,[.int .i64 0]⟩
theorem tyOk2:TyOk Tryz.prog 2 ty2:=.inr ⟨Tryz.t2,infoOf Tryz.type2,rfl,rfl,⟨_,rfl,rfl,rfl⟩,_,Tryz.underlying2,rfl⟩
theorem tyZ2:TyZ Tryz.prog 2 ty2:=.inr ⟨Tryz.t2,_,infoOf Tryz.type2,rfl,rfl⟩
def ty3:TyI:=⟨.int .i64,1,8,[.int .i64 0]⟩
theorem tyOk3:TyOk Tryz.prog 3 ty3:=.inr ⟨Tryz.t3,infoOf Tryz.type3,rfl,rfl,⟨_,rfl,rfl,rfl⟩,_,Tryz.underlying3,rfl⟩
theorem tyZ3:TyZ Tryz.prog 3 ty3:=.inr ⟨Tryz.t3,_,infoOf Tryz.type3,rfl,rfl⟩
def ty4:TyI:=⟨.bool,1,1,[.bool false]⟩
theorem tyOk4:TyOk Tryz.prog 4 ty4:=.inr ⟨Tryz.t4,infoOf Tryz.type4,rfl,rfl,⟨_,rfl,rfl,rfl⟩,_,Tryz.underlying4,rfl⟩
theorem tyZ4:TyZ Tryz.prog 4 ty4:=.inr ⟨Tryz.t4,_,infoOf Tryz.type4,rfl,rfl⟩
def ty5:TyI:=⟨.int .u8,1,1,[.int .u8 0]⟩
theorem tyOk5:TyOk Tryz.prog 5 ty5:=.inr ⟨Tryz.t5,infoOf Tryz.type5,rfl,rfl,⟨_,rfl,rfl,rfl⟩,_,Tryz.underlying5,rfl⟩
theorem tyZ5:TyZ Tryz.prog 5 ty5:=.inr ⟨Tryz.t5,_,infoOf Tryz.type5,rfl,rfl⟩
def ty6:TyI:=⟨.int .u8,1,1,[.int .u8 0]⟩
theorem tyOk6:TyOk Tryz.prog 6 ty6:=.inr ⟨Tryz.t6,infoOf Tryz.type6,rfl,rfl,⟨_,rfl,rfl,rfl⟩,_,Tryz.underlying6,rfl⟩
theorem tyZ6:TyZ Tryz.prog 6 ty6:=.inr ⟨Tryz.t6,_,infoOf Tryz.type6,rfl,rfl⟩
def ty7 : TyI := ⟨.struct [(0, 2, "x"), (1, 3, "y"), (2, 4, "signed"), (3, 6, "code")], 4, 24, [.int .i64 0, .int .i64 0, .bool false, .int .u8 0]⟩
theorem tyOk7:TyOk Tryz.prog 7 ty7:=.inr ⟨Tryz.t7,infoOf Tryz.type7,rfl,rfl,⟨_,rfl,rfl,rfl⟩,_,Tryz.underlying7,rfl⟩
theorem tyZ7:TyZ Tryz.prog 7 ty7:=.inr ⟨Tryz.t7,_,infoOf Tryz.type7,rfl,rfl⟩
def ty8 : TyI := ⟨.struct [(0, 2, "x"), (1, 3, "y"), (2, 4, "signed"), (3, 6, "code")], 4, 24, [.int .i64 0, .int .i64 0, .bool false, .int .u8 0]⟩
theorem tyOk8:TyOk Tryz.prog 8 ty8:=.inr ⟨Tryz.t8,infoOf Tryz.type8,rfl,rfl,⟨_,rfl,rfl,rfl⟩,_,Tryz.underlying8,rfl⟩
theorem tyZ8:TyZ Tryz.prog 8 ty8:=.inr ⟨Tryz.t8,_,infoOf Tryz.type8,rfl,rfl⟩
def ty9:TyI:=⟨.str,1,16,[.str []]⟩
theorem tyOk9:TyOk Tryz.prog 9 ty9:=.inr ⟨Tryz.t9,infoOf Tryz.type9,rfl,rfl,⟨_,rfl,rfl,rfl⟩,_,Tryz.underlying9,rfl⟩
theorem tyZ9:TyZ Tryz.prog 9 ty9:=.inr ⟨Tryz.t9,_,infoOf Tryz.type9,rfl,rfl⟩
def ty10:TyI:=⟨.str,1,16,[.str []]⟩
theorem tyOk10:TyOk Tryz.prog 10 ty10:=.inr ⟨Tryz.t10,infoOf Tryz.type10,rfl,rfl,⟨_,rfl,rfl,rfl⟩,_,Tryz.underlying10,rfl⟩
theorem tyZ10:TyZ Tryz.prog 10 ty10:=.inr ⟨Tryz.t10,_,infoOf Tryz.type10,rfl,rfl⟩
def ty11:TyI:=⟨.str,1,16,[.str []]⟩
theorem tyOk11:TyOk Tryz.prog 11 ty11:=.inr ⟨Tryz.t11,infoOf Tryz.type11,rfl,rfl,⟨_,rfl,rfl,rfl⟩,_,Tryz.underlying11,rfl⟩
theorem tyZ11:TyZ Tryz.prog 11 ty11:=.inr ⟨Tryz.t11,_,infoOf Tryz.type11,rfl,rfl⟩
def ty12:TyI:=⟨.int .u64,1,8,[.int .u64 0]⟩
theorem tyOk12:TyOk Tryz.prog 12 ty12:=.inr ⟨Tryz.t12,infoOf Tryz.type12,rfl,rfl,⟨_,rfl,rfl,rfl⟩,_,Tryz.underlying12,rfl⟩
theorem tyZ12:TyZ Tryz.prog 12 ty12:=.inr ⟨Tryz.t12,_,infoOf Tryz.type12,rfl,rfl⟩
def ty13 : TyI := ⟨.struct [(0, 9, "msg"), (1, 12, "addr")], 2, 24, [.str [], .int .u64 0]⟩
theorem tyOk13:TyOk Tryz.prog 13 ty13:=.inr ⟨Tryz.t13,infoOf Tryz.type13,rfl,rfl,⟨_,rfl,rfl,rfl⟩,_,Tryz.underlying13,rfl⟩
theorem tyZ13:TyZ Tryz.prog 13 ty13:=.inr ⟨Tryz.t13,_,infoOf Tryz.type13,rfl,rfl⟩
def ty15:TyI:=⟨.ptr 236,1,8,[.nilp]⟩
theorem tyOk15:TyOk Tryz.prog 15 ty15:=.inr ⟨Tryz.t15,infoOf Tryz.type15,rfl,rfl,⟨_,rfl,rfl,rfl⟩,_,Tryz.underlying15,rfl⟩
theorem tyZ15:TyZ Tryz.prog 15 ty15:=.inr ⟨Tryz.t15,_,infoOf Tryz.type15,rfl,rfl⟩
def ty17:TyI:=⟨.ptr 248,1,8,[.nilp]⟩
theorem tyOk17:TyOk Tryz.prog 17 ty17:=.inr ⟨Tryz.t17,infoOf Tryz.type17,rfl,rfl,⟨_,rfl,rfl,rfl⟩,_,Tryz.underlying17,rfl⟩
theorem tyZ17:TyZ Tryz.prog 17 ty17:=.inr ⟨Tryz.t17,_,infoOf Tryz.type17,rfl,rfl⟩
def ty19 : TyI := ⟨.struct [(0, 17, "typ")], 1, 8, [.nilp]⟩
theorem tyOk19:TyOk Tryz.prog 19 ty19:=.inr ⟨Tryz.t19,infoOf Tryz.type19,rfl,rfl,⟨_,rfl,rfl,rfl⟩,_,Tryz.underlying19,rfl⟩
theorem tyZ19:TyZ Tryz.prog 19 ty19:=.inr ⟨Tryz.t19,_,infoOf Tryz.type19,rfl,rfl⟩
def ty21:TyI:=⟨.int .i32,1,4,[.int .i32 0]⟩
theorem tyOk21:TyOk Tryz.prog 21 ty21:=.inr ⟨Tryz.t21,infoOf Tryz.type21,rfl,rfl,⟨_,rfl,rfl,rfl⟩,_,Tryz.underlying21,rfl⟩
theorem tyZ21:TyZ Tryz.prog 21 ty21:=.inr ⟨Tryz.t21,_,infoOf Tryz.type21,rfl,rfl⟩
def ty22:TyI:=⟨.slice 87,1,24,[.slice true []]⟩
theorem tyOk22:TyOk Tryz.prog 22 ty22:=.inr ⟨Tryz.t22,infoOf Tryz.type22,rfl,rfl,⟨_,rfl,rfl,rfl⟩,_,Tryz.underlying22,rfl⟩
theorem tyZ22:TyZ Tryz.prog 22 ty22:=.inr ⟨Tryz.t22,_,infoOf Tryz.type22,rfl,rfl⟩
def ty23 : TyI := ⟨.struct [(0, 3, "Kind"), (1, 9, "Name")], 2, 24, [.int .i64 0, .str []]⟩
theorem tyOk23:TyOk Tryz.prog 23 ty23:=.inr ⟨Tryz.t23,infoOf Tryz.type23,rfl,rfl,⟨_,rfl,rfl,rfl⟩,_,Tryz.underlying23,rfl⟩
theorem tyZ23:TyZ Tryz.prog 23 ty23:=.inr ⟨Tryz.t23,_,infoOf Tryz.type23,rfl,rfl⟩
def ty24 : TyI := ⟨.struct [(0, 3, "Kind"), (1, 9, "Name")], 2, 24, [.int .i64 0, .str []]⟩
theorem tyOk24:TyOk Tryz.prog 24 ty24:=.inr ⟨Tryz.t24,infoOf Tryz.type24,rfl,rfl,⟨_,rfl,rfl,rfl⟩,_,Tryz.underlying24,rfl⟩
theorem tyZ24:TyZ Tryz.prog 24 ty24:=.inr ⟨Tryz.t24,_,infoOf Tryz.type24,rfl,rfl⟩
def ty25:TyI:=⟨.func,1,8,[.nilf]⟩
theorem tyOk25:TyOk Tryz.prog 25 ty25:=.inr ⟨Tryz.t25,infoOf Tryz.type25,rfl,rfl,⟨_,rfl,rfl,rfl⟩,_,Tryz.underlying25,rfl⟩
theorem tyZ25:TyZ Tryz.prog 25 ty25:=.inr ⟨Tryz.t25,_,infoOf Tryz.type25,rfl,rfl⟩
def ty28:TyI:=⟨.slice 24,1,24,[.slice true []]⟩
theorem tyOk28:TyOk Tryz.prog 28 ty28:=.inr ⟨Tryz.t28,infoOf Tryz.type28,rfl,rfl,⟨_,rfl,rfl,rfl⟩,_,Tryz.underlying28,rfl⟩
theorem tyZ28:TyZ Tryz.prog 28 ty28:=.inr ⟨Tryz.t28,_,infoOf Tryz.type28,rfl,rfl⟩
def ty31:TyI:=⟨.func,1,8,[.nilf]⟩
theorem tyOk31:TyOk Tryz.prog 31 ty31:=.inr ⟨Tryz.t31,infoOf Tryz.type31,rfl,rfl,⟨_,rfl,rfl,rfl⟩,_,Tryz.underlying31,rfl⟩
theorem tyZ31:TyZ Tryz.prog 31 ty31:=.inr ⟨Tryz.t31,_,infoOf Tryz.type31,rfl,rfl⟩
def ty33:TyI:=⟨.int .i64,1,8,[.int .i64 0]⟩
theorem tyOk33:TyOk Tryz.prog 33 ty33:=.inr ⟨Tryz.t33,infoOf Tryz.type33,rfl,rfl,⟨_,rfl,rfl,rfl⟩,_,Tryz.underlying33,rfl⟩
theorem tyZ33:TyZ Tryz.prog 33 ty33:=.inr ⟨Tryz.t33,_,infoOf Tryz.type33,rfl,rfl⟩
def ty34:TyI:=⟨.func,1,8,[.nilf]⟩
theorem tyOk34:TyOk Tryz.prog 34 ty34:=.inr ⟨Tryz.t34,infoOf Tryz.type34,rfl,rfl,⟨_,rfl,rfl,rfl⟩,_,Tryz.underlying34,rfl⟩
theorem tyZ34:TyZ Tryz.prog 34 ty34:=.inr ⟨Tryz.t34,_,infoOf Tryz.type34,rfl,rfl⟩
def ty38 : TyI := ⟨.struct [(0, 3, "Kind"), (1, 22, "Adds"), (2, 28, "Gone")], 3, 56, [.int .i64 0, .slice true [], .slice true []]⟩
theorem tyOk38:TyOk Tryz.prog 38 ty38:=.inr ⟨Tryz.t38,infoOf Tryz.type38,rfl,rfl,⟨_,rfl,rfl,rfl⟩,_,Tryz.underlying38,rfl⟩
theorem tyZ38:TyZ Tryz.prog 38 ty38:=.inr ⟨Tryz.t38,_,infoOf Tryz.type38,rfl,rfl⟩
def ty41 : TyI := ⟨.struct [(0, 3, "Kind"), (1, 22, "Adds"), (2, 28, "Gone")], 3, 56, [.int .i64 0, .slice true [], .slice true []]⟩
theorem tyOk41:TyOk Tryz.prog 41 ty41:=.inr ⟨Tryz.t41,infoOf Tryz.type41,rfl,rfl,⟨_,rfl,rfl,rfl⟩,_,Tryz.underlying41,rfl⟩
theorem tyZ41:TyZ Tryz.prog 41 ty41:=.inr ⟨Tryz.t41,_,infoOf Tryz.type41,rfl,rfl⟩
def ty44:TyI:=⟨.slice 38,1,24,[.slice true []]⟩
theorem tyOk44:TyOk Tryz.prog 44 ty44:=.inr ⟨Tryz.t44,infoOf Tryz.type44,rfl,rfl,⟨_,rfl,rfl,rfl⟩,_,Tryz.underlying44,rfl⟩
theorem tyZ44:TyZ Tryz.prog 44 ty44:=.inr ⟨Tryz.t44,_,infoOf Tryz.type44,rfl,rfl⟩
def ty47:TyI:=⟨.func,1,8,[.nilf]⟩
theorem tyOk47:TyOk Tryz.prog 47 ty47:=.inr ⟨Tryz.t47,infoOf Tryz.type47,rfl,rfl,⟨_,rfl,rfl,rfl⟩,_,Tryz.underlying47,rfl⟩
theorem tyZ47:TyZ Tryz.prog 47 ty47:=.inr ⟨Tryz.t47,_,infoOf Tryz.type47,rfl,rfl⟩
def ty54 : TyI := ⟨.struct [(0, 3, "Cap"), (1, 22, "L")], 2, 32, [.int .i64 0, .slice true []]⟩
theorem tyOk54:TyOk Tryz.prog 54 ty54:=.inr ⟨Tryz.t54,infoOf Tryz.type54,rfl,rfl,⟨_,rfl,rfl,rfl⟩,_,Tryz.underlying54,rfl⟩
theorem tyZ54:TyZ Tryz.prog 54 ty54:=.inr ⟨Tryz.t54,_,infoOf Tryz.type54,rfl,rfl⟩
def ty56 : TyI := ⟨.struct [(0, 54, "C"), (2, 4, "Ready"), (3, 22, "Shown")], 4, 64, [.int .i64 0, .slice true [], .bool false, .slice true []]⟩
theorem tyOk56:TyOk Tryz.prog 56 ty56:=.inr ⟨Tryz.t56,infoOf Tryz.type56,rfl,rfl,⟨_,rfl,rfl,rfl⟩,_,Tryz.underlying56,rfl⟩
theorem tyZ56:TyZ Tryz.prog 56 ty56:=.inr ⟨Tryz.t56,_,infoOf Tryz.type56,rfl,rfl⟩
def ty57 : TyI := ⟨.struct [(0, 3, "Cap"), (1, 22, "L")], 2, 32, [.int .i64 0, .slice true []]⟩
theorem tyOk57:TyOk Tryz.prog 57 ty57:=.inr ⟨Tryz.t57,infoOf Tryz.type57,rfl,rfl,⟨_,rfl,rfl,rfl⟩,_,Tryz.underlying57,rfl⟩
theorem tyZ57:TyZ Tryz.prog 57 ty57:=.inr ⟨Tryz.t57,_,infoOf Tryz.type57,rfl,rfl⟩
def ty59 : TyI := ⟨.struct [(0, 57, "C"), (2, 4, "Ready"), (3, 22, "Shown")], 4, 64, [.int .i64 0, .slice true [], .bool false, .slice true []]⟩
theorem tyOk59:TyOk Tryz.prog 59 ty59:=.inr ⟨Tryz.t59,infoOf Tryz.type59,rfl,rfl,⟨_,rfl,rfl,rfl⟩,_,Tryz.underlying59,rfl⟩
theorem tyZ59:TyZ Tryz.prog 59 ty59:=.inr ⟨Tryz.t59,_,infoOf Tryz.type59,rfl,rfl⟩
def ty82:TyI:=⟨.func,1,8,[.nilf]⟩
theorem tyOk82:TyOk Tryz.prog 82 ty82:=.inr ⟨Tryz.t82,infoOf Tryz.type82,rfl,rfl,⟨_,rfl,rfl,rfl⟩,_,Tryz.underlying82,rfl⟩
theorem tyZ82:TyZ Tryz.prog 82 ty82:=.inr ⟨Tryz.t82,_,infoOf Tryz.type82,rfl,rfl⟩
def ty84:TyI:=⟨.slice 142,1,24,[.slice true []]⟩
theorem tyOk84:TyOk Tryz.prog 84 ty84:=.inr ⟨Tryz.t84,infoOf Tryz.type84,rfl,rfl,⟨_,rfl,rfl,rfl⟩,_,Tryz.underlying84,rfl⟩
theorem tyZ84:TyZ Tryz.prog 84 ty84:=.inr ⟨Tryz.t84,_,infoOf Tryz.type84,rfl,rfl⟩
def ty85:TyI:=⟨.slice 3,1,24,[.slice true []]⟩
theorem tyOk85:TyOk Tryz.prog 85 ty85:=.inr ⟨Tryz.t85,infoOf Tryz.type85,rfl,rfl,⟨_,rfl,rfl,rfl⟩,_,Tryz.underlying85,rfl⟩
theorem tyZ85:TyZ Tryz.prog 85 ty85:=.inr ⟨Tryz.t85,_,infoOf Tryz.type85,rfl,rfl⟩
def ty87 : TyI := ⟨.struct [(0, 3, "Kind"), (1, 9, "Name"), (2, 3, "Ver"), (3, 3, "Port"), (4, 9, "To"), (5, 84, "Rules"), (6, 85, "Hosts")], 7, 104, [.int .i64 0, .str [], .int .i64 0, .int .i64 0, .str [], .slice true [], .slice true []]⟩
theorem tyOk87:TyOk Tryz.prog 87 ty87:=.inr ⟨Tryz.t87,infoOf Tryz.type87,rfl,rfl,⟨_,rfl,rfl,rfl⟩,_,Tryz.underlying87,rfl⟩
theorem tyZ87:TyZ Tryz.prog 87 ty87:=.inr ⟨Tryz.t87,_,infoOf Tryz.type87,rfl,rfl⟩
def ty94:TyI:=⟨.func,1,8,[.nilf]⟩
theorem tyOk94:TyOk Tryz.prog 94 ty94:=.inr ⟨Tryz.t94,infoOf Tryz.type94,rfl,rfl,⟨_,rfl,rfl,rfl⟩,_,Tryz.underlying94,rfl⟩
theorem tyZ94:TyZ Tryz.prog 94 ty94:=.inr ⟨Tryz.t94,_,infoOf Tryz.type94,rfl,rfl⟩
def ty95:TyI:=⟨.map 24 4,1,8,[.nilm]⟩
theorem tyOk95:TyOk Tryz.prog 95 ty95:=.inr ⟨Tryz.t95,infoOf Tryz.type95,rfl,rfl,⟨_,rfl,rfl,rfl⟩,_,Tryz.underlying95,rfl⟩
theorem tyZ95:TyZ Tryz.prog 95 ty95:=.inr ⟨Tryz.t95,_,infoOf Tryz.type95,rfl,rfl⟩
def ty96:TyI:=⟨.map 24 4,1,8,[.nilm]⟩
theorem tyOk96:TyOk Tryz.prog 96 ty96:=.inr ⟨Tryz.t96,infoOf Tryz.type96,rfl,rfl,⟨_,rfl,rfl,rfl⟩,_,Tryz.underlying96,rfl⟩
theorem tyZ96:TyZ Tryz.prog 96 ty96:=.inr ⟨Tryz.t96,_,infoOf Tryz.type96,rfl,rfl⟩
def ty100:TyI:=⟨.func,1,8,[.nilf]⟩
theorem tyOk100:TyOk Tryz.prog 100 ty100:=.inr ⟨Tryz.t100,infoOf Tryz.type100,rfl,rfl,⟨_,rfl,rfl,rfl⟩,_,Tryz.underlying100,rfl⟩
theorem tyZ100:TyZ Tryz.prog 100 ty100:=.inr ⟨Tryz.t100,_,infoOf Tryz.type100,rfl,rfl⟩
def ty103:TyI:=⟨.func,1,8,[.nilf]⟩
theorem tyOk103:TyOk Tryz.prog 103 ty103:=.inr ⟨Tryz.t103,infoOf Tryz.type103,rfl,rfl,⟨_,rfl,rfl,rfl⟩,_,Tryz.underlying103,rfl⟩
theorem tyZ103:TyZ Tryz.prog 103 ty103:=.inr ⟨Tryz.t103,_,infoOf Tryz.type103,rfl,rfl⟩
def ty105:TyI:=⟨.func,1,8,[.nilf]⟩
theorem tyOk105:TyOk Tryz.prog 105 ty105:=.inr ⟨Tryz.t105,infoOf Tryz.type105,rfl,rfl,⟨_,rfl,rfl,rfl⟩,_,Tryz.underlying105,rfl⟩
theorem tyZ105:TyZ Tryz.prog 105 ty105:=.inr ⟨Tryz.t105,_,infoOf Tryz.type105,rfl,rfl⟩
def ty106:TyI:=⟨.func,1,8,[.nilf]⟩
theorem tyOk106:TyOk Tryz.prog 106 ty106:=.inr ⟨Tryz.t106,infoOf Tryz.type106,rfl,rfl,⟨_,rfl,rfl,rfl⟩,_,Tryz.underlying106,rfl⟩
theorem tyZ106:TyZ Tryz.prog 106 ty106:=.inr ⟨Tryz.t106,_,infoOf Tryz.type106,rfl,rfl⟩
def ty110:TyI:=⟨.slice 116,1,24,[.slice true []]⟩
theorem tyOk110:TyOk Tryz.prog 110 ty110:=.inr ⟨Tryz.t110,infoOf Tryz.type110,rfl,rfl,⟨_,rfl,rfl,rfl⟩,_,Tryz.underlying110,rfl⟩
theorem tyZ110:TyZ Tryz.prog 110 ty110:=.inr ⟨Tryz.t110,_,infoOf Tryz.type110,rfl,rfl⟩
def ty111:TyI:=⟨.ptr 157,1,8,[.nilp]⟩
theorem tyOk111:TyOk Tryz.prog 111 ty111:=.inr ⟨Tryz.t111,infoOf Tryz.type111,rfl,rfl,⟨_,rfl,rfl,rfl⟩,_,Tryz.underlying111,rfl⟩
theorem tyZ111:TyZ Tryz.prog 111 ty111:=.inr ⟨Tryz.t111,_,infoOf Tryz.type111,rfl,rfl⟩
def ty114:TyI:=⟨.func,1,8,[.nilf]⟩
theorem tyOk114:TyOk Tryz.prog 114 ty114:=.inr ⟨Tryz.t114,infoOf Tryz.type114,rfl,rfl,⟨_,rfl,rfl,rfl⟩,_,Tryz.underlying114,rfl⟩
theorem tyZ114:TyZ Tryz.prog 114 ty114:=.inr ⟨Tryz.t114,_,infoOf Tryz.type114,rfl,rfl⟩
def ty116 : TyI := ⟨.struct [(0, 85, "kinds"), (1, 114, "step")], 2, 32, [.slice true [], .nilf]⟩
theorem tyOk116:TyOk Tryz.prog 116 ty116:=.inr ⟨Tryz.t116,infoOf Tryz.type116,rfl,rfl,⟨_,rfl,rfl,rfl⟩,_,Tryz.underlying116,rfl⟩
theorem tyZ116:TyZ Tryz.prog 116 ty116:=.inr ⟨Tryz.t116,_,infoOf Tryz.type116,rfl,rfl⟩
def ty133:TyI:=⟨.map 3 4,1,8,[.nilm]⟩
theorem tyOk133:TyOk Tryz.prog 133 ty133:=.inr ⟨Tryz.t133,infoOf Tryz.type133,rfl,rfl,⟨_,rfl,rfl,rfl⟩,_,Tryz.underlying133,rfl⟩
theorem tyZ133:TyZ Tryz.prog 133 ty133:=.inr ⟨Tryz.t133,_,infoOf Tryz.type133,rfl,rfl⟩
def ty134:TyI:=⟨.map 24 87,1,8,[.nilm]⟩
theorem tyOk134:TyOk Tryz.prog 134 ty134:=.inr ⟨Tryz.t134,infoOf Tryz.type134,rfl,rfl,⟨_,rfl,rfl,rfl⟩,_,Tryz.underlying134,rfl⟩
theorem tyZ134:TyZ Tryz.prog 134 ty134:=.inr ⟨Tryz.t134,_,infoOf Tryz.type134,rfl,rfl⟩
def ty140:TyI:=⟨.slice 144,1,24,[.slice true []]⟩
theorem tyOk140:TyOk Tryz.prog 140 ty140:=.inr ⟨Tryz.t140,infoOf Tryz.type140,rfl,rfl,⟨_,rfl,rfl,rfl⟩,_,Tryz.underlying140,rfl⟩
theorem tyZ140:TyZ Tryz.prog 140 ty140:=.inr ⟨Tryz.t140,_,infoOf Tryz.type140,rfl,rfl⟩
def ty142 : TyI := ⟨.struct [(0, 9, "Host"), (1, 9, "Prefix"), (2, 140, "Split")], 3, 56, [.str [], .str [], .slice true []]⟩
theorem tyOk142:TyOk Tryz.prog 142 ty142:=.inr ⟨Tryz.t142,infoOf Tryz.type142,rfl,rfl,⟨_,rfl,rfl,rfl⟩,_,Tryz.underlying142,rfl⟩
theorem tyZ142:TyZ Tryz.prog 142 ty142:=.inr ⟨Tryz.t142,_,infoOf Tryz.type142,rfl,rfl⟩
def ty144 : TyI := ⟨.struct [(0, 9, "Cluster"), (1, 3, "W")], 2, 24, [.str [], .int .i64 0]⟩
theorem tyOk144:TyOk Tryz.prog 144 ty144:=.inr ⟨Tryz.t144,infoOf Tryz.type144,rfl,rfl,⟨_,rfl,rfl,rfl⟩,_,Tryz.underlying144,rfl⟩
theorem tyZ144:TyZ Tryz.prog 144 ty144:=.inr ⟨Tryz.t144,_,infoOf Tryz.type144,rfl,rfl⟩
def ty147:TyI:=⟨.int .u64,1,8,[.int .u64 0]⟩
theorem tyOk147:TyOk Tryz.prog 147 ty147:=.inr ⟨Tryz.t147,infoOf Tryz.type147,rfl,rfl,⟨_,rfl,rfl,rfl⟩,_,Tryz.underlying147,rfl⟩
theorem tyZ147:TyZ Tryz.prog 147 ty147:=.inr ⟨Tryz.t147,_,infoOf Tryz.type147,rfl,rfl⟩
def ty152:TyI:=⟨.map 24 28,1,8,[.nilm]⟩
theorem tyOk152:TyOk Tryz.prog 152 ty152:=.inr ⟨Tryz.t152,infoOf Tryz.type152,rfl,rfl,⟨_,rfl,rfl,rfl⟩,_,Tryz.underlying152,rfl⟩
theorem tyZ152:TyZ Tryz.prog 152 ty152:=.inr ⟨Tryz.t152,_,infoOf Tryz.type152,rfl,rfl⟩
def ty154:TyI:=⟨.func,1,8,[.nilf]⟩
theorem tyOk154:TyOk Tryz.prog 154 ty154:=.inr ⟨Tryz.t154,infoOf Tryz.type154,rfl,rfl,⟨_,rfl,rfl,rfl⟩,_,Tryz.underlying154,rfl⟩
theorem tyZ154:TyZ Tryz.prog 154 ty154:=.inr ⟨Tryz.t154,_,infoOf Tryz.type154,rfl,rfl⟩
def ty157 : TyI := ⟨.struct [(0, 22, "adds"), (1, 28, "gone"), (2, 95, "reach"), (3, 22, "have"), (4, 28, "held")], 5, 104, [.slice true [], .slice true [], .nilm, .slice true [], .slice true []]⟩
theorem tyOk157:TyOk Tryz.prog 157 ty157:=.inr ⟨Tryz.t157,infoOf Tryz.type157,rfl,rfl,⟨_,rfl,rfl,rfl⟩,_,Tryz.underlying157,rfl⟩
theorem tyZ157:TyZ Tryz.prog 157 ty157:=.inr ⟨Tryz.t157,_,infoOf Tryz.type157,rfl,rfl⟩
def ty174:TyI:=⟨.int .i64,1,8,[.int .i64 0]⟩
theorem tyOk174:TyOk Tryz.prog 174 ty174:=.inr ⟨Tryz.t174,infoOf Tryz.type174,rfl,rfl,⟨_,rfl,rfl,rfl⟩,_,Tryz.underlying174,rfl⟩
theorem tyZ174:TyZ Tryz.prog 174 ty174:=.inr ⟨Tryz.t174,_,infoOf Tryz.type174,rfl,rfl⟩
def ty182:TyI:=⟨.int .u32,1,4,[.int .u32 0]⟩
theorem tyOk182:TyOk Tryz.prog 182 ty182:=.inr ⟨Tryz.t182,infoOf Tryz.type182,rfl,rfl,⟨_,rfl,rfl,rfl⟩,_,Tryz.underlying182,rfl⟩
theorem tyZ182:TyZ Tryz.prog 182 ty182:=.inr ⟨Tryz.t182,_,infoOf Tryz.type182,rfl,rfl⟩
def ty184:TyI:=⟨.int .u64,1,8,[.int .u64 0]⟩
theorem tyOk184:TyOk Tryz.prog 184 ty184:=.inr ⟨Tryz.t184,infoOf Tryz.type184,rfl,rfl,⟨_,rfl,rfl,rfl⟩,_,Tryz.underlying184,rfl⟩
theorem tyZ184:TyZ Tryz.prog 184 ty184:=.inr ⟨Tryz.t184,_,infoOf Tryz.type184,rfl,rfl⟩
def ty192:TyI:=⟨.func,1,8,[.nilf]⟩
theorem tyOk192:TyOk Tryz.prog 192 ty192:=.inr ⟨Tryz.t192,infoOf Tryz.type192,rfl,rfl,⟨_,rfl,rfl,rfl⟩,_,Tryz.underlying192,rfl⟩
theorem tyZ192:TyZ Tryz.prog 192 ty192:=.inr ⟨Tryz.t192,_,infoOf Tryz.type192,rfl,rfl⟩
def ty194 : TyI := ⟨.struct [(0, 4, "port"), (1, 4, "to"), (2, 4, "rules"), (3, 4, "hosts")], 4, 4, [.bool false, .bool false, .bool false, .bool false]⟩
theorem tyOk194:TyOk Tryz.prog 194 ty194:=.inr ⟨Tryz.t194,infoOf Tryz.type194,rfl,rfl,⟨_,rfl,rfl,rfl⟩,_,Tryz.underlying194,rfl⟩
theorem tyZ194:TyZ Tryz.prog 194 ty194:=.inr ⟨Tryz.t194,_,infoOf Tryz.type194,rfl,rfl⟩
def ty198:TyI:=⟨.func,1,8,[.nilf]⟩
theorem tyOk198:TyOk Tryz.prog 198 ty198:=.inr ⟨Tryz.t198,infoOf Tryz.type198,rfl,rfl,⟨_,rfl,rfl,rfl⟩,_,Tryz.underlying198,rfl⟩
theorem tyZ198:TyZ Tryz.prog 198 ty198:=.inr ⟨Tryz.t198,_,infoOf Tryz.type198,rfl,rfl⟩
def ty202:TyI:=⟨.func,1,8,[.nilf]⟩
theorem tyOk202:TyOk Tryz.prog 202 ty202:=.inr ⟨Tryz.t202,infoOf Tryz.type202,rfl,rfl,⟨_,rfl,rfl,rfl⟩,_,Tryz.underlying202,rfl⟩
theorem tyZ202:TyZ Tryz.prog 202 ty202:=.inr ⟨Tryz.t202,_,infoOf Tryz.type202,rfl,rfl⟩
def ty205:TyI:=⟨.int .u64,1,8,[.int .u64 0]⟩
theorem tyOk205:TyOk Tryz.prog 205 ty205:=.inr ⟨Tryz.t205,infoOf Tryz.type205,rfl,rfl,⟨_,rfl,rfl,rfl⟩,_,Tryz.underlying205,rfl⟩
theorem tyZ205:TyZ Tryz.prog 205 ty205:=.inr ⟨Tryz.t205,_,infoOf Tryz.type205,rfl,rfl⟩
def ty209:TyI:=⟨.ptr 3,1,8,[.nilp]⟩
theorem tyOk209:TyOk Tryz.prog 209 ty209:=.inr ⟨Tryz.t209,infoOf Tryz.type209,rfl,rfl,⟨_,rfl,rfl,rfl⟩,_,Tryz.underlying209,rfl⟩
theorem tyZ209:TyZ Tryz.prog 209 ty209:=.inr ⟨Tryz.t209,_,infoOf Tryz.type209,rfl,rfl⟩
def ty212:TyI:=⟨.slice 22,1,24,[.slice true []]⟩
theorem tyOk212:TyOk Tryz.prog 212 ty212:=.inr ⟨Tryz.t212,infoOf Tryz.type212,rfl,rfl,⟨_,rfl,rfl,rfl⟩,_,Tryz.underlying212,rfl⟩
theorem tyZ212:TyZ Tryz.prog 212 ty212:=.inr ⟨Tryz.t212,_,infoOf Tryz.type212,rfl,rfl⟩
def ty216:TyI:=⟨.ptr 205,1,8,[.nilp]⟩
theorem tyOk216:TyOk Tryz.prog 216 ty216:=.inr ⟨Tryz.t216,infoOf Tryz.type216,rfl,rfl,⟨_,rfl,rfl,rfl⟩,_,Tryz.underlying216,rfl⟩
theorem tyZ216:TyZ Tryz.prog 216 ty216:=.inr ⟨Tryz.t216,_,infoOf Tryz.type216,rfl,rfl⟩
def ty236 : TyI := ⟨.struct [(0, 17, "_interface"), (1, 17, "concrete"), (2, 17, "asserted"), (3, 9, "missingMethod")], 4, 40, [.nilp, .nilp, .nilp, .str []]⟩
theorem tyOk236:TyOk Tryz.prog 236 ty236:=.inr ⟨Tryz.t236,infoOf Tryz.type236,rfl,rfl,⟨_,rfl,rfl,rfl⟩,_,Tryz.underlying236,rfl⟩
theorem tyZ236:TyZ Tryz.prog 236 ty236:=.inr ⟨Tryz.t236,_,infoOf Tryz.type236,rfl,rfl⟩
def ty241:TyI:=⟨.int .u8,1,1,[.int .u8 0]⟩
theorem tyOk241:TyOk Tryz.prog 241 ty241:=.inr ⟨Tryz.t241,infoOf Tryz.type241,rfl,rfl,⟨_,rfl,rfl,rfl⟩,_,Tryz.underlying241,rfl⟩
theorem tyZ241:TyZ Tryz.prog 241 ty241:=.inr ⟨Tryz.t241,_,infoOf Tryz.type241,rfl,rfl⟩
def ty242:TyI:=⟨.int .u8,1,1,[.int .u8 0]⟩
theorem tyOk242:TyOk Tryz.prog 242 ty242:=.inr ⟨Tryz.t242,infoOf Tryz.type242,rfl,rfl,⟨_,rfl,rfl,rfl⟩,_,Tryz.underlying242,rfl⟩
theorem tyZ242:TyZ Tryz.prog 242 ty242:=.inr ⟨Tryz.t242,_,infoOf Tryz.type242,rfl,rfl⟩
def ty243:TyI:=⟨.func,1,8,[.nilf]⟩
theorem tyOk243:TyOk Tryz.prog 243 ty243:=.inr ⟨Tryz.t243,infoOf Tryz.type243,rfl,rfl,⟨_,rfl,rfl,rfl⟩,_,Tryz.underlying243,rfl⟩
theorem tyZ243:TyZ Tryz.prog 243 ty243:=.inr ⟨Tryz.t243,_,infoOf Tryz.type243,rfl,rfl⟩
def ty244:TyI:=⟨.ptr 5,1,8,[.nilp]⟩
theorem tyOk244:TyOk Tryz.prog 244 ty244:=.inr ⟨Tryz.t244,infoOf Tryz.type244,rfl,rfl,⟨_,rfl,rfl,rfl⟩,_,Tryz.underlying244,rfl⟩
theorem tyZ244:TyZ Tryz.prog 244 ty244:=.inr ⟨Tryz.t244,_,infoOf Tryz.type244,rfl,rfl⟩
def ty245:TyI:=⟨.int .i32,1,4,[.int .i32 0]⟩
theorem tyOk245:TyOk Tryz.prog 245 ty245:=.inr ⟨Tryz.t245,infoOf Tryz.type245,rfl,rfl,⟨_,rfl,rfl,rfl⟩,_,Tryz.underlying245,rfl⟩
theorem tyZ245:TyZ Tryz.prog 245 ty245:=.inr ⟨Tryz.t245,_,infoOf Tryz.type245,rfl,rfl⟩
def ty246:TyI:=⟨.int .i32,1,4,[.int .i32 0]⟩
theorem tyOk246:TyOk Tryz.prog 246 ty246:=.inr ⟨Tryz.t246,infoOf Tryz.type246,rfl,rfl,⟨_,rfl,rfl,rfl⟩,_,Tryz.underlying246,rfl⟩
theorem tyZ246:TyZ Tryz.prog 246 ty246:=.inr ⟨Tryz.t246,_,infoOf Tryz.type246,rfl,rfl⟩
def ty248 : TyI := ⟨.struct [(0, 12, "Size_"), (1, 12, "PtrBytes"), (2, 182, "Hash"), (3, 241, "TFlag"), (4, 5, "Align_"), (5, 5, "FieldAlign_"), (6, 242, "Kind_"), (7, 243, "Equal"), (8, 244, "GCData"), (9, 245, "Str"), (10, 246, "PtrToThis")], 11, 48, [.int .u64 0, .int .u64 0, .int .u32 0, .int .u8 0, .int .u8 0, .int .u8 0, .int .u8 0, .nilf, .nilp, .int .i32 0, .int .i32 0]⟩
theorem tyOk248:TyOk Tryz.prog 248 ty248:=.inr ⟨Tryz.t248,infoOf Tryz.type248,rfl,rfl,⟨_,rfl,rfl,rfl⟩,_,Tryz.underlying248,rfl⟩
theorem tyZ248:TyZ Tryz.prog 248 ty248:=.inr ⟨Tryz.t248,_,infoOf Tryz.type248,rfl,rfl⟩
def tyL:List (Nat × TyI):=[(1,ty1),(2,ty2),(3,ty3),(4,ty4),(5,ty5),(6,ty6),(7,ty7),(8,ty8),(9,ty9),(10,ty10),(11,ty11),(12,ty12),(13,ty13),(15,ty15),(17,ty17),(19,ty19),(21,ty21),(22,ty22),(23,ty23),(24,ty24),(25,ty25),(28,ty28),(31,ty31),(33,ty33),(34,ty34),(38,ty38),(41,ty41),(44,ty44),(47,ty47),(54,ty54),(56,ty56),(57,ty57),(59,ty59),(82,ty82),(84,ty84),(85,ty85),(87,ty87),(94,ty94),(95,ty95),(96,ty96),(100,ty100),(103,ty103),(105,ty105),(106,ty106),(110,ty110),(111,ty111),(114,ty114),(116,ty116),(133,ty133),(134,ty134),(140,ty140),(142,ty142),(144,ty144),(147,ty147),(152,ty152),(154,ty154),(157,ty157),(174,ty174),(182,ty182),(184,ty184),(192,ty192),(194,ty194),(198,ty198),(202,ty202),(205,ty205),(209,ty209),(212,ty212),(216,ty216),(236,ty236),(241,ty241),(242,ty242),(243,ty243),(244,ty244),(245,ty245),(246,ty246),(248,ty248)]
def AllZ (P:Program):List (Nat × TyI)→Prop
 | []=>True
 | p :: r=>TyZ P p.1 p.2∧AllZ P r
def AllOk (P:Program):List (Nat × TyI)→Prop
 | []=>True
 | p :: r=>TyOk P p.1 p.2∧AllOk P r
def tyOf (l:List (Nat × TyI)) (t:Nat):TyI:=(l.lookup t).getD ⟨.unk,0,0,[]⟩
theorem allOk_ok {P:Program}:∀ (l:List (Nat × TyI)),AllOk P l→∀ t,TyOk P t (tyOf l t)
 | [],_,t=>.inl rfl
 | (i,x) :: r,h,t=>by
  unfold tyOf
  by_cases e:t=i
  ·subst e; simpa [List.lookup] using h.1
  ·have e':(t == i)=false:=by simpa using e
   have:((i,x) :: r).lookup t=r.lookup t:=by simp [List.lookup,e']
   rw [this]; exact allOk_ok r h.2 t
theorem allZ_ok {P:Program}:∀ (l:List (Nat × TyI)),AllZ P l→∀ t,TyZ P t (tyOf l t)
 | [],_,t=>.inl rfl
 | (i,x) :: r,h,t=>by
  unfold tyOf
  by_cases e:t=i
  ·subst e; simpa [List.lookup] using h.1
  ·have e':(t == i)=false:=by simpa using e
   have:((i,x) :: r).lookup t=r.lookup t:=by simp [List.lookup,e']
   rw [this]; exact allZ_ok r h.2 t
theorem tyL_z:AllZ Tryz.prog tyL:=⟨tyZ1,tyZ2,tyZ3,tyZ4,tyZ5,tyZ6,tyZ7,tyZ8,tyZ9,tyZ10,tyZ11,tyZ12,tyZ13,tyZ15,tyZ17,tyZ19,tyZ21,tyZ22,tyZ23,tyZ24,tyZ25,tyZ28,tyZ31,tyZ33,tyZ34,tyZ38,tyZ41,tyZ44,tyZ47,tyZ54,tyZ56,tyZ57,tyZ59,tyZ82,tyZ84,tyZ85,tyZ87,tyZ94,tyZ95,tyZ96,tyZ100,tyZ103,tyZ105,tyZ106,tyZ110,tyZ111,tyZ114,tyZ116,tyZ133,tyZ134,tyZ140,tyZ142,tyZ144,tyZ147,tyZ152,tyZ154,tyZ157,tyZ174,tyZ182,tyZ184,tyZ192,tyZ194,tyZ198,tyZ202,tyZ205,tyZ209,tyZ212,tyZ216,tyZ236,tyZ241,tyZ242,tyZ243,tyZ244,tyZ245,tyZ246,tyZ248,trivial⟩
theorem tyL_ok:AllOk Tryz.prog tyL:=⟨tyOk1,tyOk2,tyOk3,tyOk4,tyOk5,tyOk6,tyOk7,tyOk8,tyOk9,tyOk10,tyOk11,tyOk12,tyOk13,tyOk15,tyOk17,tyOk19,tyOk21,tyOk22,tyOk23,tyOk24,tyOk25,tyOk28,tyOk31,tyOk33,tyOk34,tyOk38,tyOk41,tyOk44,tyOk47,tyOk54,tyOk56,tyOk57,tyOk59,tyOk82,tyOk84,tyOk85,tyOk87,tyOk94,tyOk95,tyOk96,tyOk100,tyOk103,tyOk105,tyOk106,tyOk110,tyOk111,tyOk114,tyOk116,tyOk133,tyOk134,tyOk140,tyOk142,tyOk144,tyOk147,tyOk152,tyOk154,tyOk157,tyOk174,tyOk182,tyOk184,tyOk192,tyOk194,tyOk198,tyOk202,tyOk205,tyOk209,tyOk212,tyOk216,tyOk236,tyOk241,tyOk242,tyOk243,tyOk244,tyOk245,tyOk246,tyOk248,trivial⟩
def T:Tys Tryz.prog:=⟨tyOf tyL,allOk_ok tyL tyL_ok,allZ_ok tyL tyL_z,fun _=>false⟩
@[go_sem] theorem fz_T (d:Nat):T.fz d=false:=rfl
@[go_sem] theorem T_1:T.ty 1=ty1:=rfl
@[go_sem] theorem k_1:ty1.k=.func:=rfl
@[go_sem] theorem sz_1:ty1.sz=1:=rfl
@[go_sem] theorem by_1:ty1.bytes=8:=rfl
@[go_sem] theorem zero_1:ty1.zero=[.nilf]:=rfl
@[go_sem] theorem T_2:T.ty 2=ty2:=rfl
@[go_sem] theorem k_2:ty2.k=.int .i64:=rfl
@[go_sem] theorem sz_2:ty2.sz=1:=rfl
@[go_sem] theorem by_2:ty2.bytes=8:=rfl
@[go_sem] theorem zero_2:ty2.zero=[.int .i64 0]:=rfl
@[go_sem] theorem T_3:T.ty 3=ty3:=rfl
@[go_sem] theorem k_3:ty3.k=.int .i64:=rfl
@[go_sem] theorem sz_3:ty3.sz=1:=rfl
@[go_sem] theorem by_3:ty3.bytes=8:=rfl
@[go_sem] theorem zero_3:ty3.zero=[.int .i64 0]:=rfl
@[go_sem] theorem T_4:T.ty 4=ty4:=rfl
@[go_sem] theorem k_4:ty4.k=.bool:=rfl
@[go_sem] theorem sz_4:ty4.sz=1:=rfl
@[go_sem] theorem by_4:ty4.bytes=1:=rfl
@[go_sem] theorem zero_4:ty4.zero=[.bool false]:=rfl
@[go_sem] theorem T_5:T.ty 5=ty5:=rfl
@[go_sem] theorem k_5:ty5.k=.int .u8:=rfl
@[go_sem] theorem sz_5:ty5.sz=1:=rfl
@[go_sem] theorem by_5:ty5.bytes=1:=rfl
@[go_sem] theorem zero_5:ty5.zero=[.int .u8 0]:=rfl
@[go_sem] theorem T_6:T.ty 6=ty6:=rfl
@[go_sem] theorem k_6:ty6.k=.int .u8:=rfl
@[go_sem] theorem sz_6:ty6.sz=1:=rfl
@[go_sem] theorem by_6:ty6.bytes=1:=rfl
@[go_sem] theorem zero_6:ty6.zero=[.int .u8 0]:=rfl
@[go_sem] theorem T_7:T.ty 7=ty7:=rfl
@[go_sem] theorem k_7 : ty7.k = .struct [(0, 2, "x"), (1, 3, "y"), (2, 4, "signed"), (3, 6, "code")] := rfl
@[go_sem] theorem sz_7:ty7.sz=4:=rfl
@[go_sem] theorem by_7:ty7.bytes=24:=rfl
@[go_sem] theorem zero_7:ty7.zero=[.int .i64 0,.int .i64 0,.bool false,.int .u8 0]:=rfl
@[go_sem] theorem T_8:T.ty 8=ty8:=rfl
@[go_sem] theorem k_8 : ty8.k = .struct [(0, 2, "x"), (1, 3, "y"), (2, 4, "signed"), (3, 6, "code")] := rfl
@[go_sem] theorem sz_8:ty8.sz=4:=rfl
@[go_sem] theorem by_8:ty8.bytes=24:=rfl
@[go_sem] theorem zero_8:ty8.zero=[.int .i64 0,.int .i64 0,.bool false,.int .u8 0]:=rfl
@[go_sem] theorem T_9:T.ty 9=ty9:=rfl
@[go_sem] theorem k_9:ty9.k=.str:=rfl
@[go_sem] theorem sz_9:ty9.sz=1:=rfl
@[go_sem] theorem by_9:ty9.bytes=16:=rfl
@[go_sem] theorem zero_9:ty9.zero=[.str []]:=rfl
@[go_sem] theorem T_10:T.ty 10=ty10:=rfl
@[go_sem] theorem k_10:ty10.k=.str:=rfl
@[go_sem] theorem sz_10:ty10.sz=1:=rfl
@[go_sem] theorem by_10:ty10.bytes=16:=rfl
@[go_sem] theorem zero_10:ty10.zero=[.str []]:=rfl
@[go_sem] theorem T_11:T.ty 11=ty11:=rfl
@[go_sem] theorem k_11:ty11.k=.str:=rfl
@[go_sem] theorem sz_11:ty11.sz=1:=rfl
@[go_sem] theorem by_11:ty11.bytes=16:=rfl
@[go_sem] theorem zero_11:ty11.zero=[.str []]:=rfl
@[go_sem] theorem T_12:T.ty 12=ty12:=rfl
@[go_sem] theorem k_12:ty12.k=.int .u64:=rfl
@[go_sem] theorem sz_12:ty12.sz=1:=rfl
@[go_sem] theorem by_12:ty12.bytes=8:=rfl
@[go_sem] theorem zero_12:ty12.zero=[.int .u64 0]:=rfl
@[go_sem] theorem T_13:T.ty 13=ty13:=rfl
@[go_sem] theorem k_13 : ty13.k = .struct [(0, 9, "msg"), (1, 12, "addr")] := rfl
@[go_sem] theorem sz_13:ty13.sz=2:=rfl
@[go_sem] theorem by_13:ty13.bytes=24:=rfl
@[go_sem] theorem zero_13:ty13.zero=[.str [],.int .u64 0]:=rfl
@[go_sem] theorem T_15:T.ty 15=ty15:=rfl
@[go_sem] theorem k_15:ty15.k=.ptr 236:=rfl
@[go_sem] theorem sz_15:ty15.sz=1:=rfl
@[go_sem] theorem by_15:ty15.bytes=8:=rfl
@[go_sem] theorem zero_15:ty15.zero=[.nilp]:=rfl
@[go_sem] theorem T_17:T.ty 17=ty17:=rfl
@[go_sem] theorem k_17:ty17.k=.ptr 248:=rfl
@[go_sem] theorem sz_17:ty17.sz=1:=rfl
@[go_sem] theorem by_17:ty17.bytes=8:=rfl
@[go_sem] theorem zero_17:ty17.zero=[.nilp]:=rfl
@[go_sem] theorem T_19:T.ty 19=ty19:=rfl
@[go_sem] theorem k_19 : ty19.k = .struct [(0, 17, "typ")] := rfl
@[go_sem] theorem sz_19:ty19.sz=1:=rfl
@[go_sem] theorem by_19:ty19.bytes=8:=rfl
@[go_sem] theorem zero_19:ty19.zero=[.nilp]:=rfl
@[go_sem] theorem T_21:T.ty 21=ty21:=rfl
@[go_sem] theorem k_21:ty21.k=.int .i32:=rfl
@[go_sem] theorem sz_21:ty21.sz=1:=rfl
@[go_sem] theorem by_21:ty21.bytes=4:=rfl
@[go_sem] theorem zero_21:ty21.zero=[.int .i32 0]:=rfl
@[go_sem] theorem T_22:T.ty 22=ty22:=rfl
@[go_sem] theorem k_22:ty22.k=.slice 87:=rfl
@[go_sem] theorem sz_22:ty22.sz=1:=rfl
@[go_sem] theorem by_22:ty22.bytes=24:=rfl
@[go_sem] theorem zero_22:ty22.zero=[.slice true []]:=rfl
@[go_sem] theorem T_23:T.ty 23=ty23:=rfl
@[go_sem] theorem k_23 : ty23.k = .struct [(0, 3, "Kind"), (1, 9, "Name")] := rfl
@[go_sem] theorem sz_23:ty23.sz=2:=rfl
@[go_sem] theorem by_23:ty23.bytes=24:=rfl
@[go_sem] theorem zero_23:ty23.zero=[.int .i64 0,.str []]:=rfl
@[go_sem] theorem T_24:T.ty 24=ty24:=rfl
@[go_sem] theorem k_24 : ty24.k = .struct [(0, 3, "Kind"), (1, 9, "Name")] := rfl
@[go_sem] theorem sz_24:ty24.sz=2:=rfl
@[go_sem] theorem by_24:ty24.bytes=24:=rfl
@[go_sem] theorem zero_24:ty24.zero=[.int .i64 0,.str []]:=rfl
@[go_sem] theorem T_25:T.ty 25=ty25:=rfl
@[go_sem] theorem k_25:ty25.k=.func:=rfl
@[go_sem] theorem sz_25:ty25.sz=1:=rfl
@[go_sem] theorem by_25:ty25.bytes=8:=rfl
@[go_sem] theorem zero_25:ty25.zero=[.nilf]:=rfl
@[go_sem] theorem T_28:T.ty 28=ty28:=rfl
@[go_sem] theorem k_28:ty28.k=.slice 24:=rfl
@[go_sem] theorem sz_28:ty28.sz=1:=rfl
@[go_sem] theorem by_28:ty28.bytes=24:=rfl
@[go_sem] theorem zero_28:ty28.zero=[.slice true []]:=rfl
@[go_sem] theorem T_31:T.ty 31=ty31:=rfl
@[go_sem] theorem k_31:ty31.k=.func:=rfl
@[go_sem] theorem sz_31:ty31.sz=1:=rfl
@[go_sem] theorem by_31:ty31.bytes=8:=rfl
@[go_sem] theorem zero_31:ty31.zero=[.nilf]:=rfl
@[go_sem] theorem T_33:T.ty 33=ty33:=rfl
@[go_sem] theorem k_33:ty33.k=.int .i64:=rfl
@[go_sem] theorem sz_33:ty33.sz=1:=rfl
@[go_sem] theorem by_33:ty33.bytes=8:=rfl
@[go_sem] theorem zero_33:ty33.zero=[.int .i64 0]:=rfl
@[go_sem] theorem T_34:T.ty 34=ty34:=rfl
@[go_sem] theorem k_34:ty34.k=.func:=rfl
@[go_sem] theorem sz_34:ty34.sz=1:=rfl
@[go_sem] theorem by_34:ty34.bytes=8:=rfl
@[go_sem] theorem zero_34:ty34.zero=[.nilf]:=rfl
@[go_sem] theorem T_38:T.ty 38=ty38:=rfl
@[go_sem] theorem k_38 : ty38.k = .struct [(0, 3, "Kind"), (1, 22, "Adds"), (2, 28, "Gone")] := rfl
@[go_sem] theorem sz_38:ty38.sz=3:=rfl
@[go_sem] theorem by_38:ty38.bytes=56:=rfl
@[go_sem] theorem zero_38:ty38.zero=[.int .i64 0,.slice true [],.slice true []]:=rfl
@[go_sem] theorem T_41:T.ty 41=ty41:=rfl
@[go_sem] theorem k_41 : ty41.k = .struct [(0, 3, "Kind"), (1, 22, "Adds"), (2, 28, "Gone")] := rfl
@[go_sem] theorem sz_41:ty41.sz=3:=rfl
@[go_sem] theorem by_41:ty41.bytes=56:=rfl
@[go_sem] theorem zero_41:ty41.zero=[.int .i64 0,.slice true [],.slice true []]:=rfl
@[go_sem] theorem T_44:T.ty 44=ty44:=rfl
@[go_sem] theorem k_44:ty44.k=.slice 38:=rfl
@[go_sem] theorem sz_44:ty44.sz=1:=rfl
@[go_sem] theorem by_44:ty44.bytes=24:=rfl
@[go_sem] theorem zero_44:ty44.zero=[.slice true []]:=rfl
@[go_sem] theorem T_47:T.ty 47=ty47:=rfl
@[go_sem] theorem k_47:ty47.k=.func:=rfl
@[go_sem] theorem sz_47:ty47.sz=1:=rfl
@[go_sem] theorem by_47:ty47.bytes=8:=rfl
@[go_sem] theorem zero_47:ty47.zero=[.nilf]:=rfl
@[go_sem] theorem T_54:T.ty 54=ty54:=rfl
@[go_sem] theorem k_54 : ty54.k = .struct [(0, 3, "Cap"), (1, 22, "L")] := rfl
@[go_sem] theorem sz_54:ty54.sz=2:=rfl
@[go_sem] theorem by_54:ty54.bytes=32:=rfl
@[go_sem] theorem zero_54:ty54.zero=[.int .i64 0,.slice true []]:=rfl
@[go_sem] theorem T_56:T.ty 56=ty56:=rfl
@[go_sem] theorem k_56 : ty56.k = .struct [(0, 54, "C"), (2, 4, "Ready"), (3, 22, "Shown")] := rfl
@[go_sem] theorem sz_56:ty56.sz=4:=rfl
@[go_sem] theorem by_56:ty56.bytes=64:=rfl
@[go_sem] theorem zero_56:ty56.zero=[.int .i64 0,.slice true [],.bool false,.slice true []]:=rfl
@[go_sem] theorem T_57:T.ty 57=ty57:=rfl
@[go_sem] theorem k_57 : ty57.k = .struct [(0, 3, "Cap"), (1, 22, "L")] := rfl
@[go_sem] theorem sz_57:ty57.sz=2:=rfl
@[go_sem] theorem by_57:ty57.bytes=32:=rfl
@[go_sem] theorem zero_57:ty57.zero=[.int .i64 0,.slice true []]:=rfl
@[go_sem] theorem T_59:T.ty 59=ty59:=rfl
@[go_sem] theorem k_59 : ty59.k = .struct [(0, 57, "C"), (2, 4, "Ready"), (3, 22, "Shown")] := rfl
@[go_sem] theorem sz_59:ty59.sz=4:=rfl
@[go_sem] theorem by_59:ty59.bytes=64:=rfl
@[go_sem] theorem zero_59:ty59.zero=[.int .i64 0,.slice true [],.bool false,.slice true []]:=rfl
@[go_sem] theorem T_82:T.ty 82=ty82:=rfl
@[go_sem] theorem k_82:ty82.k=.func:=rfl
@[go_sem] theorem sz_82:ty82.sz=1:=rfl
@[go_sem] theorem by_82:ty82.bytes=8:=rfl
@[go_sem] theorem zero_82:ty82.zero=[.nilf]:=rfl
@[go_sem] theorem T_84:T.ty 84=ty84:=rfl
@[go_sem] theorem k_84:ty84.k=.slice 142:=rfl
@[go_sem] theorem sz_84:ty84.sz=1:=rfl
@[go_sem] theorem by_84:ty84.bytes=24:=rfl
@[go_sem] theorem zero_84:ty84.zero=[.slice true []]:=rfl
@[go_sem] theorem T_85:T.ty 85=ty85:=rfl
@[go_sem] theorem k_85:ty85.k=.slice 3:=rfl
@[go_sem] theorem sz_85:ty85.sz=1:=rfl
@[go_sem] theorem by_85:ty85.bytes=24:=rfl
@[go_sem] theorem zero_85:ty85.zero=[.slice true []]:=rfl
@[go_sem] theorem T_87:T.ty 87=ty87:=rfl
@[go_sem] theorem k_87 : ty87.k = .struct [(0, 3, "Kind"), (1, 9, "Name"), (2, 3, "Ver"), (3, 3, "Port"), (4, 9, "To"), (5, 84, "Rules"), (6, 85, "Hosts")] := rfl
@[go_sem] theorem sz_87:ty87.sz=7:=rfl
@[go_sem] theorem by_87:ty87.bytes=104:=rfl
@[go_sem] theorem zero_87:ty87.zero=[.int .i64 0,.str [],.int .i64 0,.int .i64 0,.str [],.slice true [],.slice true []]:=rfl
@[go_sem] theorem T_94:T.ty 94=ty94:=rfl
@[go_sem] theorem k_94:ty94.k=.func:=rfl
@[go_sem] theorem sz_94:ty94.sz=1:=rfl
@[go_sem] theorem by_94:ty94.bytes=8:=rfl
@[go_sem] theorem zero_94:ty94.zero=[.nilf]:=rfl
@[go_sem] theorem T_95:T.ty 95=ty95:=rfl
@[go_sem] theorem k_95:ty95.k=.map 24 4:=rfl
@[go_sem] theorem sz_95:ty95.sz=1:=rfl
@[go_sem] theorem by_95:ty95.bytes=8:=rfl
@[go_sem] theorem zero_95:ty95.zero=[.nilm]:=rfl
@[go_sem] theorem T_96:T.ty 96=ty96:=rfl
@[go_sem] theorem k_96:ty96.k=.map 24 4:=rfl
@[go_sem] theorem sz_96:ty96.sz=1:=rfl
@[go_sem] theorem by_96:ty96.bytes=8:=rfl
@[go_sem] theorem zero_96:ty96.zero=[.nilm]:=rfl
@[go_sem] theorem T_100:T.ty 100=ty100:=rfl
@[go_sem] theorem k_100:ty100.k=.func:=rfl
@[go_sem] theorem sz_100:ty100.sz=1:=rfl
@[go_sem] theorem by_100:ty100.bytes=8:=rfl
@[go_sem] theorem zero_100:ty100.zero=[.nilf]:=rfl
@[go_sem] theorem T_103:T.ty 103=ty103:=rfl
@[go_sem] theorem k_103:ty103.k=.func:=rfl
@[go_sem] theorem sz_103:ty103.sz=1:=rfl
@[go_sem] theorem by_103:ty103.bytes=8:=rfl
@[go_sem] theorem zero_103:ty103.zero=[.nilf]:=rfl
@[go_sem] theorem T_105:T.ty 105=ty105:=rfl
@[go_sem] theorem k_105:ty105.k=.func:=rfl
@[go_sem] theorem sz_105:ty105.sz=1:=rfl
@[go_sem] theorem by_105:ty105.bytes=8:=rfl
@[go_sem] theorem zero_105:ty105.zero=[.nilf]:=rfl
@[go_sem] theorem T_106:T.ty 106=ty106:=rfl
@[go_sem] theorem k_106:ty106.k=.func:=rfl
@[go_sem] theorem sz_106:ty106.sz=1:=rfl
@[go_sem] theorem by_106:ty106.bytes=8:=rfl
@[go_sem] theorem zero_106:ty106.zero=[.nilf]:=rfl
@[go_sem] theorem T_110:T.ty 110=ty110:=rfl
@[go_sem] theorem k_110:ty110.k=.slice 116:=rfl
@[go_sem] theorem sz_110:ty110.sz=1:=rfl
@[go_sem] theorem by_110:ty110.bytes=24:=rfl
@[go_sem] theorem zero_110:ty110.zero=[.slice true []]:=rfl
@[go_sem] theorem T_111:T.ty 111=ty111:=rfl
@[go_sem] theorem k_111:ty111.k=.ptr 157:=rfl
@[go_sem] theorem sz_111:ty111.sz=1:=rfl
@[go_sem] theorem by_111:ty111.bytes=8:=rfl
@[go_sem] theorem zero_111:ty111.zero=[.nilp]:=rfl
@[go_sem] theorem T_114:T.ty 114=ty114:=rfl
@[go_sem] theorem k_114:ty114.k=.func:=rfl
@[go_sem] theorem sz_114:ty114.sz=1:=rfl
@[go_sem] theorem by_114:ty114.bytes=8:=rfl
@[go_sem] theorem zero_114:ty114.zero=[.nilf]:=rfl
@[go_sem] theorem T_116:T.ty 116=ty116:=rfl
@[go_sem] theorem k_116 : ty116.k = .struct [(0, 85, "kinds"), (1, 114, "step")] := rfl
@[go_sem] theorem sz_116:ty116.sz=2:=rfl
@[go_sem] theorem by_116:ty116.bytes=32:=rfl
@[go_sem] theorem zero_116:ty116.zero=[.slice true [],.nilf]:=rfl
@[go_sem] theorem T_133:T.ty 133=ty133:=rfl
@[go_sem] theorem k_133:ty133.k=.map 3 4:=rfl
@[go_sem] theorem sz_133:ty133.sz=1:=rfl
@[go_sem] theorem by_133:ty133.bytes=8:=rfl
@[go_sem] theorem zero_133:ty133.zero=[.nilm]:=rfl
@[go_sem] theorem T_134:T.ty 134=ty134:=rfl
@[go_sem] theorem k_134:ty134.k=.map 24 87:=rfl
@[go_sem] theorem sz_134:ty134.sz=1:=rfl
@[go_sem] theorem by_134:ty134.bytes=8:=rfl
@[go_sem] theorem zero_134:ty134.zero=[.nilm]:=rfl
@[go_sem] theorem T_140:T.ty 140=ty140:=rfl
@[go_sem] theorem k_140:ty140.k=.slice 144:=rfl
@[go_sem] theorem sz_140:ty140.sz=1:=rfl
@[go_sem] theorem by_140:ty140.bytes=24:=rfl
@[go_sem] theorem zero_140:ty140.zero=[.slice true []]:=rfl
@[go_sem] theorem T_142:T.ty 142=ty142:=rfl
@[go_sem] theorem k_142 : ty142.k = .struct [(0, 9, "Host"), (1, 9, "Prefix"), (2, 140, "Split")] := rfl
@[go_sem] theorem sz_142:ty142.sz=3:=rfl
@[go_sem] theorem by_142:ty142.bytes=56:=rfl
@[go_sem] theorem zero_142:ty142.zero=[.str [],.str [],.slice true []]:=rfl
@[go_sem] theorem T_144:T.ty 144=ty144:=rfl
@[go_sem] theorem k_144 : ty144.k = .struct [(0, 9, "Cluster"), (1, 3, "W")] := rfl
@[go_sem] theorem sz_144:ty144.sz=2:=rfl
@[go_sem] theorem by_144:ty144.bytes=24:=rfl
@[go_sem] theorem zero_144:ty144.zero=[.str [],.int .i64 0]:=rfl
@[go_sem] theorem T_147:T.ty 147=ty147:=rfl
@[go_sem] theorem k_147:ty147.k=.int .u64:=rfl
@[go_sem] theorem sz_147:ty147.sz=1:=rfl
@[go_sem] theorem by_147:ty147.bytes=8:=rfl
@[go_sem] theorem zero_147:ty147.zero=[.int .u64 0]:=rfl
@[go_sem] theorem T_152:T.ty 152=ty152:=rfl
@[go_sem] theorem k_152:ty152.k=.map 24 28:=rfl
@[go_sem] theorem sz_152:ty152.sz=1:=rfl
@[go_sem] theorem by_152:ty152.bytes=8:=rfl
@[go_sem] theorem zero_152:ty152.zero=[.nilm]:=rfl
@[go_sem] theorem T_154:T.ty 154=ty154:=rfl
@[go_sem] theorem k_154:ty154.k=.func:=rfl
@[go_sem] theorem sz_154:ty154.sz=1:=rfl
@[go_sem] theorem by_154:ty154.bytes=8:=rfl
@[go_sem] theorem zero_154:ty154.zero=[.nilf]:=rfl
@[go_sem] theorem T_157:T.ty 157=ty157:=rfl
@[go_sem] theorem k_157 : ty157.k = .struct [(0, 22, "adds"), (1, 28, "gone"), (2, 95, "reach"), (3, 22, "have"), (4, 28, "held")] := rfl
@[go_sem] theorem sz_157:ty157.sz=5:=rfl
@[go_sem] theorem by_157:ty157.bytes=104:=rfl
@[go_sem] theorem zero_157:ty157.zero=[.slice true [],.slice true [],.nilm,.slice true [],.slice true []]:=rfl
@[go_sem] theorem T_174:T.ty 174=ty174:=rfl
@[go_sem] theorem k_174:ty174.k=.int .i64:=rfl
@[go_sem] theorem sz_174:ty174.sz=1:=rfl
@[go_sem] theorem by_174:ty174.bytes=8:=rfl
@[go_sem] theorem zero_174:ty174.zero=[.int .i64 0]:=rfl
@[go_sem] theorem T_182:T.ty 182=ty182:=rfl
@[go_sem] theorem k_182:ty182.k=.int .u32:=rfl
@[go_sem] theorem sz_182:ty182.sz=1:=rfl
@[go_sem] theorem by_182:ty182.bytes=4:=rfl
@[go_sem] theorem zero_182:ty182.zero=[.int .u32 0]:=rfl
@[go_sem] theorem T_184:T.ty 184=ty184:=rfl
@[go_sem] theorem k_184:ty184.k=.int .u64:=rfl
@[go_sem] theorem sz_184:ty184.sz=1:=rfl
@[go_sem] theorem by_184:ty184.bytes=8:=rfl
@[go_sem] theorem zero_184:ty184.zero=[.int .u64 0]:=rfl
@[go_sem] theorem T_192:T.ty 192=ty192:=rfl
@[go_sem] theorem k_192:ty192.k=.func:=rfl
@[go_sem] theorem sz_192:ty192.sz=1:=rfl
@[go_sem] theorem by_192:ty192.bytes=8:=rfl
@[go_sem] theorem zero_192:ty192.zero=[.nilf]:=rfl
@[go_sem] theorem T_194:T.ty 194=ty194:=rfl
@[go_sem] theorem k_194 : ty194.k = .struct [(0, 4, "port"), (1, 4, "to"), (2, 4, "rules"), (3, 4, "hosts")] := rfl
@[go_sem] theorem sz_194:ty194.sz=4:=rfl
@[go_sem] theorem by_194:ty194.bytes=4:=rfl
@[go_sem] theorem zero_194:ty194.zero=[.bool false,.bool false,.bool false,.bool false]:=rfl
@[go_sem] theorem T_198:T.ty 198=ty198:=rfl
@[go_sem] theorem k_198:ty198.k=.func:=rfl
@[go_sem] theorem sz_198:ty198.sz=1:=rfl
@[go_sem] theorem by_198:ty198.bytes=8:=rfl
@[go_sem] theorem zero_198:ty198.zero=[.nilf]:=rfl
@[go_sem] theorem T_202:T.ty 202=ty202:=rfl
@[go_sem] theorem k_202:ty202.k=.func:=rfl
@[go_sem] theorem sz_202:ty202.sz=1:=rfl
@[go_sem] theorem by_202:ty202.bytes=8:=rfl
@[go_sem] theorem zero_202:ty202.zero=[.nilf]:=rfl
@[go_sem] theorem T_205:T.ty 205=ty205:=rfl
@[go_sem] theorem k_205:ty205.k=.int .u64:=rfl
@[go_sem] theorem sz_205:ty205.sz=1:=rfl
@[go_sem] theorem by_205:ty205.bytes=8:=rfl
@[go_sem] theorem zero_205:ty205.zero=[.int .u64 0]:=rfl
@[go_sem] theorem T_209:T.ty 209=ty209:=rfl
@[go_sem] theorem k_209:ty209.k=.ptr 3:=rfl
@[go_sem] theorem sz_209:ty209.sz=1:=rfl
@[go_sem] theorem by_209:ty209.bytes=8:=rfl
@[go_sem] theorem zero_209:ty209.zero=[.nilp]:=rfl
@[go_sem] theorem T_212:T.ty 212=ty212:=rfl
@[go_sem] theorem k_212:ty212.k=.slice 22:=rfl
@[go_sem] theorem sz_212:ty212.sz=1:=rfl
@[go_sem] theorem by_212:ty212.bytes=24:=rfl
@[go_sem] theorem zero_212:ty212.zero=[.slice true []]:=rfl
@[go_sem] theorem T_216:T.ty 216=ty216:=rfl
@[go_sem] theorem k_216:ty216.k=.ptr 205:=rfl
@[go_sem] theorem sz_216:ty216.sz=1:=rfl
@[go_sem] theorem by_216:ty216.bytes=8:=rfl
@[go_sem] theorem zero_216:ty216.zero=[.nilp]:=rfl
@[go_sem] theorem T_236:T.ty 236=ty236:=rfl
@[go_sem] theorem k_236 : ty236.k = .struct [(0, 17, "_interface"), (1, 17, "concrete"), (2, 17, "asserted"), (3, 9, "missingMethod")] := rfl
@[go_sem] theorem sz_236:ty236.sz=4:=rfl
@[go_sem] theorem by_236:ty236.bytes=40:=rfl
@[go_sem] theorem zero_236:ty236.zero=[.nilp,.nilp,.nilp,.str []]:=rfl
@[go_sem] theorem T_241:T.ty 241=ty241:=rfl
@[go_sem] theorem k_241:ty241.k=.int .u8:=rfl
@[go_sem] theorem sz_241:ty241.sz=1:=rfl
@[go_sem] theorem by_241:ty241.bytes=1:=rfl
@[go_sem] theorem zero_241:ty241.zero=[.int .u8 0]:=rfl
@[go_sem] theorem T_242:T.ty 242=ty242:=rfl
@[go_sem] theorem k_242:ty242.k=.int .u8:=rfl
@[go_sem] theorem sz_242:ty242.sz=1:=rfl
@[go_sem] theorem by_242:ty242.bytes=1:=rfl
@[go_sem] theorem zero_242:ty242.zero=[.int .u8 0]:=rfl
@[go_sem] theorem T_243:T.ty 243=ty243:=rfl
@[go_sem] theorem k_243:ty243.k=.func:=rfl
@[go_sem] theorem sz_243:ty243.sz=1:=rfl
@[go_sem] theorem by_243:ty243.bytes=8:=rfl
@[go_sem] theorem zero_243:ty243.zero=[.nilf]:=rfl
@[go_sem] theorem T_244:T.ty 244=ty244:=rfl
@[go_sem] theorem k_244:ty244.k=.ptr 5:=rfl
@[go_sem] theorem sz_244:ty244.sz=1:=rfl
@[go_sem] theorem by_244:ty244.bytes=8:=rfl
@[go_sem] theorem zero_244:ty244.zero=[.nilp]:=rfl
@[go_sem] theorem T_245:T.ty 245=ty245:=rfl
@[go_sem] theorem k_245:ty245.k=.int .i32:=rfl
@[go_sem] theorem sz_245:ty245.sz=1:=rfl
@[go_sem] theorem by_245:ty245.bytes=4:=rfl
@[go_sem] theorem zero_245:ty245.zero=[.int .i32 0]:=rfl
@[go_sem] theorem T_246:T.ty 246=ty246:=rfl
@[go_sem] theorem k_246:ty246.k=.int .i32:=rfl
@[go_sem] theorem sz_246:ty246.sz=1:=rfl
@[go_sem] theorem by_246:ty246.bytes=4:=rfl
@[go_sem] theorem zero_246:ty246.zero=[.int .i32 0]:=rfl
@[go_sem] theorem T_248:T.ty 248=ty248:=rfl
@[go_sem] theorem k_248 : ty248.k = .struct [(0, 12, "Size_"), (1, 12, "PtrBytes"), (2, 182, "Hash"), (3, 241, "TFlag"), (4, 5, "Align_"), (5, 5, "FieldAlign_"), (6, 242, "Kind_"), (7, 243, "Equal"), (8, 244, "GCData"), (9, 245, "Str"), (10, 246, "PtrToThis")] := rfl
@[go_sem] theorem sz_248:ty248.sz=11:=rfl
@[go_sem] theorem by_248:ty248.bytes=48:=rfl
@[go_sem] theorem zero_248:ty248.zero=[.int .u64 0,.int .u64 0,.int .u32 0,.int .u8 0,.int .u8 0,.int .u8 0,.int .u8 0,.nilf,.nilp,.int .i32 0,.int .i32 0]:=rfl
@[go_sem] theorem eqg_24:Tryz.prog.eqGuardType Tryz.prog.depth 24=false:=by kernel_rfl
@[go_sem] theorem sth_24:Tryz.prog.stoodInHeld 24=false:=by kernel_rfl
@[go_sem] theorem eqg_144:Tryz.prog.eqGuardType Tryz.prog.depth 144=false:=by kernel_rfl
@[go_sem] theorem sth_144:Tryz.prog.stoodInHeld 144=false:=by kernel_rfl
@[go_sem] theorem eqg_194:Tryz.prog.eqGuardType Tryz.prog.depth 194=false:=by kernel_rfl
@[go_sem] theorem sth_194:Tryz.prog.stoodInHeld 194=false:=by kernel_rfl
theorem mixed:Tryz.prog.follows .mixedOrders=true:=by kernel_rfl
@[ext] structure BoundsError where
 x:Int
 y:Int
 signed:Bool
 code:UInt8
 deriving Inhabited,DecidableEq
instance:Dat BoundsError where
 av x:=.agg [.int .i64 x.x,.int .i64 x.y,.bool x.signed,.int .u8 x.code.toNat]
 sz:=4
 len _:=rfl
 pure x:=by simp only [go_sem,Bool.and_self]
 nrm x:=by simp only [go_sem]
 one x:=by simp only [go_sem,List.all_cons,List.all_nil,Bool.and_self]
 known x:=rfl
@[go_sem] theorem av_BoundsError (x:BoundsError):Dat.av x=.agg [.int .i64 x.x,.int .i64 x.y,.bool x.signed,.int .u8 x.code.toNat]:=rfl
@[go_sem] theorem sz_BoundsError:Dat.sz BoundsError=4:=rfl
@[go_sem] theorem set_BoundsError (l:List BoundsError) (n:Nat) (f0:Int) (f1:Int) (f2:Bool) (f3:UInt8):(avs l).set n (.agg [.int .i64 f0,.int .i64 f1,.bool f2,.int .u8 f3.toNat])=avs (l.set n ⟨f0,f1,f2,f3⟩):=avs_set l n (⟨f0,f1,f2,f3⟩:BoundsError)
@[go_sem] theorem snoc_BoundsError (l:List BoundsError) (f0:Int) (f1:Int) (f2:Bool) (f3:UInt8):avs l++[.agg [.int .i64 f0,.int .i64 f1,.bool f2,.int .u8 f3.toNat]]=avs (l++[⟨f0,f1,f2,f3⟩]):=by rw [avs_append]; rfl
@[go_sem] theorem flatL_BoundsError:∀ l:List BoundsError,AV.flat.flatL (avs l)=true
 | []=>rfl
 | _ :: r=>by simp only [avs_cons,AV.flat.flatL,flatL_BoundsError r,av_BoundsError,AV.flat,Bool.and_self]
@[go_sem] theorem eta_BoundsError (x:BoundsError):BoundsError.mk x.x x.y x.signed x.code=x:=rfl
@[ext] structure Weight where
 cluster:List UInt8
 w:Int
 deriving Inhabited,DecidableEq
instance:Dat Weight where
 av x:=.agg [.str x.cluster,.int .i64 x.w]
 sz:=2
 len _:=rfl
 pure x:=by simp only [go_sem,Bool.and_self]
 nrm x:=by simp only [go_sem]
 one x:=by simp only [go_sem,List.all_cons,List.all_nil,Bool.and_self]
 known x:=rfl
@[go_sem] theorem av_Weight (x:Weight):Dat.av x=.agg [.str x.cluster,.int .i64 x.w]:=rfl
@[go_sem] theorem sz_Weight:Dat.sz Weight=2:=rfl
@[go_sem] theorem set_Weight (l:List Weight) (n:Nat) (f0:List UInt8) (f1:Int):(avs l).set n (.agg [.str f0,.int .i64 f1])=avs (l.set n ⟨f0,f1⟩):=avs_set l n (⟨f0,f1⟩:Weight)
@[go_sem] theorem snoc_Weight (l:List Weight) (f0:List UInt8) (f1:Int):avs l++[.agg [.str f0,.int .i64 f1]]=avs (l++[⟨f0,f1⟩]):=by rw [avs_append]; rfl
@[go_sem] theorem flatL_Weight:∀ l:List Weight,AV.flat.flatL (avs l)=true
 | []=>rfl
 | _ :: r=>by simp only [avs_cons,AV.flat.flatL,flatL_Weight r,av_Weight,AV.flat,Bool.and_self]
theorem ext_Weight (x y:Weight):x=y↔x.cluster=y.cluster∧x.w=y.w:=by cases x; cases y; simp
@[go_sem] theorem eta_Weight (x:Weight):Weight.mk x.cluster x.w=x:=rfl
@[ext] structure Rule where
 host:List UInt8
 pfx:List UInt8
 split:List Weight
 deriving Inhabited,DecidableEq
instance:Dat Rule where
 av x:=.agg [.str x.host,.str x.pfx,.slice false (avs x.split)]
 sz:=3
 len _:=rfl
 pure x:=by simp only [go_sem,Bool.and_self]
 nrm x:=by simp only [go_sem]
 one x:=by simp only [go_sem,List.all_cons,List.all_nil,Bool.and_self]
 known x:=rfl
@[go_sem] theorem av_Rule (x:Rule):Dat.av x=.agg [.str x.host,.str x.pfx,.slice false (avs x.split)]:=rfl
@[go_sem] theorem sz_Rule:Dat.sz Rule=3:=rfl
@[go_sem] theorem set_Rule (l:List Rule) (n:Nat) (f0:List UInt8) (f1:List UInt8) (f2:List Weight):(avs l).set n (.agg [.str f0,.str f1,.slice false (avs f2)])=avs (l.set n ⟨f0,f1,f2⟩):=avs_set l n (⟨f0,f1,f2⟩:Rule)
@[go_sem] theorem snoc_Rule (l:List Rule) (f0:List UInt8) (f1:List UInt8) (f2:List Weight):avs l++[.agg [.str f0,.str f1,.slice false (avs f2)]]=avs (l++[⟨f0,f1,f2⟩]):=by rw [avs_append]; rfl
@[go_sem] theorem eta_Rule (x:Rule):Rule.mk x.host x.pfx x.split=x:=rfl
@[ext] structure Res where
 kind:Int
 name:List UInt8
 ver:Int
 port:Int
 to':List UInt8
 rules':List Rule
 hosts:List Int
 deriving Inhabited,DecidableEq
instance:Dat Res where
 av x:=.agg [.int .i64 x.kind,.str x.name,.int .i64 x.ver,.int .i64 x.port,.str x.to',.slice false (avs x.rules'),.slice false (avs x.hosts)]
 sz:=7
 len _:=rfl
 pure x:=by simp only [go_sem,Bool.and_self]
 nrm x:=by simp only [go_sem]
 one x:=by simp only [go_sem,List.all_cons,List.all_nil,Bool.and_self]
 known x:=rfl
@[go_sem] theorem av_Res (x:Res):Dat.av x=.agg [.int .i64 x.kind,.str x.name,.int .i64 x.ver,.int .i64 x.port,.str x.to',.slice false (avs x.rules'),.slice false (avs x.hosts)]:=rfl
@[go_sem] theorem sz_Res:Dat.sz Res=7:=rfl
@[go_sem] theorem set_Res (l:List Res) (n:Nat) (f0:Int) (f1:List UInt8) (f2:Int) (f3:Int) (f4:List UInt8) (f5:List Rule) (f6:List Int):(avs l).set n (.agg [.int .i64 f0,.str f1,.int .i64 f2,.int .i64 f3,.str f4,.slice false (avs f5),.slice false (avs f6)])=avs (l.set n ⟨f0,f1,f2,f3,f4,f5,f6⟩):=avs_set l n (⟨f0,f1,f2,f3,f4,f5,f6⟩:Res)
@[go_sem] theorem snoc_Res (l:List Res) (f0:Int) (f1:List UInt8) (f2:Int) (f3:Int) (f4:List UInt8) (f5:List Rule) (f6:List Int):avs l++[.agg [.int .i64 f0,.str f1,.int .i64 f2,.int .i64 f3,.str f4,.slice false (avs f5),.slice false (avs f6)]]=avs (l++[⟨f0,f1,f2,f3,f4,f5,f6⟩]):=by rw [avs_append]; rfl
@[go_sem] theorem eta_Res (x:Res):Res.mk x.kind x.name x.ver x.port x.to' x.rules' x.hosts=x:=rfl
@[ext] structure Key where
 kind:Int
 name:List UInt8
 deriving Inhabited,DecidableEq
instance:Dat Key where
 av x:=.agg [.int .i64 x.kind,.str x.name]
 sz:=2
 len _:=rfl
 pure x:=by simp only [go_sem,Bool.and_self]
 nrm x:=by simp only [go_sem]
 one x:=by simp only [go_sem,List.all_cons,List.all_nil,Bool.and_self]
 known x:=rfl
@[go_sem] theorem av_Key (x:Key):Dat.av x=.agg [.int .i64 x.kind,.str x.name]:=rfl
@[go_sem] theorem sz_Key:Dat.sz Key=2:=rfl
@[go_sem] theorem set_Key (l:List Key) (n:Nat) (f0:Int) (f1:List UInt8):(avs l).set n (.agg [.int .i64 f0,.str f1])=avs (l.set n ⟨f0,f1⟩):=avs_set l n (⟨f0,f1⟩:Key)
@[go_sem] theorem snoc_Key (l:List Key) (f0:Int) (f1:List UInt8):avs l++[.agg [.int .i64 f0,.str f1]]=avs (l++[⟨f0,f1⟩]):=by rw [avs_append]; rfl
@[go_sem] theorem flatL_Key:∀ l:List Key,AV.flat.flatL (avs l)=true
 | []=>rfl
 | _ :: r=>by simp only [avs_cons,AV.flat.flatL,flatL_Key r,av_Key,AV.flat,Bool.and_self]
theorem ext_Key (x y:Key):x=y↔x.kind=y.kind∧x.name=y.name:=by cases x; cases y; simp
@[go_sem] theorem eta_Key (x:Key):Key.mk x.kind x.name=x:=rfl
@[ext] structure Step where
 kind:Int
 adds:List Res
 gone:List Key
 deriving Inhabited,DecidableEq
instance:Dat Step where
 av x:=.agg [.int .i64 x.kind,.slice false (avs x.adds),.slice false (avs x.gone)]
 sz:=3
 len _:=rfl
 pure x:=by simp only [go_sem,Bool.and_self]
 nrm x:=by simp only [go_sem]
 one x:=by simp only [go_sem,List.all_cons,List.all_nil,Bool.and_self]
 known x:=rfl
@[go_sem] theorem av_Step (x:Step):Dat.av x=.agg [.int .i64 x.kind,.slice false (avs x.adds),.slice false (avs x.gone)]:=rfl
@[go_sem] theorem sz_Step:Dat.sz Step=3:=rfl
@[go_sem] theorem set_Step (l:List Step) (n:Nat) (f0:Int) (f1:List Res) (f2:List Key):(avs l).set n (.agg [.int .i64 f0,.slice false (avs f1),.slice false (avs f2)])=avs (l.set n ⟨f0,f1,f2⟩):=avs_set l n (⟨f0,f1,f2⟩:Step)
@[go_sem] theorem snoc_Step (l:List Step) (f0:Int) (f1:List Res) (f2:List Key):avs l++[.agg [.int .i64 f0,.slice false (avs f1),.slice false (avs f2)]]=avs (l++[⟨f0,f1,f2⟩]):=by rw [avs_append]; rfl
@[go_sem] theorem eta_Step (x:Step):Step.mk x.kind x.adds x.gone=x:=rfl
@[ext] structure Cache where
 cap:Int
 l:List Res
 deriving Inhabited,DecidableEq
instance:Dat Cache where
 av x:=.agg [.int .i64 x.cap,.slice false (avs x.l)]
 sz:=2
 len _:=rfl
 pure x:=by simp only [go_sem,Bool.and_self]
 nrm x:=by simp only [go_sem]
 one x:=by simp only [go_sem,List.all_cons,List.all_nil,Bool.and_self]
 known x:=rfl
@[go_sem] theorem av_Cache (x:Cache):Dat.av x=.agg [.int .i64 x.cap,.slice false (avs x.l)]:=rfl
@[go_sem] theorem sz_Cache:Dat.sz Cache=2:=rfl
@[go_sem] theorem set_Cache (l:List Cache) (n:Nat) (f0:Int) (f1:List Res):(avs l).set n (.agg [.int .i64 f0,.slice false (avs f1)])=avs (l.set n ⟨f0,f1⟩):=avs_set l n (⟨f0,f1⟩:Cache)
@[go_sem] theorem snoc_Cache (l:List Cache) (f0:Int) (f1:List Res):avs l++[.agg [.int .i64 f0,.slice false (avs f1)]]=avs (l++[⟨f0,f1⟩]):=by rw [avs_append]; rfl
@[go_sem] theorem eta_Cache (x:Cache):Cache.mk x.cap x.l=x:=rfl
@[ext] structure Warm where
 c:Cache
 ready:Bool
 shown:List Res
 deriving Inhabited,DecidableEq
instance:Dat Warm where
 av x:=.agg [.int .i64 x.c.cap,.slice false (avs x.c.l),.bool x.ready,.slice false (avs x.shown)]
 sz:=4
 len _:=rfl
 pure x:=by simp only [go_sem,Bool.and_self]
 nrm x:=by simp only [go_sem]
 one x:=by simp only [go_sem,List.all_cons,List.all_nil,Bool.and_self]
 known x:=rfl
@[go_sem] theorem av_Warm (x:Warm):Dat.av x=.agg [.int .i64 x.c.cap,.slice false (avs x.c.l),.bool x.ready,.slice false (avs x.shown)]:=rfl
@[go_sem] theorem sz_Warm:Dat.sz Warm=4:=rfl
@[go_sem] theorem set_Warm (l:List Warm) (n:Nat) (f0:Cache) (f1:Bool) (f2:List Res):(avs l).set n (.agg [.int .i64 f0.cap,.slice false (avs f0.l),.bool f1,.slice false (avs f2)])=avs (l.set n ⟨f0,f1,f2⟩):=avs_set l n (⟨f0,f1,f2⟩:Warm)
@[go_sem] theorem snoc_Warm (l:List Warm) (f0:Cache) (f1:Bool) (f2:List Res):avs l++[.agg [.int .i64 f0.cap,.slice false (avs f0.l),.bool f1,.slice false (avs f2)]]=avs (l++[⟨f0,f1,f2⟩]):=by rw [avs_append]; rfl
@[go_sem] theorem eta_Warm (x:Warm):Warm.mk x.c x.ready x.shown=x:=rfl
@[ext] structure Move where
 warm:Warm
 changed:Bool
 deriving Inhabited,DecidableEq
instance:Dat Move where
 av x:=.agg [.int .i64 x.warm.c.cap,.slice false (avs x.warm.c.l),.bool x.warm.ready,.slice false (avs x.warm.shown),.bool x.changed]
 sz:=5
 len _:=rfl
 pure x:=by simp only [go_sem,Bool.and_self]
 nrm x:=by simp only [go_sem]
 one x:=by simp only [go_sem,List.all_cons,List.all_nil,Bool.and_self]
 known x:=rfl
@[go_sem] theorem av_Move (x:Move):Dat.av x=.agg [.int .i64 x.warm.c.cap,.slice false (avs x.warm.c.l),.bool x.warm.ready,.slice false (avs x.warm.shown),.bool x.changed]:=rfl
@[go_sem] theorem sz_Move:Dat.sz Move=5:=rfl
@[go_sem] theorem set_Move (l:List Move) (n:Nat) (f0:Warm) (f1:Bool):(avs l).set n (.agg [.int .i64 f0.c.cap,.slice false (avs f0.c.l),.bool f0.ready,.slice false (avs f0.shown),.bool f1])=avs (l.set n ⟨f0,f1⟩):=avs_set l n (⟨f0,f1⟩:Move)
@[go_sem] theorem snoc_Move (l:List Move) (f0:Warm) (f1:Bool):avs l++[.agg [.int .i64 f0.c.cap,.slice false (avs f0.c.l),.bool f0.ready,.slice false (avs f0.shown),.bool f1]]=avs (l++[⟨f0,f1⟩]):=by rw [avs_append]; rfl
@[go_sem] theorem eta_Move (x:Move):Move.mk x.warm x.changed=x:=rfl
@[ext] structure Bad where
 e:Int
 deriving Inhabited,DecidableEq
instance:Dat Bad where
 av x:=.agg [.int .i64 x.e]
 sz:=1
 len _:=rfl
 pure x:=by simp only [go_sem,Bool.and_self]
 nrm x:=by simp only [go_sem]
 one x:=by simp only [go_sem,List.all_cons,List.all_nil,Bool.and_self]
 known x:=rfl
@[go_sem] theorem av_Bad (x:Bad):Dat.av x=.agg [.int .i64 x.e]:=rfl
@[go_sem] theorem sz_Bad:Dat.sz Bad=1:=rfl
@[go_sem] theorem set_Bad (l:List Bad) (n:Nat) (f0:Int):(avs l).set n (.agg [.int .i64 f0])=avs (l.set n ⟨f0⟩):=avs_set l n (⟨f0⟩:Bad)
@[go_sem] theorem snoc_Bad (l:List Bad) (f0:Int):avs l++[.agg [.int .i64 f0]]=avs (l++[⟨f0⟩]):=by rw [avs_append]; rfl
@[go_sem] theorem flatL_Bad:∀ l:List Bad,AV.flat.flatL (avs l)=true
 | []=>rfl
 | _ :: r=>by simp only [avs_cons,AV.flat.flatL,flatL_Bad r,av_Bad,AV.flat,Bool.and_self]
@[go_sem] theorem eta_Bad (x:Bad):Bad.mk x.e=x:=rfl
@[ext] structure Has where
 port:Bool
 to':Bool
 rules':Bool
 hosts:Bool
 deriving Inhabited,DecidableEq
instance:Dat Has where
 av x:=.agg [.bool x.port,.bool x.to',.bool x.rules',.bool x.hosts]
 sz:=4
 len _:=rfl
 pure x:=by simp only [go_sem,Bool.and_self]
 nrm x:=by simp only [go_sem]
 one x:=by simp only [go_sem,List.all_cons,List.all_nil,Bool.and_self]
 known x:=rfl
@[go_sem] theorem av_Has (x:Has):Dat.av x=.agg [.bool x.port,.bool x.to',.bool x.rules',.bool x.hosts]:=rfl
@[go_sem] theorem sz_Has:Dat.sz Has=4:=rfl
@[go_sem] theorem set_Has (l:List Has) (n:Nat) (f0:Bool) (f1:Bool) (f2:Bool) (f3:Bool):(avs l).set n (.agg [.bool f0,.bool f1,.bool f2,.bool f3])=avs (l.set n ⟨f0,f1,f2,f3⟩):=avs_set l n (⟨f0,f1,f2,f3⟩:Has)
@[go_sem] theorem snoc_Has (l:List Has) (f0:Bool) (f1:Bool) (f2:Bool) (f3:Bool):avs l++[.agg [.bool f0,.bool f1,.bool f2,.bool f3]]=avs (l++[⟨f0,f1,f2,f3⟩]):=by rw [avs_append]; rfl
@[go_sem] theorem flatL_Has:∀ l:List Has,AV.flat.flatL (avs l)=true
 | []=>rfl
 | _ :: r=>by simp only [avs_cons,AV.flat.flatL,flatL_Has r,av_Has,AV.flat,Bool.and_self]
@[go_sem] theorem eta_Has (x:Has):Has.mk x.port x.to' x.rules' x.hosts=x:=rfl
@[ext] structure AcceptRange where
 lo:UInt8
 hi:UInt8
 deriving Inhabited,DecidableEq
instance:Dat AcceptRange where
 av x:=.agg [.int .u8 x.lo.toNat,.int .u8 x.hi.toNat]
 sz:=2
 len _:=rfl
 pure x:=by simp only [go_sem,Bool.and_self]
 nrm x:=by simp only [go_sem]
 one x:=by simp only [go_sem,List.all_cons,List.all_nil,Bool.and_self]
 known x:=rfl
@[go_sem] theorem av_AcceptRange (x:AcceptRange):Dat.av x=.agg [.int .u8 x.lo.toNat,.int .u8 x.hi.toNat]:=rfl
@[go_sem] theorem sz_AcceptRange:Dat.sz AcceptRange=2:=rfl
@[go_sem] theorem set_AcceptRange (l:List AcceptRange) (n:Nat) (f0:UInt8) (f1:UInt8):(avs l).set n (.agg [.int .u8 f0.toNat,.int .u8 f1.toNat])=avs (l.set n ⟨f0,f1⟩):=avs_set l n (⟨f0,f1⟩:AcceptRange)
@[go_sem] theorem snoc_AcceptRange (l:List AcceptRange) (f0:UInt8) (f1:UInt8):avs l++[.agg [.int .u8 f0.toNat,.int .u8 f1.toNat]]=avs (l++[⟨f0,f1⟩]):=by rw [avs_append]; rfl
@[go_sem] theorem flatL_AcceptRange:∀ l:List AcceptRange,AV.flat.flatL (avs l)=true
 | []=>rfl
 | _ :: r=>by simp only [avs_cons,AV.flat.flatL,flatL_AcceptRange r,av_AcceptRange,AV.flat,Bool.and_self]
@[go_sem] theorem eta_AcceptRange (x:AcceptRange):AcceptRange.mk x.lo x.hi=x:=rfl
def SmWeight (x:Weight):Prop:=Small x.cluster.length
def SmRule (x:Rule):Prop:=Small x.host.length∧Small x.pfx.length∧Small x.split.length∧(∀ y∈x.split,SmWeight y)
def SmRes (x:Res):Prop:=Small x.name.length∧Small x.to'.length∧Small x.rules'.length∧(∀ y∈x.rules',SmRule y)∧Small x.hosts.length
def SmKey (x:Key):Prop:=Small x.name.length
end Go.Proofs.YtmjkjmoeicnbnaaGreatDoor.Lg
