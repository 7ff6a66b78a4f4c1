/- Parts of the proof, one behind the other. -/
import Derived.Sort.Grow
import Derived.Deep.Draws
import Derived.OrdersIn
import Derived.RangeFuncCalls
import Derived.Test.YtmjkjmoeicnbnaaGreatDoorG02
namespace Go.Proofs.YtmjkjmoeicnbnaaGreatDoor.Lg
set_option maxRecDepth 100000
set_option linter.unusedVariables false
set_option linter.unusedSimpArgs false
open Go
variable {P:Program}
structure Again (I:Nat→TS→Prop) (n:Nat) (A:TS→Prop):Prop where
 on:∀ (m:Nat) {ts:TS},m < n→I m ts→A ts
def keepL (a b:TS):List Nat→Prop
 | []=>True
 | t :: r=>a.tmp t=b.tmp t∧a.gen t=b.gen t∧a.obj t=b.obj t∧keepL a b r
def Keeps (keep:List Nat) (a b:TS):Prop:=a.n=b.n∧keepL a b keep
theorem keepL.rfl' (a:TS):∀ l:List Nat,keepL a a l
 | []=>trivial
 | _ :: r=>⟨rfl,rfl,rfl,keepL.rfl' a r⟩
def Ent (ts ts':TS):Prop:=∀ E G a w,Rel E ts G a w→∃ G',Rel E ts' G' a w
theorem Ent.rfl' (ts:TS):Ent ts ts:=fun _ G _ _ h=>⟨G,h⟩
theorem Ent.trans {a b c:TS} (h:Ent a b) (k:Ent b c):Ent a c:=fun E G x w hr=>by
 obtain ⟨G',h'⟩:=h E G x w hr
 exact k E G' x w h'
theorem SpecC.ent {c:Code} {ts ts':TS} {Q:Exit→TS→Prop} (he:Ent ts ts') (h:SpecC P c ts' Q):SpecC P c ts Q:=fun E G a w hr=>by
 obtain ⟨G',hr'⟩:=he E G a w hr
 exact h E G' a w hr'
def AV.reos (t g:Nat):AV→AV
 | .os _ _ len=>.os t g len
 | x=>x
def canV (ts:TS) (d:Nat):AV→Bool
 | .os e g _=>e == d && g == ts.gen d && (ts.obj d).arr?.isSome
 | _=>false
theorem Ent.ren {ts:TS} (t d:Nat) (h:canV ts d (ts.tmp t)=true) (hn:t < ts.n):Ent ts ((ts.ren d t).put t ((ts.tmp t).reos t (ts.gen t+1))):=fun E G a w hr=>by
 have hv:=hr.tmp t
 generalize ts.tmp t=x at h hv
 cases x with
 | os e g len =>
  simp only [canV,Bool.and_eq_true,beq_iff_eq] at h
  obtain ⟨⟨rfl,h2⟩,h3⟩:=h
  obtain ⟨⟨sz,xs⟩,ho⟩:=Option.isSome_iff_exists.1 h3
  have ho:=arr?_some ho
  obtain ⟨h1c,hgl,hos⟩:=rep_os hv
  have hos:=hos h2 (by simp [ctxOf,ho,Ob.kind])
  have key:=hr.ren (d:=e) (d':=t) hn (v:=a.tmps.getD t undef) (x:=.os t (ts.gen t+1) len) (.os t _ _ _ h1c (by simp [ctxOf,TS.ren]) fun _ _=>by
   unfold OsIs at hos ⊢
   simpa [ctxOf,Ghost.set] using hos)
  have ha:a.put (some t) (a.tmps.getD t undef)=a:=by
   have hs:t < a.tmps.size:=by rw [hr.size]; exact hn
   cases a with
   | mk tmps defers =>
    simp only [Act.put]
    congr 1
    simp only at hs
    rw [Array.getD_eq_getD_getElem?,Array.getElem?_eq_getElem hs]
    apply Array.ext
    ·simp
    ·intro i h1 h2
     by_cases e:t=i
     ·subst e; simp
     ·rw [Array.getElem_setIfInBounds (by simpa using h2)]; simp [e]
  rw [ha] at key
  exact ⟨_,key⟩
 | _=>simp [canV] at h
theorem Ent.virt {ts:TS} (t sz:Nat) (h:ts.tmp t=.slice true []) (hsz:0 < sz):Ent ts ((ts.new t (.arr sz [])).put t (.os t (ts.gen t+1) 0)):=fun E G a w hr=>by
 have h0:=hr.tmp t
 rw [h] at h0
 exact ⟨_,(hr.newVirt t sz hsz).reput (nil_os h0)⟩
theorem Ent.frz {ts:TS} (t:Nat) {d g len:Nat} (h1:ts.tmp t=.os d g len) (h2:g=ts.gen d) {sz:Nat} {xs:List AV} (h3:(ts.obj d).arr?=some (sz,xs)) (h4:len≤xs.length):Ent ts ((ts.kill d).put t (.slice false (xs.take len))):=fun E G a w hr=>by
 have hv:=hr.tmp t
 rw [h1] at hv
 exact ⟨G,(hr.kill d).reput (Rep.frozen hr hv h2 (arr?_some h3) h4)⟩
structure AgainF (keep:List Nat) (ts0:TS) (I:Nat→TS→Prop) (n:Nat) (A:TS→Prop):Prop where
 onE:∀ (m:Nat) {ts ts':TS},Ent ts ts'→m < n→Keeps keep ts' ts0→I m ts'→A ts
theorem AgainF.on {keep:List Nat} {ts0:TS} {I:Nat→TS→Prop} {n:Nat} {A:TS→Prop} (h:AgainF keep ts0 I n A) (m:Nat) {ts:TS} (hm:m < n) (hk:Keeps keep ts ts0) (hi:I m ts):A ts:=h.onE m (Ent.rfl' ts) hm hk hi
theorem SpecC.loopF {c:Code} {ts:TS} {Q:Exit→TS→Prop} (keep:List Nat) (I:Nat→TS→Prop) (n:Nat) (h0:I n ts) (round:∀ n A,AgainF keep ts I n A→∀ ts',Keeps keep ts' ts→I n ts'→SpecC P c ts' (thenK A Q)):SpecC P (.loop c) ts Q :=
 SpecC.loop (fun n ts'=>∃ ts2,Ent ts' ts2∧Keeps keep ts2 ts∧I n ts2) n ⟨ts,Ent.rfl' ts,⟨rfl,keepL.rfl' ts keep⟩,h0⟩ fun n ts' h=>by
  obtain ⟨ts2,h1,h2,h3⟩:=h
  exact SpecC.ent h1 (round n _ ⟨fun m _ ts4 he hm hk hi=>⟨m,hm,ts4,he,hk,hi⟩⟩ ts2 h2 h3)
theorem SpecC.scopeF {c rest:Code} {ts:TS} {Q:Exit→TS→Prop} (l:Nat) (keep:List Nat) (I:Nat→TS→Prop) (n0:Nat) (hf:findLabel c l=some rest) (first:∀ J,AgainF keep ts I n0 J→SpecC P c ts (jumpK l J Q))
  (pass:∀ n J,AgainF keep ts I n J→∀ ts',Keeps keep ts' ts→I n ts'→SpecC P rest ts' (jumpK l J Q)):SpecC P (.scope c) ts Q :=
 SpecC.scope_jumps l (fun n ts'=>∃ ts2,Ent ts' ts2∧Keeps keep ts2 ts∧I n ts2) hf (first _ ⟨fun m _ ts4 he _ hk hi=>⟨m,ts4,he,hk,hi⟩⟩) fun n ts' h=>by
  obtain ⟨ts2,h1,h2,h3⟩:=h
  exact SpecC.ent h1 (pass n _ ⟨fun m _ ts4 he hm hk hi=>⟨m,hm,ts4,he,hk,hi⟩⟩ ts2 h2 h3)
@[congr] theorem optK_cong {α:Type} {x x':Option α} {K:α→Prop} (hx:x=x'):(optK (α:=α) x K)=(optK (α:=α) x' K):=by subst hx; rfl
@[congr] theorem boolK_cong {x x':AV} {K:Bool→Prop} (hx:x=x'):(boolK x K)=(boolK x' K):=by subst hx; rfl
@[congr] theorem intK_cong {x x':AV} {K:IntKind→Int→Prop} (hx:x=x'):(intK x K)=(intK x' K):=by subst hx; rfl
def opsL (o:Oper):List Operand:=o.op.operands.toList
def tgtV (wr:List Nat) (v:AV):Bool :=
 match v with
 | .ref d _ _=>wr.contains d
 | .eref d _ _ _=>wr.contains d
 | _=>true
def tgtA (wr:List Nat) (v:AV):Bool :=
 match v with
 | .os d _ _=>wr.contains d
 | _=>true
def tgtM (wr:List Nat) (v:AV):Bool :=
 match v with
 | .mref d _=>wr.contains d
 | _=>true
section
variable (T:Tys P) (all l:List Oper) (o:Oper) (ts:TS) (K:TS→Prop) (Q:Exit→TS→Prop) (dst:Option Nat) (ty:TypeId) (pos:String) (after:Array Edge) (g:Option (Nat × Bool)) (wr bad:List Nat) (r:List (List Nat × List Nat))
@[go_sem] theorem reos_os (t q d p len:Nat):(AV.os d p len).reos t q=.os t q len:=rfl
@[go_sem] theorem canV_os (d e q len:Nat):canV ts d (.os e q len)=(e == d && q == ts.gen d && (ts.obj d).arr?.isSome):=rfl
@[go_sem] theorem tmp_ren (d d':Nat):(ts.ren d d').tmp=ts.tmp:=rfl
@[go_sem] theorem n_ren (d d':Nat):(ts.ren d d').n=ts.n:=rfl
@[go_sem] theorem gen_ren (d d' u:Nat):(ts.ren d d').gen u=if u=d' then ts.gen d'+1 else ts.gen u:=rfl
@[go_sem] theorem obj_ren (d d' u:Nat):(ts.ren d d').obj u=if u=d' then ts.obj d else if u=d then .dead else ts.obj u:=rfl
@[go_sem] theorem keepL_nil (a b:TS):keepL a b []=True:=rfl
@[go_sem] theorem keepL_cons (a b:TS) (t:Nat) (r:List Nat):keepL a b (t :: r)=(a.tmp t=b.tmp t∧a.gen t=b.gen t∧a.obj t=b.obj t∧keepL a b r):=rfl
@[go_sem] theorem Keeps_eq (keep:List Nat) (a b:TS):Keeps keep a b=(a.n=b.n∧keepL a b keep):=rfl
@[go_sem] theorem wOps_nil:wOps T all [] K ts=K ts:=rfl
@[go_sem] theorem wOps_cons:wOps T all (o :: l) K ts=wG T all o (wOps T all l K) ts:=rfl
@[go_sem] theorem wG_none (op:Op):wG T all ⟨dst,op,ty,pos,after,none⟩ K ts=opK T ⟨dst,op,ty,pos,after,none⟩ ts K:=rfl
@[go_sem] theorem wG_some (op:Op) (j:Nat) (want:Bool):wG T all ⟨dst,op,ty,pos,after,some (j,want)⟩ K ts=gK (gvalL ts all j) want (opKt T ⟨dst,op,ty,pos,after,some (j,want)⟩ K) (skipK dst K) ts:=rfl
@[go_sem] theorem opKt_eq:opKt T o K ts=opK T o ts K:=rfl
@[go_sem] theorem gvalL_zero (d:Nat) (op:Op):gvalL ts (⟨some d,op,ty,pos,after,g⟩ :: l) 0=ts.tmp d:=rfl
@[go_sem] theorem gvalL_succ (j:Nat):gvalL ts (o :: l) (j+1)=gvalL ts l j:=rfl
@[go_sem] theorem gK_tt (A B:TS→Prop):gK (.bool true) true A B ts=A ts:=by simp [gK]
@[go_sem] theorem gK_ff (A B:TS→Prop):gK (.bool false) false A B ts=A ts:=by simp [gK]
@[go_sem] theorem gK_tf (A B:TS→Prop):gK (.bool true) false A B ts=B ts:=by simp [gK]
@[go_sem] theorem gK_ft (A B:TS→Prop):gK (.bool false) true A B ts=B ts:=by simp [gK]
@[go_sem] theorem gK_skip (w:Bool) (A B:TS→Prop):gK (.tup []) w A B ts=B ts:=rfl
@[go_sem] theorem condK_t (A B:Prop):condK (.bool true) A B=A:=by simp [condK]
@[go_sem] theorem condK_f (A B:Prop):condK (.bool false) A B=B:=by simp [condK]
@[go_sem] theorem skipK_some (d:Nat):skipK (some d) K ts=(d < ts.n∧K (ts.put d (.tup []))):=rfl
@[go_sem] theorem skipK_none:skipK none K ts=K ts:=rfl
@[go_sem] theorem wDraw_nil:wDraw T all [] l K ts=wOps T all l K ts:=rfl
@[go_sem] theorem wDraw_cons:wDraw T all ((wr,bad) :: r) (o :: l) K ts=(wGp T all o (wDraw T all r l K) ts∧(opndOk bad ts (opsL o)=true∧tgtOk wr ts o=true)):=rfl
@[go_sem] theorem opndOk_nil:opndOk bad ts []=true:=rfl
@[go_sem] theorem opndOk_tmp (t:Nat) (xs:List Operand):opndOk bad ts (.tmp t :: xs)=(vOk bad (ts.tmp t) && opndOk bad ts xs):=rfl
@[go_sem] theorem opndOk_const (v:Value) (xs:List Operand):opndOk bad ts (.const v :: xs)=opndOk bad ts xs:=rfl
@[go_sem] theorem opndOk_func (f:Nat) (xs:List Operand):opndOk bad ts (.func f :: xs)=opndOk bad ts xs:=rfl
@[go_sem] theorem opsL_move (x:Operand):opsL ⟨dst,.move x,ty,pos,after,g⟩=[x]:=rfl
@[go_sem] theorem tgtOk_move (x:Operand):tgtOk wr ts ⟨dst,.move x,ty,pos,after,g⟩=true:=rfl
@[go_sem] theorem opsL_assign (x:Operand):opsL ⟨dst,.assign x,ty,pos,after,g⟩=[x]:=rfl
@[go_sem] theorem tgtOk_assign (x:Operand):tgtOk wr ts ⟨dst,.assign x,ty,pos,after,g⟩=true:=rfl
@[go_sem] theorem opsL_pick (c x y:Operand):opsL ⟨dst,.pick c x y,ty,pos,after,g⟩=[c,x,y]:=rfl
@[go_sem] theorem tgtOk_pick (c x y:Operand):tgtOk wr ts ⟨dst,.pick c x y,ty,pos,after,g⟩=true:=rfl
@[go_sem] theorem opsL_alloc (t:TypeId):opsL ⟨dst,.alloc t,ty,pos,after,g⟩=[]:=rfl
@[go_sem] theorem tgtOk_alloc (t:TypeId):tgtOk wr ts ⟨dst,.alloc t,ty,pos,after,g⟩=true:=rfl
@[go_sem] theorem opsL_box (t:TypeId) (x:Operand):opsL ⟨dst,.box t x,ty,pos,after,g⟩=[x]:=rfl
@[go_sem] theorem tgtOk_box (t:TypeId) (x:Operand):tgtOk wr ts ⟨dst,.box t x,ty,pos,after,g⟩=true:=rfl
@[go_sem] theorem opsL_load (t:TypeId) (x:Operand):opsL ⟨dst,.load t x,ty,pos,after,g⟩=[x]:=rfl
@[go_sem] theorem tgtOk_load (t:TypeId) (x:Operand):tgtOk wr ts ⟨dst,.load t x,ty,pos,after,g⟩=true:=rfl
@[go_sem] theorem opsL_field (t:TypeId) (x:Operand) (f:Nat):opsL ⟨dst,.field t x f,ty,pos,after,g⟩=[x]:=rfl
@[go_sem] theorem tgtOk_field (t:TypeId) (x:Operand) (f:Nat):tgtOk wr ts ⟨dst,.field t x f,ty,pos,after,g⟩=true:=rfl
@[go_sem] theorem opsL_fieldAddr (t:TypeId) (x:Operand) (f:Nat):opsL ⟨dst,.fieldAddr t x f,ty,pos,after,g⟩=[x]:=rfl
@[go_sem] theorem tgtOk_fieldAddr (t:TypeId) (x:Operand) (f:Nat):tgtOk wr ts ⟨dst,.fieldAddr t x f,ty,pos,after,g⟩=true:=rfl
@[go_sem] theorem opsL_indexAddr (t:TypeId) (x y:Operand):opsL ⟨dst,.indexAddr t x y,ty,pos,after,g⟩=[x,y]:=rfl
@[go_sem] theorem tgtOk_indexAddr (t:TypeId) (x y:Operand):tgtOk wr ts ⟨dst,.indexAddr t x y,ty,pos,after,g⟩=true:=rfl
@[go_sem] theorem opsL_index (t:TypeId) (x y:Operand):opsL ⟨dst,.index t x y,ty,pos,after,g⟩=[x,y]:=rfl
@[go_sem] theorem tgtOk_index (t:TypeId) (x y:Operand):tgtOk wr ts ⟨dst,.index t x y,ty,pos,after,g⟩=true:=rfl
@[go_sem] theorem opsL_bin (b:BinOp) (t u:TypeId) (x y:Operand):opsL ⟨dst,.binOp b t x y u,ty,pos,after,g⟩=[x,y]:=rfl
@[go_sem] theorem tgtOk_bin (b:BinOp) (t u:TypeId) (x y:Operand):tgtOk wr ts ⟨dst,.binOp b t x y u,ty,pos,after,g⟩=true:=rfl
@[go_sem] theorem opsL_un (b:UnOp) (t:TypeId) (x:Operand):opsL ⟨dst,.unOp b t x,ty,pos,after,g⟩=[x]:=rfl
@[go_sem] theorem tgtOk_un (b:UnOp) (t:TypeId) (x:Operand):tgtOk wr ts ⟨dst,.unOp b t x,ty,pos,after,g⟩=true:=rfl
@[go_sem] theorem opsL_makeFunc (fn:Fn) (l r:List Operand):opsL ⟨dst,.makeFunc fn (List.toArray l) (List.toArray r),ty,pos,after,g⟩=l++r:=by simp [opsL,Op.operands]
@[go_sem] theorem tgtOk_makeFunc (fn:Fn) (l r:Array Operand):tgtOk wr ts ⟨dst,.makeFunc fn l r,ty,pos,after,g⟩=true:=rfl
@[go_sem] theorem opsL_nilCheck (x:Operand):opsL ⟨dst,.nilCheck x,ty,pos,after,g⟩=[x]:=rfl
@[go_sem] theorem tgtOk_nilCheck (x:Operand):tgtOk wr ts ⟨dst,.nilCheck x,ty,pos,after,g⟩=true:=rfl
@[go_sem] theorem opsL_extract (x:Operand) (i:Nat):opsL ⟨dst,.extract x i,ty,pos,after,g⟩=[x]:=rfl
@[go_sem] theorem tgtOk_extract (x:Operand) (i:Nat):tgtOk wr ts ⟨dst,.extract x i,ty,pos,after,g⟩=true:=rfl
@[go_sem] theorem opsL_slice0 (t:TypeId) (x:Operand):opsL ⟨dst,.slice t x none none none,ty,pos,after,g⟩=[x]:=rfl
@[go_sem] theorem tgtOk_slice0 (t:TypeId) (x:Operand):tgtOk wr ts ⟨dst,.slice t x none none none,ty,pos,after,g⟩=true:=rfl
@[go_sem] theorem opsL_slice1 (t:TypeId) (x y:Operand):opsL ⟨dst,.slice t x (some y) none none,ty,pos,after,g⟩=[x,y]:=rfl
@[go_sem] theorem tgtOk_slice1 (t:TypeId) (x y:Operand):tgtOk wr ts ⟨dst,.slice t x (some y) none none,ty,pos,after,g⟩=true:=rfl
@[go_sem] theorem opsL_slice2 (t:TypeId) (x y:Operand):opsL ⟨dst,.slice t x none (some y) none,ty,pos,after,g⟩=[x,y]:=rfl
@[go_sem] theorem tgtOk_slice2 (t:TypeId) (x y:Operand):tgtOk wr ts ⟨dst,.slice t x none (some y) none,ty,pos,after,g⟩=true:=rfl
@[go_sem] theorem opsL_slice3 (t:TypeId) (x y z:Operand):opsL ⟨dst,.slice t x (some y) (some z) none,ty,pos,after,g⟩=[x,y,z]:=rfl
@[go_sem] theorem tgtOk_slice3 (t:TypeId) (x y z:Operand):tgtOk wr ts ⟨dst,.slice t x (some y) (some z) none,ty,pos,after,g⟩=true:=rfl
@[go_sem] theorem opsL_slice4 (t:TypeId) (x y z u:Operand):opsL ⟨dst,.slice t x (some y) (some z) (some u),ty,pos,after,g⟩=[x,y,z,u]:=rfl
@[go_sem] theorem tgtOk_slice4 (t:TypeId) (x y z u:Operand):tgtOk wr ts ⟨dst,.slice t x (some y) (some z) (some u),ty,pos,after,g⟩=true:=rfl
@[go_sem] theorem opsL_slice5 (t:TypeId) (x z u:Operand):opsL ⟨dst,.slice t x none (some z) (some u),ty,pos,after,g⟩=[x,z,u]:=rfl
@[go_sem] theorem tgtOk_slice5 (t:TypeId) (x z u:Operand):tgtOk wr ts ⟨dst,.slice t x none (some z) (some u),ty,pos,after,g⟩=true:=rfl
@[go_sem] theorem opsL_call (f:Operand) (xs:List Operand) (ats:Array TypeId):opsL ⟨dst,.call ⟨.value f,List.toArray xs,ats⟩,ty,pos,after,g⟩=(f :: xs):=by simp [opsL,Op.operands,Call.operands]
@[go_sem] theorem tgtOk_call (f:Operand) (xs:List Operand) (ats:Array TypeId):tgtOk wr ts ⟨dst,.call ⟨.value f,List.toArray xs,ats⟩,ty,pos,after,g⟩=true:=rfl
@[go_sem] theorem opsL_len (b:Builtin) (xs:List Operand) (ats:Array TypeId):opsL ⟨dst,.call ⟨.builtin b,List.toArray xs,ats⟩,ty,pos,after,g⟩=xs:=by simp [opsL,Op.operands,Call.operands]
@[go_sem] theorem tgtOk_len (xs:List Operand) (ats:Array TypeId):tgtOk wr ts ⟨dst,.call ⟨.builtin .len,List.toArray xs,ats⟩,ty,pos,after,g⟩=true:=rfl
@[go_sem] theorem tgtOk_max (xs:List Operand) (ats:Array TypeId):tgtOk wr ts ⟨dst,.call ⟨.builtin .max,List.toArray xs,ats⟩,ty,pos,after,g⟩=true:=rfl
@[go_sem] theorem tgtOk_min (xs:List Operand) (ats:Array TypeId):tgtOk wr ts ⟨dst,.call ⟨.builtin .min,List.toArray xs,ats⟩,ty,pos,after,g⟩=true:=rfl
@[go_sem] theorem tgtOk_append (s x:Operand) (ats:Array TypeId):tgtOk wr ts ⟨dst,.call ⟨.builtin .append,List.toArray [s,x],ats⟩,ty,pos,after,g⟩=tgtA wr (ts.ev s):=rfl
@[go_sem] theorem tgtA_os (d q n:Nat):tgtA wr (.os d q n)=wr.contains d:=rfl
@[go_sem] theorem tgtA_nil (c:Bool) (xs:List AV):tgtA wr (.slice c xs)=true:=rfl
@[go_sem] theorem opsL_build (t:TypeId) (ps:List (Nat × Operand)):opsL ⟨dst,.build t (List.toArray ps),ty,pos,after,g⟩=(ps.map (·.2)):=by simp [opsL,Op.operands,Call.operands]
@[go_sem] theorem tgtOk_build (t:TypeId) (ps:List (Nat × Operand)):tgtOk wr ts ⟨dst,.build t (List.toArray ps),ty,pos,after,g⟩=true:=rfl
@[go_sem] theorem opsL_buildSlice (t:TypeId) (n:Nat) (ps:List (Nat × Operand)):opsL ⟨dst,.buildSlice t n (List.toArray ps),ty,pos,after,g⟩=(ps.map (·.2)):=by simp [opsL,Op.operands,Call.operands]
@[go_sem] theorem tgtOk_buildSlice (t:TypeId) (n:Nat) (ps:List (Nat × Operand)):tgtOk wr ts ⟨dst,.buildSlice t n (List.toArray ps),ty,pos,after,g⟩=true:=rfl
@[go_sem] theorem opsL_store (t:TypeId) (x y:Operand):opsL ⟨dst,.store t x y,ty,pos,after,g⟩=[x,y]:=rfl
@[go_sem] theorem tgtOk_store (t:TypeId) (x y:Operand):tgtOk wr ts ⟨dst,.store t x y,ty,pos,after,g⟩=tgtV wr (ts.ev x):=rfl
@[go_sem] theorem opsL_lookup (t:TypeId) (x k:Operand) (ok:Bool):opsL ⟨dst,.lookup t x k ok,ty,pos,after,g⟩=[x,k]:=rfl
@[go_sem] theorem tgtOk_lookup (t:TypeId) (x k:Operand) (ok:Bool):tgtOk wr ts ⟨dst,.lookup t x k ok,ty,pos,after,g⟩=true:=rfl
@[go_sem] theorem opsL_makeMap (t:TypeId):opsL ⟨dst,.makeMap t none,ty,pos,after,g⟩=[]:=rfl
@[go_sem] theorem tgtOk_makeMap (t:TypeId):tgtOk wr ts ⟨dst,.makeMap t none,ty,pos,after,g⟩=true:=rfl
@[go_sem] theorem opsL_mapUpdate (t:TypeId) (m k x:Operand):opsL ⟨dst,.mapUpdate t m k x,ty,pos,after,g⟩=[m,k,x]:=rfl
@[go_sem] theorem tgtOk_mapUpdate (t:TypeId) (m k x:Operand):tgtOk wr ts ⟨dst,.mapUpdate t m k x,ty,pos,after,g⟩=tgtM wr (ts.ev m):=rfl
@[go_sem] theorem opsL_mapEntry (t:TypeId) (m k:Operand):opsL ⟨dst,.mapEntry t m k,ty,pos,after,g⟩=[m,k]:=rfl
@[go_sem] theorem tgtOk_mapEntry (t:TypeId) (m k:Operand):tgtOk wr ts ⟨dst,.mapEntry t m k,ty,pos,after,g⟩=tgtM wr (ts.ev m):=rfl
@[go_sem] theorem opKp_mapEntry (t:TypeId) (m k:Operand):opKp T ⟨dst,.mapEntry t m k,ty,pos,after,g⟩ ts K=opK T ⟨dst,.mapEntry t m k,ty,pos,after,g⟩ ts K:=rfl
@[go_sem] theorem opsL_entryStore (t:TypeId) (m s x:Operand):opsL ⟨dst,.entryStore t m s x,ty,pos,after,g⟩=[m,s,x]:=rfl
@[go_sem] theorem tgtOk_entryStore (t:TypeId) (m s x:Operand):tgtOk wr ts ⟨dst,.entryStore t m s x,ty,pos,after,g⟩=tgtM wr (ts.ev m):=rfl
@[go_sem] theorem opKp_entryStore (t:TypeId) (m s x:Operand):opKp T ⟨dst,.entryStore t m s x,ty,pos,after,g⟩ ts K=opK T ⟨dst,.entryStore t m s x,ty,pos,after,g⟩ ts K:=rfl
@[go_sem] theorem tgtM_mref (d q:Nat):tgtM wr (.mref d q)=wr.contains d:=rfl
@[go_sem] theorem opKp_lookup (t:TypeId) (x k:Operand) (ok:Bool):opKp T ⟨dst,.lookup t x k ok,ty,pos,after,g⟩ ts K=opK T ⟨dst,.lookup t x k ok,ty,pos,after,g⟩ ts K:=rfl
@[go_sem] theorem opKp_makeMap (t:TypeId) (r:Option Operand):opKp T ⟨dst,.makeMap t r,ty,pos,after,g⟩ ts K=opK T ⟨dst,.makeMap t r,ty,pos,after,g⟩ ts K:=rfl
@[go_sem] theorem opKp_mapUpdate (t:TypeId) (m k x:Operand):opKp T ⟨dst,.mapUpdate t m k x,ty,pos,after,g⟩ ts K=opK T ⟨dst,.mapUpdate t m k x,ty,pos,after,g⟩ ts K:=rfl
@[go_sem] theorem boxQ (cs:List AV):(Ob.box cs).box?=some cs:=rfl
@[go_sem] theorem vOk_ot (d q o n:Nat):vOk bad (.ot d q o n)=!bad.contains d:=rfl
@[go_sem] theorem wGp_none (op:Op):wGp T all ⟨dst,op,ty,pos,after,none⟩ K ts=opKp T ⟨dst,op,ty,pos,after,none⟩ ts K:=rfl
@[go_sem] theorem wGp_some (op:Op) (j:Nat) (want:Bool):wGp T all ⟨dst,op,ty,pos,after,some (j,want)⟩ K ts=gK (gvalL ts all j) want (opKpt T ⟨dst,op,ty,pos,after,some (j,want)⟩ K) (skipK dst K) ts:=rfl
@[go_sem] theorem opKpt_eq:opKpt T o K ts=opKp T o ts K:=rfl
@[go_sem] theorem opKp_call (f:Operand) (xs:Array Operand) (at_:Array TypeId):opKp T ⟨dst,.call ⟨.value f,xs,at_⟩,ty,pos,after,g⟩ ts K=callW false P (ts.ev f) (xs.toList.map ts.ev) dst ts K:=rfl
@[go_sem] theorem opKp_move (x:Operand):opKp T ⟨dst,.move x,ty,pos,after,g⟩ ts K=opK T ⟨dst,.move x,ty,pos,after,g⟩ ts K:=rfl
@[go_sem] theorem opKp_assign (x:Operand):opKp T ⟨dst,.assign x,ty,pos,after,g⟩ ts K=opK T ⟨dst,.assign x,ty,pos,after,g⟩ ts K:=rfl
@[go_sem] theorem opKp_pick (c x y:Operand):opKp T ⟨dst,.pick c x y,ty,pos,after,g⟩ ts K=opK T ⟨dst,.pick c x y,ty,pos,after,g⟩ ts K:=rfl
@[go_sem] theorem opKp_alloc (t:TypeId):opKp T ⟨dst,.alloc t,ty,pos,after,g⟩ ts K=opK T ⟨dst,.alloc t,ty,pos,after,g⟩ ts K:=rfl
@[go_sem] theorem opKp_box (t:TypeId) (x:Operand):opKp T ⟨dst,.box t x,ty,pos,after,g⟩ ts K=opK T ⟨dst,.box t x,ty,pos,after,g⟩ ts K:=rfl
@[go_sem] theorem opKp_load (t:TypeId) (x:Operand):opKp T ⟨dst,.load t x,ty,pos,after,g⟩ ts K=opK T ⟨dst,.load t x,ty,pos,after,g⟩ ts K:=rfl
@[go_sem] theorem opKp_store (t:TypeId) (x y:Operand):opKp T ⟨dst,.store t x y,ty,pos,after,g⟩ ts K=opK T ⟨dst,.store t x y,ty,pos,after,g⟩ ts K:=rfl
@[go_sem] theorem opKp_field (t:TypeId) (x:Operand) (f:Nat):opKp T ⟨dst,.field t x f,ty,pos,after,g⟩ ts K=opK T ⟨dst,.field t x f,ty,pos,after,g⟩ ts K:=rfl
@[go_sem] theorem opKp_fieldAddr (t:TypeId) (x:Operand) (f:Nat):opKp T ⟨dst,.fieldAddr t x f,ty,pos,after,g⟩ ts K=opK T ⟨dst,.fieldAddr t x f,ty,pos,after,g⟩ ts K:=rfl
@[go_sem] theorem opKp_indexAddr (t:TypeId) (x y:Operand):opKp T ⟨dst,.indexAddr t x y,ty,pos,after,g⟩ ts K=opK T ⟨dst,.indexAddr t x y,ty,pos,after,g⟩ ts K:=rfl
@[go_sem] theorem opKp_index (t:TypeId) (x y:Operand):opKp T ⟨dst,.index t x y,ty,pos,after,g⟩ ts K=opK T ⟨dst,.index t x y,ty,pos,after,g⟩ ts K:=rfl
@[go_sem] theorem opKp_bin (b:BinOp) (t u:TypeId) (x y:Operand):opKp T ⟨dst,.binOp b t x y u,ty,pos,after,g⟩ ts K=opK T ⟨dst,.binOp b t x y u,ty,pos,after,g⟩ ts K:=rfl
@[go_sem] theorem opKp_un (b:UnOp) (t:TypeId) (x:Operand):opKp T ⟨dst,.unOp b t x,ty,pos,after,g⟩ ts K=opK T ⟨dst,.unOp b t x,ty,pos,after,g⟩ ts K:=rfl
@[go_sem] theorem opKp_makeFunc (fn:Fn) (l r:Array Operand):opKp T ⟨dst,.makeFunc fn l r,ty,pos,after,g⟩ ts K=(T.fzD dst=true∧funcK true ts dst fn l.toList r.toList K):=rfl
@[go_sem] theorem opKp_nilCheck (x:Operand):opKp T ⟨dst,.nilCheck x,ty,pos,after,g⟩ ts K=opK T ⟨dst,.nilCheck x,ty,pos,after,g⟩ ts K:=rfl
@[go_sem] theorem opKp_extract (x:Operand) (i:Nat):opKp T ⟨dst,.extract x i,ty,pos,after,g⟩ ts K=opK T ⟨dst,.extract x i,ty,pos,after,g⟩ ts K:=rfl
@[go_sem] theorem opKp_slice (t:TypeId) (x:Operand) (lo hi mx:Option Operand):opKp T ⟨dst,.slice t x lo hi mx,ty,pos,after,g⟩ ts K=opK T ⟨dst,.slice t x lo hi mx,ty,pos,after,g⟩ ts K:=rfl
@[go_sem] theorem opKp_len (b:Builtin) (xs:Array Operand) (ats:Array TypeId):opKp T ⟨dst,.call ⟨.builtin b,xs,ats⟩,ty,pos,after,g⟩ ts K=opK T ⟨dst,.call ⟨.builtin b,xs,ats⟩,ty,pos,after,g⟩ ts K:=rfl
@[go_sem] theorem opKp_build (t:TypeId) (ps:Array (Nat × Operand)):opKp T ⟨dst,.build t ps,ty,pos,after,g⟩ ts K=opK T ⟨dst,.build t ps,ty,pos,after,g⟩ ts K:=rfl
@[go_sem] theorem opKp_buildSlice (t:TypeId) (n:Nat) (ps:Array (Nat × Operand)):opKp T ⟨dst,.buildSlice t n ps,ty,pos,after,g⟩ ts K=opK T ⟨dst,.buildSlice t n ps,ty,pos,after,g⟩ ts K:=rfl
@[go_sem] theorem tgtV_ref (d q off:Nat):tgtV wr (.ref d q off)=wr.contains d:=rfl
@[go_sem] theorem tgtV_eref (d q i off:Nat):tgtV wr (.eref d q i off)=wr.contains d:=rfl
@[go_sem] theorem vOk_mref (d q:Nat):vOk bad (.mref d q)=!bad.contains d:=rfl
@[go_sem] theorem vOk_mp (a b:List AV):vOk bad (.mp a b)=true:=rfl
@[go_sem] theorem vOk_os (d q n:Nat):vOk bad (.os d q n)=!bad.contains d:=rfl
@[go_sem] theorem vOk_ref (d q n:Nat):vOk bad (.ref d q n)=!bad.contains d:=rfl
@[go_sem] theorem vOk_eref (d q i n:Nat):vOk bad (.eref d q i n)=!bad.contains d:=rfl
@[go_sem] theorem vOk_agg (cs:List AV):vOk bad (.agg cs)=vOk.vOkL bad cs:=rfl
@[go_sem] theorem vOk_tup (cs:List AV):vOk bad (.tup cs)=vOk.vOkL bad cs:=rfl
@[go_sem] theorem vOk_clo (fn:Fn) (a b:List AV):vOk bad (.clo fn a b)=(vOk.vOkL bad a && vOk.vOkL bad b):=rfl
@[go_sem] theorem vOk_int (k:IntKind) (n:Int):vOk bad (.int k n)=true:=rfl
@[go_sem] theorem vOk_bool (b:Bool):vOk bad (.bool b)=true:=rfl
@[go_sem] theorem vOk_str (s:List UInt8):vOk bad (.str s)=true:=rfl
@[go_sem] theorem vOk_slice (c:Bool) (xs:List AV):vOk bad (.slice c xs)=true:=rfl
@[go_sem] theorem vOk_ro (xs:List AV):vOk bad (.ro xs)=true:=rfl
@[go_sem] theorem vOk_nilp:vOk bad .nilp=true:=rfl
@[go_sem] theorem vOk_nilf:vOk bad .nilf=true:=rfl
@[go_sem] theorem vOk_nilm:vOk bad .nilm=true:=rfl
@[go_sem] theorem vOk_niface:vOk bad .niface=true:=rfl
@[go_sem] theorem vOkL_nl:vOk.vOkL bad []=true:=rfl
@[go_sem] theorem vOkL_cons (x:AV) (xs:List AV):vOk.vOkL bad (x :: xs)=(vOk bad x && vOk.vOkL bad xs):=rfl
@[go_sem] theorem endK_normal (R:TS→Prop):endK R .normal ts=R ts:=rfl
@[go_sem] theorem endK_ret (R:TS→Prop):endK R .ret ts=R ts:=rfl
@[go_sem] theorem EndX_val (rs:List ResultVar) (z:AV):EndX T rs (.val z) ts=optK (ts.result T rs) fun x=>optK (x.res ts) fun y=>y.nrm=z:=rfl
@[go_sem] theorem EndX_own (rs:List ResultVar) (sz:Nat) (zs:List AV):EndX T rs (.own sz zs) ts=(oneRes ts rs=true∧optK (ts.result T rs) fun x=>ownX ts x sz zs):=rfl
@[go_sem] theorem oneRes_tmp (t:Nat):oneRes ts [.tmp t]=true:=rfl
@[go_sem] theorem oneRes_cell (a t:Nat):oneRes ts [.cell a t]=(match ts.tmp a with|.ref ..=>true|_=>false):=rfl
@[go_sem] theorem ownX_os (d q len sz:Nat) (zs:List AV):ownX ts (.os d q len) sz zs=(q=ts.gen d∧optK (ts.obj d).arr? fun q=>q.1=sz∧len≤q.2.length∧AV.pure.pureL (q.2.take len)=true∧AV.nrm.nrmL (q.2.take len)=zs):=rfl
@[go_sem] theorem ownX_nil (sz:Nat) (zs:List AV):ownX ts (.slice true []) sz zs=(0 < sz∧[]=zs):=rfl
@[go_sem] theorem retflat_val (x:AV):Ret.flat (.val x)=x.flat:=rfl
@[go_sem] theorem retflat_own (sz:Nat) (xs:List AV):Ret.flat (.own sz xs)=AV.flat.flatL xs:=rfl
end
section
variable (d g H:Nat)
@[go_sem] theorem renML_nil:AV.renM.renML d g H []=[]:=rfl
@[go_sem] theorem renML_cons (x:AV) (r:List AV):AV.renM.renML d g H (x :: r)=x.renM d g H :: AV.renM.renML d g H r:=rfl
@[go_sem] theorem renM_agg (cs:List AV):(AV.agg cs).renM d g H=.agg (AV.renM.renML d g H cs):=rfl
@[go_sem] theorem renM_ro (cs:List AV):(AV.ro cs).renM d g H=.ro (AV.renM.renML d g H cs):=rfl
@[go_sem] theorem renM_slice (c:Bool) (cs:List AV):(AV.slice c cs).renM d g H=.slice c (AV.renM.renML d g H cs):=rfl
@[go_sem] theorem renM_clo (fn:Fn) (a b:List AV):(AV.clo fn a b).renM d g H=.clo fn (AV.renM.renML d g H a) (AV.renM.renML d g H b):=rfl
@[go_sem] theorem renM_mp (a b:List AV):(AV.mp a b).renM d g H=.mp (AV.renM.renML d g H a) (AV.renM.renML d g H b):=rfl
@[go_sem] theorem renM_mref (e q:Nat):(AV.mref e q).renM d g H=if e=d∧q=g then .mref H 0 else .mref e q:=rfl
@[go_sem] theorem renM_int (k:IntKind) (n:Int):(AV.int k n).renM d g H=.int k n:=rfl
@[go_sem] theorem renM_bool (b:Bool):(AV.bool b).renM d g H=.bool b:=rfl
@[go_sem] theorem renM_str (s:List UInt8):(AV.str s).renM d g H=.str s:=rfl
@[go_sem] theorem renM_any:AV.any.renM d g H=.any:=rfl
@[go_sem] theorem pureHL_nil:AV.pureH.pureHL d g []=true:=rfl
@[go_sem] theorem pureHL_cons (x:AV) (r:List AV):AV.pureH.pureHL d g (x :: r)=(x.pureH d g && AV.pureH.pureHL d g r):=rfl
@[go_sem] theorem pureH_agg (cs:List AV):(AV.agg cs).pureH d g=AV.pureH.pureHL d g cs:=rfl
@[go_sem] theorem pureH_ro (cs:List AV):(AV.ro cs).pureH d g=AV.pureH.pureHL d g cs:=rfl
@[go_sem] theorem pureH_slice (c:Bool) (cs:List AV):(AV.slice c cs).pureH d g=AV.pureH.pureHL d g cs:=rfl
@[go_sem] theorem pureH_clo (fn:Fn) (a b:List AV):(AV.clo fn a b).pureH d g=(AV.pureH.pureHL d g a && AV.pureH.pureHL d g b):=rfl
@[go_sem] theorem pureH_mp (a b:List AV):(AV.mp a b).pureH d g=(AV.pureH.pureHL d g a && AV.pureH.pureHL d g b):=rfl
@[go_sem] theorem pureH_mref (e q:Nat):(AV.mref e q).pureH d g=(e == d && q == g):=rfl
@[go_sem] theorem pureH_int (k:IntKind) (n:Int):(AV.int k n).pureH d g=true:=rfl
@[go_sem] theorem pureH_bool (b:Bool):(AV.bool b).pureH d g=true:=rfl
@[go_sem] theorem pureH_str (s:List UInt8):(AV.str s).pureH d g=true:=rfl
@[go_sem] theorem pureH_any:AV.any.pureH d g=true:=rfl
mutual
theorem renM_of_pure:∀ x:AV,x.pure=true→x.renM d g H=x
 | .agg cs,h=>by simp only [AV.pure] at h; simp only [AV.renM,renML_of_pure cs h]
 | .tup cs,h=>by simp only [AV.pure] at h; simp only [AV.renM,renML_of_pure cs h]
 | .slice _ cs,h=>by simp only [AV.pure] at h; simp only [AV.renM,renML_of_pure cs h]
 | .ro cs,h=>by simp only [AV.pure] at h; simp only [AV.renM,renML_of_pure cs h]
 | .clo _ a b,h=>by simp only [AV.pure,Bool.and_eq_true] at h; simp only [AV.renM,renML_of_pure a h.1,renML_of_pure b h.2]
 | .mp a b,h=>by simp only [AV.pure,Bool.and_eq_true] at h; simp only [AV.renM,renML_of_pure a h.1,renML_of_pure b h.2]
 | .iface _ x,h=>by simp only [AV.pure] at h; simp only [AV.renM,renM_of_pure x h]
 | .mref _ _,h=>by simp [AV.pure] at h
 | .any,_|.bool _,_|.int _ _,_|.str _,_|.nilp,_|.nilf,_|.nilm,_|.niface,_|.ref _ _ _,_|.eref _ _ _ _,_|.ot _ _ _ _,_|.os _ _ _,_=>rfl
theorem renML_of_pure:∀ l:List AV,AV.pure.pureL l=true→AV.renM.renML d g H l=l
 | [],_=>rfl
 | x :: r,h=>by
  simp only [AV.pure.pureL,Bool.and_eq_true] at h
  simp only [AV.renM.renML,renM_of_pure x h.1,renML_of_pure r h.2]
end
mutual
theorem pureH_of_pure:∀ x:AV,x.pure=true→x.pureH d g=true
 | .agg cs,h=>by simp only [AV.pure] at h; simp only [AV.pureH,pureHL_of_pure cs h]
 | .tup cs,h=>by simp only [AV.pure] at h; simp only [AV.pureH,pureHL_of_pure cs h]
 | .slice _ cs,h=>by simp only [AV.pure] at h; simp only [AV.pureH,pureHL_of_pure cs h]
 | .ro cs,h=>by simp only [AV.pure] at h; simp only [AV.pureH,pureHL_of_pure cs h]
 | .clo _ a b,h=>by simp only [AV.pure,Bool.and_eq_true] at h; simp only [AV.pureH,pureHL_of_pure a h.1,pureHL_of_pure b h.2,Bool.and_self]
 | .mp a b,h=>by simp only [AV.pure,Bool.and_eq_true] at h; simp only [AV.pureH,pureHL_of_pure a h.1,pureHL_of_pure b h.2,Bool.and_self]
 | .iface _ x,h=>by simp only [AV.pure] at h; simp only [AV.pureH,pureH_of_pure x h]
 | .mref _ _,h|.ref _ _ _,h|.eref _ _ _ _,h|.ot _ _ _ _,h|.os _ _ _,h=>by simp [AV.pure] at h
 | .any,_|.bool _,_|.int _ _,_|.str _,_|.nilp,_|.nilf,_|.nilm,_|.niface,_=>rfl
theorem pureHL_of_pure:∀ l:List AV,AV.pure.pureL l=true→AV.pureH.pureHL d g l=true
 | [],_=>rfl
 | x :: r,h=>by
  simp only [AV.pure.pureL,Bool.and_eq_true] at h
  simp only [AV.pureH.pureHL,pureH_of_pure x h.1,pureHL_of_pure r h.2,Bool.and_self]
end
@[go_sem] theorem renML_avs {α:Type} [Dat α] (l:List α):AV.renM.renML d g H (avs l)=avs l:=renML_of_pure d g H _ (pureL_map l)
@[go_sem] theorem pureHL_avs {α:Type} [Dat α] (l:List α):AV.pureH.pureHL d g (avs l)=true:=pureHL_of_pure d g _ (pureL_map l)
variable {P:Program} (T:Tys P) (ts:TS)
@[go_sem] theorem EndH_eq (rs:List ResultVar) (x:AV) (ks vs:List AV):EndH T rs H x ks vs ts=(optK (ts.result T rs) (fun y=>y=x)∧x.pure=true∧ts.gen H=0∧ts.obj H=.mp ks vs∧AV.pure.pureL ks=true∧AV.pure.pureL vs=true):=by
 have e:EndH.optK0 (ts.result T rs) (fun y=>y=x)=optK (ts.result T rs) (fun y=>y=x):=by
  unfold EndH.optK0 optK
  cases ts.result T rs<;>simp
 unfold EndH; rw [e]
end
@[go_sem] theorem take_set_len {α:Type} (l:List α) (i:Nat) (x:α):(l.set i x).take l.length=l.set i x:=List.take_of_length_le (by simp)
theorem clr_length {xs:List AV} {off len:Nat} {z:AV} (h:off+len≤xs.length):(clrL xs off len z).length=xs.length:=by
 simp only [clrL,List.length_append,List.length_take,List.length_replicate,List.length_drop]; omega
@[go_sem] theorem clr_take (xs:List AV) (off len:Nat) (z:AV) (h:off≤xs.length):(clrL xs off len z).take off=xs.take off:=by
 simp only [clrL,List.append_assoc]
 rw [List.take_append_of_le_length (by rw [List.length_take]; omega),List.take_take,Nat.min_self]
@[go_sem] theorem clr_le (xs:List AV) (off len n:Nat) (z:AV) (h:off+len≤xs.length):(n≤(clrL xs off len z).length)=(n≤xs.length):=by rw [clr_length h]
mutual
theorem owns_of_pure:∀ x:AV,x.pure=true→x.owns=[]
 | .agg cs,h=>by simp only [AV.pure] at h; simp only [AV.owns]; exact ownsL_of_pure cs h
 | .tup cs,h=>by simp only [AV.pure] at h; simp only [AV.owns]; exact ownsL_of_pure cs h
 | .os _ _ _,h=>by simp [AV.pure] at h
 | .mref _ _,h=>by simp [AV.pure] at h
 | .mp _ _,_=>rfl
 | .any,_|.bool _,_|.int _ _,_|.str _,_|.slice _ _,_|.ro _,_|.nilp,_|.clo _ _ _,_|.nilf,_|.nilm,_|.niface,_|.iface _ _,_|.ref _ _ _,_|.eref _ _ _ _,_|.ot _ _ _ _,_=>rfl
theorem ownsL_of_pure:∀ l:List AV,AV.pure.pureL l=true→AV.owns.ownsL l=[]
 | [],_=>rfl
 | x :: r,h=>by
  simp only [AV.pure.pureL,Bool.and_eq_true] at h
  simp only [AV.owns.ownsL,owns_of_pure x h.1,ownsL_of_pure r h.2,List.append_nil]
end
structure Caps (caps:List AV):Prop where
 pure:AV.pure.pureL caps=true
 nrm:AV.nrm.nrmL caps=caps
theorem Caps.args {caps:List AV} (h:Caps caps) (ts:TS):ts.toArgs caps=some (caps,[]):=by
 obtain ⟨h1,h2⟩:=h
 induction caps with
 | nil=>rfl
 | cons x r ih =>
  simp only [AV.pure.pureL,Bool.and_eq_true] at h1
  simp only [AV.nrm.nrmL,List.cons.injEq] at h2
  simp only [TS.toArgs,res_of_pure ts x h1.1,ih h1.2 h2.2,h2.1,owns_of_pure x h1.1,List.append_nil]
theorem Caps.nil:Caps []:=⟨rfl,rfl⟩
attribute [go_sem] thenK_normal thenK_ret thenK_exit thenK_goto inBlockK_normal inBlockK_ret inBlockK_exit inBlockK_goto
attribute [go_sem] AV.bool.injEq AV.int.injEq AV.str.injEq AV.agg.injEq AV.tup.injEq AV.slice.injEq List.cons.injEq
attribute [go_sem] Nat.lt_add_one true_and and_true ne_eq not_false_eq_true not_true_eq_false and_self List.map_cons List.map_nil List.length_cons List.length_nil List.drop_zero List.drop_succ_cons List.drop_nil List.take_succ_cons List.take_zero List.take_nil
attribute [go_sem] List.getD_cons_zero List.getD_cons_succ List.getElem?_cons_zero List.getElem?_cons_succ List.nil_append List.cons_append List.append_nil List.all_cons List.all_nil Bool.and_self Bool.and_true Bool.true_and Bool.not_true Bool.not_false Bool.and_false Bool.false_and Bool.false_eq_true
attribute [go_sem] Option.map_some Option.isSome_some Option.isSome_none Option.isNone_none Option.isNone_some BEq.rfl beq_self_eq_true List.mem_cons List.not_mem_nil or_false or_self forall_eq_or_imp forall_eq implies_true false_implies Nat.zero_add Nat.add_zero Nat.zero_le Nat.zero_lt_succ Nat.le_refl
attribute [go_sem] List.isEmpty Int.toNat_natCast Int.ofNat_lt Int.ofNat_le Int.natCast_nonneg List.toList_toArray List.take_length Nat.sub_zero List.set_cons_zero List.set_cons_succ Option.some.injEq forall_eq' List.range List.range.loop List.set_nil List.length_set List.length_map List.contains_cons List.contains_nil
attribute [go_sem] List.length_drop List.length_append List.getElem_set_self
@[go_sem] theorem take_snoc_len {α:Type} (l:List α) (x:α):(l++[x]).take (l.length+1)=l++[x]:=List.take_of_length_le (by simp)
attribute [go_sem] Bool.or_false Bool.false_or Bool.or_true Bool.true_or decide_true decide_false true_or or_true
end Go.Proofs.YtmjkjmoeicnbnaaGreatDoor.Lg
namespace Go.Proofs.YtmjkjmoeicnbnaaGreatDoor.Lg
set_option maxRecDepth 100000
set_option linter.unusedVariables false
set_option linter.unusedSimpArgs false
open Go
variable {P:Program}
def ctx0 (w:World):Ctx:={ w,M:=fun _=>False,gen:=fun _=>0,kind:=fun _=>none,β:=fun _=>0,κ:=fun _=>none }
def env0 (w:World):Env:={ w0:=w,X:=fun _=>False,F:=fun _=>False,pin:=fun _=>none }
theorem Bel.grown {w w':World} (h:Bel (fun _=>False) w w'):∃ q os',w'=Go.Sort.grow (w.drewN q) os':=by
 refine ⟨w'.drawn - w.drawn,w'.heap.extract w.heap.size w'.heap.size,?_⟩
 have hh:w'.heap=w.heap++w'.heap.extract w.heap.size w'.heap.size:=by
  apply Array.ext_getElem?
  intro i
  have hs:=h.size
  by_cases hi:i < w.heap.size
  ·rw [Array.getElem?_append_left hi]; exact h.block i hi (fun h=>h)
  ·rw [Array.getElem?_append_right (by omega),Array.getElem?_extract]
   by_cases hj:i < w'.heap.size
   ·rw [if_pos (by omega)]; congr 1; omega
   ·rw [if_neg (by omega),Array.getElem?_eq_none (by omega)]
 obtain ⟨hp,tp,dr,os,out⟩:=w'
 have h1:=h.os; have h2:=h.tape; have h3:=h.output; have h4:=h.drawn
 simp only at hh h1 h2 h3 h4
 simp only [Go.Sort.grow,World.drewN]
 congr 1
 omega
def TopP (W:World) (x:AV) (e:Ending) (w':World):Prop:=∃ v,e=.returned v∧Rep (ctx0 w') v x∧Bel (fun _=>False) W w'
theorem CallR.top {f:FuncId} {args:List AV} {x:AV} (h:CallR P f args (.val x)) (vals:Array Value) (W:World) (hsz:vals.size=args.length) (hr:∀ i,Rep (ctx0 W) (vals.getD i undef) (args.getD i .any)) :
  match (callFunc f vals).run P W with
  | .ok (.enter f' args') w1=>Calls P f' args' w1 (TopP W x)
  | .ok (.value v) w1=>TopP W x (.returned v) w1
  | _=>False:=by
 let G0:Ghost:=⟨fun _=>0,fun _=>none⟩
 have hobj:∀ d,(argTS (args.map Arg.v) (args.map Arg.v).length).obj d=.dead:=fun d=>by
  simp only [argTS,List.getElem?_map]
  cases args[d]?<;>rfl
 have hdead:∀ d,¬ liveR (argTS (args.map Arg.v) (args.map Arg.v).length) G0 d:=fun d hl=>hl.1 (by rw [hobj]; rfl)
 have hctx:ctxOf (env0 W) G0 (argTS (args.map Arg.v) (args.map Arg.v).length) W=ctx0 W:=by
  unfold ctxOf ctx0
  have e1:(fun b=>(env0 W).F b∨∃ d,liveR (argTS (args.map Arg.v) (args.map Arg.v).length) G0 d∧G0.β d=b)=fun _=>False:=by
   funext b
   apply propext
   constructor
   ·rintro (h|⟨d,h,_⟩)
    ·exact h
    ·exact hdead d h
   ·exact False.elim
  have e2:(fun d=>((argTS (args.map Arg.v) (args.map Arg.v).length).obj d).kind)=fun _=>none:=by
   funext d
   rw [hobj]; rfl
  rw [e1,e2]
  rfl
 have hrel:Rel (env0 W) (argTS (args.map Arg.v) (args.map Arg.v).length) G0 ⟨vals,[]⟩ W:=by
  refine ⟨by simp [argTS,hsz],rfl,fun t=>?_,fun d=>by rw [hobj]; trivial,fun d d' h1 _ _=>absurd h1 (hdead d),fun d h1=>absurd h1 (hdead d),fun b hb=>hb.elim,Bel.refl _ _,fun j b hj _=>by cases hj⟩
  rw [hctx]
  have e:(argTS (args.map Arg.v) (args.map Arg.v).length).tmp t=args.getD t .any:=by
   simp only [argTS,List.getElem?_map,List.getD_eq_getElem?_getD]
   cases args[t]?<;>rfl
  rw [e]; exact hr t
 have hC:=h (env0 W) G0 vals W rfl hrel fun j=>by
  constructor
  ·rintro ⟨cs,hcs⟩
   simp only [List.getElem?_map] at hcs
   cases hh:args[j]?<;>rw [hh] at hcs<;>simp at hcs
  ·rintro ⟨b,hb⟩; cases hb
 have fin:∀ e w',Post (env0 W) (fun r' _=>r'=.val x) e w'→TopP W x e w':=by
  rintro e w' ⟨v,r',io,ts',G',rfl,rfl,hrel',_,hret⟩
  obtain ⟨hxp,hx0⟩:=hret
  have hv:=hrel'.tmp 0
  rw [hx0] at hv
  exact ⟨v,rfl,Rep.mono_pure (c:=ctxOf (env0 W) G' ts' w') (c':=ctx0 w') (fun b hm _=>⟨rfl,fun h=>h⟩) (by simpa using hv) hxp,hrel'.bel⟩
 split at hC
 ·rename_i heq; rw [heq]; exact Calls.mono hC fun e w' hp=>fin e w' hp
 ·rename_i heq; rw [heq]; exact fin _ _ hC
 ·exact hC.elim
end Go.Proofs.YtmjkjmoeicnbnaaGreatDoor.Lg
namespace Go.Proofs.YtmjkjmoeicnbnaaGreatDoor.Lg
set_option maxRecDepth 100000
set_option linter.unusedVariables false
set_option linter.unusedSimpArgs false
open Go
variable {P:Program}
@[go_sem] theorem true_to (p:Prop):(True→p)=p:=by simp
def TS.frzWith (ts:TS) (d:Nat) (cs:List AV):TS:={ ts with tmp:=fun t=>frzR d (ts.gen d) cs (ts.tmp t),obj:=upd ts.obj d .dead }
def frzAt (ob:Ob) (ts:TS) (d:Nat):TS :=
 match ob with
 | .box cs=>ts.frzWith d cs
 | _=>ts
@[go_sem] theorem frzBox_at (ts:TS) (d:Nat):ts.frzBox d=frzAt (ts.obj d) ts d:=by
 unfold TS.frzBox frzAt TS.frzWith
 cases ts.obj d<;>rfl
@[go_sem] theorem frzAt_box (ts:TS) (d:Nat) (cs:List AV):frzAt (.box cs) ts d=ts.frzWith d cs:=rfl
@[go_sem] theorem frzAll_nil (ts:TS):ts.frzAll []=ts:=rfl
@[go_sem] theorem frzAll_ref (ts:TS) (d g:Nat) (r:List AV):ts.frzAll (.ref d g 0 :: r)=(ts.frzBox d).frzAll r:=rfl
@[go_sem] theorem frzWith_n (ts:TS) (d:Nat) (cs:List AV):(ts.frzWith d cs).n=ts.n:=rfl
@[go_sem] theorem frzWith_gen (ts:TS) (d e:Nat) (cs:List AV):(ts.frzWith d cs).gen e=ts.gen e:=rfl
@[go_sem] theorem frzWith_obj (ts:TS) (d e:Nat) (cs:List AV):(ts.frzWith d cs).obj e=if e=d then .dead else ts.obj e:=rfl
@[go_sem] theorem frzWith_tmp (ts:TS) (d t:Nat) (cs:List AV):(ts.frzWith d cs).tmp t=frzR d (ts.gen d) cs (ts.tmp t):=rfl
@[go_sem] theorem frzR_ref (d g:Nat) (cs:List AV) (e q o:Nat):frzR d g cs (.ref e q o)=if e=d then (if q=g∧o < cs.length then .ro (cs.drop o) else .ref e q o) else .ref e q o:=by
 unfold frzR
 by_cases h:e=d<;>simp [h]
@[go_sem] theorem frzR_any (d g:Nat) (cs:List AV):frzR d g cs (.any)=.any:=rfl
@[go_sem] theorem frzR_mp (d g:Nat) (cs:List AV) (a b:List AV):frzR d g cs (.mp a b)=.mp a b:=rfl
@[go_sem] theorem frzR_mref (d g:Nat) (cs:List AV) (e q:Nat):frzR d g cs (.mref e q)=.mref e q:=rfl
@[go_sem] theorem frzR_bool (d g:Nat) (cs:List AV) (b:Bool):frzR d g cs (.bool b)=.bool b:=rfl
@[go_sem] theorem frzR_int (d g:Nat) (cs:List AV) (k:IntKind) (n:Int):frzR d g cs (.int k n)=.int k n:=rfl
@[go_sem] theorem frzR_str (d g:Nat) (cs:List AV) (s:List UInt8):frzR d g cs (.str s)=.str s:=rfl
@[go_sem] theorem frzR_agg (d g:Nat) (cs:List AV) (l:List AV):frzR d g cs (.agg l)=.agg l:=rfl
@[go_sem] theorem frzR_tup (d g:Nat) (cs:List AV) (l:List AV):frzR d g cs (.tup l)=.tup l:=rfl
@[go_sem] theorem frzR_slice (d g:Nat) (cs:List AV) (c:Bool) (l:List AV):frzR d g cs (.slice c l)=.slice c l:=rfl
@[go_sem] theorem frzR_ro (d g:Nat) (cs:List AV) (l:List AV):frzR d g cs (.ro l)=.ro l:=rfl
@[go_sem] theorem frzR_nilp (d g:Nat) (cs:List AV):frzR d g cs (.nilp)=.nilp:=rfl
@[go_sem] theorem frzR_clo (d g:Nat) (cs:List AV) (f:Fn) (a b:List AV):frzR d g cs (.clo f a b)=.clo f a b:=rfl
@[go_sem] theorem frzR_nilf (d g:Nat) (cs:List AV):frzR d g cs (.nilf)=.nilf:=rfl
@[go_sem] theorem frzR_nilm (d g:Nat) (cs:List AV):frzR d g cs (.nilm)=.nilm:=rfl
@[go_sem] theorem frzR_niface (d g:Nat) (cs:List AV):frzR d g cs (.niface)=.niface:=rfl
@[go_sem] theorem frzR_iface (d g:Nat) (cs:List AV) (t:TypeId) (v:AV):frzR d g cs (.iface t v)=.iface t v:=rfl
@[go_sem] theorem frzR_os (d g:Nat) (cs:List AV) (e q n:Nat):frzR d g cs (.os e q n)=.os e q n:=rfl
@[go_sem] theorem frzR_eref (d g:Nat) (cs:List AV) (e q i o:Nat):frzR d g cs (.eref e q i o)=.eref e q i o:=rfl
@[go_sem] theorem frzR_ot (d g:Nat) (cs:List AV) (e q o n:Nat):frzR d g cs (.ot e q o n)=.ot e q o n:=rfl
def cutK (M:TS→Prop) (Q:Exit→TS→Prop):Exit→TS→Prop
 | .normal,ts=>M ts
 | e,ts=>Q e ts
@[go_sem] theorem cutK_normal (M:TS→Prop) (Q:Exit→TS→Prop) (ts:TS):cutK M Q .normal ts=M ts:=rfl
@[go_sem] theorem cutK_ret (M:TS→Prop) (Q:Exit→TS→Prop) (ts:TS):cutK M Q .ret ts=Q .ret ts:=rfl
@[go_sem] theorem cutK_exit (M:TS→Prop) (Q:Exit→TS→Prop) (ts:TS) (id:Nat):cutK M Q (.exit id) ts=Q (.exit id) ts:=rfl
def MidK (keep:List Nat) (ts0:TS) (M:TS→Prop) (ts:TS):Prop:=∃ ts',Ent ts ts'∧Keeps keep ts' ts0∧M ts'
def CutB (P:Program) (keep:List Nat) (M:TS→Prop) (B:Code) (ts0:TS) (Q:Exit→TS→Prop):Prop:=∀ ts,Keeps keep ts ts0→M ts→SpecC P B ts Q
theorem SpecC.cut {A B:Code} {ts:TS} {Q:Exit→TS→Prop} (M:TS→Prop) (h1:SpecC P A ts (cutK M Q)) (h2:∀ ts',M ts'→SpecC P B ts' Q):SpecC P (.seq A B) ts Q:=by
 intro E G a w hr
 refine wp_seq (wp_mono (h1 E G a w hr) ?_)
 rintro e a' w' ⟨ts',G',hq,hr'⟩
 cases e with
 | normal=>exact h2 ts' hq E G' a' w' hr'
 | _=>exact ⟨ts',G',hq,hr'⟩
theorem SpecC.cutAtS (n:Nat) {A C D:Code} {ops:Array Oper} {b:Bool} {ts:TS} {Q:Exit→TS→Prop} (keep:List Nat) (M:TS→Prop) (h1:SpecC P A ts (cutK (MidK keep ts M) Q))
  (h2:CutB P keep M (.seq (.seq (.region n ops b) C) D) ts Q):SpecC P (.seq A (.seq (.seq (.region n ops b) C) D)) ts Q :=
 SpecC.cut (MidK keep ts M) h1 fun _ ⟨ts',he,hk,hm⟩=>SpecC.ent he (h2 ts' hk hm)
end Go.Proofs.YtmjkjmoeicnbnaaGreatDoor.Lg
namespace Go.Proofs.YtmjkjmoeicnbnaaGreatDoor.Lg
set_option maxRecDepth 100000
set_option linter.unusedVariables false
set_option linter.unusedSimpArgs false
open Go
variable {P:Program}
theorem Ent.frzBox (ts:TS) (d:Nat):Ent ts (ts.frzBox d):=fun E G a w hr=>⟨G,hr.frzBox d⟩
@[go_sem] theorem frzAll_ro (ts:TS) (cs r:List AV):ts.frzAll (.ro cs :: r)=ts.frzAll r:=rfl
theorem Ent.frzM {ts:TS} (d j:Nat) {q:List AV × List AV} {e g len:Nat} {p:Nat × List AV} (h1:(ts.obj d).mp?=some q) (h2:q.2.getD j .any=.os e g len) (h3:(ts.obj e).arr?=some p) (h4:(g=ts.gen e∧len=p.2.length)∧e≠d) :
  Ent ts ((ts.kill e).setObj d (.mp q.1 (q.2.set j (.slice false p.2)))):=fun E G a w hr=>by
 have ho:=mp?_some h1
 have ha:=arr?_some h3
 obtain ⟨⟨hg,rfl⟩,hne⟩:=h4
 have hk:=hr.kill e
 refine ⟨G,?_⟩
 have hob:=hk.obj d
 have hod:(ts.kill e).obj d=.mp q.1 q.2:=by simp [TS.kill,TS.setObj,upd,hne.symm,ho]
 rw [hod] at hob
 obtain ⟨hκ,es,cl,b1,b2,b3,b4,b5,b6⟩:=hob
 have hlive:liveR (ts.kill e) G d:=⟨by simp [hod,Ob.kind],hκ⟩
 refine hk.setObj d _ (by simp [hod,Ob.kind]) hlive rfl rfl rfl rfl (fun _ _=>rfl) ?_
 have hle:(ctxOf E G (ts.kill e) w).Le (ctxOf E G ((ts.kill e).setObj d (.mp q.1 (q.2.set j (.slice false p.2)))) w):=le_setObj E G _ w w d _ (by simp [hod,Ob.kind]) hlive (fun _ _=>rfl)
 refine ⟨hκ,es,cl,b1,b2,by simp [b3],fun i=>(b4 i).mono hle,fun i=>?_,b6⟩
 by_cases hi:j=i
 ·subst hi
  by_cases hl:j < q.2.length
  ·have e1:(q.2.set j (.slice false p.2)).getD j .any=.slice false p.2:=by simp [hl]
   rw [e1]
   have hob0:=hr.obj d
   rw [ho] at hob0
   obtain ⟨_,es',cl',c1,_,_,_,c5,_⟩:=hob0
   have he:es'=es∧cl'=cl:=by
    have:=c1.symm.trans b1
    simp only [Option.some.injEq,Obj.map.injEq] at this
    exact this
   obtain ⟨rfl,rfl⟩:=he
   have hv:=c5 j
   rw [h2] at hv
   have:=Rep.frozen hr hv hg ha (Nat.le_refl _)
   rw [List.take_length] at this
   exact this.mono hle
  ·rw [getD_past (by simp; omega)]; exact .any _
 ·have e1:(q.2.set j (.slice false p.2)).getD i .any=q.2.getD i .any:=by simp [List.getElem?_set,hi]
  rw [e1]; exact (b5 i).mono hle
def frzQ (q:Option (List AV × List AV)) (p:Option (Nat × List AV)) (ts:TS) (d j e:Nat):TS :=
 match q,p with
 | some q,some p=>(ts.kill e).setObj d (.mp q.1 (q.2.set j (.slice false p.2)))
 | _,_=>ts
def TS.frzMp (ts:TS) (d j e:Nat):TS:=frzQ (ts.obj d).mp? (ts.obj e).arr? ts d j e
def frzC (q:Option (List AV × List AV)) (p:Option (Nat × List AV)) (ts:TS) (d j e:Nat):Prop :=
 match q,p with
 | some q,some p=>q.2.getD j .any=.os e (ts.gen e) p.2.length∧e≠d
 | _,_=>False
@[go_sem] theorem frzMp_eq (ts:TS) (d j e:Nat):ts.frzMp d j e=frzQ (ts.obj d).mp? (ts.obj e).arr? ts d j e:=rfl
@[go_sem] theorem frzQ_some (q:List AV × List AV) (p:Nat × List AV) (ts:TS) (d j e:Nat):frzQ (some q) (some p) ts d j e=(ts.kill e).setObj d (.mp q.1 (q.2.set j (.slice false p.2))):=rfl
@[go_sem] theorem frzC_some (q:List AV × List AV) (p:Nat × List AV) (ts:TS) (d j e:Nat):frzC (some q) (some p) ts d j e=(q.2.getD j .any=.os e (ts.gen e) p.2.length∧e≠d):=rfl
theorem Ent.frzM2 {ts:TS} (d j e:Nat) (h:frzC (ts.obj d).mp? (ts.obj e).arr? ts d j e):Ent ts (ts.frzMp d j e):=by
 unfold TS.frzMp
 cases hq:(ts.obj d).mp? with
 | none=>rw [hq] at h; exact h.elim
 | some q=>cases hp:(ts.obj e).arr? with
  | none=>rw [hq,hp] at h; exact h.elim
  | some p =>
   rw [hq,hp] at h
   exact Ent.frzM d j hq h.1 hp ⟨⟨rfl,rfl⟩,h.2⟩
def recV (f:FuncId) (x y z:AV):Nat→AV
 | 0=>.any
 | n+1=>.ro [.clo (.func f) [] [x,y,z,recV f x y z n]]
theorem recV_succ (f:FuncId) (x y z:AV) (n:Nat):recV f x y z (n+1)=.ro [.clo (.func f) [] [x,y,z,recV f x y z n]]:=rfl
theorem renM_recV (f:FuncId) (x y z:AV) (d g H n:Nat) (hx:x.pure=true) (hz:z.pure=true):(recV f x y z n).renM d g H=recV f x (y.renM d g H) z n:=by
 induction n with
 | zero=>rfl
 | succ n ih=>simp only [recV,AV.renM,AV.renM.renML,ih,renM_of_pure d g H x hx,renM_of_pure d g H z hz]
theorem pureH_recV (f:FuncId) (x y z:AV) (d g n:Nat) (hx:x.pure=true) (hy:y.pureH d g=true) (hz:z.pure=true):(recV f x y z n).pureH d g=true:=by
 induction n with
 | zero=>rfl
 | succ n ih=>simp only [recV,AV.pureH,AV.pureH.pureHL,ih,pureH_of_pure d g x hx,hy,pureH_of_pure d g z hz,Bool.and_self]
def recR (dx gx dy gy dz gz dv gv:Nat) (a b c v:AV) (x:AV):AV :=
 match x with
 | .ref d g off=>if d=dx∧g=gx∧off=0 then .ro [a] else if d=dy∧g=gy∧off=0 then .ro [b] else if d=dz∧g=gz∧off=0 then .ro [c] else if d=dv∧g=gv∧off=0 then v else .ref d g off
 | x=>x
def TS.recT (ts:TS) (dx dy dz dv:Nat) (x y z v:AV):TS :=
 {((((ts.kill dx).kill dy).kill dz).kill dv) with tmp:=fun t=>recR dx (ts.gen dx) dy (ts.gen dy) dz (ts.gen dz) dv (ts.gen dv) x y z v (ts.tmp t) }
section
variable (ts:TS) (dx dy dz dv:Nat) (x y z v:AV)
@[go_sem] theorem recT_n:(ts.recT dx dy dz dv x y z v).n=ts.n:=rfl
@[go_sem] theorem recT_gen (e:Nat):(ts.recT dx dy dz dv x y z v).gen e=ts.gen e:=rfl
@[go_sem] theorem recT_tmp (t:Nat):(ts.recT dx dy dz dv x y z v).tmp t=recR dx (ts.gen dx) dy (ts.gen dy) dz (ts.gen dz) dv (ts.gen dv) x y z v (ts.tmp t):=rfl
@[go_sem] theorem recT_obj (e:Nat):(ts.recT dx dy dz dv x y z v).obj e=if e=dv then .dead else if e=dz then .dead else if e=dy then .dead else if e=dx then .dead else ts.obj e:=by
 simp only [TS.recT,TS.kill,TS.setObj,upd]
variable (gx gy gz gv:Nat)
@[go_sem] theorem recR_ref (d g o:Nat):recR dx gx dy gy dz gz dv gv x y z v (.ref d g o)=if d=dx∧g=gx∧o=0 then .ro [x] else if d=dy∧g=gy∧o=0 then .ro [y] else if d=dz∧g=gz∧o=0 then .ro [z] else if d=dv∧g=gv∧o=0 then v else .ref d g o:=rfl
@[go_sem] theorem recR_any:recR dx gx dy gy dz gz dv gv x y z v .any=.any:=rfl
@[go_sem] theorem recR_bool (b:Bool):recR dx gx dy gy dz gz dv gv x y z v (.bool b)=.bool b:=rfl
@[go_sem] theorem recR_int (k:IntKind) (n:Int):recR dx gx dy gy dz gz dv gv x y z v (.int k n)=.int k n:=rfl
@[go_sem] theorem recR_str (s:List UInt8):recR dx gx dy gy dz gz dv gv x y z v (.str s)=.str s:=rfl
@[go_sem] theorem recR_agg (l:List AV):recR dx gx dy gy dz gz dv gv x y z v (.agg l)=.agg l:=rfl
@[go_sem] theorem recR_tup (l:List AV):recR dx gx dy gy dz gz dv gv x y z v (.tup l)=.tup l:=rfl
@[go_sem] theorem recR_slice (c:Bool) (l:List AV):recR dx gx dy gy dz gz dv gv x y z v (.slice c l)=.slice c l:=rfl
@[go_sem] theorem recR_ro (l:List AV):recR dx gx dy gy dz gz dv gv x y z v (.ro l)=.ro l:=rfl
@[go_sem] theorem recR_clo (f:Fn) (a b:List AV):recR dx gx dy gy dz gz dv gv x y z v (.clo f a b)=.clo f a b:=rfl
@[go_sem] theorem recR_nilm:recR dx gx dy gy dz gz dv gv x y z v .nilm=.nilm:=rfl
@[go_sem] theorem recR_mp (a b:List AV):recR dx gx dy gy dz gz dv gv x y z v (.mp a b)=.mp a b:=rfl
@[go_sem] theorem recR_mref (d g:Nat):recR dx gx dy gy dz gz dv gv x y z v (.mref d g)=.mref d g:=rfl
@[go_sem] theorem recR_os (d g n:Nat):recR dx gx dy gy dz gz dv gv x y z v (.os d g n)=.os d g n:=rfl
end
theorem Rep.box1 {E:Env} {ts:TS} {G:Ghost} {a:Act} {w:World} (h:Rel E ts G a w) {c':Ctx} (hle:(ctxOf E G ts w).Le c') {d g:Nat} {x:AV} {v:Value} (hv:Rep (ctxOf E G ts w) v (.ref d g 0)) (hg:g=ts.gen d) (ho:ts.obj d=.box [x]) (hM:¬ c'.M (G.β d)) (hw:c'.w=w):Rep c' v (.ro [x]):=by
 have hv:=(rep_ref hv).2.2 hg (by simp [ctxOf,ho,Ob.kind])
 have hob:=h.obj d
 rw [ho] at hob
 obtain ⟨hκ,vs,T,hheap,hsize,hcell⟩:=hob
 rw [hv]
 refine .ro _ 0 _ (fun j=>vs.getD j undef) (by simp) hM (fun j hj=>?_) fun j=>(hcell j).mono hle
 rw [hw,Nat.zero_add]
 exact cell_of hheap (by simp at hsize hj; omega)
theorem Ent.frzRec {ts:TS} (f:FuncId) (n dx dy dz dv:Nat) {x y z:AV} (hx:(ts.obj dx).box?=some [x]) (hy:(ts.obj dy).box?=some [y]) (hz:(ts.obj dz).box?=some [z])
  (hv:(ts.obj dv).box?=some [.clo (.func f) [] [.ref dx (ts.gen dx) 0,.ref dy (ts.gen dy) 0,.ref dz (ts.gen dz) 0,.ref dv (ts.gen dv) 0]]) :
  Ent ts (ts.recT dx dy dz dv x y z (recV f (.ro [x]) (.ro [y]) (.ro [z]) n)):=fun E G a w hr=>by
 have hx:=box?_some hx
 have hy:=box?_some hy
 have hz:=box?_some hz
 have hv:=box?_some hv
 refine ⟨G,?_⟩
 have hk:=(((hr.kill dx).kill dy).kill dz).kill dv
 have hle:(ctxOf E G ts w).Le (ctxOf E G ((((ts.kill dx).kill dy).kill dz).kill dv) w):=by
  have h1:=le_kill E G ts w dx
  have h2:=le_kill E G (ts.kill dx) w dy
  have h3:=le_kill E G ((ts.kill dx).kill dy) w dz
  have h4:=le_kill E G (((ts.kill dx).kill dy).kill dz) w dv
  refine ⟨fun b hM hlt=>?_,fun d=>Nat.le_refl _,fun d k hg hk=>?_⟩
  ·exact ⟨rfl,(h4.blk b (h3.blk b (h2.blk b (h1.blk b hM hlt).2 hlt).2 hlt).2 hlt).2⟩
  ·obtain ⟨p1,p2,p3⟩:=h4.kind d k hg hk
   obtain ⟨q1,q2,q3⟩:=h3.kind d k hg p1
   obtain ⟨r1,r2,r3⟩:=h2.kind d k hg q1
   obtain ⟨s1,s2,s3⟩:=h1.kind d k hg r1
   exact ⟨s1,rfl,rfl⟩
 have hdead:∀ d,d=dx∨d=dy∨d=dz∨d=dv→ts.obj d≠.dead→¬ (ctxOf E G ((((ts.kill dx).kill dy).kill dz).kill dv) w).M (G.β d):=fun d hd hob hM=>by
  have hlive:liveR ts G d:=by
   have:=hr.obj d
   rcases hd with rfl|rfl|rfl|rfl
   ·rw [hx] at this; exact ⟨by simp [hx,Ob.kind],this.1⟩
   ·rw [hy] at this; exact ⟨by simp [hy,Ob.kind],this.1⟩
   ·rw [hz] at this; exact ⟨by simp [hz,Ob.kind],this.1⟩
   ·rw [hv] at this; exact ⟨by simp [hv,Ob.kind],this.1⟩
  rcases hM with hF|⟨e,he,hb⟩
  ·exact (hr.own d hlive).2.1 hF
  ·obtain ⟨n4,l4⟩:=liveR_kill he
   obtain ⟨n3,l3⟩:=liveR_kill l4
   obtain ⟨n2,l2⟩:=liveR_kill l3
   obtain ⟨n1,l1⟩:=liveR_kill l2
   have:=hr.sep e d l1 hlive hb
   subst this
   rcases hd with rfl|rfl|rfl|rfl
   ·exact n1 rfl
   ·exact n2 rfl
   ·exact n3 rfl
   ·exact n4 rfl
 have kx:∀ {v},Rep (ctxOf E G ts w) v (.ref dx (ts.gen dx) 0)→Rep (ctxOf E G ((((ts.kill dx).kill dy).kill dz).kill dv) w) v (.ro [x]):=fun h=>Rep.box1 hr hle h rfl hx (hdead dx (.inl rfl) (by simp [hx])) rfl
 have ky:∀ {v},Rep (ctxOf E G ts w) v (.ref dy (ts.gen dy) 0)→Rep (ctxOf E G ((((ts.kill dx).kill dy).kill dz).kill dv) w) v (.ro [y]):=fun h=>Rep.box1 hr hle h rfl hy (hdead dy (.inr (.inl rfl)) (by simp [hy])) rfl
 have kz:∀ {v},Rep (ctxOf E G ts w) v (.ref dz (ts.gen dz) 0)→Rep (ctxOf E G ((((ts.kill dx).kill dy).kill dz).kill dv) w) v (.ro [z]):=fun h=>Rep.box1 hr hle h rfl hz (hdead dz (.inr (.inr (.inl rfl))) (by simp [hz])) rfl
 have kv:∀ (n:Nat) {v},Rep (ctxOf E G ts w) v (.ref dv (ts.gen dv) 0)→Rep (ctxOf E G ((((ts.kill dx).kill dy).kill dz).kill dv) w) v (recV f (.ro [x]) (.ro [y]) (.ro [z]) n):=by
  intro n
  induction n with
  | zero=>exact fun _=>.any _
  | succ n ih =>
   intro v h
   have hv':=(rep_ref h).2.2 rfl (by simp [ctxOf,hv,Ob.kind])
   have hob:=hr.obj dv
   rw [hv] at hob
   obtain ⟨hκ,vs,T,hheap,hsize,hcell⟩:=hob
   rw [hv',recV_succ]
   have h0:=hcell 0
   simp only [List.getD_cons_zero] at h0
   refine .ro _ 0 _ (fun j=>if j=0 then vs.getD 0 undef else undef) (by simp) (hdead dv (.inr (.inr (.inr rfl))) (by simp [hv])) (fun j hj=>?_) fun j=>?_
   ·have:j=0:=by simpa using hj
    subst this
    rw [Nat.add_zero]
    exact cell_of hheap (by simp at hsize; omega)
   ·split
    ·rename_i hj
     subst hj
     simp only [List.getD_cons_zero]
     generalize vs.getD 0 undef=u at h0
     cases h0 with
     | clo _ f1 c1 _ _ p0 p1 p2 p3 =>
      refine .clo _ _ _ _ _ p0 (by simpa using p1) (fun i=>by simp; exact .any _) fun i=>?_
      match i with
      | 0=>exact kx (by simpa using p3 0)
      | 1=>exact ky (by simpa using p3 1)
      | 2=>exact kz (by simpa using p3 2)
      | 3=>exact ih (by simpa using p3 3)
      | i+4=>simp; exact .any _
    ·rename_i hj
     have:([.clo (.func f) [] [.ro [x],.ro [y],.ro [z],recV f (.ro [x]) (.ro [y]) (.ro [z]) n]]:List AV).getD j .any=.any:=by
      obtain ⟨i,rfl⟩:∃ i,j=i+1:=⟨j - 1,by omega⟩
      simp
     rw [this]; exact .any _
 refine ⟨hk.size,hk.defers,fun t=>?_,hk.obj,hk.sep,hk.own,hk.inF,hk.bel,hk.pin⟩
 show Rep (ctxOf E G ((((ts.kill dx).kill dy).kill dz).kill dv) w) (a.tmps.getD t undef) (recR _ _ _ _ _ _ _ _ x y z _ (ts.tmp t))
 have h1:=hr.tmp t
 have h2:=hk.tmp t
 have h2:Rep (ctxOf E G ((((ts.kill dx).kill dy).kill dz).kill dv) w) (a.tmps.getD t undef) (ts.tmp t):=h2
 generalize ts.tmp t=u at h1 h2
 unfold recR
 split
 ·rename_i d g off
  split
  ·rename_i hc; obtain ⟨rfl,rfl,rfl⟩:=hc; exact kx h1
  ·split
   ·rename_i hc; obtain ⟨rfl,rfl,rfl⟩:=hc; exact ky h1
   ·split
    ·rename_i hc; obtain ⟨rfl,rfl,rfl⟩:=hc; exact kz h1
    ·split
     ·rename_i hc; obtain ⟨rfl,rfl,rfl⟩:=hc; exact kv n h1
     ·exact h2
 ·exact h2
theorem SpecC.mkRec (T:Tys P) (id:Nat) {d:Nat} {fn:Fn} {caps:List Operand} {ty:TypeId} {pos:String} {after:Array Edge} {l:List Oper} {ts:TS} {Q:Exit→TS→Prop}
  (h:∀ K,NxK (fun ts'=>Q .normal ts') K→d < ts.n∧wOps T (⟨some d,.makeFunc fn #[] (List.toArray caps),ty,pos,after,none⟩ :: l) l K (ts.put d (.clo fn [] (caps.map ts.ev)))) :
  SpecC P (.region id (List.toArray (⟨some d,.makeFunc fn #[] (List.toArray caps),ty,pos,after,none⟩ :: l)) false) ts Q:=by
 obtain ⟨h1,h2⟩:=h _ ⟨fun _ h=>h⟩
 refine SpecC.region ?_
 show SpecOs P (List.toArray (⟨some d,.makeFunc fn #[] (List.toArray caps),ty,pos,after,none⟩ :: l)) _ (⟨some d,.makeFunc fn #[] (List.toArray caps),ty,pos,after,none⟩ :: l) ts
 unfold SpecOs SpecG
 refine SpecO.makeFunc (fn:=fn) (first:=#[]) (caps:=List.toArray caps) rfl ⟨h1,?_⟩
 have:=wOps.sound (P:=P) h2
 simpa using this
end Go.Proofs.YtmjkjmoeicnbnaaGreatDoor.Lg
namespace Go.Proofs.YtmjkjmoeicnbnaaGreatDoor.Lg
set_option maxRecDepth 100000
set_option linter.unusedVariables false
set_option linter.unusedSimpArgs false
open Go
variable {P:Program}
theorem Ent.frzA {ts:TS} (d j c:Nat) {sz:Nat} {xs cs:List AV} {e g len:Nat} {p:Nat × List AV} (h1:(ts.obj d).arr?=some (sz,xs)) (h2:xs.getD j .any=.agg cs) (h5:cs.getD c .any=.os e g len)
  (h3:(ts.obj e).arr?=some p) (h4:(g=ts.gen e∧len=p.2.length)∧e≠d) :
  Ent ts ((ts.kill e).setObj d (.arr sz (xs.set j (.agg (cs.set c (.slice false p.2)))))):=fun E G a w hr=>by
 have ho:=arr?_some h1
 have ha:=arr?_some h3
 obtain ⟨⟨hg,rfl⟩,hne⟩:=h4
 have hk:=hr.kill e
 refine ⟨G,?_⟩
 have hjl:j < xs.length:=Classical.byContradiction fun hn=>by rw [getD_past (by omega)] at h2; cases h2
 have hxj:xs[j]=.agg cs:=by rw [List.getD_eq_getElem?_getD,List.getElem?_eq_getElem hjl] at h2; exact h2
 have hob:=hk.obj d
 have hod:(ts.kill e).obj d=.arr sz xs:=by simp [TS.kill,TS.setObj,upd,hne.symm,ho]
 rw [hod] at hob
 obtain ⟨h0,hsz,hmat⟩:=hob
 have hκe:(ctxOf E G (ts.kill e) w).κ d=G.κ d:=rfl
 rw [hκe] at hmat
 cases hκ:G.κ d with
 | none=>rw [hκ] at hmat; simp only at hmat; subst hmat; simp at hjl
 | some cap =>
  rw [hκ] at hmat
  obtain ⟨vs,T,b1,b2,b3,b4⟩:=hmat
  have hlive:liveR (ts.kill e) G d:=⟨by simp [hod,Ob.kind],by rw [hκ]; simp⟩
  refine hk.setObj d _ (by simp [hod,Ob.kind]) hlive rfl rfl rfl rfl (fun _ _=>rfl) ?_
  have hle:(ctxOf E G (ts.kill e) w).Le (ctxOf E G ((ts.kill e).setObj d (.arr sz (xs.set j (.agg (cs.set c (.slice false p.2)))))) w):=le_setObj E G _ w w d _ (by simp [hod,Ob.kind]) hlive (fun _ _=>rfl)
  refine ⟨h0,fun x hx=>?_,?_⟩
  ·rcases List.mem_or_eq_of_mem_set hx with hx|rfl
   ·exact hsz x hx
   ·have:=hsz _ (List.getElem_mem hjl)
    rw [hxj] at this
    simpa [AV.cells] using this
  ·have hκ2:(ctxOf E G ((ts.kill e).setObj d (.arr sz (xs.set j (.agg (cs.set c (.slice false p.2)))))) w).κ d=some cap:=hκ
   rw [hκ2]
   refine ⟨vs,T,b1,b2,by simpa using b3,fun i k hi hk'=>?_⟩
   rw [List.length_set] at hi
   by_cases hij:j=i
   ·subst hij
    have e1:(xs.set j (.agg (cs.set c (.slice false p.2)))).getD j .any=.agg (cs.set c (.slice false p.2)):=by simp [hi]
    rw [e1]
    by_cases hck:c=k
    ·subst hck
     have e2:((AV.agg (cs.set c (.slice false p.2))).cells.getD c .any)=.slice false p.2:=by
      have:c < cs.length:=Classical.byContradiction fun hn=>by rw [getD_past (by omega)] at h5; cases h5
      simp [AV.cells,this]
     rw [e2]
     have hob0:=hr.obj d
     rw [ho] at hob0
     obtain ⟨_,_,hm0⟩:=hob0
     have hκ0:(ctxOf E G ts w).κ d=some cap:=hκ
     rw [hκ0] at hm0
     obtain ⟨vs',T',c1,_,_,c4⟩:=hm0
     have he:vs'=vs:=by
      have:=c1.symm.trans b1
      simp only [Option.some.injEq,Obj.cells.injEq] at this
      exact this.1
     subst he
     have hv:=c4 j c hi hk'
     rw [h2] at hv
     have hv2:Rep (ctxOf E G ts w) (vs'.getD (j * sz+c) undef) (.os e g p.2.length):=by rw [← h5]; exact hv
     have:=Rep.frozen hr hv2 hg ha (Nat.le_refl _)
     rw [List.take_length] at this
     exact this.mono hle
    ·have e2:((AV.agg (cs.set c (.slice false p.2))).cells.getD k .any)=(AV.agg cs).cells.getD k .any:=by
      simp [AV.cells,List.getElem?_set,hck]
     rw [e2,← h2]
     exact (b4 j k hi hk').mono hle
   ·have e1:(xs.set j (.agg (cs.set c (.slice false p.2)))).getD i .any=xs.getD i .any:=by simp [List.getElem?_set,hij]
    rw [e1]
    exact (b4 i k hi hk').mono hle
def frzAQ (q p:Option (Nat × List AV)) (ts:TS) (d j c e:Nat):TS :=
 match q,p with
 | some q,some p=>(ts.kill e).setObj d (.arr q.1 (q.2.set j (.agg ((q.2.getD j .any).cells.set c (.slice false p.2)))))
 | _,_=>ts
def TS.frzAr (ts:TS) (d j c e:Nat):TS:=frzAQ (ts.obj d).arr? (ts.obj e).arr? ts d j c e
def frzAC (q p:Option (Nat × List AV)) (ts:TS) (d j c e:Nat):Prop :=
 match q,p with
 | some q,some p=>q.2.getD j .any=.agg (q.2.getD j .any).cells∧(q.2.getD j .any).cells.getD c .any=.os e (ts.gen e) p.2.length∧e≠d
 | _,_=>False
@[go_sem] theorem frzAr_eq (ts:TS) (d j c e:Nat):ts.frzAr d j c e=frzAQ (ts.obj d).arr? (ts.obj e).arr? ts d j c e:=rfl
@[go_sem] theorem frzAQ_some (q p:Nat × List AV) (ts:TS) (d j c e:Nat):frzAQ (some q) (some p) ts d j c e=(ts.kill e).setObj d (.arr q.1 (q.2.set j (.agg ((q.2.getD j .any).cells.set c (.slice false p.2))))):=rfl
@[go_sem] theorem frzAC_some (q p:Nat × List AV) (ts:TS) (d j c e:Nat):frzAC (some q) (some p) ts d j c e=(q.2.getD j .any=.agg (q.2.getD j .any).cells∧(q.2.getD j .any).cells.getD c .any=.os e (ts.gen e) p.2.length∧e≠d):=rfl
theorem Ent.frzA2 {ts:TS} (d j c e:Nat) (h:frzAC (ts.obj d).arr? (ts.obj e).arr? ts d j c e):Ent ts (ts.frzAr d j c e):=by
 unfold TS.frzAr
 cases hq:(ts.obj d).arr? with
 | none=>rw [hq] at h; exact h.elim
 | some q=>cases hp:(ts.obj e).arr? with
  | none=>rw [hq,hp] at h; exact h.elim
  | some p =>
   rw [hq,hp] at h
   exact Ent.frzA d j c hq h.1 h.2.1 hp ⟨⟨rfl,rfl⟩,h.2.2⟩
end Go.Proofs.YtmjkjmoeicnbnaaGreatDoor.Lg
namespace Go.Proofs.YtmjkjmoeicnbnaaGreatDoor.Lg
set_option maxRecDepth 100000
set_option linter.unusedVariables false
set_option linter.unusedSimpArgs false
open Go
variable {P:Program}
theorem Post.frz {E:Env} {sz:Nat} {xs:List AV} {e:Ending} {w':World} (h:Post E (fun r' _=>r'=.own sz xs) e w'):Post E (fun r' _=>r'=.val (.slice false xs)) e w':=by
 obtain ⟨v,r,io,ts',G',h1,rfl,h3,h4,h5⟩:=h
 obtain ⟨d,g,q1,q2,q3,q4⟩:=h5
 have h3':(ts'.obj d).arr?=some (sz,xs):=by rw [q3]; rfl
 obtain ⟨G2,hrel⟩:=Ent.frz 0 q1 q2.symm h3' (Nat.le_refl _) E G' _ _ h3
 refine ⟨v,.val (.slice false xs),io,_,G2,h1,rfl,hrel,fun j b hj=>?_,?_⟩
 ·obtain ⟨a1,a2,a3⟩:=h4 j b hj
  have hjd:j≠d:=by rintro rfl; rw [q3] at a2; cases a2
  refine ⟨a1,?_,a3⟩
  rw [← a2]
  simp [TS.kill,TS.setObj,TS.put,upd,hjd]
 ·refine ⟨?_,?_⟩
  ·simp only [go_sem,q4]
  ·simp [TS.put,upd,List.take_length]
theorem CallR.frz {f:FuncId} {args:List AV} {sz:Nat} {xs:List AV} (h:CallR P f args (.own sz xs)):CallR P f args (.val (.slice false xs)):=by
 intro E G vals w hw hrel hpin
 have:=h E G vals w hw hrel hpin
 split at this<;>rename_i heq
 ·exact Calls.mono this fun e w' hp=>hp.frz
 ·exact this.frz
 ·exact this
end Go.Proofs.YtmjkjmoeicnbnaaGreatDoor.Lg
namespace Go.Proofs.YtmjkjmoeicnbnaaGreatDoor.Lg
set_option maxRecDepth 100000
set_option linter.unusedVariables false
set_option linter.unusedSimpArgs false
open Go
variable {P:Program}
def PostU (E:Env) (ch:List PanicEntry) (U:(Nat→List AV)→Prop) (e:Ending) (w':World):Prop :=
 ∃ io ts' G',e=.panicked ch∧U io∧Rel E ts' G' ⟨#[],[]⟩ w'∧∀ j b,E.pin j=some b→ts'.gen j=0∧ts'.obj j=.box (io j)∧AV.pure.pureL (io j)=true
def CallUV (P:Program) (f:FuncId) (args:List Arg) (ch:List PanicEntry) (U:(Nat→List AV)→Prop):Prop :=
 ∀ (E:Env) (G:Ghost) (vals:Array Value) (w:World),E.w0=w→Rel E (argTS args args.length) G ⟨vals,[]⟩ w→(∀ j,(∃ cs,args[j]?=some (.io cs))↔∃ b,E.pin j=some b) →
  match (callFunc f vals).run P w with
  | .ok (.enter f' args') w1=>Calls P f' args' w1 (PostU E ch U)
  | _=>False
def EndsU (args:List Arg) (ch:List PanicEntry) (U:(Nat→List AV)→Prop) (ex:Exit) (ts:TS):Prop :=
 ex=.panic ch∧∃ io,U io∧∀ j cs,args[j]?=some (.io cs)→ts.gen j=0∧ts.obj j=.box (io j)∧AV.pure.pureL (io j)=true
theorem CallUV.of_body {f:FuncId} {fn:Func} {c:Code} {args:List Arg} {ch:List PanicEntry} {U:(Nat→List AV)→Prop} (hcall:∀ (vals:Array Value) (w:World),(callFunc f vals).run P w=.ok (.enter f vals) w)
  (hf:P.funcs[f]?=some fn) (hb:fn.body=some c) (hn:args.length≤fn.ntmps) (h:SpecC P c (argTS args fn.ntmps) (EndsU args ch U)):CallUV P f args ch U:=by
 intro E G vals w hw hrel hpin
 rw [hcall]
 dsimp only
 refine calls_of_wp hf hb ?_
 refine wp_mono (h E G _ w (argTS_rel hn hrel)) ?_
 rintro e a' w' ⟨ts',G',⟨rfl,io,hU,hio⟩,hr'⟩
 show a'.defers=[]∧PostU E ch U (.panicked ch) w'
 refine ⟨hr'.defers,io,{ ts' with n:=0,tmp:=fun _=>.any },G',rfl,hU,⟨rfl,rfl,fun t=>.any _,hr'.obj,hr'.sep,hr'.own,hr'.inF,hr'.bel,hr'.pin⟩,fun j b hj=>?_⟩
 obtain ⟨cs,hcs⟩:=(hpin j).2 ⟨b,hj⟩
 exact hio j cs hcs
def UpK (P:Program) (o:Oper) (ts:TS) (K:List PanicEntry→TS→Prop):Prop :=
 ∀ (E:Env) (G:Ghost) (a:Act) (w:World) (next:Act→World→Prop) (Q:Exit→Act→World→Prop),Rel E ts G a w →
  (∀ ch ts' G' w',K ch ts'→Rel E ts' G' a w'→Q (.panic ch) a w')→o.wp P a w next Q
theorem UpK.call {o:Oper} {ts:TS} {K:List PanicEntry→TS→Prop} {fop:Operand} {xs:Array Operand} {at_:Array TypeId} (ho:o.op=.call { callee:=.value fop,args:=xs,argTypes:=at_ })
  {f:FuncId} {caps:List AV} (hf:ts.ev fop=.clo (.func f) [] caps) {args:List AV} {lent:List Nat} (hargs:ts.toArgs ((xs.toList.map ts.ev)++caps)=some (args,lent))
  {ch:List PanicEntry} {U:(Nat→List AV)→Prop} (hcall:CallUV P f (args.map Arg.v) ch U) (hk:K ch ts):UpK P o ts K:=by
 intro E G a w next Q hr hn
 have hvf:=hr.ev fop
 rw [hf] at hvf
 have hfv:∃ c1:Array Value,a.eval fop=.func (.func f) #[] c1∧c1.size=caps.length∧∀ i,Rep (ctxOf E G ts w) (c1.getD i undef) (caps.getD i .any):=by
  generalize a.eval fop=q at hvf
  cases hvf with
  | clo _ f1 c1 _ _ p0 p1 p2 p3 =>
   have:f1=#[]:=Array.eq_empty_of_size_eq_zero (by simpa using p0)
   subst this
   exact ⟨c1,rfl,p1,p3⟩
 obtain ⟨c1,hfe,hc1,hc1r⟩:=hfv
 let vals:Array Value:=xs.map a.eval++c1
 let E':=calleeEnv E ts G w lent
 let as1:List Arg:=args.map Arg.v
 have hM:∀ b,(ctxOf E' G (argTS as1 as1.length) w).M b↔(E.F b∨∃ d,d ∉ lent∧liveR ts G d∧G.β d=b):=fun b=>by
  simp only [ctxOf,E',calleeEnv]
  constructor
  ·rintro (h1|⟨d,hl,_⟩)
   ·exact h1
   ·have hkind:=hl.1
    simp only [argTS,as1] at hkind
    split at hkind
    ·rename_i cs hcs; simp at hcs
    ·rename_i sz xs hcs; simp at hcs
    ·simp [Ob.kind] at hkind
  ·exact fun h1=>.inl h1
 have hvlen:vals.toList.length=((xs.toList.map ts.ev)++caps).length:=by simp [vals,hc1]
 have hvrep:∀ i,Rep (ctxOf E G ts w) (vals.toList.getD i undef) (((xs.toList.map ts.ev)++caps).getD i .any):=fun i=>by
  simp only [vals,Array.toList_append,Array.toList_map,List.getD_eq_getElem?_getD]
  by_cases hi:i < xs.size
  ·rw [List.getElem?_append_left (by simpa using hi),List.getElem?_append_left (by simpa using hi)]
   simp only [List.getElem?_map,Array.getElem?_toList]
   rw [Array.getElem?_eq_getElem hi]
   exact hr.ev _
  ·rw [List.getElem?_append_right (by simp; omega),List.getElem?_append_right (by simp; omega)]
   have:=hc1r (i - xs.size)
   simpa using this
 obtain ⟨hlen,hargr,hpure⟩:=toArgs_spec hr (c':=ctxOf E' G (argTS as1 as1.length) w) rfl lent hM vals.toList _ args lent hvlen hvrep hargs (fun d hd=>hd)
 have hrel':Rel E' (argTS as1 as1.length) G ⟨vals,[]⟩ w:=by
  refine ⟨?_,rfl,fun t=>?_,fun d=>?_,fun d d' h1 _ _=>?_,fun d h1=>?_,fun b hb=>?_,Bel.refl _ _,fun j b hj=>by simp [E',calleeEnv] at hj⟩
  ·simp only [argTS,as1,List.length_map]
   rw [hlen,← hvlen]; simp
  ·have:=hargr t
   have e1:vals.getD t undef=vals.toList.getD t undef:=by simp
   have e2:(argTS as1 as1.length).tmp t=args.getD t .any:=by
    simp only [argTS,as1,List.getElem?_map,List.getD_eq_getElem?_getD]
    cases args[t]?<;>rfl
   rw [e1,e2]; exact this
  ·have:(argTS as1 as1.length).obj d=.dead:=by
    simp only [argTS,as1,List.getElem?_map]
    cases args[d]?<;>rfl
   rw [this]; trivial
  ·have:(argTS as1 as1.length).obj d=.dead:=by
    simp only [argTS,as1,List.getElem?_map]
    cases args[d]?<;>rfl
   simp [liveR,this,Ob.kind] at h1
  ·have:(argTS as1 as1.length).obj d=.dead:=by
    simp only [argTS,as1,List.getElem?_map]
    cases args[d]?<;>rfl
   simp [liveR,this,Ob.kind] at h1
  ·rcases hb with h1|⟨d,_,hl,rfl⟩
   ·exact hr.inF b h1
   ·exact (hr.own d hl).2.2
 have hpin:∀ j,(∃ cs,as1[j]?=some (.io cs))↔∃ b,E'.pin j=some b:=fun j=>by
  constructor
  ·rintro ⟨cs,hcs⟩; simp only [as1,List.getElem?_map] at hcs; cases hh:args[j]?<;>rw [hh] at hcs<;>simp at hcs
  ·rintro ⟨b,hb⟩; simp [E',calleeEnv] at hb
 have hC:=hcall E' G vals w rfl hrel' hpin
 have hexec:(execOp a.eval o).run P w=(callFunc f vals).run P w:=by
  simp [execOp,ho,resolve,hfe,Deferred.ofValue,invoke,vals]
 unfold Oper.wp
 rw [hexec]
 split at hC
 ·rename_i f' args' w1 heq
  rw [heq]
  show Calls P f' args' w1 _
  refine Calls.mono hC ?_
  rintro e w' ⟨io,ts',G',rfl,hU,hrel,_⟩
  show Q (.panic ch) a w'
  have hbel:=hrel.bel
  have hw:∀ i,i < w.heap.size→w'.heap[i]?=w.heap[i]?:=fun i hi=>hbel.block i hi (fun f=>f)
  refine hn ch ts G w' hk ?_
  have hle:(ctxOf E G ts w).Le (ctxOf E G ts w') :=
   {blk:=fun b' hMa hc=>⟨hw _ hc,hMa⟩,gen:=fun _=>Nat.le_refl _,kind:=fun e k _ hk'=>⟨hk',rfl,rfl⟩ }
  refine ⟨hr.size,hr.defers,fun t=>(hr.tmp t).mono hle,fun d=>ObOk.mono hle rfl rfl (fun h1 h2=>hw _ (hr.own d ⟨h1,h2⟩).2.2) (hr.obj d),hr.sep,fun d hd=>?_,fun b hb=>Nat.lt_of_lt_of_le (hr.inF b hb) hbel.size,hr.bel.trans ⟨hbel.os,hbel.tape,hbel.output,hbel.size,fun k hk' _=>hw k hk',hbel.drawn⟩,hr.pin⟩
  obtain ⟨p,q,s⟩:=hr.own d hd
  exact ⟨p,q,Nat.lt_of_lt_of_le s hbel.size⟩
 ·exact hC.elim
theorem UpK.panic {o:Oper} {ts:TS} {K:List PanicEntry→TS→Prop} {x:Operand} (ho:o.op=.panic x) {t:TypeId} {y:AV} {u:Value} (hx:ts.ev x=.iface t y) (hu:∀ c v,Rep c v y→v=u)
  (hk:K [{ v:=.iface t u,recovered:=false }] ts):UpK P o ts K:=by
 intro E G a w next Q hr hn
 have hv:=hr.ev x
 rw [hx] at hv
 have hq:a.eval x=.iface t u:=by
  generalize a.eval x=q at hv
  cases hv with
  | iface _ v _ h=>rw [hu _ _ h]
 have hexec:(execOp a.eval o).run P w=.halt (.panic (.iface t u)) w:=by
  simp [execOp,ho,Instr.panic,hq,goPanic]
 unfold Oper.wp
 rw [hexec,Oper.upon_panic]
 exact hn _ ts G w hk hr
def CallU (P:Program) (f:FuncId) (args:List AV) (ch:List PanicEntry):Prop:=CallUV P f (args.map Arg.v) ch fun _=>True
def EndB (k:Nat) (cs:List AV) (ts:TS):Prop:=ts.gen k=0∧ts.obj k=.box cs∧AV.pure.pureL cs=true
def upQ (ch:List PanicEntry):Exit→TS→Prop
 | .panic ch',_=>ch'=ch
 | _,_=>False
def upB (ch:List PanicEntry) (k:Nat) (cs:List AV):Exit→TS→Prop
 | .panic ch',ts=>ch'=ch∧EndB k cs ts
 | _,_=>False
section
variable (ts:TS) (ch ch':List PanicEntry) (k:Nat) (cs:List AV)
@[go_sem] theorem thenK_panic (next:TS→Prop) (Q:Exit→TS→Prop):thenK next Q (.panic ch) ts=Q (.panic ch) ts:=rfl
@[go_sem] theorem inBlockK_panic (id:Nat) (Q:Exit→TS→Prop):inBlockK id Q (.panic ch) ts=Q (.panic ch) ts:=rfl
@[go_sem] theorem upQ_panic:upQ ch (.panic ch') ts=(ch'=ch):=rfl
@[go_sem] theorem upB_panic:upB ch k cs (.panic ch') ts=(ch'=ch∧EndB k cs ts):=rfl
@[go_sem] theorem EndB_eq:EndB k cs ts=(ts.gen k=0∧ts.obj k=.box cs∧AV.pure.pureL cs=true):=rfl
end
theorem args_no_io {args:List AV} {j:Nat} {c:List AV}:(args.map Arg.v)[j]?≠some (.io c):=by
 rw [List.getElem?_map]
 cases args[j]?<;>simp
theorem CallU.go {f:FuncId} {fn:Func} {c:Code} {args:List AV} {ch:List PanicEntry} (hcall:∀ (vals:Array Value) (w:World),(callFunc f vals).run P w=.ok (.enter f vals) w)
  (hf:P.funcs[f]?=some fn) (hb:fn.body=some c) {n:Nat} (hnt:fn.ntmps=n) (hn:args.length≤n)
  (h:∀ ts:TS,ts.n=n→ArgsAt ts 0 (args.map Arg.v)→SpecC P c ts (upQ ch)):CallU P f args ch:=by
 subst hnt
 refine CallUV.of_body hcall hf hb (by simpa using hn) ?_
 refine (h (argTS (args.map Arg.v) fn.ntmps) rfl (argsAt_argTS _ _ _ 0 fun i=>by simp)).mono fun ex ts' hq=>?_
 cases ex<;>first|exact hq.elim|skip
 have hq:_=ch:=hq
 subst hq
 exact ⟨rfl,fun _=>[],trivial,fun j c hj=>absurd hj args_no_io⟩
section go
variable {f:FuncId} {fn:Func} {c:Code} {ch:List PanicEntry} (hcall:∀ (vals:Array Value) (w:World),(callFunc f vals).run P w=.ok (.enter f vals) w)
  (hf:P.funcs[f]?=some fn) (hb:fn.body=some c) {n:Nat} (hnt:fn.ntmps=n)
include hcall hf hb hnt
theorem CallU.go1 {a:AV} (hn:1≤n) (h:∀ ts:TS,ts.n=n→ts.tmp 0=a→SpecC P c ts (upQ ch)):CallU P f [a] ch:=CallU.go hcall hf hb hnt hn fun ts h1 h2=>h ts h1 h2.1
theorem CallU.go2 {a b:AV} (hn:2≤n) (h:∀ ts:TS,ts.n=n→ts.tmp 0=a→ts.tmp 1=b→SpecC P c ts (upQ ch)):CallU P f [a,b] ch:=CallU.go hcall hf hb hnt hn fun ts h1 h2=>h ts h1 h2.1 h2.2.1
theorem CallI.go1 (T:Tys P) (hrs:fn.results.toList=[]) {a:AV} {cs cs':List AV} (hn:2≤n) (h:∀ ts:TS,ts.n=n→ts.tmp 0=.ref 0 0 0→ts.gen 0=0→ts.obj 0=.box cs→ts.tmp 1=a→SpecC P c ts (endK (EndB 0 cs'))) :
  CallI P f cs [a] (.tup []) cs':=by
 subst hnt
 refine CallV.of_body (T:=T) hcall hf hb (by simpa using hn) ?_
 have ha:=argsAt_argTS fn.ntmps (.io cs :: [a].map Arg.v) (.io cs :: [a].map Arg.v) 0 fun i=>by simp
 refine (h (argTS (.io cs :: [a].map Arg.v) fn.ntmps) rfl ha.1.1 ha.1.2.1 ha.1.2.2 ha.2.1).mono fun ex ts' hq=>?_
 have hio:EndB 0 cs' ts'→∀ j q,((.io cs :: [a].map Arg.v):List Arg)[j]?=some (.io q)→ts'.gen j=0∧ts'.obj j=.box cs'∧AV.pure.pureL cs'=true:=fun hb j q hj=>by
  cases j with
  | zero=>exact hb
  | succ j=>rw [List.getElem?_cons_succ] at hj; exact absurd hj args_no_io
 have hres:ts'.result T fn.results.toList=some (.tup []):=by rw [hrs]; rfl
 cases ex<;>first|exact hq.elim|skip
 ·exact .inl ⟨.inl rfl,.tup [],.tup [],fun _=>cs',hres,rfl,⟨rfl,rfl⟩,hio hq⟩
 ·exact .inl ⟨.inr rfl,.tup [],.tup [],fun _=>cs',hres,rfl,⟨rfl,rfl⟩,hio hq⟩
end go
theorem SpecC.regMidW (T:Tys P) (n:Nat) {id:Nat} {l:List Oper} {o:Oper} {ts:TS} {Q:Exit→TS→Prop} (ho:l[n]?=some o) (hg:o.guard=none)
  (h:∀ K,NxK (fun ts'=>∀ K2,NxK (fun ts''=>∀ K3,NxK (fun ts3=>Q .normal ts3) K3→wOps T l (l.drop (n+1)) K3 ts'') K2→SpecO P o ts' K2) K→wOps T l (l.take n) K ts):SpecC P (.region id (List.toArray l) false) ts Q:=by
 have hlt:n < l.length:=(List.getElem?_eq_some_iff.1 ho).1
 have hl:l=l.take n++o :: l.drop (n+1):=by
  have e:l[n]=o:=(List.getElem?_eq_some_iff.1 ho).2
  rw [← e,← List.drop_eq_getElem_cons hlt,List.take_append_drop]
 have key:SpecOs P (List.toArray l) (Q .normal) (l.take n++o :: l.drop (n+1)) ts:=by
  have h0:SpecOs P (List.toArray l) (SpecOs P (List.toArray l) (Q .normal) (o :: l.drop (n+1))) (l.take n) ts:=by
   refine wOps.sound (h _ ⟨fun ts' hts=>?_⟩)
   show SpecG P (List.toArray l) o ts' (SpecOs P (List.toArray l) (Q .normal) (l.drop (n+1)))
   unfold SpecG
   rw [hg]
   exact hts _ ⟨fun ts'' h2=>wOps.sound (h2 _ ⟨fun _ h=>h⟩)⟩
  have app:∀ (a b:List Oper) (ts:TS),SpecOs P (List.toArray l) (SpecOs P (List.toArray l) (Q .normal) b) a ts→SpecOs P (List.toArray l) (Q .normal) (a++b) ts:=by
   intro a b
   induction a with
   | nil=>exact fun ts h=>h
   | cons x a ih=>exact fun ts h=>h.mono fun ts' h'=>ih ts' h'
  exact app _ _ _ h0
 rw [← hl] at key
 exact SpecC.region_k (List.toList_toArray) key
end Go.Proofs.YtmjkjmoeicnbnaaGreatDoor.Lg
namespace Go.Proofs.YtmjkjmoeicnbnaaGreatDoor.Lg
set_option maxRecDepth 100000
set_option linter.unusedVariables false
set_option linter.unusedSimpArgs false
open Go
structure Wide (F:Fence):Prop where
 fn:∀ f,F.fn f
 dep:F.depth=none
 calls:∀ {n:Nat} {P:Program} {f:FuncId} {args:Array Value} {w:World} {R:Ending→World→Prop},CallsIn Fence.wide n P f args w R→CallsIn F n P f args w R
 steps:∀ {P:Program} {m m':Machine},Steps P m m'→StepsIn (Machine.fenced P F) P m m'
theorem wide_wide:Wide Fence.wide:=⟨fun _=>trivial,rfl,fun h=>h,fun h=>stepsIn_wide.2 h⟩
theorem wide_round (l:Nat):Wide (Fence.wide.inRound l):=⟨fun _=>trivial,rfl,fun h=>CallsIn.inRound l h,fun h=>stepsIn_wide.2 h⟩
theorem Oper.wp_round {P:Program} {o:Oper} {a:Act} {w:World} {K:Act→World→Prop} {Q:Exit→Act→World→Prop} {F:Fence} (hF:Wide F) (n:Nat) (hd:∀ c,o.op≠.defer c) (h:o.wp P a w K Q) :
  o.wpIn F n P a w K Q:=by
 refine ⟨fun _ _=>hF.fn _,?_⟩
 rw [Oper.semAt_eq _ _ _ hd]
 unfold Oper.wp at h
 generalize (execOp a.eval o).run P w=r at *
 cases r with
 | ok x w' =>
  cases x<;>simp only [Oper.upon,Oper.uponIn] at h ⊢ <;>
   first
    | exact h
    | exact h.elim
    | exact ⟨fun h=>(by rw [hF.dep] at h; cases h),hF.calls (callsIn_wide.2 h)⟩
    | exact ⟨fun h=>(by rw [hF.dep] at h; cases h),fun c cs _=>let ⟨v,w'',hr,hs⟩:=h c cs; ⟨v,w'',hr,hF.steps hs⟩⟩
 | halt x w'=>cases x<;>simp only [Oper.upon,Oper.uponIn] at h ⊢<;>exact h
def noDefer (ops:Array Oper):Bool:=ops.toList.all fun o=>match o.op with|.defer _=>false|_=>true
theorem noDefer_at {ops:Array Oper} (h:noDefer ops=true) {i:Nat} {o:Oper} (ho:ops[i]?=some o):∀ c,o.op≠.defer c:=by
 intro c hc
 have h2:=List.all_eq_true.1 h o (by
  obtain ⟨hi,rfl⟩:=Array.getElem?_eq_some_iff.1 ho
  simp)
 rw [hc] at h2
 cases h2
theorem wpOp_round {P:Program} {ops:Array Oper} {Q:Exit→Act→World→Prop} {F:Fence} (hF:Wide F) (n:Nat) (hd:noDefer ops=true) (hl:¬ LetsOut Q) {i:Nat} {K:Act→World→Prop} {a:Act} {w:World} (h:wpOp P ops Q i K a w) :
  wpOpIn F n P ops Q i K a w:=by
 unfold wpOp at h
 unfold wpOpIn
 cases ho:ops[i]? with
 | none=>simp only [ho] at h ⊢; exact h
 | some o =>
  simp only [ho] at h ⊢
  by_cases hw:Region.wanted o (yielded ops a.tmps)=true
  ·simp only [hw,if_true] at h ⊢
   rcases h with h|h
   ·exact Oper.wp_round hF n (noDefer_at hd ho) h
   ·exact absurd h.2 hl
  ·simp only [hw] at h ⊢
   exact ⟨fun _ _=>hF.fn _,h⟩
theorem wpOps_round {P:Program} {ops:Array Oper} {Q:Exit→Act→World→Prop} {F:Fence} (hF:Wide F) (n:Nat) (hd:noDefer ops=true) (hl:¬ LetsOut Q):∀ (is:List Nat) (a:Act) (w:World),wpOps P ops Q is a w→wpOpsIn F n P ops Q is a w
 | [],_,_,h=>h
 | i :: is,a,w,h=>by
  rw [wpOps_cons] at h
  rw [wpOpsIn_cons]
  exact wpOpIn_mono (fun a w=>wpOps_round hF n hd hl is a w) (wpOp_round hF n hd hl h)
theorem wpAny_round {P:Program} {md:Region.Mode} {ops:Array Oper} {Q:Exit→Act→World→Prop} {F:Fence} (hF:Wide F) (n:Nat) (hd:noDefer ops=true) (hl:¬ LetsOut Q):∀ (fuel:Nat) (li:Array Bool) (a:Act) (w:World),
  wpAny P md ops Q fuel li a w→wpAnyIn F n P md ops Q fuel li a w
 | 0,_,_,_,h=>h
 | fuel+1,li,a,w,h=>⟨h.1,fun i hi=>wpOpIn_mono (fun a w=>wpAny_round hF n hd hl fuel _ a w) (wpOp_round hF n hd hl (h.2 i hi))⟩
def SpecR (P:Program) (c:Code) (ts:TS) (K:TS→Prop):Prop :=
 ∀ (E:Env) (G:Ghost) (a:Act) (w:World) (F:Fence) (n:Nat),Wide F→Rel E ts G a w →
  c.wpIn F n P (fun ex a' w'=>ex=.normal∧∃ ts' G',K ts'∧Rel E ts' G' a' w') a w
theorem not_lets {R:Act→World→Prop}:¬ LetsOut (fun ex a' w'=>ex=Exit.normal∧R a' w'):=fun ⟨_,_,h,_⟩=>by cases h
theorem SpecR.regW {P:Program} (T:Tys P) {id:Nat} {l:List Oper} {ts:TS} {Q:TS→Prop} (hd:noDefer (List.toArray l)=true) (h:∀ K,NxK Q K→wOps T l l K ts):SpecR P (.region id (List.toArray l) false) ts Q:=by
 intro E G a w F n hF hr
 refine wpIn_region (wpOps_round hF n hd not_lets _ _ _ ?_)
 have hs:=SpecOs.sound (P:=P) (ops:=List.toArray l) l 0 (by simp) (wOps.sound (h _ ⟨fun _ h=>h⟩)) E G a w (fun ex a' w'=>ex=.normal∧∃ ts' G',Q ts'∧Rel E ts' G' a' w') hr fun ts' G' a' w' hK hr'=>⟨rfl,ts',G',hK,hr'⟩
 simpa [List.range_eq_range'] using hs
theorem draw_any {P:Program} {ops:Array Oper} {ts:TS} {Q:TS→Prop} (m:Nat) (wr bads:List (List Nat)) (hc:drawChk ops m wr bads=true)
  (h:PreOk P ops wr bads (SpecOs P ops Q (ops.toList.drop m)) 0 (ops.toList.take m) ts):∀ (E:Env) (G:Ghost) (a:Act) (w:World),Rel E ts G a w →
  wpAny P .any ops (fun ex a' w'=>ex=.normal∧∃ ts' G',Q ts'∧Rel E ts' G' a' w') ops.size (Array.replicate ops.size false) a { w with drawn:=w.drawn+1 }:=by
 have hd:=drawChk_spec hc
 obtain ⟨Fs,g1,g2,g3⟩:=pre_run hd.le (C:=SpecOs P ops Q (ops.toList.drop m)) m 0 ts (by omega) (by simpa using h)
 have hn:∀ k,k≤m→(Fs k).n=(Fs 0).n:=by
  intro k
  induction k with
  | zero=>intro _; rfl
  | succ k ih=>intro hk; exact (g3 k (by have:=hd.le; omega) (Nat.zero_le _) (by omega)).1.trans (ih (by omega))
 intro E G a w hr
 have hlist:∀ j,¬ listedIs (Array.replicate ops.size false) j:=fun j=>by
  unfold listedIs
  by_cases h:j < ops.size<;>simp [h]
 refine draw_pre hd (E:=E) (K:=Q) (Q:=fun ex a' w'=>ex=.normal∧∃ ts' G',Q ts'∧Rel E ts' G' a' w') (fun ts' G' a' w' hK hr'=>⟨rfl,ts',G',hK,hr'⟩) hn
  (fun i hi t ht=>(g3 i (by have:=hd.le; omega) (Nat.zero_le _) hi).2.1 t ht) (fun i hi him ts1 hn1 hag=>?_) g2 ops.size _ ts G a { w with drawn:=w.drawn+1 } (by simp)
  (by unfold left; exact Nat.le_trans (List.length_filter_le _ _) (by simp)) (fun i _ hl=>absurd hl (hlist i)) (fun j _ _=>hlist j) ⟨by rw [g1],fun t k hk h1 h2=>?_⟩ hr.drew
 ·have:=(g3 i hi (Nat.zero_le _) him).2.2 ts1
  have he:mix (bads.getD i []) ts1 (Fs i)=ts1:=by
   refine ts_ext (by show (Fs i).n=ts1.n; rw [hn i (by omega),hn1]) fun t=>?_
   cases hb:(bads.getD i []).contains t with
   | true=>exact mix_in hb
   | false=>exact (mix_out hb).trans (hag t hb).symm
  rw [he] at this
  exact this
 ·have hF:∀ i,i < m→∀ t,t ∉ wr.getD i []→SameSlot (Fs (i+1)) (Fs i) t:=fun i hi t ht=>(g3 i (by have:=hd.le; omega) (Nat.zero_le _) hi).2.1 t ht
  have:=seq_same hF (t:=t) k 0 (by omega) fun j _ h4 hw=>hlist j (h1 j (by omega) hw)
  rw [Nat.zero_add,g1] at this
  exact this.symm
theorem SpecR.drawP {P:Program} (hmix:P.follows .mixedOrders=true) (id:Nat) {ops:Array Oper} {ts:TS} {Q:TS→Prop} (m:Nat) (wr bads:List (List Nat)) (hnd:noDefer ops=true) (hc:drawChk ops m wr bads=true)
  (h:PreOk P ops wr bads (SpecOs P ops Q (ops.toList.drop m)) 0 (ops.toList.take m) ts):SpecR P (.region id ops true) ts Q:=fun E G a w F n hF hr =>
 wpIn_region_any hmix (wpAny_round hF n hnd not_lets _ _ _ _ (draw_any m wr bads hc h E G a w hr))
theorem SpecR.drawW {P:Program} (T:Tys P) (hmix:P.follows .mixedOrders=true) (q:List (List Nat × List Nat)) {id:Nat} {l:List Oper} {ts:TS} {Q:TS→Prop} (hnd:noDefer (List.toArray l)=true)
  (hc:(drawChk (List.toArray l) q.length (q.map (·.1)) (q.map (·.2)) && drawSs l q l)=true) (h:∀ K,NxK Q K→wDraw T l q l K ts):SpecR P (.region id (List.toArray l) true) ts Q:=by
 simp only [Bool.and_eq_true] at hc
 have hz:=zip_parts q
 have:=wDraw.pre (wrs:=q.map (·.1)) (bads:=q.map (·.2)) q l 0 ts (by rw [hz]; rfl) (by simp) hc.2 rfl (h _ ⟨fun _ h=>h⟩)
 exact SpecR.drawP hmix id q.length _ _ hnd hc.1 (by simpa using this)
theorem SpecR.block {P:Program} {id:Nat} {c:Code} {ts:TS} {Q:TS→Prop} (h:SpecR P c ts Q):SpecR P (.block id c) ts Q:=by
 intro E G a w F n hF hr
 refine wpIn_block (wpIn_mono (h E G a w F n hF hr) ?_)
 rintro e a' w' ⟨rfl,h⟩
 exact ⟨rfl,h⟩
theorem SpecR.seq {P:Program} {x y:Code} {ts:TS} {Q:TS→Prop} (h:SpecR P x ts fun ts'=>SpecR P y ts' Q):SpecR P (.seq x y) ts Q:=by
 intro E G a w F n hF hr
 refine wpIn_seq (wpIn_mono (h E G a w F n hF hr) ?_)
 rintro e a' w' ⟨rfl,ts',G',h,hr'⟩
 exact h E G' a' w' F n hF hr'
def wD (a:Go.Act) (ds:List Deferred):Go.Act:={ a with defers:=ds }
theorem wD_put (a:Go.Act) (ds:List Deferred) (d:Option Tmp) (v:Value):(wD a ds).put d v=wD (a.put d v) ds:=by cases d<;>rfl
theorem put_defers (a:Go.Act) (d:Option Tmp) (v:Value):(a.put d v).defers=a.defers:=by cases d<;>rfl
theorem Oper.wp_lift {P:Program} {o:Oper} {a:Go.Act} {w:World} {N:Go.Act→World→Prop} {Q:Exit→Go.Act→World→Prop} (ds:List Deferred) (hN:∀ a w,N a w→a.defers=[]) (h:o.wp P a w N (fun _ _ _=>False)) :
  o.wp P (wD a ds) w (fun a' w'=>∃ a1,N a1 w'∧a'=wD a1 ds) Q:=by
 unfold Oper.wp at h ⊢
 have he:(wD a ds).eval=a.eval:=rfl
 rw [he]
 generalize (execOp a.eval o).run P w=r at *
 cases r with
 | ok x w' =>
  cases x<;>simp only [Oper.upon] at h ⊢ <;>
   first
    | exact ⟨_,h,wD_put _ _ _ _⟩
    | exact h.elim
    | (have:=hN _ _ h; rw [put_defers] at this; cases this)
    | (refine Calls.mono h ?_; intro e w'' he; cases e<;>first|exact ⟨_,he,wD_put _ _ _ _⟩|exact he.elim|(obtain ⟨_,_,hf⟩:=he; exact hf.elim))
    | (refine Rows.mono h ?_; intro v w'' he; exact ⟨_,he,wD_put _ _ _ _⟩)
 | halt x w'=>cases x<;>simp only [Oper.upon] at h ⊢<;>exact h.elim
theorem SpecO.lift {P:Program} {o:Oper} {ts:TS} {K:TS→Prop} (h:SpecO P o ts K) {E:Env} {G:Ghost} {a:Go.Act} {w:World} {Q:Exit→Go.Act→World→Prop} {next:Go.Act→World→Prop} (ds:List Deferred) (hr:Rel E ts G a w)
  (hn:∀ ts' G' a' w',K ts'→Rel E ts' G' a' w'→next (wD a' ds) w'):o.wp P (wD a ds) w next Q:=by
 have h1:=h E G a w (fun a' w'=>∃ ts' G',K ts'∧Rel E ts' G' a' w') (fun _ _ _=>False) hr fun ts' G' a' w' hK hr'=>⟨ts',G',hK,hr'⟩
 refine Oper.wp_mono ?_ (Oper.wp_lift ds (fun a w ⟨_,_,_,hr'⟩=>hr'.defers) h1)
 rintro _ w' ⟨a1,⟨ts',G',hK,hr'⟩,rfl⟩
 exact hn ts' G' a1 w' hK hr'
theorem SpecG.soundD {P:Program} {ops:Array Oper} {o:Oper} {ts:TS} {K:TS→Prop} (h:SpecG P ops o ts K) {E:Env} {G:Ghost} {a:Go.Act} {w:World} {Q:Exit→Go.Act→World→Prop} {next:Go.Act→World→Prop} {i:Nat} (ds:List Deferred)
  (ho:ops[i]?=some o) (hr:Rel E ts G a w) (hn:∀ ts' G' a' w',K ts'→Rel E ts' G' a' w'→next (wD a' ds) w'):wpOp P ops Q i next (wD a ds) w:=by
 unfold wpOp
 rw [ho]
 dsimp only
 unfold SpecG at h
 have ht:(wD a ds).tmps=a.tmps:=rfl
 rw [ht]
 split at h
 ·rename_i hg
  have:Region.wanted o (yielded ops a.tmps)=true:=by simp [Region.wanted,hg]
  rw [if_pos this]
  exact .inl (SpecO.lift h ds hr hn)
 ·rename_i j want hg
  obtain ⟨b,hb,h⟩:=h
  have hy:=yielded_of hr hb
  have hw:Region.wanted o (yielded ops a.tmps)=(b == some want):=by
   simp only [Region.wanted,hg,hy]
  rw [hw]
  split at h
  ·rename_i e; rw [if_pos e]; exact .inl (SpecO.lift h ds hr hn)
  ·rename_i e
   rw [if_neg e,wD_put]
   exact hn _ G _ w h.2 (hr.put_undef o.dst h.1)
theorem SpecOs.soundD {P:Program} {ops:Array Oper} {K:TS→Prop} (ds:List Deferred):∀ (l:List Oper) (i:Nat),ops.toList.drop i=l→∀ {ts:TS},SpecOs P ops K l ts→∀ (E:Env) (G:Ghost) (a:Go.Act) (w:World) (Q:Exit→Go.Act→World→Prop),Rel E ts G a w →
  (∀ ts' G' a' w',K ts'→Rel E ts' G' a' w'→Q .normal (wD a' ds) w')→wpOps P ops Q (List.range' i l.length) (wD a ds) w
 | [],i,_,ts,h=>fun E G a w Q hr hn=>by simp only [List.length_nil,List.range',wpOps]; exact hn ts G a w h hr
 | o :: l,i,hd,ts,h=>fun E G a w Q hr hn=>by
  have ho:ops[i]?=some o:=by
   have:ops.toList[i]?=some o:=by rw [← Nat.add_zero i,← List.getElem?_drop,hd]; rfl
   simpa using this
  have hd':ops.toList.drop (i+1)=l:=by rw [← List.drop_drop,hd]; rfl
  simp only [List.length_cons,List.range'_succ]
  rw [wpOps_cons]
  exact SpecG.soundD h ds ho hr fun ts' G' a' w' hK hr'=>SpecOs.soundD ds l (i+1) hd' hK E G' a' w' Q hr' hn
theorem region_wD {P:Program} (T:Tys P) {id:Nat} {l:List Oper} {ts:TS} {Q:TS→Prop} (ds:List Deferred) (h:∀ K,NxK Q K→wOps T l l K ts) {E:Env} {G:Ghost} {a:Go.Act} {w:World} (hr:Rel E ts G a w) :
  (Code.region id (List.toArray l) false).wp P (fun e a' w'=>e=.normal∧∃ a1 ts' G',Q ts'∧Rel E ts' G' a1 w'∧a'=wD a1 ds) (wD a ds) w:=by
 refine wp_region ?_
 have hs:=SpecOs.soundD (P:=P) (ops:=List.toArray l) ds l 0 (by simp) (wOps.sound (h _ ⟨fun _ h=>h⟩)) E G a w (fun e a' w'=>e=.normal∧∃ a1 ts' G',Q ts'∧Rel E ts' G' a1 w'∧a'=wD a1 ds) hr
  fun ts' G' a' w' hK hr'=>⟨rfl,a',ts',G',hK,hr',rfl⟩
 simpa [List.range_eq_range'] using hs
def Env.at (E:Env) (ts:TS) (G:Ghost) (w:World):Env:={ E with w0:=w,X:=fun b=>∃ d,liveR ts G d∧G.β d=b }
theorem Rel.rebase {E:Env} {ts:TS} {G:Ghost} {a:Go.Act} {w:World} (h:Rel E ts G a w):Rel (E.at ts G w) ts G a w :=
 ⟨h.size,h.defers,h.tmp,h.obj,h.sep,fun d hd=>⟨.inr ⟨d,hd,rfl⟩,(h.own d hd).2⟩,h.inF,Bel.refl _ _,h.pin⟩
theorem Rel.unbase {E:Env} {ts ts':TS} {G G':Ghost} {a a':Go.Act} {w w':World} (h:Rel E ts G a w) (h':Rel (E.at ts G w) ts' G' a' w'):Rel E ts' G' a' w':=by
 have hb:=h'.bel
 refine ⟨h'.size,h'.defers,h'.tmp,h'.obj,h'.sep,fun d hd=>?_,h'.inF,?_,h'.pin⟩
 ·obtain ⟨p,q⟩:=h'.own d hd
  refine ⟨?_,q⟩
  rcases p with p|⟨e,he,hx⟩
  ·exact .inl (Nat.le_trans h.bel.size p)
  ·rw [← hx]; exact (h.own e he).1
 ·refine ⟨hb.os.trans h.bel.os,hb.tape.trans h.bel.tape,hb.output.trans h.bel.output,Nat.le_trans h.bel.size hb.size,fun k hk hx=>?_,Nat.le_trans h.bel.drawn hb.drawn⟩
  refine (hb.block k (Nat.lt_of_lt_of_le hk h.bel.size) ?_).trans (h.bel.block k hk hx)
  rintro ⟨d,hd,rfl⟩
  rcases (h.own d hd).1 with p|p
  ·exact absurd hk (by omega)
  ·exact hx p
theorem SpecC.framed {P:Program} {c:Code} {ts:TS} {Q:Exit→TS→Prop} (h:SpecC P c ts Q) {E:Env} {G:Ghost} {a:Go.Act} {w:World} (hr:Rel E ts G a w) :
  c.wp P (fun ex a' w'=>∃ ts' G',Q ex ts'∧Rel E ts' G' a' w'∧Bel (fun b=>∃ d,liveR ts G d∧G.β d=b) w w') a w:=by
 refine wp_mono (h _ G a w hr.rebase) ?_
 rintro ex a' w' ⟨ts',G',hq,hr'⟩
 exact ⟨ts',G',hq,hr.unbase hr',hr'.bel⟩
theorem SpecR.framed {P:Program} {c:Code} {ts:TS} {Q:TS→Prop} (h:SpecR P c ts Q) {E:Env} {G:Ghost} {a:Go.Act} {w:World} {F:Fence} (hF:Wide F) (n:Nat) (hr:Rel E ts G a w) :
  c.wpIn F n P (fun ex a' w'=>ex=.normal∧∃ ts' G',Q ts'∧Rel E ts' G' a' w'∧Bel (fun b=>∃ d,liveR ts G d∧G.β d=b) w w') a w:=by
 refine wpIn_mono (h _ G a w F n hF hr.rebase) ?_
 rintro ex a' w' ⟨rfl,ts',G',hq,hr'⟩
 exact ⟨rfl,ts',G',hq,hr.unbase hr',hr'.bel⟩
theorem Rel.foreign {E:Env} {ts:TS} {G:Ghost} {a:Go.Act} {w w':World} (h:Rel E ts G a w) {C:Nat→Prop} (hC:∀ b,C b→E.F b) (hb:Bel C w w') (hX:∀ b,C b→b < E.w0.heap.size→E.X b):Rel E ts G a w':=by
 have hw:∀ i,i < w.heap.size→¬ E.F i→w'.heap[i]?=w.heap[i]?:=fun i hi hf=>hb.block i hi fun hc=>hf (hC i hc)
 have hle:(ctxOf E G ts w).Le (ctxOf E G ts w') :=
  {blk:=fun b' hMa hc=>⟨hw _ hc fun hf=>hMa (.inl hf),hMa⟩,gen:=fun _=>Nat.le_refl _,kind:=fun e k _ hk'=>⟨hk',rfl,rfl⟩ }
 refine ⟨h.size,h.defers,fun t=>(h.tmp t).mono hle,fun d=>ObOk.mono hle rfl rfl (fun h1 h2=>hw _ (h.own d ⟨h1,h2⟩).2.2 (h.own d ⟨h1,h2⟩).2.1) (h.obj d),h.sep,fun d hd=>?_,fun b hb'=>Nat.lt_of_lt_of_le (h.inF b hb') hb.size,
  ⟨hb.os.trans h.bel.os,hb.tape.trans h.bel.tape,hb.output.trans h.bel.output,Nat.le_trans h.bel.size hb.size,fun k hk hx=>?_,Nat.le_trans h.bel.drawn hb.drawn⟩,h.pin⟩
 ·obtain ⟨p,q,s⟩:=h.own d hd
  exact ⟨p,q,Nat.lt_of_lt_of_le s hb.size⟩
 ·exact (hb.block k (Nat.lt_of_lt_of_le hk h.bel.size) fun hf=>hx (hX k hf hk)).trans (h.bel.block k hk hx)
theorem Rel.moreF {E:Env} {ts:TS} {G:Ghost} {a:Go.Act} {w w':World} (h:Rel E ts G a w) (hb:Bel (fun _=>False) w w') (F:Nat→Prop) (hF:∀ b,F b→w.heap.size≤b∧b < w'.heap.size) :
  Rel { E with F:=fun b=>E.F b∨F b } ts G a w':=by
 have hw:∀ i,i < w.heap.size→w'.heap[i]?=w.heap[i]?:=fun i hi=>hb.block i hi (fun f=>f)
 have hle:(ctxOf E G ts w).Le (ctxOf { E with F:=fun b=>E.F b∨F b } G ts w') :=
  {blk:=fun b' hMa hc=>⟨hw _ hc,by
    have hc':b' < w.heap.size:=hc
    rintro ((hf|hf)|hl)
    ·exact hMa (.inl hf)
    ·have:=(hF _ hf).1; omega
    ·exact hMa (.inr hl)⟩,gen:=fun _=>Nat.le_refl _,kind:=fun e k _ hk'=>⟨hk',rfl,rfl⟩ }
 refine ⟨h.size,h.defers,fun t=>(h.tmp t).mono hle,fun d=>ObOk.mono hle rfl rfl (fun h1 h2=>hw _ (h.own d ⟨h1,h2⟩).2.2) (h.obj d),h.sep,fun d hd=>?_,fun b hb'=>?_,
  h.bel.trans ⟨hb.os,hb.tape,hb.output,hb.size,fun k hk' _=>hw k hk',hb.drawn⟩,h.pin⟩
 ·obtain ⟨p,q,s⟩:=h.own d hd
  refine ⟨p,?_,Nat.lt_of_lt_of_le s hb.size⟩
  rintro (hf|hf)
  ·exact q hf
  ·have:=(hF _ hf).1; omega
 ·rcases hb' with hf|hf
  ·exact Nat.lt_of_lt_of_le (h.inF b hf) hb.size
  ·exact (hF _ hf).2
def iterEnv (E:Env) (ts:TS) (G:Ghost) (w:World):Env:={ w0:=w,X:=(ctxOf E G ts w).M,F:=(ctxOf E G ts w).M,pin:=fun _=>none }
theorem iter_rel {E:Env} {ts:TS} {G:Ghost} {a:Go.Act} {w:World} (h:Rel E ts G a w) (l:Nat) (cv:Value) (c0:AV) (hc:Rep (ctxOf E G ts w) cv c0) (hp:c0.pure=true) :
  Rel (iterEnv E ts G w) (argTS [.v (.clo (.yield l) [] []),.v c0] 2) G ⟨#[.func (.yield l) #[] #[],cv],[]⟩ w:=by
 have hob:∀ d,(argTS [.v (.clo (.yield l) [] []),.v c0] 2).obj d=.dead:=fun d=>by
  match d with
  | 0=>rfl
  | 1=>rfl
  | d+2=>simp [argTS]
 have hno:∀ d,¬ liveR (argTS [.v (.clo (.yield l) [] []),.v c0] 2) G d:=fun d hd=>hd.1 (by rw [hob]; rfl)
 have hM:∀ b,(ctxOf (iterEnv E ts G w) G (argTS [.v (.clo (.yield l) [] []),.v c0] 2) w).M b→(ctxOf E G ts w).M b:=by
  rintro b (hf|⟨d,hd,_⟩)
  ·exact hf
  ·exact absurd hd (hno d)
 have hr:Rep (ctxOf (iterEnv E ts G w) G (argTS [.v (.clo (.yield l) [] []),.v c0] 2) w) cv c0:=by
  refine Rep.mono_pure (c:=ctxOf E G ts w) (c':=ctxOf (iterEnv E ts G w) G (argTS [.v (.clo (.yield l) [] []),.v c0] 2) w) (fun b hMb hlt=>⟨rfl,?_⟩) hc hp
  intro hm
  exact hMb (hM b hm)
 refine ⟨rfl,rfl,fun t=>?_,fun d=>by rw [hob]; trivial,fun d d' h1 _ _=>absurd h1 (hno d),fun d h1=>absurd h1 (hno d),fun b hb=>?_,Bel.refl _ _,fun j b hj=>by simp [iterEnv] at hj⟩
 ·match t with
  | 0=>exact .clo _ #[] #[] [] [] rfl rfl (fun i=>by simpa using .any _) (fun i=>by simpa using .any _)
  | 1=>exact hr
  | t+2=>simp [argTS]; exact .any _
 ·rcases hb with hf|⟨d,hd,rfl⟩
  ·exact h.inF b hf
  ·exact (h.own d hd).2.2
def KeepT (S:List Nat) (a a':Go.Act):Prop:=a'.tmps.size=a.tmps.size∧∀ t∈S,a'.tmps.getD t undef=a.tmps.getD t undef
theorem KeepT.rfl' {S:List Nat} {a:Go.Act}:KeepT S a a:=⟨rfl,fun _ _=>rfl⟩
theorem KeepT.trans {S:List Nat} {a b c:Go.Act} (h:KeepT S a b) (k:KeepT S b c):KeepT S a c:=⟨k.1.trans h.1,fun t ht=>(k.2 t ht).trans (h.2 t ht)⟩
theorem KeepT.put {S:List Nat} {a:Go.Act} {d:Option Tmp} (hd:∀ t,d=some t→t ∉ S) (v:Value):KeepT S a (a.put d v):=by
 cases d with
 | none=>exact KeepT.rfl'
 | some t =>
  refine ⟨by simp [Go.Act.put],fun u hu=>?_⟩
  have hne:t≠u:=fun e=>hd t rfl (e▸hu)
  simp [Go.Act.put,Array.getElem?_setIfInBounds,hne]
def noWrite (S:List Nat) (ops:Array Oper):Bool:=ops.toList.all fun o=>match o.dst with|some t=>!S.contains t|none=>true
theorem noWrite_at {S:List Nat} {ops:Array Oper} (h:noWrite S ops=true) {i:Nat} {o:Oper} (ho:ops[i]?=some o):∀ t,o.dst=some t→t ∉ S:=by
 intro t ht hS
 have h2:=List.all_eq_true.1 h o (by
  obtain ⟨hi,rfl⟩:=Array.getElem?_eq_some_iff.1 ho
  simp)
 rw [ht] at h2
 simp at h2
 exact h2 hS
theorem Oper.wp_keep {P:Program} {o:Oper} {a0 a:Go.Act} {w:World} {N:Go.Act→World→Prop} {Q:Exit→Go.Act→World→Prop} {S:List Nat} (hd:∀ t,o.dst=some t→t ∉ S) (hl:¬ LetsOut Q) (h0:KeepT S a0 a) (h:o.wp P a w N Q) :
  o.wp P a w (fun a' w'=>N a' w'∧KeepT S a0 a') (fun e a' w'=>Q e a' w'∧KeepT S a0 a'):=by
 unfold Oper.wp at h ⊢
 generalize (execOp a.eval o).run P w=r at *
 cases r with
 | ok x w' =>
  cases x<;>simp only [Oper.upon] at h ⊢ <;>
   first
    | exact h.elim
    | exact ⟨h,h0.trans (KeepT.put hd _)⟩
    | exact ⟨h,h0.trans (KeepT.put (a:={ a with defers:=_ }) hd _)⟩
    | (refine Calls.mono h ?_; intro e w'' he; cases e<;>first|exact ⟨he,h0.trans (KeepT.put hd _)⟩|exact ⟨he,h0⟩|exact absurd he hl)
    | (refine Rows.mono h ?_; intro v w'' he; exact ⟨he,h0.trans (KeepT.put hd _)⟩)
 | halt x w'=>cases x<;>simp only [Oper.upon] at h ⊢<;>first|exact ⟨h,h0⟩|exact h
theorem wpOp_keep {P:Program} {ops:Array Oper} {Q:Exit→Go.Act→World→Prop} {S:List Nat} (hn:noWrite S ops=true) (hl:¬ LetsOut Q) {i:Nat} {K:Go.Act→World→Prop} {a0 a:Go.Act} {w:World} (h0:KeepT S a0 a) (h:wpOp P ops Q i K a w) :
  wpOp P ops (fun e a' w'=>Q e a' w'∧KeepT S a0 a') i (fun a' w'=>K a' w'∧KeepT S a0 a') a w:=by
 unfold wpOp at h ⊢
 cases ho:ops[i]? with
 | none=>simp only [ho] at h ⊢; exact ⟨h,h0⟩
 | some o =>
  simp only [ho] at h ⊢
  by_cases hw:Region.wanted o (yielded ops a.tmps)=true
  ·simp only [hw,if_true] at h ⊢
   rcases h with h|h
   ·exact .inl (Oper.wp_keep (noWrite_at hn ho) hl h0 h)
   ·exact absurd h.2 hl
  ·simp only [hw] at h ⊢
   exact ⟨h,h0.trans (KeepT.put (noWrite_at hn ho) _)⟩
theorem wpOps_keep {P:Program} {ops:Array Oper} {Q:Exit→Go.Act→World→Prop} {S:List Nat} (hn:noWrite S ops=true) (hl:¬ LetsOut Q) {a0:Go.Act}:∀ (is:List Nat) (a:Go.Act) (w:World),KeepT S a0 a→wpOps P ops Q is a w →
  wpOps P ops (fun e a' w'=>Q e a' w'∧KeepT S a0 a') is a w
 | [],_,_,h0,h=>⟨h,h0⟩
 | i :: is,a,w,h0,h=>by
  rw [wpOps_cons] at h ⊢
  exact wpOp_mono (fun a w ⟨h1,h2⟩=>wpOps_keep hn hl is a w h2 h1) (wpOp_keep hn hl h0 h)
theorem wpAny_keep {P:Program} {md:Region.Mode} {ops:Array Oper} {Q:Exit→Go.Act→World→Prop} {S:List Nat} (hn:noWrite S ops=true) (hl:¬ LetsOut Q) {a0:Go.Act}:∀ (fuel:Nat) (li:Array Bool) (a:Go.Act) (w:World),KeepT S a0 a →
  wpAny P md ops Q fuel li a w→wpAny P md ops (fun e a' w'=>Q e a' w'∧KeepT S a0 a') fuel li a w
 | 0,_,_,_,h0,h=>⟨h.1,h.2,h0⟩
 | fuel+1,li,a,w,h0,h=>⟨fun e=>⟨h.1 e,h0⟩,fun i hi=>wpOp_mono (fun a w ⟨h1,h2⟩=>wpAny_keep hn hl fuel _ a w h2 h1) (wpOp_keep hn hl h0 (h.2 i hi))⟩
def SpecK (P:Program) (S:List Nat) (c:Code) (ts:TS) (K:TS→Prop):Prop :=
 ∀ (E:Env) (G:Ghost) (a:Go.Act) (w:World) (F:Fence) (n:Nat),Wide F→Rel E ts G a w →
  c.wpIn F n P (fun ex a' w'=>(ex=.normal∧∃ ts' G',K ts'∧Rel E ts' G' a' w')∧KeepT S a a') a w
theorem not_letsK {R:Go.Act→World→Prop} {S:List Nat} {a:Go.Act}:¬ LetsOut (fun ex a' w'=>(ex=Exit.normal∧R a' w')∧KeepT S a a'):=fun ⟨_,_,⟨h,_⟩,_⟩=>by cases h
theorem SpecK.regW {P:Program} {S:List Nat} (T:Tys P) {id:Nat} {l:List Oper} {ts:TS} {Q:TS→Prop} (hd:(noDefer (List.toArray l) && noWrite S (List.toArray l))=true) (h:∀ K,NxK Q K→wOps T l l K ts):SpecK P S (.region id (List.toArray l) false) ts Q:=by
 intro E G a w F n hF hr
 simp only [Bool.and_eq_true] at hd
 refine wpIn_region (wpOps_round hF n hd.1 not_letsK _ _ _ (wpOps_keep hd.2 not_lets _ _ _ KeepT.rfl' ?_))
 have hs:=SpecOs.sound (P:=P) (ops:=List.toArray l) l 0 (by simp) (wOps.sound (h _ ⟨fun _ h=>h⟩)) E G a w (fun ex a' w'=>ex=.normal∧∃ ts' G',Q ts'∧Rel E ts' G' a' w') hr fun ts' G' a' w' hK hr'=>⟨rfl,ts',G',hK,hr'⟩
 simpa [List.range_eq_range'] using hs
theorem SpecK.drawW {P:Program} {S:List Nat} (T:Tys P) (hmix:P.follows .mixedOrders=true) (q:List (List Nat × List Nat)) {id:Nat} {l:List Oper} {ts:TS} {Q:TS→Prop} (hnd:(noDefer (List.toArray l) && noWrite S (List.toArray l))=true)
  (hc:(drawChk (List.toArray l) q.length (q.map (·.1)) (q.map (·.2)) && drawSs l q l)=true) (h:∀ K,NxK Q K→wDraw T l q l K ts):SpecK P S (.region id (List.toArray l) true) ts Q:=by
 simp only [Bool.and_eq_true] at hc hnd
 have hz:=zip_parts q
 have:=wDraw.pre (wrs:=q.map (·.1)) (bads:=q.map (·.2)) q l 0 ts (by rw [hz]; rfl) (by simp) hc.2 rfl (h _ ⟨fun _ h=>h⟩)
 intro E G a w F n hF hr
 exact wpIn_region_any hmix (wpAny_round hF n hnd.1 not_letsK _ _ _ _ (wpAny_keep hnd.2 not_lets _ _ _ _ KeepT.rfl' (draw_any q.length _ _ hc.1 (by simpa using this) E G a w hr)))
theorem SpecK.block {P:Program} {S:List Nat} {id:Nat} {c:Code} {ts:TS} {Q:TS→Prop} (h:SpecK P S c ts Q):SpecK P S (.block id c) ts Q:=by
 intro E G a w F n hF hr
 refine wpIn_block (wpIn_mono (h E G a w F n hF hr) ?_)
 rintro e a' w' ⟨⟨rfl,h⟩,hk⟩
 exact ⟨⟨rfl,h⟩,hk⟩
theorem SpecK.framed {P:Program} {S:List Nat} {c:Code} {ts:TS} {Q:TS→Prop} (h:SpecK P S c ts Q) {E:Env} {G:Ghost} {a:Go.Act} {w:World} {F:Fence} (hF:Wide F) (n:Nat) (hr:Rel E ts G a w) :
  c.wpIn F n P (fun ex a' w'=>ex=.normal∧KeepT S a a'∧∃ ts' G',Q ts'∧Rel E ts' G' a' w'∧Bel (fun b=>∃ d,liveR ts G d∧G.β d=b) w w'∧∀ d,liveR ts' G' d→w.heap.size≤G'.β d∨∃ e,liveR ts G e∧G.β e=G'.β d) a w:=by
 refine wpIn_mono (h _ G a w F n hF hr.rebase) ?_
 rintro ex a' w' ⟨⟨rfl,ts',G',hq,hr'⟩,hk⟩
 exact ⟨rfl,hk,ts',G',hq,hr.unbase hr',hr'.bel,fun d hd=>(hr'.own d hd).1⟩
theorem Rel.lessF {E:Env} {F:Nat→Prop} {ts:TS} {G:Ghost} {a:Go.Act} {w:World} (h:Rel { E with F:=F } ts G a w) (hF:∀ b,E.F b→F b):Rel E ts G a w:=by
 have hle:(ctxOf { E with F:=F } G ts w).Le (ctxOf E G ts w) :=
  {blk:=fun b' hMa hc=>⟨rfl,by
    rintro (hf|hl)
    ·exact hMa (.inl (hF _ hf))
    ·exact hMa (.inr hl)⟩,gen:=fun _=>Nat.le_refl _,kind:=fun e k _ hk'=>⟨hk',rfl,rfl⟩ }
 exact ⟨h.size,h.defers,fun t=>(h.tmp t).mono hle,fun d=>ObOk.mono hle rfl rfl (fun _ _=>rfl) (h.obj d),h.sep,fun d hd=>⟨(h.own d hd).1,fun hf=>(h.own d hd).2.1 (hF _ hf),(h.own d hd).2.2⟩,fun b hb=>h.inF b (hF b hb),h.bel,h.pin⟩
theorem Bel.putObj {w:World} {D:Nat} {o:Obj}:Bel (fun b=>b=D) w (w.putObj D o) :=
 ⟨rfl,rfl,rfl,by rw [World.putObj_size]; exact Nat.le_refl _,fun k _ hx=>World.putObj_heap_other hx,Nat.le_refl _⟩
theorem CallR.of_marks {P:Program} {T:Tys P} {f:FuncId} {fn:Func} {c:Code} {args:List AV} {z:AV} (hcall:∀ (vals:Array Value) (w:World),(callFunc f vals).run P w=.ok (.enter f vals) w)
  (hf:P.funcs[f]?=some fn) (hb:fn.body=some c) (hn:args.length≤fn.ntmps)
  (h:∀ (E:Env) (G:Ghost) (a:Go.Act) (w:World),E.w0=w→(∀ j,E.pin j=none)→Rel E (argTS (args.map Arg.v) fn.ntmps) G a w→c.wpIn Fence.wide 3 P (fun ex a' w'=>ex=.ret∧∃ (D:Nat) (F:Nat→Prop) (ts':TS) (G':Ghost) (a1:Go.Act),a'=wD a1 [{ target:=.collected D,args:=#[] }] ∧
   w'.heap[D]?=some (.deferred (some []))∧Rel { E with F:=F } ts' G' a1 w'∧(∀ b,E.F b→F b)∧F D∧w.heap.size≤D∧EndX T fn.results.toList (.val z) ts') a w):CallR P f args (.val z):=by
 unfold CallR
 refine CallV.fit (fun j cs h=>by simp only [List.getElem?_map] at h; cases hh:args[j]?<;>rw [hh] at h<;>simp at h) ?_
 intro E G vals w hw hrel hpin
 rw [hcall]
 dsimp only
 have hs:vals.size=(args.map Arg.v).length:=hrel.size
 have hpn:∀ j b,E.pin j=some b→False:=fun j b hj=>by
  obtain ⟨cs,hcs⟩:=(hpin j).2 ⟨b,hj⟩
  simp only [List.getElem?_map] at hcs
  cases hh:args[j]?<;>rw [hh] at hcs<;>simp at hcs
 have hpn0:∀ j,E.pin j=none:=fun j=>by
  cases hj:E.pin j with
  | none=>rfl
  | some b=>exact (hpn j b hj).elim
 refine callsIn_wide.1 (callsIn_of_wp_marks (n:=3) hf hb trivial (wpIn_mono (h E G _ w hw hpn0 (argTS_rel (by simpa using hn) hrel)) ?_))
 rintro ex a' w' ⟨rfl,D,F,ts',G',a1,rfl,hD,hr1,hFF,hFD,hDw,hx⟩
 refine ⟨by simp,.inl ⟨D,_,rfl,run_takeDeferred hD,?_⟩⟩
 have hr2:Rel { E with F:=F } ts' G' a1 (w'.putObj D (.deferred none)):=hr1.foreign (C:=fun b=>b=D) (fun b hb=>by rw [hb]; exact hFD) Bel.putObj (fun b hb hlt=>by rw [hb] at hlt; rw [show ({ E with F:=F }:Env).w0=w from hw] at hlt; omega)
 have hr':Rel E ts' G' a1 (w'.putObj D (.deferred none)):=hr2.lessF hFF
 obtain ⟨x,h1,h4⟩:=optK_some hx
 obtain ⟨y,h2,h6⟩:=optK_some h4
 obtain ⟨v,hv,hrep⟩:=run_result hr' h1
 have hrep':=Rep.res hr' (fun j b hj _=>(hpn j b hj).elim) hrep h2
 have hov:=hr'.over
 refine ⟨v,hv,v,.val y,fun _=>[],{ (ts'.over E) with n:=1,tmp:=fun t=>if t=0 then y else .any },G',rfl,.inl ?_,?_,fun j b hj=>(hpn j b hj).elim,res_pure ts' x y h2,by simp⟩
 ·show Ret.val y.nrm=_; rw [h6]
 ·refine ⟨rfl,rfl,fun t=>?_,hov.obj,hov.sep,hov.own,hov.inF,hov.bel,hov.pin⟩
  show Rep (ctxOf E G' (ts'.over E) _) _ (if t=0 then y else .any)
  split
  ·rename_i e0; subst e0; exact hrep'
  ·exact .any _
end Go.Proofs.YtmjkjmoeicnbnaaGreatDoor.Lg
