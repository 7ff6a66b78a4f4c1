/- Parts of the proof, one behind the other. -/
import Derived.Test.YtmjkjmoeicnbnaaGreatDoorProg
import Derived.Test.YtmjkjmoeicnbnaaGreatDoorG02
namespace Go.Proofs.YtmjkjmoeicnbnaaGreatDoor.Lg
set_option maxRecDepth 100000
set_option linter.unusedVariables false
set_option linter.unusedSimpArgs false
open Go
variable {P:Program}
structure Again (I:Nat→TS→Prop) (n:Nat) (A:TS→Prop):Prop where
 on:∀ (m:Nat) {ts:TS},m < n→I m ts→A ts
def keepL (a b:TS):List Nat→Prop
 | []=>True
 | t :: r=>a.tmp t=b.tmp t∧a.gen t=b.gen t∧a.obj t=b.obj t∧keepL a b r
def Keeps (keep:List Nat) (a b:TS):Prop:=a.n=b.n∧keepL a b keep
theorem keepL.rfl' (a:TS):∀ l:List Nat,keepL a a l
 | []=>trivial
 | _ :: r=>⟨rfl,rfl,rfl,keepL.rfl' a r⟩
def Ent (ts ts':TS):Prop:=∀ E G a w,Rel E ts G a w→∃ G',Rel E ts' G' a w
theorem Ent.rfl' (ts:TS):Ent ts ts:=fun _ G _ _ h=>⟨G,h⟩
theorem Ent.trans {a b c:TS} (h:Ent a b) (k:Ent b c):Ent a c:=fun E G x w hr=>by
 obtain ⟨G',h'⟩:=h E G x w hr
 exact k E G' x w h'
theorem SpecC.ent {c:Code} {ts ts':TS} {Q:Exit→TS→Prop} (he:Ent ts ts') (h:SpecC P c ts' Q):SpecC P c ts Q:=fun E G a w hr=>by
 obtain ⟨G',hr'⟩:=he E G a w hr
 exact h E G' a w hr'
def AV.reos (t g:Nat):AV→AV
 | .os _ _ len=>.os t g len
 | x=>x
def canV (ts:TS) (d:Nat):AV→Bool
 | .os e g _=>e == d && g == ts.gen d && (ts.obj d).arr?.isSome
 | _=>false
theorem Ent.ren {ts:TS} (t d:Nat) (h:canV ts d (ts.tmp t)=true) (hn:t < ts.n):Ent ts ((ts.ren d t).put t ((ts.tmp t).reos t (ts.gen t+1))):=fun E G a w hr=>by
 have hv:=hr.tmp t
 generalize ts.tmp t=x at h hv
 cases x with
 | os e g len =>
  simp only [canV,Bool.and_eq_true,beq_iff_eq] at h
  obtain ⟨⟨rfl,h2⟩,h3⟩:=h
  obtain ⟨⟨sz,xs⟩,ho⟩:=Option.isSome_iff_exists.1 h3
  have ho:=arr?_some ho
  obtain ⟨h1c,hgl,hos⟩:=rep_os hv
  have hos:=hos h2 (by simp [ctxOf,ho,Ob.kind])
  have key:=hr.ren (d:=e) (d':=t) hn (v:=a.tmps.getD t undef) (x:=.os t (ts.gen t+1) len) (.os t _ _ _ h1c (by simp [ctxOf,TS.ren]) fun _ _=>by
   unfold OsIs at hos ⊢
   simpa [ctxOf,Ghost.set] using hos)
  have ha:a.put (some t) (a.tmps.getD t undef)=a:=by
   have hs:t < a.tmps.size:=by rw [hr.size]; exact hn
   cases a with
   | mk tmps defers =>
    simp only [Act.put]
    congr 1
    simp only at hs
    rw [Array.getD_eq_getD_getElem?,Array.getElem?_eq_getElem hs]
    apply Array.ext
    ·simp
    ·intro i h1 h2
     by_cases e:t=i
     ·subst e; simp
     ·rw [Array.getElem_setIfInBounds (by simpa using h2)]; simp [e]
  rw [ha] at key
  exact ⟨_,key⟩
 | _=>simp [canV] at h
theorem Ent.virt {ts:TS} (t sz:Nat) (h:ts.tmp t=.slice true []) (hsz:0 < sz):Ent ts ((ts.new t (.arr sz [])).put t (.os t (ts.gen t+1) 0)):=fun E G a w hr=>by
 have h0:=hr.tmp t
 rw [h] at h0
 exact ⟨_,(hr.newVirt t sz hsz).reput (nil_os h0)⟩
theorem Ent.frz {ts:TS} (t:Nat) {d g len:Nat} (h1:ts.tmp t=.os d g len) (h2:g=ts.gen d) {sz:Nat} {xs:List AV} (h3:(ts.obj d).arr?=some (sz,xs)) (h4:len≤xs.length):Ent ts ((ts.kill d).put t (.slice false (xs.take len))):=fun E G a w hr=>by
 have hv:=hr.tmp t
 rw [h1] at hv
 exact ⟨G,(hr.kill d).reput (Rep.frozen hr hv h2 (arr?_some h3) h4)⟩
structure AgainF (keep:List Nat) (ts0:TS) (I:Nat→TS→Prop) (n:Nat) (A:TS→Prop):Prop where
 onE:∀ (m:Nat) {ts ts':TS},Ent ts ts'→m < n→Keeps keep ts' ts0→I m ts'→A ts
theorem AgainF.on {keep:List Nat} {ts0:TS} {I:Nat→TS→Prop} {n:Nat} {A:TS→Prop} (h:AgainF keep ts0 I n A) (m:Nat) {ts:TS} (hm:m < n) (hk:Keeps keep ts ts0) (hi:I m ts):A ts:=h.onE m (Ent.rfl' ts) hm hk hi
theorem SpecC.loopF {c:Code} {ts:TS} {Q:Exit→TS→Prop} (keep:List Nat) (I:Nat→TS→Prop) (n:Nat) (h0:I n ts) (round:∀ n A,AgainF keep ts I n A→∀ ts',Keeps keep ts' ts→I n ts'→SpecC P c ts' (thenK A Q)):SpecC P (.loop c) ts Q :=
 SpecC.loop (fun n ts'=>∃ ts2,Ent ts' ts2∧Keeps keep ts2 ts∧I n ts2) n ⟨ts,Ent.rfl' ts,⟨rfl,keepL.rfl' ts keep⟩,h0⟩ fun n ts' h=>by
  obtain ⟨ts2,h1,h2,h3⟩:=h
  exact SpecC.ent h1 (round n _ ⟨fun m _ ts4 he hm hk hi=>⟨m,hm,ts4,he,hk,hi⟩⟩ ts2 h2 h3)
@[congr] theorem optK_cong {α:Type} {x x':Option α} {K:α→Prop} (hx:x=x'):(optK (α:=α) x K)=(optK (α:=α) x' K):=by subst hx; rfl
@[congr] theorem boolK_cong {x x':AV} {K:Bool→Prop} (hx:x=x'):(boolK x K)=(boolK x' K):=by subst hx; rfl
@[congr] theorem intK_cong {x x':AV} {K:IntKind→Int→Prop} (hx:x=x'):(intK x K)=(intK x' K):=by subst hx; rfl
def opsL (o:Oper):List Operand:=o.op.operands.toList
def tgtV (wr:List Nat) (v:AV):Bool :=
 match v with
 | .ref d _ _=>wr.contains d
 | .eref d _ _ _=>wr.contains d
 | _=>true
def tgtA (wr:List Nat) (v:AV):Bool :=
 match v with
 | .os d _ _=>wr.contains d
 | _=>true
def tgtM (wr:List Nat) (v:AV):Bool :=
 match v with
 | .mref d _=>wr.contains d
 | _=>true
section
variable (T:Tys P) (all l:List Oper) (o:Oper) (ts:TS) (K:TS→Prop) (Q:Exit→TS→Prop) (dst:Option Nat) (ty:TypeId) (pos:String) (after:Array Edge) (g:Option (Nat × Bool)) (wr bad:List Nat) (r:List (List Nat × List Nat))
@[go_sem] theorem reos_os (t q d p len:Nat):(AV.os d p len).reos t q=.os t q len:=rfl
@[go_sem] theorem canV_os (d e q len:Nat):canV ts d (.os e q len)=(e == d && q == ts.gen d && (ts.obj d).arr?.isSome):=rfl
@[go_sem] theorem tmp_ren (d d':Nat):(ts.ren d d').tmp=ts.tmp:=rfl
@[go_sem] theorem n_ren (d d':Nat):(ts.ren d d').n=ts.n:=rfl
@[go_sem] theorem gen_ren (d d' u:Nat):(ts.ren d d').gen u=if u=d' then ts.gen d'+1 else ts.gen u:=rfl
@[go_sem] theorem obj_ren (d d' u:Nat):(ts.ren d d').obj u=if u=d' then ts.obj d else if u=d then .dead else ts.obj u:=rfl
@[go_sem] theorem keepL_nil (a b:TS):keepL a b []=True:=rfl
@[go_sem] theorem keepL_cons (a b:TS) (t:Nat) (r:List Nat):keepL a b (t :: r)=(a.tmp t=b.tmp t∧a.gen t=b.gen t∧a.obj t=b.obj t∧keepL a b r):=rfl
@[go_sem] theorem Keeps_eq (keep:List Nat) (a b:TS):Keeps keep a b=(a.n=b.n∧keepL a b keep):=rfl
@[go_sem] theorem wOps_nil:wOps T all [] K ts=K ts:=rfl
@[go_sem] theorem wOps_cons:wOps T all (o :: l) K ts=wG T all o (wOps T all l K) ts:=rfl
@[go_sem] theorem wG_none (op:Op):wG T all ⟨dst,op,ty,pos,after,none⟩ K ts=opK T ⟨dst,op,ty,pos,after,none⟩ ts K:=rfl
@[go_sem] theorem wG_some (op:Op) (j:Nat) (want:Bool):wG T all ⟨dst,op,ty,pos,after,some (j,want)⟩ K ts=gK (gvalL ts all j) want (opKt T ⟨dst,op,ty,pos,after,some (j,want)⟩ K) (skipK dst K) ts:=rfl
@[go_sem] theorem opKt_eq:opKt T o K ts=opK T o ts K:=rfl
@[go_sem] theorem gvalL_zero (d:Nat) (op:Op):gvalL ts (⟨some d,op,ty,pos,after,g⟩ :: l) 0=ts.tmp d:=rfl
@[go_sem] theorem gvalL_succ (j:Nat):gvalL ts (o :: l) (j+1)=gvalL ts l j:=rfl
@[go_sem] theorem gK_tt (A B:TS→Prop):gK (.bool true) true A B ts=A ts:=by simp [gK]
@[go_sem] theorem gK_ff (A B:TS→Prop):gK (.bool false) false A B ts=A ts:=by simp [gK]
@[go_sem] theorem gK_tf (A B:TS→Prop):gK (.bool true) false A B ts=B ts:=by simp [gK]
@[go_sem] theorem gK_ft (A B:TS→Prop):gK (.bool false) true A B ts=B ts:=by simp [gK]
@[go_sem] theorem gK_skip (w:Bool) (A B:TS→Prop):gK (.tup []) w A B ts=B ts:=rfl
@[go_sem] theorem condK_t (A B:Prop):condK (.bool true) A B=A:=by simp [condK]
@[go_sem] theorem condK_f (A B:Prop):condK (.bool false) A B=B:=by simp [condK]
@[go_sem] theorem skipK_some (d:Nat):skipK (some d) K ts=(d < ts.n∧K (ts.put d (.tup []))):=rfl
@[go_sem] theorem skipK_none:skipK none K ts=K ts:=rfl
@[go_sem] theorem wDraw_nil:wDraw T all [] l K ts=wOps T all l K ts:=rfl
@[go_sem] theorem wDraw_cons:wDraw T all ((wr,bad) :: r) (o :: l) K ts=(wGp T all o (wDraw T all r l K) ts∧(opndOk bad ts (opsL o)=true∧tgtOk wr ts o=true)):=rfl
@[go_sem] theorem opndOk_nil:opndOk bad ts []=true:=rfl
@[go_sem] theorem opndOk_tmp (t:Nat) (xs:List Operand):opndOk bad ts (.tmp t :: xs)=(vOk bad (ts.tmp t) && opndOk bad ts xs):=rfl
@[go_sem] theorem opndOk_const (v:Value) (xs:List Operand):opndOk bad ts (.const v :: xs)=opndOk bad ts xs:=rfl
@[go_sem] theorem opndOk_func (f:Nat) (xs:List Operand):opndOk bad ts (.func f :: xs)=opndOk bad ts xs:=rfl
@[go_sem] theorem opsL_move (x:Operand):opsL ⟨dst,.move x,ty,pos,after,g⟩=[x]:=rfl
@[go_sem] theorem tgtOk_move (x:Operand):tgtOk wr ts ⟨dst,.move x,ty,pos,after,g⟩=true:=rfl
@[go_sem] theorem opsL_assign (x:Operand):opsL ⟨dst,.assign x,ty,pos,after,g⟩=[x]:=rfl
@[go_sem] theorem tgtOk_assign (x:Operand):tgtOk wr ts ⟨dst,.assign x,ty,pos,after,g⟩=true:=rfl
@[go_sem] theorem opsL_pick (c x y:Operand):opsL ⟨dst,.pick c x y,ty,pos,after,g⟩=[c,x,y]:=rfl
@[go_sem] theorem tgtOk_pick (c x y:Operand):tgtOk wr ts ⟨dst,.pick c x y,ty,pos,after,g⟩=true:=rfl
@[go_sem] theorem opsL_alloc (t:TypeId):opsL ⟨dst,.alloc t,ty,pos,after,g⟩=[]:=rfl
@[go_sem] theorem tgtOk_alloc (t:TypeId):tgtOk wr ts ⟨dst,.alloc t,ty,pos,after,g⟩=true:=rfl
@[go_sem] theorem opsL_box (t:TypeId) (x:Operand):opsL ⟨dst,.box t x,ty,pos,after,g⟩=[x]:=rfl
@[go_sem] theorem tgtOk_box (t:TypeId) (x:Operand):tgtOk wr ts ⟨dst,.box t x,ty,pos,after,g⟩=true:=rfl
@[go_sem] theorem opsL_load (t:TypeId) (x:Operand):opsL ⟨dst,.load t x,ty,pos,after,g⟩=[x]:=rfl
@[go_sem] theorem tgtOk_load (t:TypeId) (x:Operand):tgtOk wr ts ⟨dst,.load t x,ty,pos,after,g⟩=true:=rfl
@[go_sem] theorem opsL_field (t:TypeId) (x:Operand) (f:Nat):opsL ⟨dst,.field t x f,ty,pos,after,g⟩=[x]:=rfl
@[go_sem] theorem tgtOk_field (t:TypeId) (x:Operand) (f:Nat):tgtOk wr ts ⟨dst,.field t x f,ty,pos,after,g⟩=true:=rfl
@[go_sem] theorem opsL_fieldAddr (t:TypeId) (x:Operand) (f:Nat):opsL ⟨dst,.fieldAddr t x f,ty,pos,after,g⟩=[x]:=rfl
@[go_sem] theorem tgtOk_fieldAddr (t:TypeId) (x:Operand) (f:Nat):tgtOk wr ts ⟨dst,.fieldAddr t x f,ty,pos,after,g⟩=true:=rfl
@[go_sem] theorem opsL_indexAddr (t:TypeId) (x y:Operand):opsL ⟨dst,.indexAddr t x y,ty,pos,after,g⟩=[x,y]:=rfl
@[go_sem] theorem tgtOk_indexAddr (t:TypeId) (x y:Operand):tgtOk wr ts ⟨dst,.indexAddr t x y,ty,pos,after,g⟩=true:=rfl
@[go_sem] theorem opsL_index (t:TypeId) (x y:Operand):opsL ⟨dst,.index t x y,ty,pos,after,g⟩=[x,y]:=rfl
@[go_sem] theorem tgtOk_index (t:TypeId) (x y:Operand):tgtOk wr ts ⟨dst,.index t x y,ty,pos,after,g⟩=true:=rfl
@[go_sem] theorem opsL_bin (b:BinOp) (t u:TypeId) (x y:Operand):opsL ⟨dst,.binOp b t x y u,ty,pos,after,g⟩=[x,y]:=rfl
@[go_sem] theorem tgtOk_bin (b:BinOp) (t u:TypeId) (x y:Operand):tgtOk wr ts ⟨dst,.binOp b t x y u,ty,pos,after,g⟩=true:=rfl
@[go_sem] theorem opsL_un (b:UnOp) (t:TypeId) (x:Operand):opsL ⟨dst,.unOp b t x,ty,pos,after,g⟩=[x]:=rfl
@[go_sem] theorem tgtOk_un (b:UnOp) (t:TypeId) (x:Operand):tgtOk wr ts ⟨dst,.unOp b t x,ty,pos,after,g⟩=true:=rfl
@[go_sem] theorem opsL_makeFunc (fn:Fn) (l r:List Operand):opsL ⟨dst,.makeFunc fn (List.toArray l) (List.toArray r),ty,pos,after,g⟩=l++r:=by simp [opsL,Op.operands]
@[go_sem] theorem tgtOk_makeFunc (fn:Fn) (l r:Array Operand):tgtOk wr ts ⟨dst,.makeFunc fn l r,ty,pos,after,g⟩=true:=rfl
@[go_sem] theorem opsL_nilCheck (x:Operand):opsL ⟨dst,.nilCheck x,ty,pos,after,g⟩=[x]:=rfl
@[go_sem] theorem tgtOk_nilCheck (x:Operand):tgtOk wr ts ⟨dst,.nilCheck x,ty,pos,after,g⟩=true:=rfl
@[go_sem] theorem opsL_extract (x:Operand) (i:Nat):opsL ⟨dst,.extract x i,ty,pos,after,g⟩=[x]:=rfl
@[go_sem] theorem tgtOk_extract (x:Operand) (i:Nat):tgtOk wr ts ⟨dst,.extract x i,ty,pos,after,g⟩=true:=rfl
@[go_sem] theorem opsL_slice0 (t:TypeId) (x:Operand):opsL ⟨dst,.slice t x none none none,ty,pos,after,g⟩=[x]:=rfl
@[go_sem] theorem tgtOk_slice0 (t:TypeId) (x:Operand):tgtOk wr ts ⟨dst,.slice t x none none none,ty,pos,after,g⟩=true:=rfl
@[go_sem] theorem opsL_slice1 (t:TypeId) (x y:Operand):opsL ⟨dst,.slice t x (some y) none none,ty,pos,after,g⟩=[x,y]:=rfl
@[go_sem] theorem tgtOk_slice1 (t:TypeId) (x y:Operand):tgtOk wr ts ⟨dst,.slice t x (some y) none none,ty,pos,after,g⟩=true:=rfl
@[go_sem] theorem opsL_slice2 (t:TypeId) (x y:Operand):opsL ⟨dst,.slice t x none (some y) none,ty,pos,after,g⟩=[x,y]:=rfl
@[go_sem] theorem tgtOk_slice2 (t:TypeId) (x y:Operand):tgtOk wr ts ⟨dst,.slice t x none (some y) none,ty,pos,after,g⟩=true:=rfl
@[go_sem] theorem opsL_slice3 (t:TypeId) (x y z:Operand):opsL ⟨dst,.slice t x (some y) (some z) none,ty,pos,after,g⟩=[x,y,z]:=rfl
@[go_sem] theorem tgtOk_slice3 (t:TypeId) (x y z:Operand):tgtOk wr ts ⟨dst,.slice t x (some y) (some z) none,ty,pos,after,g⟩=true:=rfl
@[go_sem] theorem opsL_slice4 (t:TypeId) (x y z u:Operand):opsL ⟨dst,.slice t x (some y) (some z) (some u),ty,pos,after,g⟩=[x,y,z,u]:=rfl
@[go_sem] theorem tgtOk_slice4 (t:TypeId) (x y z u:Operand):tgtOk wr ts ⟨dst,.slice t x (some y) (some z) (some u),ty,pos,after,g⟩=true:=rfl
@[go_sem] theorem opsL_slice5 (t:TypeId) (x z u:Operand):opsL ⟨dst,.slice t x none (some z) (some u),ty,pos,after,g⟩=[x,z,u]:=rfl
@[go_sem] theorem tgtOk_slice5 (t:TypeId) (x z u:Operand):tgtOk wr ts ⟨dst,.slice t x none (some z) (some u),ty,pos,after,g⟩=true:=rfl
@[go_sem] theorem opsL_call (f:Operand) (xs:List Operand) (ats:Array TypeId):opsL ⟨dst,.call ⟨.value f,List.toArray xs,ats⟩,ty,pos,after,g⟩=(f :: xs):=by simp [opsL,Op.operands,Call.operands]
@[go_sem] theorem tgtOk_call (f:Operand) (xs:List Operand) (ats:Array TypeId):tgtOk wr ts ⟨dst,.call ⟨.value f,List.toArray xs,ats⟩,ty,pos,after,g⟩=true:=rfl
@[go_sem] theorem opsL_len (b:Builtin) (xs:List Operand) (ats:Array TypeId):opsL ⟨dst,.call ⟨.builtin b,List.toArray xs,ats⟩,ty,pos,after,g⟩=xs:=by simp [opsL,Op.operands,Call.operands]
@[go_sem] theorem tgtOk_len (xs:List Operand) (ats:Array TypeId):tgtOk wr ts ⟨dst,.call ⟨.builtin .len,List.toArray xs,ats⟩,ty,pos,after,g⟩=true:=rfl
@[go_sem] theorem tgtOk_max (xs:List Operand) (ats:Array TypeId):tgtOk wr ts ⟨dst,.call ⟨.builtin .max,List.toArray xs,ats⟩,ty,pos,after,g⟩=true:=rfl
@[go_sem] theorem tgtOk_min (xs:List Operand) (ats:Array TypeId):tgtOk wr ts ⟨dst,.call ⟨.builtin .min,List.toArray xs,ats⟩,ty,pos,after,g⟩=true:=rfl
@[go_sem] theorem tgtOk_append (s x:Operand) (ats:Array TypeId):tgtOk wr ts ⟨dst,.call ⟨.builtin .append,List.toArray [s,x],ats⟩,ty,pos,after,g⟩=tgtA wr (ts.ev s):=rfl
@[go_sem] theorem tgtA_os (d q n:Nat):tgtA wr (.os d q n)=wr.contains d:=rfl
@[go_sem] theorem tgtA_nil (c:Bool) (xs:List AV):tgtA wr (.slice c xs)=true:=rfl
@[go_sem] theorem opsL_build (t:TypeId) (ps:List (Nat × Operand)):opsL ⟨dst,.build t (List.toArray ps),ty,pos,after,g⟩=(ps.map (·.2)):=by simp [opsL,Op.operands,Call.operands]
@[go_sem] theorem tgtOk_build (t:TypeId) (ps:List (Nat × Operand)):tgtOk wr ts ⟨dst,.build t (List.toArray ps),ty,pos,after,g⟩=true:=rfl
@[go_sem] theorem opsL_buildSlice (t:TypeId) (n:Nat) (ps:List (Nat × Operand)):opsL ⟨dst,.buildSlice t n (List.toArray ps),ty,pos,after,g⟩=(ps.map (·.2)):=by simp [opsL,Op.operands,Call.operands]
@[go_sem] theorem tgtOk_buildSlice (t:TypeId) (n:Nat) (ps:List (Nat × Operand)):tgtOk wr ts ⟨dst,.buildSlice t n (List.toArray ps),ty,pos,after,g⟩=true:=rfl
@[go_sem] theorem opsL_store (t:TypeId) (x y:Operand):opsL ⟨dst,.store t x y,ty,pos,after,g⟩=[x,y]:=rfl
@[go_sem] theorem tgtOk_store (t:TypeId) (x y:Operand):tgtOk wr ts ⟨dst,.store t x y,ty,pos,after,g⟩=tgtV wr (ts.ev x):=rfl
@[go_sem] theorem opsL_lookup (t:TypeId) (x k:Operand) (ok:Bool):opsL ⟨dst,.lookup t x k ok,ty,pos,after,g⟩=[x,k]:=rfl
@[go_sem] theorem tgtOk_lookup (t:TypeId) (x k:Operand) (ok:Bool):tgtOk wr ts ⟨dst,.lookup t x k ok,ty,pos,after,g⟩=true:=rfl
@[go_sem] theorem opsL_makeMap (t:TypeId):opsL ⟨dst,.makeMap t none,ty,pos,after,g⟩=[]:=rfl
@[go_sem] theorem tgtOk_makeMap (t:TypeId):tgtOk wr ts ⟨dst,.makeMap t none,ty,pos,after,g⟩=true:=rfl
@[go_sem] theorem opsL_mapUpdate (t:TypeId) (m k x:Operand):opsL ⟨dst,.mapUpdate t m k x,ty,pos,after,g⟩=[m,k,x]:=rfl
@[go_sem] theorem tgtOk_mapUpdate (t:TypeId) (m k x:Operand):tgtOk wr ts ⟨dst,.mapUpdate t m k x,ty,pos,after,g⟩=tgtM wr (ts.ev m):=rfl
@[go_sem] theorem opsL_mapEntry (t:TypeId) (m k:Operand):opsL ⟨dst,.mapEntry t m k,ty,pos,after,g⟩=[m,k]:=rfl
@[go_sem] theorem tgtOk_mapEntry (t:TypeId) (m k:Operand):tgtOk wr ts ⟨dst,.mapEntry t m k,ty,pos,after,g⟩=tgtM wr (ts.ev m):=rfl
@[go_sem] theorem opKp_mapEntry (t:TypeId) (m k:Operand):opKp T ⟨dst,.mapEntry t m k,ty,pos,after,g⟩ ts K=opK T ⟨dst,.mapEntry t m k,ty,pos,after,g⟩ ts K:=rfl
@[go_sem] theorem opsL_entryStore (t:TypeId) (m s x:Operand):opsL ⟨dst,.entryStore t m s x,ty,pos,after,g⟩=[m,s,x]:=rfl
@[go_sem] theorem tgtOk_entryStore (t:TypeId) (m s x:Operand):tgtOk wr ts ⟨dst,.entryStore t m s x,ty,pos,after,g⟩=tgtM wr (ts.ev m):=rfl
@[go_sem] theorem opKp_entryStore (t:TypeId) (m s x:Operand):opKp T ⟨dst,.entryStore t m s x,ty,pos,after,g⟩ ts K=opK T ⟨dst,.entryStore t m s x,ty,pos,after,g⟩ ts K:=rfl
@[go_sem] theorem tgtM_mref (d q:Nat):tgtM wr (.mref d q)=wr.contains d:=rfl
@[go_sem] theorem opKp_lookup (t:TypeId) (x k:Operand) (ok:Bool):opKp T ⟨dst,.lookup t x k ok,ty,pos,after,g⟩ ts K=opK T ⟨dst,.lookup t x k ok,ty,pos,after,g⟩ ts K:=rfl
@[go_sem] theorem opKp_makeMap (t:TypeId) (r:Option Operand):opKp T ⟨dst,.makeMap t r,ty,pos,after,g⟩ ts K=opK T ⟨dst,.makeMap t r,ty,pos,after,g⟩ ts K:=rfl
@[go_sem] theorem opKp_mapUpdate (t:TypeId) (m k x:Operand):opKp T ⟨dst,.mapUpdate t m k x,ty,pos,after,g⟩ ts K=opK T ⟨dst,.mapUpdate t m k x,ty,pos,after,g⟩ ts K:=rfl
@[go_sem] theorem boxQ (cs:List AV):(Ob.box cs).box?=some cs:=rfl
@[go_sem] theorem vOk_ot (d q o n:Nat):vOk bad (.ot d q o n)=!bad.contains d:=rfl
@[go_sem] theorem wGp_none (op:Op):wGp T all ⟨dst,op,ty,pos,after,none⟩ K ts=opKp T ⟨dst,op,ty,pos,after,none⟩ ts K:=rfl
@[go_sem] theorem wGp_some (op:Op) (j:Nat) (want:Bool):wGp T all ⟨dst,op,ty,pos,after,some (j,want)⟩ K ts=gK (gvalL ts all j) want (opKpt T ⟨dst,op,ty,pos,after,some (j,want)⟩ K) (skipK dst K) ts:=rfl
@[go_sem] theorem opKpt_eq:opKpt T o K ts=opKp T o ts K:=rfl
@[go_sem] theorem opKp_call (f:Operand) (xs:Array Operand) (at_:Array TypeId):opKp T ⟨dst,.call ⟨.value f,xs,at_⟩,ty,pos,after,g⟩ ts K=callW false P (ts.ev f) (xs.toList.map ts.ev) dst ts K:=rfl
@[go_sem] theorem opKp_move (x:Operand):opKp T ⟨dst,.move x,ty,pos,after,g⟩ ts K=opK T ⟨dst,.move x,ty,pos,after,g⟩ ts K:=rfl
@[go_sem] theorem opKp_assign (x:Operand):opKp T ⟨dst,.assign x,ty,pos,after,g⟩ ts K=opK T ⟨dst,.assign x,ty,pos,after,g⟩ ts K:=rfl
@[go_sem] theorem opKp_pick (c x y:Operand):opKp T ⟨dst,.pick c x y,ty,pos,after,g⟩ ts K=opK T ⟨dst,.pick c x y,ty,pos,after,g⟩ ts K:=rfl
@[go_sem] theorem opKp_alloc (t:TypeId):opKp T ⟨dst,.alloc t,ty,pos,after,g⟩ ts K=opK T ⟨dst,.alloc t,ty,pos,after,g⟩ ts K:=rfl
@[go_sem] theorem opKp_box (t:TypeId) (x:Operand):opKp T ⟨dst,.box t x,ty,pos,after,g⟩ ts K=opK T ⟨dst,.box t x,ty,pos,after,g⟩ ts K:=rfl
@[go_sem] theorem opKp_load (t:TypeId) (x:Operand):opKp T ⟨dst,.load t x,ty,pos,after,g⟩ ts K=opK T ⟨dst,.load t x,ty,pos,after,g⟩ ts K:=rfl
@[go_sem] theorem opKp_store (t:TypeId) (x y:Operand):opKp T ⟨dst,.store t x y,ty,pos,after,g⟩ ts K=opK T ⟨dst,.store t x y,ty,pos,after,g⟩ ts K:=rfl
@[go_sem] theorem opKp_field (t:TypeId) (x:Operand) (f:Nat):opKp T ⟨dst,.field t x f,ty,pos,after,g⟩ ts K=opK T ⟨dst,.field t x f,ty,pos,after,g⟩ ts K:=rfl
@[go_sem] theorem opKp_fieldAddr (t:TypeId) (x:Operand) (f:Nat):opKp T ⟨dst,.fieldAddr t x f,ty,pos,after,g⟩ ts K=opK T ⟨dst,.fieldAddr t x f,ty,pos,after,g⟩ ts K:=rfl
@[go_sem] theorem opKp_indexAddr (t:TypeId) (x y:Operand):opKp T ⟨dst,.indexAddr t x y,ty,pos,after,g⟩ ts K=opK T ⟨dst,.indexAddr t x y,ty,pos,after,g⟩ ts K:=rfl
@[go_sem] theorem opKp_index (t:TypeId) (x y:Operand):opKp T ⟨dst,.index t x y,ty,pos,after,g⟩ ts K=opK T ⟨dst,.index t x y,ty,pos,after,g⟩ ts K:=rfl
@[go_sem] theorem opKp_bin (b:BinOp) (t u:TypeId) (x y:Operand):opKp T ⟨dst,.binOp b t x y u,ty,pos,after,g⟩ ts K=opK T ⟨dst,.binOp b t x y u,ty,pos,after,g⟩ ts K:=rfl
@[go_sem] theorem opKp_un (b:UnOp) (t:TypeId) (x:Operand):opKp T ⟨dst,.unOp b t x,ty,pos,after,g⟩ ts K=opK T ⟨dst,.unOp b t x,ty,pos,after,g⟩ ts K:=rfl
@[go_sem] theorem opKp_makeFunc (fn:Fn) (l r:Array Operand):opKp T ⟨dst,.makeFunc fn l r,ty,pos,after,g⟩ ts K=(T.fzD dst=true∧funcK true ts dst fn l.toList r.toList K):=rfl
@[go_sem] theorem opKp_nilCheck (x:Operand):opKp T ⟨dst,.nilCheck x,ty,pos,after,g⟩ ts K=opK T ⟨dst,.nilCheck x,ty,pos,after,g⟩ ts K:=rfl
@[go_sem] theorem opKp_extract (x:Operand) (i:Nat):opKp T ⟨dst,.extract x i,ty,pos,after,g⟩ ts K=opK T ⟨dst,.extract x i,ty,pos,after,g⟩ ts K:=rfl
@[go_sem] theorem opKp_slice (t:TypeId) (x:Operand) (lo hi mx:Option Operand):opKp T ⟨dst,.slice t x lo hi mx,ty,pos,after,g⟩ ts K=opK T ⟨dst,.slice t x lo hi mx,ty,pos,after,g⟩ ts K:=rfl
@[go_sem] theorem opKp_len (b:Builtin) (xs:Array Operand) (ats:Array TypeId):opKp T ⟨dst,.call ⟨.builtin b,xs,ats⟩,ty,pos,after,g⟩ ts K=opK T ⟨dst,.call ⟨.builtin b,xs,ats⟩,ty,pos,after,g⟩ ts K:=rfl
@[go_sem] theorem opKp_build (t:TypeId) (ps:Array (Nat × Operand)):opKp T ⟨dst,.build t ps,ty,pos,after,g⟩ ts K=opK T ⟨dst,.build t ps,ty,pos,after,g⟩ ts K:=rfl
@[go_sem] theorem opKp_buildSlice (t:TypeId) (n:Nat) (ps:Array (Nat × Operand)):opKp T ⟨dst,.buildSlice t n ps,ty,pos,after,g⟩ ts K=opK T ⟨dst,.buildSlice t n ps,ty,pos,after,g⟩ ts K:=rfl
@[go_sem] theorem tgtV_ref (d q off:Nat):tgtV wr (.ref d q off)=wr.contains d:=rfl
@[go_sem] theorem tgtV_eref (d q i off:Nat):tgtV wr (.eref d q i off)=wr.contains d:=rfl
@[go_sem] theorem vOk_mref (d q:Nat):vOk bad (.mref d q)=!bad.contains d:=rfl
@[go_sem] theorem vOk_mp (a b:List AV):vOk bad (.mp a b)=true:=rfl
@[go_sem] theorem vOk_os (d q n:Nat):vOk bad (.os d q n)=!bad.contains d:=rfl
@[go_sem] theorem vOk_ref (d q n:Nat):vOk bad (.ref d q n)=!bad.contains d:=rfl
@[go_sem] theorem vOk_eref (d q i n:Nat):vOk bad (.eref d q i n)=!bad.contains d:=rfl
@[go_sem] theorem vOk_agg (cs:List AV):vOk bad (.agg cs)=vOk.vOkL bad cs:=rfl
@[go_sem] theorem vOk_tup (cs:List AV):vOk bad (.tup cs)=vOk.vOkL bad cs:=rfl
@[go_sem] theorem vOk_clo (fn:Fn) (a b:List AV):vOk bad (.clo fn a b)=(vOk.vOkL bad a && vOk.vOkL bad b):=rfl
@[go_sem] theorem vOk_int (k:IntKind) (n:Int):vOk bad (.int k n)=true:=rfl
@[go_sem] theorem vOk_bool (b:Bool):vOk bad (.bool b)=true:=rfl
@[go_sem] theorem vOk_str (s:List UInt8):vOk bad (.str s)=true:=rfl
@[go_sem] theorem vOk_slice (c:Bool) (xs:List AV):vOk bad (.slice c xs)=true:=rfl
@[go_sem] theorem vOk_ro (xs:List AV):vOk bad (.ro xs)=true:=rfl
@[go_sem] theorem vOk_nilp:vOk bad .nilp=true:=rfl
@[go_sem] theorem vOk_nilf:vOk bad .nilf=true:=rfl
@[go_sem] theorem vOk_nilm:vOk bad .nilm=true:=rfl
@[go_sem] theorem vOk_niface:vOk bad .niface=true:=rfl
@[go_sem] theorem vOkL_nl:vOk.vOkL bad []=true:=rfl
@[go_sem] theorem vOkL_cons (x:AV) (xs:List AV):vOk.vOkL bad (x :: xs)=(vOk bad x && vOk.vOkL bad xs):=rfl
@[go_sem] theorem endK_normal (R:TS→Prop):endK R .normal ts=R ts:=rfl
@[go_sem] theorem endK_ret (R:TS→Prop):endK R .ret ts=R ts:=rfl
@[go_sem] theorem EndX_val (rs:List ResultVar) (z:AV):EndX T rs (.val z) ts=optK (ts.result T rs) fun x=>optK (x.res ts) fun y=>y.nrm=z:=rfl
@[go_sem] theorem EndX_own (rs:List ResultVar) (sz:Nat) (zs:List AV):EndX T rs (.own sz zs) ts=(oneRes ts rs=true∧optK (ts.result T rs) fun x=>ownX ts x sz zs):=rfl
@[go_sem] theorem oneRes_tmp (t:Nat):oneRes ts [.tmp t]=true:=rfl
@[go_sem] theorem oneRes_cell (a t:Nat):oneRes ts [.cell a t]=(match ts.tmp a with|.ref ..=>true|_=>false):=rfl
@[go_sem] theorem ownX_os (d q len sz:Nat) (zs:List AV):ownX ts (.os d q len) sz zs=(q=ts.gen d∧optK (ts.obj d).arr? fun q=>q.1=sz∧len≤q.2.length∧AV.pure.pureL (q.2.take len)=true∧AV.nrm.nrmL (q.2.take len)=zs):=rfl
@[go_sem] theorem ownX_nil (sz:Nat) (zs:List AV):ownX ts (.slice true []) sz zs=(0 < sz∧[]=zs):=rfl
@[go_sem] theorem retflat_val (x:AV):Ret.flat (.val x)=x.flat:=rfl
@[go_sem] theorem retflat_own (sz:Nat) (xs:List AV):Ret.flat (.own sz xs)=AV.flat.flatL xs:=rfl
end
section
variable (d g H:Nat)
@[go_sem] theorem renML_nil:AV.renM.renML d g H []=[]:=rfl
@[go_sem] theorem renML_cons (x:AV) (r:List AV):AV.renM.renML d g H (x :: r)=x.renM d g H :: AV.renM.renML d g H r:=rfl
@[go_sem] theorem renM_agg (cs:List AV):(AV.agg cs).renM d g H=.agg (AV.renM.renML d g H cs):=rfl
@[go_sem] theorem renM_ro (cs:List AV):(AV.ro cs).renM d g H=.ro (AV.renM.renML d g H cs):=rfl
@[go_sem] theorem renM_slice (c:Bool) (cs:List AV):(AV.slice c cs).renM d g H=.slice c (AV.renM.renML d g H cs):=rfl
@[go_sem] theorem renM_clo (fn:Fn) (a b:List AV):(AV.clo fn a b).renM d g H=.clo fn (AV.renM.renML d g H a) (AV.renM.renML d g H b):=rfl
@[go_sem] theorem renM_mp (a b:List AV):(AV.mp a b).renM d g H=.mp (AV.renM.renML d g H a) (AV.renM.renML d g H b):=rfl
@[go_sem] theorem renM_mref (e q:Nat):(AV.mref e q).renM d g H=if e=d∧q=g then .mref H 0 else .mref e q:=rfl
@[go_sem] theorem renM_int (k:IntKind) (n:Int):(AV.int k n).renM d g H=.int k n:=rfl
@[go_sem] theorem renM_bool (b:Bool):(AV.bool b).renM d g H=.bool b:=rfl
@[go_sem] theorem renM_str (s:List UInt8):(AV.str s).renM d g H=.str s:=rfl
@[go_sem] theorem renM_any:AV.any.renM d g H=.any:=rfl
@[go_sem] theorem pureHL_nil:AV.pureH.pureHL d g []=true:=rfl
@[go_sem] theorem pureHL_cons (x:AV) (r:List AV):AV.pureH.pureHL d g (x :: r)=(x.pureH d g && AV.pureH.pureHL d g r):=rfl
@[go_sem] theorem pureH_agg (cs:List AV):(AV.agg cs).pureH d g=AV.pureH.pureHL d g cs:=rfl
@[go_sem] theorem pureH_ro (cs:List AV):(AV.ro cs).pureH d g=AV.pureH.pureHL d g cs:=rfl
@[go_sem] theorem pureH_slice (c:Bool) (cs:List AV):(AV.slice c cs).pureH d g=AV.pureH.pureHL d g cs:=rfl
@[go_sem] theorem pureH_clo (fn:Fn) (a b:List AV):(AV.clo fn a b).pureH d g=(AV.pureH.pureHL d g a && AV.pureH.pureHL d g b):=rfl
@[go_sem] theorem pureH_mp (a b:List AV):(AV.mp a b).pureH d g=(AV.pureH.pureHL d g a && AV.pureH.pureHL d g b):=rfl
@[go_sem] theorem pureH_mref (e q:Nat):(AV.mref e q).pureH d g=(e == d && q == g):=rfl
@[go_sem] theorem pureH_int (k:IntKind) (n:Int):(AV.int k n).pureH d g=true:=rfl
@[go_sem] theorem pureH_bool (b:Bool):(AV.bool b).pureH d g=true:=rfl
@[go_sem] theorem pureH_str (s:List UInt8):(AV.str s).pureH d g=true:=rfl
@[go_sem] theorem pureH_any:AV.any.pureH d g=true:=rfl
mutual
theorem renM_of_pure:∀ x:AV,x.pure=true→x.renM d g H=x
 | .agg cs,h=>by simp only [AV.pure] at h; simp only [AV.renM,renML_of_pure cs h]
 | .tup cs,h=>by simp only [AV.pure] at h; simp only [AV.renM,renML_of_pure cs h]
 | .slice _ cs,h=>by simp only [AV.pure] at h; simp only [AV.renM,renML_of_pure cs h]
 | .ro cs,h=>by simp only [AV.pure] at h; simp only [AV.renM,renML_of_pure cs h]
 | .clo _ a b,h=>by simp only [AV.pure,Bool.and_eq_true] at h; simp only [AV.renM,renML_of_pure a h.1,renML_of_pure b h.2]
 | .mp a b,h=>by simp only [AV.pure,Bool.and_eq_true] at h; simp only [AV.renM,renML_of_pure a h.1,renML_of_pure b h.2]
 | .iface _ x,h=>by simp only [AV.pure] at h; simp only [AV.renM,renM_of_pure x h]
 | .mref _ _,h=>by simp [AV.pure] at h
 | .any,_|.bool _,_|.int _ _,_|.str _,_|.nilp,_|.nilf,_|.nilm,_|.niface,_|.ref _ _ _,_|.eref _ _ _ _,_|.ot _ _ _ _,_|.os _ _ _,_=>rfl
theorem renML_of_pure:∀ l:List AV,AV.pure.pureL l=true→AV.renM.renML d g H l=l
 | [],_=>rfl
 | x :: r,h=>by
  simp only [AV.pure.pureL,Bool.and_eq_true] at h
  simp only [AV.renM.renML,renM_of_pure x h.1,renML_of_pure r h.2]
end
mutual
theorem pureH_of_pure:∀ x:AV,x.pure=true→x.pureH d g=true
 | .agg cs,h=>by simp only [AV.pure] at h; simp only [AV.pureH,pureHL_of_pure cs h]
 | .tup cs,h=>by simp only [AV.pure] at h; simp only [AV.pureH,pureHL_of_pure cs h]
 | .slice _ cs,h=>by simp only [AV.pure] at h; simp only [AV.pureH,pureHL_of_pure cs h]
 | .ro cs,h=>by simp only [AV.pure] at h; simp only [AV.pureH,pureHL_of_pure cs h]
 | .clo _ a b,h=>by simp only [AV.pure,Bool.and_eq_true] at h; simp only [AV.pureH,pureHL_of_pure a h.1,pureHL_of_pure b h.2,Bool.and_self]
 | .mp a b,h=>by simp only [AV.pure,Bool.and_eq_true] at h; simp only [AV.pureH,pureHL_of_pure a h.1,pureHL_of_pure b h.2,Bool.and_self]
 | .iface _ x,h=>by simp only [AV.pure] at h; simp only [AV.pureH,pureH_of_pure x h]
 | .mref _ _,h|.ref _ _ _,h|.eref _ _ _ _,h|.ot _ _ _ _,h|.os _ _ _,h=>by simp [AV.pure] at h
 | .any,_|.bool _,_|.int _ _,_|.str _,_|.nilp,_|.nilf,_|.nilm,_|.niface,_=>rfl
theorem pureHL_of_pure:∀ l:List AV,AV.pure.pureL l=true→AV.pureH.pureHL d g l=true
 | [],_=>rfl
 | x :: r,h=>by
  simp only [AV.pure.pureL,Bool.and_eq_true] at h
  simp only [AV.pureH.pureHL,pureH_of_pure x h.1,pureHL_of_pure r h.2,Bool.and_self]
end
@[go_sem] theorem renML_avs {α:Type} [Dat α] (l:List α):AV.renM.renML d g H (avs l)=avs l:=renML_of_pure d g H _ (pureL_map l)
@[go_sem] theorem pureHL_avs {α:Type} [Dat α] (l:List α):AV.pureH.pureHL d g (avs l)=true:=pureHL_of_pure d g _ (pureL_map l)
variable {P:Program} (T:Tys P) (ts:TS)
@[go_sem] theorem EndH_eq (rs:List ResultVar) (x:AV) (ks vs:List AV):EndH T rs H x ks vs ts=(optK (ts.result T rs) (fun y=>y=x)∧x.pure=true∧ts.gen H=0∧ts.obj H=.mp ks vs∧AV.pure.pureL ks=true∧AV.pure.pureL vs=true):=by
 have e:EndH.optK0 (ts.result T rs) (fun y=>y=x)=optK (ts.result T rs) (fun y=>y=x):=by
  unfold EndH.optK0 optK
  cases ts.result T rs<;>simp
 unfold EndH; rw [e]
end
@[go_sem] theorem take_set_len {α:Type} (l:List α) (i:Nat) (x:α):(l.set i x).take l.length=l.set i x:=List.take_of_length_le (by simp)
theorem clr_length {xs:List AV} {off len:Nat} {z:AV} (h:off+len≤xs.length):(clrL xs off len z).length=xs.length:=by
 simp only [clrL,List.length_append,List.length_take,List.length_replicate,List.length_drop]; omega
@[go_sem] theorem clr_take (xs:List AV) (off len:Nat) (z:AV) (h:off≤xs.length):(clrL xs off len z).take off=xs.take off:=by
 simp only [clrL,List.append_assoc]
 rw [List.take_append_of_le_length (by rw [List.length_take]; omega),List.take_take,Nat.min_self]
@[go_sem] theorem clr_le (xs:List AV) (off len n:Nat) (z:AV) (h:off+len≤xs.length):(n≤(clrL xs off len z).length)=(n≤xs.length):=by rw [clr_length h]
mutual
theorem owns_of_pure:∀ x:AV,x.pure=true→x.owns=[]
 | .agg cs,h=>by simp only [AV.pure] at h; simp only [AV.owns]; exact ownsL_of_pure cs h
 | .tup cs,h=>by simp only [AV.pure] at h; simp only [AV.owns]; exact ownsL_of_pure cs h
 | .os _ _ _,h=>by simp [AV.pure] at h
 | .mref _ _,h=>by simp [AV.pure] at h
 | .mp _ _,_=>rfl
 | .any,_|.bool _,_|.int _ _,_|.str _,_|.slice _ _,_|.ro _,_|.nilp,_|.clo _ _ _,_|.nilf,_|.nilm,_|.niface,_|.iface _ _,_|.ref _ _ _,_|.eref _ _ _ _,_|.ot _ _ _ _,_=>rfl
theorem ownsL_of_pure:∀ l:List AV,AV.pure.pureL l=true→AV.owns.ownsL l=[]
 | [],_=>rfl
 | x :: r,h=>by
  simp only [AV.pure.pureL,Bool.and_eq_true] at h
  simp only [AV.owns.ownsL,owns_of_pure x h.1,ownsL_of_pure r h.2,List.append_nil]
end
structure Caps (caps:List AV):Prop where
 pure:AV.pure.pureL caps=true
 nrm:AV.nrm.nrmL caps=caps
theorem Caps.args {caps:List AV} (h:Caps caps) (ts:TS):ts.toArgs caps=some (caps,[]):=by
 obtain ⟨h1,h2⟩:=h
 induction caps with
 | nil=>rfl
 | cons x r ih =>
  simp only [AV.pure.pureL,Bool.and_eq_true] at h1
  simp only [AV.nrm.nrmL,List.cons.injEq] at h2
  simp only [TS.toArgs,res_of_pure ts x h1.1,ih h1.2 h2.2,h2.1,owns_of_pure x h1.1,List.append_nil]
theorem Caps.nil:Caps []:=⟨rfl,rfl⟩
attribute [go_sem] thenK_normal thenK_ret thenK_exit thenK_goto inBlockK_normal inBlockK_ret inBlockK_exit inBlockK_goto
attribute [go_sem] AV.bool.injEq AV.int.injEq AV.str.injEq AV.agg.injEq AV.tup.injEq AV.slice.injEq List.cons.injEq
attribute [go_sem] Nat.lt_add_one true_and and_true ne_eq not_false_eq_true not_true_eq_false and_self List.map_cons List.map_nil List.length_cons List.length_nil List.drop_zero List.drop_succ_cons List.drop_nil List.take_succ_cons List.take_zero List.take_nil
attribute [go_sem] List.getD_cons_zero List.getD_cons_succ List.getElem?_cons_zero List.getElem?_cons_succ List.nil_append List.cons_append List.append_nil List.all_cons List.all_nil Bool.and_self Bool.and_true Bool.true_and Bool.not_true Bool.not_false Bool.and_false Bool.false_and Bool.false_eq_true
attribute [go_sem] Option.map_some Option.isSome_some Option.isSome_none Option.isNone_none Option.isNone_some BEq.rfl beq_self_eq_true List.mem_cons List.not_mem_nil or_false or_self forall_eq_or_imp forall_eq implies_true false_implies Nat.zero_add Nat.add_zero Nat.zero_le Nat.zero_lt_succ Nat.le_refl
attribute [go_sem] List.isEmpty Int.toNat_natCast Int.ofNat_lt Int.ofNat_le Int.natCast_nonneg List.toList_toArray List.take_length Nat.sub_zero List.set_cons_zero List.set_cons_succ Option.some.injEq forall_eq' List.range List.range.loop List.set_nil List.length_set List.length_map List.contains_cons List.contains_nil
attribute [go_sem] List.length_drop List.length_append List.getElem_set_self
@[go_sem] theorem take_snoc_len {α:Type} (l:List α) (x:α):(l++[x]).take (l.length+1)=l++[x]:=List.take_of_length_le (by simp)
attribute [go_sem] Bool.or_false Bool.false_or Bool.or_true Bool.true_or decide_true decide_false true_or or_true
end Go.Proofs.YtmjkjmoeicnbnaaGreatDoor.Lg
namespace Go.Proofs.YtmjkjmoeicnbnaaGreatDoor.Lg
open Go
set_option linter.unusedVariables false
set_option linter.unusedSimpArgs false
theorem infoOf {i:Nat} {ti:TypeInfo} (h:Tryz.prog.types[i]?=some ti):Tryz.prog.info? i=some ti:=by
 have hlt:i < Tryz.prog.types.size:=(Array.getElem?_eq_some_iff.1 h).1
 simp only [Tables.info?,if_pos hlt,h]
def ty1:TyI:=⟨.func,1,8,[.nilf]⟩
theorem tyOk1:TyOk Tryz.prog 1 ty1:=.inr ⟨Tryz.t1,infoOf Tryz.type1,rfl,rfl,⟨_,rfl,rfl,rfl⟩,_,Tryz.underlying1,rfl⟩
theorem tyZ1:TyZ Tryz.prog 1 ty1:=.inr ⟨Tryz.t1,_,infoOf Tryz.type1,rfl,rfl⟩
def ty2:TyI:=⟨.int .i64,1,8,[.int .i64 0]⟩
theorem tyOk2:TyOk Tryz.prog 2 ty2:=.inr ⟨Tryz.t2,infoOf Tryz.type2,rfl,rfl,⟨_,rfl,rfl,rfl⟩,_,Tryz.underlying2,rfl⟩
theorem tyZ2:TyZ Tryz.prog 2 ty2:=.inr ⟨Tryz.t2,_,infoOf Tryz.type2,rfl,rfl⟩
def ty3:TyI:=⟨.int .i64,1,8,[.int .i64 0]⟩
theorem tyOk3:TyOk Tryz.prog 3 ty3:=.inr ⟨Tryz.t3,infoOf Tryz.type3,rfl,rfl,⟨_,rfl,rfl,rfl⟩,_,Tryz.underlying3,rfl⟩
theorem tyZ3:TyZ Tryz.prog 3 ty3:=.inr ⟨Tryz.t3,_,infoOf Tryz.type3,rfl,rfl⟩
def ty4:TyI:=⟨.bool,1,1,[.bool false]⟩
theorem tyOk4:TyOk Tryz.prog 4 ty4:=.inr ⟨Tryz.t4,infoOf Tryz.type4,rfl,rfl,⟨_,rfl,rfl,rfl⟩,_,Tryz.underlying4,rfl⟩
theorem tyZ4:TyZ Tryz.prog 4 ty4:=.inr ⟨Tryz.t4,_,infoOf Tryz.type4,rfl,rfl⟩
def ty5:TyI:=⟨.int .u8,1,1,[.int .u8 0]⟩
theorem tyOk5:TyOk Tryz.prog 5 ty5:=.inr ⟨Tryz.t5,infoOf Tryz.type5,rfl,rfl,⟨_,rfl,rfl,rfl⟩,_,Tryz.underlying5,rfl⟩
theorem tyZ5:TyZ Tryz.prog 5 ty5:=.inr ⟨Tryz.t5,_,infoOf Tryz.type5,rfl,rfl⟩
def ty6:TyI:=⟨.int .u8,1,1,[.int .u8 0]⟩
theorem tyOk6:TyOk Tryz.prog 6 ty6:=.inr ⟨Tryz.t6,infoOf Tryz.type6,rfl,rfl,⟨_,rfl,rfl,rfl⟩,_,Tryz.underlying6,rfl⟩
theorem tyZ6:TyZ Tryz.prog 6 ty6:=.inr ⟨Tryz.t6,_,infoOf Tryz.type6,rfl,rfl⟩
def ty7 : TyI := ⟨.struct [(0, 2, "x"), (1, 3, "y"), (2, 4, "signed"), (3, 6, "code")], 4, 24, [.int .i64 0, .int .i64 0, .bool false, .int .u8 0]⟩
theorem tyOk7:TyOk Tryz.prog 7 ty7:=.inr ⟨Tryz.t7,infoOf Tryz.type7,rfl,rfl,⟨_,rfl,rfl,rfl⟩,_,Tryz.underlying7,rfl⟩
theorem tyZ7:TyZ Tryz.prog 7 ty7:=.inr ⟨Tryz.t7,_,infoOf Tryz.type7,rfl,rfl⟩
def ty8 : TyI := ⟨.struct [(0, 2, "x"), (1, 3, "y"), (2, 4, "signed"), (3, 6, "code")], 4, 24, [.int .i64 0, .int .i64 0, .bool false, .int .u8 0]⟩
theorem tyOk8:TyOk Tryz.prog 8 ty8:=.inr ⟨Tryz.t8,infoOf Tryz.type8,rfl,rfl,⟨_,rfl,rfl,rfl⟩,_,Tryz.underlying8,rfl⟩
theorem tyZ8:TyZ Tryz.prog 8 ty8:=.inr ⟨Tryz.t8,_,infoOf Tryz.type8,rfl,rfl⟩
def ty9:TyI:=⟨.str,1,16,[.str []]⟩
theorem tyOk9:TyOk Tryz.prog 9 ty9:=.inr ⟨Tryz.t9,infoOf Tryz.type9,rfl,rfl,⟨_,rfl,rfl,rfl⟩,_,Tryz.underlying9,rfl⟩
theorem tyZ9:TyZ Tryz.prog 9 ty9:=.inr ⟨Tryz.t9,_,infoOf Tryz.type9,rfl,rfl⟩
def ty10:TyI:=⟨.str,1,16,[.str []]⟩
theorem tyOk10:TyOk Tryz.prog 10 ty10:=.inr ⟨Tryz.t10,infoOf Tryz.type10,rfl,rfl,⟨_,rfl,rfl,rfl⟩,_,Tryz.underlying10,rfl⟩
theorem tyZ10:TyZ Tryz.prog 10 ty10:=.inr ⟨Tryz.t10,_,infoOf Tryz.type10,rfl,rfl⟩
def ty12:TyI:=⟨.int .u64,1,8,[.int .u64 0]⟩
theorem tyOk12:TyOk Tryz.prog 12 ty12:=.inr ⟨Tryz.t12,infoOf Tryz.type12,rfl,rfl,⟨_,rfl,rfl,rfl⟩,_,Tryz.underlying12,rfl⟩
theorem tyZ12:TyZ Tryz.prog 12 ty12:=.inr ⟨Tryz.t12,_,infoOf Tryz.type12,rfl,rfl⟩
def ty13 : TyI := ⟨.struct [(0, 9, "msg"), (1, 12, "addr")], 2, 24, [.str [], .int .u64 0]⟩
theorem tyOk13:TyOk Tryz.prog 13 ty13:=.inr ⟨Tryz.t13,infoOf Tryz.type13,rfl,rfl,⟨_,rfl,rfl,rfl⟩,_,Tryz.underlying13,rfl⟩
theorem tyZ13:TyZ Tryz.prog 13 ty13:=.inr ⟨Tryz.t13,_,infoOf Tryz.type13,rfl,rfl⟩
def ty15:TyI:=⟨.ptr 236,1,8,[.nilp]⟩
theorem tyOk15:TyOk Tryz.prog 15 ty15:=.inr ⟨Tryz.t15,infoOf Tryz.type15,rfl,rfl,⟨_,rfl,rfl,rfl⟩,_,Tryz.underlying15,rfl⟩
theorem tyZ15:TyZ Tryz.prog 15 ty15:=.inr ⟨Tryz.t15,_,infoOf Tryz.type15,rfl,rfl⟩
def ty17:TyI:=⟨.ptr 248,1,8,[.nilp]⟩
theorem tyOk17:TyOk Tryz.prog 17 ty17:=.inr ⟨Tryz.t17,infoOf Tryz.type17,rfl,rfl,⟨_,rfl,rfl,rfl⟩,_,Tryz.underlying17,rfl⟩
theorem tyZ17:TyZ Tryz.prog 17 ty17:=.inr ⟨Tryz.t17,_,infoOf Tryz.type17,rfl,rfl⟩
def ty21:TyI:=⟨.int .i32,1,4,[.int .i32 0]⟩
theorem tyOk21:TyOk Tryz.prog 21 ty21:=.inr ⟨Tryz.t21,infoOf Tryz.type21,rfl,rfl,⟨_,rfl,rfl,rfl⟩,_,Tryz.underlying21,rfl⟩
theorem tyZ21:TyZ Tryz.prog 21 ty21:=.inr ⟨Tryz.t21,_,infoOf Tryz.type21,rfl,rfl⟩
def ty22:TyI:=⟨.slice 87,1,24,[.slice true []]⟩
theorem tyOk22:TyOk Tryz.prog 22 ty22:=.inr ⟨Tryz.t22,infoOf Tryz.type22,rfl,rfl,⟨_,rfl,rfl,rfl⟩,_,Tryz.underlying22,rfl⟩
theorem tyZ22:TyZ Tryz.prog 22 ty22:=.inr ⟨Tryz.t22,_,infoOf Tryz.type22,rfl,rfl⟩
def ty24 : TyI := ⟨.struct [(0, 3, "Kind"), (1, 9, "Name")], 2, 24, [.int .i64 0, .str []]⟩
theorem tyOk24:TyOk Tryz.prog 24 ty24:=.inr ⟨Tryz.t24,infoOf Tryz.type24,rfl,rfl,⟨_,rfl,rfl,rfl⟩,_,Tryz.underlying24,rfl⟩
theorem tyZ24:TyZ Tryz.prog 24 ty24:=.inr ⟨Tryz.t24,_,infoOf Tryz.type24,rfl,rfl⟩
def ty28:TyI:=⟨.slice 24,1,24,[.slice true []]⟩
theorem tyOk28:TyOk Tryz.prog 28 ty28:=.inr ⟨Tryz.t28,infoOf Tryz.type28,rfl,rfl,⟨_,rfl,rfl,rfl⟩,_,Tryz.underlying28,rfl⟩
theorem tyZ28:TyZ Tryz.prog 28 ty28:=.inr ⟨Tryz.t28,_,infoOf Tryz.type28,rfl,rfl⟩
def ty31:TyI:=⟨.func,1,8,[.nilf]⟩
theorem tyOk31:TyOk Tryz.prog 31 ty31:=.inr ⟨Tryz.t31,infoOf Tryz.type31,rfl,rfl,⟨_,rfl,rfl,rfl⟩,_,Tryz.underlying31,rfl⟩
theorem tyZ31:TyZ Tryz.prog 31 ty31:=.inr ⟨Tryz.t31,_,infoOf Tryz.type31,rfl,rfl⟩
def ty33:TyI:=⟨.int .i64,1,8,[.int .i64 0]⟩
theorem tyOk33:TyOk Tryz.prog 33 ty33:=.inr ⟨Tryz.t33,infoOf Tryz.type33,rfl,rfl,⟨_,rfl,rfl,rfl⟩,_,Tryz.underlying33,rfl⟩
theorem tyZ33:TyZ Tryz.prog 33 ty33:=.inr ⟨Tryz.t33,_,infoOf Tryz.type33,rfl,rfl⟩
def ty47:TyI:=⟨.func,1,8,[.nilf]⟩
theorem tyOk47:TyOk Tryz.prog 47 ty47:=.inr ⟨Tryz.t47,infoOf Tryz.type47,rfl,rfl,⟨_,rfl,rfl,rfl⟩,_,Tryz.underlying47,rfl⟩
theorem tyZ47:TyZ Tryz.prog 47 ty47:=.inr ⟨Tryz.t47,_,infoOf Tryz.type47,rfl,rfl⟩
def ty84:TyI:=⟨.slice 142,1,24,[.slice true []]⟩
theorem tyOk84:TyOk Tryz.prog 84 ty84:=.inr ⟨Tryz.t84,infoOf Tryz.type84,rfl,rfl,⟨_,rfl,rfl,rfl⟩,_,Tryz.underlying84,rfl⟩
theorem tyZ84:TyZ Tryz.prog 84 ty84:=.inr ⟨Tryz.t84,_,infoOf Tryz.type84,rfl,rfl⟩
def ty85:TyI:=⟨.slice 3,1,24,[.slice true []]⟩
theorem tyOk85:TyOk Tryz.prog 85 ty85:=.inr ⟨Tryz.t85,infoOf Tryz.type85,rfl,rfl,⟨_,rfl,rfl,rfl⟩,_,Tryz.underlying85,rfl⟩
theorem tyZ85:TyZ Tryz.prog 85 ty85:=.inr ⟨Tryz.t85,_,infoOf Tryz.type85,rfl,rfl⟩
def ty87 : TyI := ⟨.struct [(0, 3, "Kind"), (1, 9, "Name"), (2, 3, "Ver"), (3, 3, "Port"), (4, 9, "To"), (5, 84, "Rules"), (6, 85, "Hosts")], 7, 104, [.int .i64 0, .str [], .int .i64 0, .int .i64 0, .str [], .slice true [], .slice true []]⟩
theorem tyOk87:TyOk Tryz.prog 87 ty87:=.inr ⟨Tryz.t87,infoOf Tryz.type87,rfl,rfl,⟨_,rfl,rfl,rfl⟩,_,Tryz.underlying87,rfl⟩
theorem tyZ87:TyZ Tryz.prog 87 ty87:=.inr ⟨Tryz.t87,_,infoOf Tryz.type87,rfl,rfl⟩
def ty94:TyI:=⟨.func,1,8,[.nilf]⟩
theorem tyOk94:TyOk Tryz.prog 94 ty94:=.inr ⟨Tryz.t94,infoOf Tryz.type94,rfl,rfl,⟨_,rfl,rfl,rfl⟩,_,Tryz.underlying94,rfl⟩
theorem tyZ94:TyZ Tryz.prog 94 ty94:=.inr ⟨Tryz.t94,_,infoOf Tryz.type94,rfl,rfl⟩
def ty96:TyI:=⟨.map 24 4,1,8,[.nilm]⟩
theorem tyOk96:TyOk Tryz.prog 96 ty96:=.inr ⟨Tryz.t96,infoOf Tryz.type96,rfl,rfl,⟨_,rfl,rfl,rfl⟩,_,Tryz.underlying96,rfl⟩
theorem tyZ96:TyZ Tryz.prog 96 ty96:=.inr ⟨Tryz.t96,_,infoOf Tryz.type96,rfl,rfl⟩
def ty100:TyI:=⟨.func,1,8,[.nilf]⟩
theorem tyOk100:TyOk Tryz.prog 100 ty100:=.inr ⟨Tryz.t100,infoOf Tryz.type100,rfl,rfl,⟨_,rfl,rfl,rfl⟩,_,Tryz.underlying100,rfl⟩
theorem tyZ100:TyZ Tryz.prog 100 ty100:=.inr ⟨Tryz.t100,_,infoOf Tryz.type100,rfl,rfl⟩
def ty105:TyI:=⟨.func,1,8,[.nilf]⟩
theorem tyOk105:TyOk Tryz.prog 105 ty105:=.inr ⟨Tryz.t105,infoOf Tryz.type105,rfl,rfl,⟨_,rfl,rfl,rfl⟩,_,Tryz.underlying105,rfl⟩
theorem tyZ105:TyZ Tryz.prog 105 ty105:=.inr ⟨Tryz.t105,_,infoOf Tryz.type105,rfl,rfl⟩
def ty106:TyI:=⟨.func,1,8,[.nilf]⟩
theorem tyOk106:TyOk Tryz.prog 106 ty106:=.inr ⟨Tryz.t106,infoOf Tryz.type106,rfl,rfl,⟨_,rfl,rfl,rfl⟩,_,Tryz.underlying106,rfl⟩
theorem tyZ106:TyZ Tryz.prog 106 ty106:=.inr ⟨Tryz.t106,_,infoOf Tryz.type106,rfl,rfl⟩
def ty140:TyI:=⟨.slice 144,1,24,[.slice true []]⟩
theorem tyOk140:TyOk Tryz.prog 140 ty140:=.inr ⟨Tryz.t140,infoOf Tryz.type140,rfl,rfl,⟨_,rfl,rfl,rfl⟩,_,Tryz.underlying140,rfl⟩
theorem tyZ140:TyZ Tryz.prog 140 ty140:=.inr ⟨Tryz.t140,_,infoOf Tryz.type140,rfl,rfl⟩
def ty142 : TyI := ⟨.struct [(0, 9, "Host"), (1, 9, "Prefix"), (2, 140, "Split")], 3, 56, [.str [], .str [], .slice true []]⟩
theorem tyOk142:TyOk Tryz.prog 142 ty142:=.inr ⟨Tryz.t142,infoOf Tryz.type142,rfl,rfl,⟨_,rfl,rfl,rfl⟩,_,Tryz.underlying142,rfl⟩
theorem tyZ142:TyZ Tryz.prog 142 ty142:=.inr ⟨Tryz.t142,_,infoOf Tryz.type142,rfl,rfl⟩
def ty144 : TyI := ⟨.struct [(0, 9, "Cluster"), (1, 3, "W")], 2, 24, [.str [], .int .i64 0]⟩
theorem tyOk144:TyOk Tryz.prog 144 ty144:=.inr ⟨Tryz.t144,infoOf Tryz.type144,rfl,rfl,⟨_,rfl,rfl,rfl⟩,_,Tryz.underlying144,rfl⟩
theorem tyZ144:TyZ Tryz.prog 144 ty144:=.inr ⟨Tryz.t144,_,infoOf Tryz.type144,rfl,rfl⟩
def ty147:TyI:=⟨.int .u64,1,8,[.int .u64 0]⟩
theorem tyOk147:TyOk Tryz.prog 147 ty147:=.inr ⟨Tryz.t147,infoOf Tryz.type147,rfl,rfl,⟨_,rfl,rfl,rfl⟩,_,Tryz.underlying147,rfl⟩
theorem tyZ147:TyZ Tryz.prog 147 ty147:=.inr ⟨Tryz.t147,_,infoOf Tryz.type147,rfl,rfl⟩
def ty152:TyI:=⟨.map 24 28,1,8,[.nilm]⟩
theorem tyOk152:TyOk Tryz.prog 152 ty152:=.inr ⟨Tryz.t152,infoOf Tryz.type152,rfl,rfl,⟨_,rfl,rfl,rfl⟩,_,Tryz.underlying152,rfl⟩
theorem tyZ152:TyZ Tryz.prog 152 ty152:=.inr ⟨Tryz.t152,_,infoOf Tryz.type152,rfl,rfl⟩
def ty154:TyI:=⟨.func,1,8,[.nilf]⟩
theorem tyOk154:TyOk Tryz.prog 154 ty154:=.inr ⟨Tryz.t154,infoOf Tryz.type154,rfl,rfl,⟨_,rfl,rfl,rfl⟩,_,Tryz.underlying154,rfl⟩
theorem tyZ154:TyZ Tryz.prog 154 ty154:=.inr ⟨Tryz.t154,_,infoOf Tryz.type154,rfl,rfl⟩
def ty174:TyI:=⟨.int .i64,1,8,[.int .i64 0]⟩
theorem tyOk174:TyOk Tryz.prog 174 ty174:=.inr ⟨Tryz.t174,infoOf Tryz.type174,rfl,rfl,⟨_,rfl,rfl,rfl⟩,_,Tryz.underlying174,rfl⟩
theorem tyZ174:TyZ Tryz.prog 174 ty174:=.inr ⟨Tryz.t174,_,infoOf Tryz.type174,rfl,rfl⟩
def ty182:TyI:=⟨.int .u32,1,4,[.int .u32 0]⟩
theorem tyOk182:TyOk Tryz.prog 182 ty182:=.inr ⟨Tryz.t182,infoOf Tryz.type182,rfl,rfl,⟨_,rfl,rfl,rfl⟩,_,Tryz.underlying182,rfl⟩
theorem tyZ182:TyZ Tryz.prog 182 ty182:=.inr ⟨Tryz.t182,_,infoOf Tryz.type182,rfl,rfl⟩
def ty184:TyI:=⟨.int .u64,1,8,[.int .u64 0]⟩
theorem tyOk184:TyOk Tryz.prog 184 ty184:=.inr ⟨Tryz.t184,infoOf Tryz.type184,rfl,rfl,⟨_,rfl,rfl,rfl⟩,_,Tryz.underlying184,rfl⟩
theorem tyZ184:TyZ Tryz.prog 184 ty184:=.inr ⟨Tryz.t184,_,infoOf Tryz.type184,rfl,rfl⟩
def ty192:TyI:=⟨.func,1,8,[.nilf]⟩
theorem tyOk192:TyOk Tryz.prog 192 ty192:=.inr ⟨Tryz.t192,infoOf Tryz.type192,rfl,rfl,⟨_,rfl,rfl,rfl⟩,_,Tryz.underlying192,rfl⟩
theorem tyZ192:TyZ Tryz.prog 192 ty192:=.inr ⟨Tryz.t192,_,infoOf Tryz.type192,rfl,rfl⟩
def ty194 : TyI := ⟨.struct [(0, 4, "port"), (1, 4, "to"), (2, 4, "rules"), (3, 4, "hosts")], 4, 4, [.bool false, .bool false, .bool false, .bool false]⟩
theorem tyOk194:TyOk Tryz.prog 194 ty194:=.inr ⟨Tryz.t194,infoOf Tryz.type194,rfl,rfl,⟨_,rfl,rfl,rfl⟩,_,Tryz.underlying194,rfl⟩
theorem tyZ194:TyZ Tryz.prog 194 ty194:=.inr ⟨Tryz.t194,_,infoOf Tryz.type194,rfl,rfl⟩
def ty198:TyI:=⟨.func,1,8,[.nilf]⟩
theorem tyOk198:TyOk Tryz.prog 198 ty198:=.inr ⟨Tryz.t198,infoOf Tryz.type198,rfl,rfl,⟨_,rfl,rfl,rfl⟩,_,Tryz.underlying198,rfl⟩
theorem tyZ198:TyZ Tryz.prog 198 ty198:=.inr ⟨Tryz.t198,_,infoOf Tryz.type198,rfl,rfl⟩
def ty205:TyI:=⟨.int .u64,1,8,[.int .u64 0]⟩
theorem tyOk205:TyOk Tryz.prog 205 ty205:=.inr ⟨Tryz.t205,infoOf Tryz.type205,rfl,rfl,⟨_,rfl,rfl,rfl⟩,_,Tryz.underlying205,rfl⟩
theorem tyZ205:TyZ Tryz.prog 205 ty205:=.inr ⟨Tryz.t205,_,infoOf Tryz.type205,rfl,rfl⟩
def ty209:TyI:=⟨.ptr 3,1,8,[.nilp]⟩
theorem tyOk209:TyOk Tryz.prog 209 ty209:=.inr ⟨Tryz.t209,infoOf Tryz.type209,rfl,rfl,⟨_,rfl,rfl,rfl⟩,_,Tryz.underlying209,rfl⟩
theorem tyZ209:TyZ Tryz.prog 209 ty209:=.inr ⟨Tryz.t209,_,infoOf Tryz.type209,rfl,rfl⟩
def ty216:TyI:=⟨.ptr 205,1,8,[.nilp]⟩
theorem tyOk216:TyOk Tryz.prog 216 ty216:=.inr ⟨Tryz.t216,infoOf Tryz.type216,rfl,rfl,⟨_,rfl,rfl,rfl⟩,_,Tryz.underlying216,rfl⟩
theorem tyZ216:TyZ Tryz.prog 216 ty216:=.inr ⟨Tryz.t216,_,infoOf Tryz.type216,rfl,rfl⟩
def ty236 : TyI := ⟨.struct [(0, 17, "_interface"), (1, 17, "concrete"), (2, 17, "asserted"), (3, 9, "missingMethod")], 4, 40, [.nilp, .nilp, .nilp, .str []]⟩
theorem tyOk236:TyOk Tryz.prog 236 ty236:=.inr ⟨Tryz.t236,infoOf Tryz.type236,rfl,rfl,⟨_,rfl,rfl,rfl⟩,_,Tryz.underlying236,rfl⟩
theorem tyZ236:TyZ Tryz.prog 236 ty236:=.inr ⟨Tryz.t236,_,infoOf Tryz.type236,rfl,rfl⟩
def ty241:TyI:=⟨.int .u8,1,1,[.int .u8 0]⟩
theorem tyOk241:TyOk Tryz.prog 241 ty241:=.inr ⟨Tryz.t241,infoOf Tryz.type241,rfl,rfl,⟨_,rfl,rfl,rfl⟩,_,Tryz.underlying241,rfl⟩
theorem tyZ241:TyZ Tryz.prog 241 ty241:=.inr ⟨Tryz.t241,_,infoOf Tryz.type241,rfl,rfl⟩
def ty242:TyI:=⟨.int .u8,1,1,[.int .u8 0]⟩
theorem tyOk242:TyOk Tryz.prog 242 ty242:=.inr ⟨Tryz.t242,infoOf Tryz.type242,rfl,rfl,⟨_,rfl,rfl,rfl⟩,_,Tryz.underlying242,rfl⟩
theorem tyZ242:TyZ Tryz.prog 242 ty242:=.inr ⟨Tryz.t242,_,infoOf Tryz.type242,rfl,rfl⟩
def ty243:TyI:=⟨.func,1,8,[.nilf]⟩
theorem tyOk243:TyOk Tryz.prog 243 ty243:=.inr ⟨Tryz.t243,infoOf Tryz.type243,rfl,rfl,⟨_,rfl,rfl,rfl⟩,_,Tryz.underlying243,rfl⟩
theorem tyZ243:TyZ Tryz.prog 243 ty243:=.inr ⟨Tryz.t243,_,infoOf Tryz.type243,rfl,rfl⟩
def ty244:TyI:=⟨.ptr 5,1,8,[.nilp]⟩
theorem tyOk244:TyOk Tryz.prog 244 ty244:=.inr ⟨Tryz.t244,infoOf Tryz.type244,rfl,rfl,⟨_,rfl,rfl,rfl⟩,_,Tryz.underlying244,rfl⟩
theorem tyZ244:TyZ Tryz.prog 244 ty244:=.inr ⟨Tryz.t244,_,infoOf Tryz.type244,rfl,rfl⟩
def ty245:TyI:=⟨.int .i32,1,4,[.int .i32 0]⟩
theorem tyOk245:TyOk Tryz.prog 245 ty245:=.inr ⟨Tryz.t245,infoOf Tryz.type245,rfl,rfl,⟨_,rfl,rfl,rfl⟩,_,Tryz.underlying245,rfl⟩
theorem tyZ245:TyZ Tryz.prog 245 ty245:=.inr ⟨Tryz.t245,_,infoOf Tryz.type245,rfl,rfl⟩
def ty246:TyI:=⟨.int .i32,1,4,[.int .i32 0]⟩
theorem tyOk246:TyOk Tryz.prog 246 ty246:=.inr ⟨Tryz.t246,infoOf Tryz.type246,rfl,rfl,⟨_,rfl,rfl,rfl⟩,_,Tryz.underlying246,rfl⟩
theorem tyZ246:TyZ Tryz.prog 246 ty246:=.inr ⟨Tryz.t246,_,infoOf Tryz.type246,rfl,rfl⟩
def ty248 : TyI := ⟨.struct [(0, 12, "Size_"), (1, 12, "PtrBytes"), (2, 182, "Hash"), (3, 241, "TFlag"), (4, 5, "Align_"), (5, 5, "FieldAlign_"), (6, 242, "Kind_"), (7, 243, "Equal"), (8, 244, "GCData"), (9, 245, "Str"), (10, 246, "PtrToThis")], 11, 48, [.int .u64 0, .int .u64 0, .int .u32 0, .int .u8 0, .int .u8 0, .int .u8 0, .int .u8 0, .nilf, .nilp, .int .i32 0, .int .i32 0]⟩
theorem tyOk248:TyOk Tryz.prog 248 ty248:=.inr ⟨Tryz.t248,infoOf Tryz.type248,rfl,rfl,⟨_,rfl,rfl,rfl⟩,_,Tryz.underlying248,rfl⟩
theorem tyZ248:TyZ Tryz.prog 248 ty248:=.inr ⟨Tryz.t248,_,infoOf Tryz.type248,rfl,rfl⟩
def tyL:List (Nat × TyI):=[(1,ty1),(2,ty2),(3,ty3),(4,ty4),(5,ty5),(6,ty6),(7,ty7),(8,ty8),(9,ty9),(10,ty10),(12,ty12),(13,ty13),(15,ty15),(17,ty17),(21,ty21),(22,ty22),(24,ty24),(28,ty28),(31,ty31),(33,ty33),(47,ty47),(84,ty84),(85,ty85),(87,ty87),(94,ty94),(96,ty96),(100,ty100),(105,ty105),(106,ty106),(140,ty140),(142,ty142),(144,ty144),(147,ty147),(152,ty152),(154,ty154),(174,ty174),(182,ty182),(184,ty184),(192,ty192),(194,ty194),(198,ty198),(205,ty205),(209,ty209),(216,ty216),(236,ty236),(241,ty241),(242,ty242),(243,ty243),(244,ty244),(245,ty245),(246,ty246),(248,ty248)]
def AllZ (P:Program):List (Nat × TyI)→Prop
 | []=>True
 | p :: r=>TyZ P p.1 p.2∧AllZ P r
def AllOk (P:Program):List (Nat × TyI)→Prop
 | []=>True
 | p :: r=>TyOk P p.1 p.2∧AllOk P r
def tyOf (l:List (Nat × TyI)) (t:Nat):TyI:=(l.lookup t).getD ⟨.unk,0,0,[]⟩
theorem allOk_ok {P:Program}:∀ (l:List (Nat × TyI)),AllOk P l→∀ t,TyOk P t (tyOf l t)
 | [],_,t=>.inl rfl
 | (i,x) :: r,h,t=>by
  unfold tyOf
  by_cases e:t=i
  ·subst e; simpa [List.lookup] using h.1
  ·have e':(t == i)=false:=by simpa using e
   have:((i,x) :: r).lookup t=r.lookup t:=by simp [List.lookup,e']
   rw [this]; exact allOk_ok r h.2 t
theorem allZ_ok {P:Program}:∀ (l:List (Nat × TyI)),AllZ P l→∀ t,TyZ P t (tyOf l t)
 | [],_,t=>.inl rfl
 | (i,x) :: r,h,t=>by
  unfold tyOf
  by_cases e:t=i
  ·subst e; simpa [List.lookup] using h.1
  ·have e':(t == i)=false:=by simpa using e
   have:((i,x) :: r).lookup t=r.lookup t:=by simp [List.lookup,e']
   rw [this]; exact allZ_ok r h.2 t
theorem tyL_z:AllZ Tryz.prog tyL:=⟨tyZ1,tyZ2,tyZ3,tyZ4,tyZ5,tyZ6,tyZ7,tyZ8,tyZ9,tyZ10,tyZ12,tyZ13,tyZ15,tyZ17,tyZ21,tyZ22,tyZ24,tyZ28,tyZ31,tyZ33,tyZ47,tyZ84,tyZ85,tyZ87,tyZ94,tyZ96,tyZ100,tyZ105,tyZ106,tyZ140,tyZ142,tyZ144,tyZ147,tyZ152,tyZ154,tyZ174,tyZ182,tyZ184,tyZ192,tyZ194,tyZ198,tyZ205,tyZ209,tyZ216,tyZ236,tyZ241,tyZ242,tyZ243,tyZ244,tyZ245,tyZ246,tyZ248,trivial⟩
theorem tyL_ok:AllOk Tryz.prog tyL:=⟨tyOk1,tyOk2,tyOk3,tyOk4,tyOk5,tyOk6,tyOk7,tyOk8,tyOk9,tyOk10,tyOk12,tyOk13,tyOk15,tyOk17,tyOk21,tyOk22,tyOk24,tyOk28,tyOk31,tyOk33,tyOk47,tyOk84,tyOk85,tyOk87,tyOk94,tyOk96,tyOk100,tyOk105,tyOk106,tyOk140,tyOk142,tyOk144,tyOk147,tyOk152,tyOk154,tyOk174,tyOk182,tyOk184,tyOk192,tyOk194,tyOk198,tyOk205,tyOk209,tyOk216,tyOk236,tyOk241,tyOk242,tyOk243,tyOk244,tyOk245,tyOk246,tyOk248,trivial⟩
def T:Tys Tryz.prog:=⟨tyOf tyL,allOk_ok tyL tyL_ok,allZ_ok tyL tyL_z,fun _=>false⟩
@[go_sem] theorem fz_T (d:Nat):T.fz d=false:=rfl
@[go_sem] theorem T_1:T.ty 1=ty1:=rfl
@[go_sem] theorem k_1:ty1.k=.func:=rfl
@[go_sem] theorem sz_1:ty1.sz=1:=rfl
@[go_sem] theorem by_1:ty1.bytes=8:=rfl
@[go_sem] theorem zero_1:ty1.zero=[.nilf]:=rfl
@[go_sem] theorem T_2:T.ty 2=ty2:=rfl
@[go_sem] theorem k_2:ty2.k=.int .i64:=rfl
@[go_sem] theorem sz_2:ty2.sz=1:=rfl
@[go_sem] theorem by_2:ty2.bytes=8:=rfl
@[go_sem] theorem zero_2:ty2.zero=[.int .i64 0]:=rfl
@[go_sem] theorem T_3:T.ty 3=ty3:=rfl
@[go_sem] theorem k_3:ty3.k=.int .i64:=rfl
@[go_sem] theorem sz_3:ty3.sz=1:=rfl
@[go_sem] theorem by_3:ty3.bytes=8:=rfl
@[go_sem] theorem zero_3:ty3.zero=[.int .i64 0]:=rfl
@[go_sem] theorem T_4:T.ty 4=ty4:=rfl
@[go_sem] theorem k_4:ty4.k=.bool:=rfl
@[go_sem] theorem sz_4:ty4.sz=1:=rfl
@[go_sem] theorem by_4:ty4.bytes=1:=rfl
@[go_sem] theorem zero_4:ty4.zero=[.bool false]:=rfl
@[go_sem] theorem T_5:T.ty 5=ty5:=rfl
@[go_sem] theorem k_5:ty5.k=.int .u8:=rfl
@[go_sem] theorem sz_5:ty5.sz=1:=rfl
@[go_sem] theorem by_5:ty5.bytes=1:=rfl
@[go_sem] theorem zero_5:ty5.zero=[.int .u8 0]:=rfl
@[go_sem] theorem T_6:T.ty 6=ty6:=rfl
@[go_sem] theorem k_6:ty6.k=.int .u8:=rfl
@[go_sem] theorem sz_6:ty6.sz=1:=rfl
@[go_sem] theorem by_6:ty6.bytes=1:=rfl
@[go_sem] theorem zero_6:ty6.zero=[.int .u8 0]:=rfl
@[go_sem] theorem T_7:T.ty 7=ty7:=rfl
@[go_sem] theorem k_7 : ty7.k = .struct [(0, 2, "x"), (1, 3, "y"), (2, 4, "signed"), (3, 6, "code")] := rfl
@[go_sem] theorem sz_7:ty7.sz=4:=rfl
@[go_sem] theorem by_7:ty7.bytes=24:=rfl
@[go_sem] theorem zero_7:ty7.zero=[.int .i64 0,.int .i64 0,.bool false,.int .u8 0]:=rfl
@[go_sem] theorem T_8:T.ty 8=ty8:=rfl
@[go_sem] theorem k_8 : ty8.k = .struct [(0, 2, "x"), (1, 3, "y"), (2, 4, "signed"), (3, 6, "code")] := rfl
@[go_sem] theorem sz_8:ty8.sz=4:=rfl
@[go_sem] theorem by_8:ty8.bytes=24:=rfl
@[go_sem] theorem zero_8:ty8.zero=[.int .i64 0,.int .i64 0,.bool false,.int .u8 0]:=rfl
@[go_sem] theorem T_9:T.ty 9=ty9:=rfl
@[go_sem] theorem k_9:ty9.k=.str:=rfl
@[go_sem] theorem sz_9:ty9.sz=1:=rfl
@[go_sem] theorem by_9:ty9.bytes=16:=rfl
@[go_sem] theorem zero_9:ty9.zero=[.str []]:=rfl
@[go_sem] theorem T_10:T.ty 10=ty10:=rfl
@[go_sem] theorem k_10:ty10.k=.str:=rfl
@[go_sem] theorem sz_10:ty10.sz=1:=rfl
@[go_sem] theorem by_10:ty10.bytes=16:=rfl
@[go_sem] theorem zero_10:ty10.zero=[.str []]:=rfl
@[go_sem] theorem T_12:T.ty 12=ty12:=rfl
@[go_sem] theorem k_12:ty12.k=.int .u64:=rfl
@[go_sem] theorem sz_12:ty12.sz=1:=rfl
@[go_sem] theorem by_12:ty12.bytes=8:=rfl
@[go_sem] theorem zero_12:ty12.zero=[.int .u64 0]:=rfl
@[go_sem] theorem T_13:T.ty 13=ty13:=rfl
@[go_sem] theorem k_13 : ty13.k = .struct [(0, 9, "msg"), (1, 12, "addr")] := rfl
@[go_sem] theorem sz_13:ty13.sz=2:=rfl
@[go_sem] theorem by_13:ty13.bytes=24:=rfl
@[go_sem] theorem zero_13:ty13.zero=[.str [],.int .u64 0]:=rfl
@[go_sem] theorem T_15:T.ty 15=ty15:=rfl
@[go_sem] theorem k_15:ty15.k=.ptr 236:=rfl
@[go_sem] theorem sz_15:ty15.sz=1:=rfl
@[go_sem] theorem by_15:ty15.bytes=8:=rfl
@[go_sem] theorem zero_15:ty15.zero=[.nilp]:=rfl
@[go_sem] theorem T_17:T.ty 17=ty17:=rfl
@[go_sem] theorem k_17:ty17.k=.ptr 248:=rfl
@[go_sem] theorem sz_17:ty17.sz=1:=rfl
@[go_sem] theorem by_17:ty17.bytes=8:=rfl
@[go_sem] theorem zero_17:ty17.zero=[.nilp]:=rfl
@[go_sem] theorem T_21:T.ty 21=ty21:=rfl
@[go_sem] theorem k_21:ty21.k=.int .i32:=rfl
@[go_sem] theorem sz_21:ty21.sz=1:=rfl
@[go_sem] theorem by_21:ty21.bytes=4:=rfl
@[go_sem] theorem zero_21:ty21.zero=[.int .i32 0]:=rfl
@[go_sem] theorem T_22:T.ty 22=ty22:=rfl
@[go_sem] theorem k_22:ty22.k=.slice 87:=rfl
@[go_sem] theorem sz_22:ty22.sz=1:=rfl
@[go_sem] theorem by_22:ty22.bytes=24:=rfl
@[go_sem] theorem zero_22:ty22.zero=[.slice true []]:=rfl
@[go_sem] theorem T_24:T.ty 24=ty24:=rfl
@[go_sem] theorem k_24 : ty24.k = .struct [(0, 3, "Kind"), (1, 9, "Name")] := rfl
@[go_sem] theorem sz_24:ty24.sz=2:=rfl
@[go_sem] theorem by_24:ty24.bytes=24:=rfl
@[go_sem] theorem zero_24:ty24.zero=[.int .i64 0,.str []]:=rfl
@[go_sem] theorem T_28:T.ty 28=ty28:=rfl
@[go_sem] theorem k_28:ty28.k=.slice 24:=rfl
@[go_sem] theorem sz_28:ty28.sz=1:=rfl
@[go_sem] theorem by_28:ty28.bytes=24:=rfl
@[go_sem] theorem zero_28:ty28.zero=[.slice true []]:=rfl
@[go_sem] theorem T_31:T.ty 31=ty31:=rfl
@[go_sem] theorem k_31:ty31.k=.func:=rfl
@[go_sem] theorem sz_31:ty31.sz=1:=rfl
@[go_sem] theorem by_31:ty31.bytes=8:=rfl
@[go_sem] theorem zero_31:ty31.zero=[.nilf]:=rfl
@[go_sem] theorem T_33:T.ty 33=ty33:=rfl
@[go_sem] theorem k_33:ty33.k=.int .i64:=rfl
@[go_sem] theorem sz_33:ty33.sz=1:=rfl
@[go_sem] theorem by_33:ty33.bytes=8:=rfl
@[go_sem] theorem zero_33:ty33.zero=[.int .i64 0]:=rfl
@[go_sem] theorem T_47:T.ty 47=ty47:=rfl
@[go_sem] theorem k_47:ty47.k=.func:=rfl
@[go_sem] theorem sz_47:ty47.sz=1:=rfl
@[go_sem] theorem by_47:ty47.bytes=8:=rfl
@[go_sem] theorem zero_47:ty47.zero=[.nilf]:=rfl
@[go_sem] theorem T_84:T.ty 84=ty84:=rfl
@[go_sem] theorem k_84:ty84.k=.slice 142:=rfl
@[go_sem] theorem sz_84:ty84.sz=1:=rfl
@[go_sem] theorem by_84:ty84.bytes=24:=rfl
@[go_sem] theorem zero_84:ty84.zero=[.slice true []]:=rfl
@[go_sem] theorem T_85:T.ty 85=ty85:=rfl
@[go_sem] theorem k_85:ty85.k=.slice 3:=rfl
@[go_sem] theorem sz_85:ty85.sz=1:=rfl
@[go_sem] theorem by_85:ty85.bytes=24:=rfl
@[go_sem] theorem zero_85:ty85.zero=[.slice true []]:=rfl
@[go_sem] theorem T_87:T.ty 87=ty87:=rfl
@[go_sem] theorem k_87 : ty87.k = .struct [(0, 3, "Kind"), (1, 9, "Name"), (2, 3, "Ver"), (3, 3, "Port"), (4, 9, "To"), (5, 84, "Rules"), (6, 85, "Hosts")] := rfl
@[go_sem] theorem sz_87:ty87.sz=7:=rfl
@[go_sem] theorem by_87:ty87.bytes=104:=rfl
@[go_sem] theorem zero_87:ty87.zero=[.int .i64 0,.str [],.int .i64 0,.int .i64 0,.str [],.slice true [],.slice true []]:=rfl
@[go_sem] theorem T_94:T.ty 94=ty94:=rfl
@[go_sem] theorem k_94:ty94.k=.func:=rfl
@[go_sem] theorem sz_94:ty94.sz=1:=rfl
@[go_sem] theorem by_94:ty94.bytes=8:=rfl
@[go_sem] theorem zero_94:ty94.zero=[.nilf]:=rfl
@[go_sem] theorem T_96:T.ty 96=ty96:=rfl
@[go_sem] theorem k_96:ty96.k=.map 24 4:=rfl
@[go_sem] theorem sz_96:ty96.sz=1:=rfl
@[go_sem] theorem by_96:ty96.bytes=8:=rfl
@[go_sem] theorem zero_96:ty96.zero=[.nilm]:=rfl
@[go_sem] theorem T_100:T.ty 100=ty100:=rfl
@[go_sem] theorem k_100:ty100.k=.func:=rfl
@[go_sem] theorem sz_100:ty100.sz=1:=rfl
@[go_sem] theorem by_100:ty100.bytes=8:=rfl
@[go_sem] theorem zero_100:ty100.zero=[.nilf]:=rfl
@[go_sem] theorem T_105:T.ty 105=ty105:=rfl
@[go_sem] theorem k_105:ty105.k=.func:=rfl
@[go_sem] theorem sz_105:ty105.sz=1:=rfl
@[go_sem] theorem by_105:ty105.bytes=8:=rfl
@[go_sem] theorem zero_105:ty105.zero=[.nilf]:=rfl
@[go_sem] theorem T_106:T.ty 106=ty106:=rfl
@[go_sem] theorem k_106:ty106.k=.func:=rfl
@[go_sem] theorem sz_106:ty106.sz=1:=rfl
@[go_sem] theorem by_106:ty106.bytes=8:=rfl
@[go_sem] theorem zero_106:ty106.zero=[.nilf]:=rfl
@[go_sem] theorem T_140:T.ty 140=ty140:=rfl
@[go_sem] theorem k_140:ty140.k=.slice 144:=rfl
@[go_sem] theorem sz_140:ty140.sz=1:=rfl
@[go_sem] theorem by_140:ty140.bytes=24:=rfl
@[go_sem] theorem zero_140:ty140.zero=[.slice true []]:=rfl
@[go_sem] theorem T_142:T.ty 142=ty142:=rfl
@[go_sem] theorem k_142 : ty142.k = .struct [(0, 9, "Host"), (1, 9, "Prefix"), (2, 140, "Split")] := rfl
@[go_sem] theorem sz_142:ty142.sz=3:=rfl
@[go_sem] theorem by_142:ty142.bytes=56:=rfl
@[go_sem] theorem zero_142:ty142.zero=[.str [],.str [],.slice true []]:=rfl
@[go_sem] theorem T_144:T.ty 144=ty144:=rfl
@[go_sem] theorem k_144 : ty144.k = .struct [(0, 9, "Cluster"), (1, 3, "W")] := rfl
@[go_sem] theorem sz_144:ty144.sz=2:=rfl
@[go_sem] theorem by_144:ty144.bytes=24:=rfl
@[go_sem] theorem zero_144:ty144.zero=[.str [],.int .i64 0]:=rfl
@[go_sem] theorem T_147:T.ty 147=ty147:=rfl
@[go_sem] theorem k_147:ty147.k=.int .u64:=rfl
@[go_sem] theorem sz_147:ty147.sz=1:=rfl
@[go_sem] theorem by_147:ty147.bytes=8:=rfl
@[go_sem] theorem zero_147:ty147.zero=[.int .u64 0]:=rfl
@[go_sem] theorem T_152:T.ty 152=ty152:=rfl
@[go_sem] theorem k_152:ty152.k=.map 24 28:=rfl
@[go_sem] theorem sz_152:ty152.sz=1:=rfl
@[go_sem] theorem by_152:ty152.bytes=8:=rfl
@[go_sem] theorem zero_152:ty152.zero=[.nilm]:=rfl
@[go_sem] theorem T_154:T.ty 154=ty154:=rfl
@[go_sem] theorem k_154:ty154.k=.func:=rfl
@[go_sem] theorem sz_154:ty154.sz=1:=rfl
@[go_sem] theorem by_154:ty154.bytes=8:=rfl
@[go_sem] theorem zero_154:ty154.zero=[.nilf]:=rfl
@[go_sem] theorem T_174:T.ty 174=ty174:=rfl
@[go_sem] theorem k_174:ty174.k=.int .i64:=rfl
@[go_sem] theorem sz_174:ty174.sz=1:=rfl
@[go_sem] theorem by_174:ty174.bytes=8:=rfl
@[go_sem] theorem zero_174:ty174.zero=[.int .i64 0]:=rfl
@[go_sem] theorem T_182:T.ty 182=ty182:=rfl
@[go_sem] theorem k_182:ty182.k=.int .u32:=rfl
@[go_sem] theorem sz_182:ty182.sz=1:=rfl
@[go_sem] theorem by_182:ty182.bytes=4:=rfl
@[go_sem] theorem zero_182:ty182.zero=[.int .u32 0]:=rfl
@[go_sem] theorem T_184:T.ty 184=ty184:=rfl
@[go_sem] theorem k_184:ty184.k=.int .u64:=rfl
@[go_sem] theorem sz_184:ty184.sz=1:=rfl
@[go_sem] theorem by_184:ty184.bytes=8:=rfl
@[go_sem] theorem zero_184:ty184.zero=[.int .u64 0]:=rfl
@[go_sem] theorem T_192:T.ty 192=ty192:=rfl
@[go_sem] theorem k_192:ty192.k=.func:=rfl
@[go_sem] theorem sz_192:ty192.sz=1:=rfl
@[go_sem] theorem by_192:ty192.bytes=8:=rfl
@[go_sem] theorem zero_192:ty192.zero=[.nilf]:=rfl
@[go_sem] theorem T_194:T.ty 194=ty194:=rfl
@[go_sem] theorem k_194 : ty194.k = .struct [(0, 4, "port"), (1, 4, "to"), (2, 4, "rules"), (3, 4, "hosts")] := rfl
@[go_sem] theorem sz_194:ty194.sz=4:=rfl
@[go_sem] theorem by_194:ty194.bytes=4:=rfl
@[go_sem] theorem zero_194:ty194.zero=[.bool false,.bool false,.bool false,.bool false]:=rfl
@[go_sem] theorem T_198:T.ty 198=ty198:=rfl
@[go_sem] theorem k_198:ty198.k=.func:=rfl
@[go_sem] theorem sz_198:ty198.sz=1:=rfl
@[go_sem] theorem by_198:ty198.bytes=8:=rfl
@[go_sem] theorem zero_198:ty198.zero=[.nilf]:=rfl
@[go_sem] theorem T_205:T.ty 205=ty205:=rfl
@[go_sem] theorem k_205:ty205.k=.int .u64:=rfl
@[go_sem] theorem sz_205:ty205.sz=1:=rfl
@[go_sem] theorem by_205:ty205.bytes=8:=rfl
@[go_sem] theorem zero_205:ty205.zero=[.int .u64 0]:=rfl
@[go_sem] theorem T_209:T.ty 209=ty209:=rfl
@[go_sem] theorem k_209:ty209.k=.ptr 3:=rfl
@[go_sem] theorem sz_209:ty209.sz=1:=rfl
@[go_sem] theorem by_209:ty209.bytes=8:=rfl
@[go_sem] theorem zero_209:ty209.zero=[.nilp]:=rfl
@[go_sem] theorem T_216:T.ty 216=ty216:=rfl
@[go_sem] theorem k_216:ty216.k=.ptr 205:=rfl
@[go_sem] theorem sz_216:ty216.sz=1:=rfl
@[go_sem] theorem by_216:ty216.bytes=8:=rfl
@[go_sem] theorem zero_216:ty216.zero=[.nilp]:=rfl
@[go_sem] theorem T_236:T.ty 236=ty236:=rfl
@[go_sem] theorem k_236 : ty236.k = .struct [(0, 17, "_interface"), (1, 17, "concrete"), (2, 17, "asserted"), (3, 9, "missingMethod")] := rfl
@[go_sem] theorem sz_236:ty236.sz=4:=rfl
@[go_sem] theorem by_236:ty236.bytes=40:=rfl
@[go_sem] theorem zero_236:ty236.zero=[.nilp,.nilp,.nilp,.str []]:=rfl
@[go_sem] theorem T_241:T.ty 241=ty241:=rfl
@[go_sem] theorem k_241:ty241.k=.int .u8:=rfl
@[go_sem] theorem sz_241:ty241.sz=1:=rfl
@[go_sem] theorem by_241:ty241.bytes=1:=rfl
@[go_sem] theorem zero_241:ty241.zero=[.int .u8 0]:=rfl
@[go_sem] theorem T_242:T.ty 242=ty242:=rfl
@[go_sem] theorem k_242:ty242.k=.int .u8:=rfl
@[go_sem] theorem sz_242:ty242.sz=1:=rfl
@[go_sem] theorem by_242:ty242.bytes=1:=rfl
@[go_sem] theorem zero_242:ty242.zero=[.int .u8 0]:=rfl
@[go_sem] theorem T_243:T.ty 243=ty243:=rfl
@[go_sem] theorem k_243:ty243.k=.func:=rfl
@[go_sem] theorem sz_243:ty243.sz=1:=rfl
@[go_sem] theorem by_243:ty243.bytes=8:=rfl
@[go_sem] theorem zero_243:ty243.zero=[.nilf]:=rfl
@[go_sem] theorem T_244:T.ty 244=ty244:=rfl
@[go_sem] theorem k_244:ty244.k=.ptr 5:=rfl
@[go_sem] theorem sz_244:ty244.sz=1:=rfl
@[go_sem] theorem by_244:ty244.bytes=8:=rfl
@[go_sem] theorem zero_244:ty244.zero=[.nilp]:=rfl
@[go_sem] theorem T_245:T.ty 245=ty245:=rfl
@[go_sem] theorem k_245:ty245.k=.int .i32:=rfl
@[go_sem] theorem sz_245:ty245.sz=1:=rfl
@[go_sem] theorem by_245:ty245.bytes=4:=rfl
@[go_sem] theorem zero_245:ty245.zero=[.int .i32 0]:=rfl
@[go_sem] theorem T_246:T.ty 246=ty246:=rfl
@[go_sem] theorem k_246:ty246.k=.int .i32:=rfl
@[go_sem] theorem sz_246:ty246.sz=1:=rfl
@[go_sem] theorem by_246:ty246.bytes=4:=rfl
@[go_sem] theorem zero_246:ty246.zero=[.int .i32 0]:=rfl
@[go_sem] theorem T_248:T.ty 248=ty248:=rfl
@[go_sem] theorem k_248 : ty248.k = .struct [(0, 12, "Size_"), (1, 12, "PtrBytes"), (2, 182, "Hash"), (3, 241, "TFlag"), (4, 5, "Align_"), (5, 5, "FieldAlign_"), (6, 242, "Kind_"), (7, 243, "Equal"), (8, 244, "GCData"), (9, 245, "Str"), (10, 246, "PtrToThis")] := rfl
@[go_sem] theorem sz_248:ty248.sz=11:=rfl
@[go_sem] theorem by_248:ty248.bytes=48:=rfl
@[go_sem] theorem zero_248:ty248.zero=[.int .u64 0,.int .u64 0,.int .u32 0,.int .u8 0,.int .u8 0,.int .u8 0,.int .u8 0,.nilf,.nilp,.int .i32 0,.int .i32 0]:=rfl
@[go_sem] theorem eqg_24:Tryz.prog.eqGuardType Tryz.prog.depth 24=false:=by kernel_rfl
@[go_sem] theorem sth_24:Tryz.prog.stoodInHeld 24=false:=by kernel_rfl
@[go_sem] theorem eqg_144:Tryz.prog.eqGuardType Tryz.prog.depth 144=false:=by kernel_rfl
@[go_sem] theorem sth_144:Tryz.prog.stoodInHeld 144=false:=by kernel_rfl
@[go_sem] theorem eqg_194:Tryz.prog.eqGuardType Tryz.prog.depth 194=false:=by kernel_rfl
@[go_sem] theorem sth_194:Tryz.prog.stoodInHeld 194=false:=by kernel_rfl
theorem mixed:Tryz.prog.follows .mixedOrders=true:=by kernel_rfl
@[ext] structure BoundsError where
 x:Int
 y:Int
 signed:Bool
 code:UInt8
 deriving Inhabited,DecidableEq
instance:Dat BoundsError where
 av x:=.agg [.int .i64 x.x,.int .i64 x.y,.bool x.signed,.int .u8 x.code.toNat]
 sz:=4
 len _:=rfl
 pure x:=by simp only [go_sem,Bool.and_self]
 nrm x:=by simp only [go_sem]
 one x:=by simp only [go_sem,List.all_cons,List.all_nil,Bool.and_self]
 known x:=rfl
@[go_sem] theorem av_BoundsError (x:BoundsError):Dat.av x=.agg [.int .i64 x.x,.int .i64 x.y,.bool x.signed,.int .u8 x.code.toNat]:=rfl
@[go_sem] theorem sz_BoundsError:Dat.sz BoundsError=4:=rfl
@[go_sem] theorem set_BoundsError (l:List BoundsError) (n:Nat) (f0:Int) (f1:Int) (f2:Bool) (f3:UInt8):(avs l).set n (.agg [.int .i64 f0,.int .i64 f1,.bool f2,.int .u8 f3.toNat])=avs (l.set n ⟨f0,f1,f2,f3⟩):=avs_set l n (⟨f0,f1,f2,f3⟩:BoundsError)
@[go_sem] theorem snoc_BoundsError (l:List BoundsError) (f0:Int) (f1:Int) (f2:Bool) (f3:UInt8):avs l++[.agg [.int .i64 f0,.int .i64 f1,.bool f2,.int .u8 f3.toNat]]=avs (l++[⟨f0,f1,f2,f3⟩]):=by rw [avs_append]; rfl
@[go_sem] theorem flatL_BoundsError:∀ l:List BoundsError,AV.flat.flatL (avs l)=true
 | []=>rfl
 | _ :: r=>by simp only [avs_cons,AV.flat.flatL,flatL_BoundsError r,av_BoundsError,AV.flat,Bool.and_self]
@[go_sem] theorem eta_BoundsError (x:BoundsError):BoundsError.mk x.x x.y x.signed x.code=x:=rfl
@[ext] structure Weight where
 cluster:List UInt8
 w:Int
 deriving Inhabited,DecidableEq
instance:Dat Weight where
 av x:=.agg [.str x.cluster,.int .i64 x.w]
 sz:=2
 len _:=rfl
 pure x:=by simp only [go_sem,Bool.and_self]
 nrm x:=by simp only [go_sem]
 one x:=by simp only [go_sem,List.all_cons,List.all_nil,Bool.and_self]
 known x:=rfl
@[go_sem] theorem av_Weight (x:Weight):Dat.av x=.agg [.str x.cluster,.int .i64 x.w]:=rfl
@[go_sem] theorem sz_Weight:Dat.sz Weight=2:=rfl
@[go_sem] theorem set_Weight (l:List Weight) (n:Nat) (f0:List UInt8) (f1:Int):(avs l).set n (.agg [.str f0,.int .i64 f1])=avs (l.set n ⟨f0,f1⟩):=avs_set l n (⟨f0,f1⟩:Weight)
@[go_sem] theorem snoc_Weight (l:List Weight) (f0:List UInt8) (f1:Int):avs l++[.agg [.str f0,.int .i64 f1]]=avs (l++[⟨f0,f1⟩]):=by rw [avs_append]; rfl
@[go_sem] theorem flatL_Weight:∀ l:List Weight,AV.flat.flatL (avs l)=true
 | []=>rfl
 | _ :: r=>by simp only [avs_cons,AV.flat.flatL,flatL_Weight r,av_Weight,AV.flat,Bool.and_self]
theorem ext_Weight (x y:Weight):x=y↔x.cluster=y.cluster∧x.w=y.w:=by cases x; cases y; simp
@[go_sem] theorem eta_Weight (x:Weight):Weight.mk x.cluster x.w=x:=rfl
@[ext] structure Rule where
 host:List UInt8
 pfx:List UInt8
 split:List Weight
 deriving Inhabited,DecidableEq
instance:Dat Rule where
 av x:=.agg [.str x.host,.str x.pfx,.slice false (avs x.split)]
 sz:=3
 len _:=rfl
 pure x:=by simp only [go_sem,Bool.and_self]
 nrm x:=by simp only [go_sem]
 one x:=by simp only [go_sem,List.all_cons,List.all_nil,Bool.and_self]
 known x:=rfl
@[go_sem] theorem av_Rule (x:Rule):Dat.av x=.agg [.str x.host,.str x.pfx,.slice false (avs x.split)]:=rfl
@[go_sem] theorem sz_Rule:Dat.sz Rule=3:=rfl
@[go_sem] theorem set_Rule (l:List Rule) (n:Nat) (f0:List UInt8) (f1:List UInt8) (f2:List Weight):(avs l).set n (.agg [.str f0,.str f1,.slice false (avs f2)])=avs (l.set n ⟨f0,f1,f2⟩):=avs_set l n (⟨f0,f1,f2⟩:Rule)
@[go_sem] theorem snoc_Rule (l:List Rule) (f0:List UInt8) (f1:List UInt8) (f2:List Weight):avs l++[.agg [.str f0,.str f1,.slice false (avs f2)]]=avs (l++[⟨f0,f1,f2⟩]):=by rw [avs_append]; rfl
theorem ext_Rule (x y:Rule):x=y↔x.host=y.host∧x.pfx=y.pfx∧x.split=y.split:=by cases x; cases y; simp
@[go_sem] theorem eta_Rule (x:Rule):Rule.mk x.host x.pfx x.split=x:=rfl
@[ext] structure Res where
 kind:Int
 name:List UInt8
 ver:Int
 port:Int
 to':List UInt8
 rules':List Rule
 hosts:List Int
 deriving Inhabited,DecidableEq
instance:Dat Res where
 av x:=.agg [.int .i64 x.kind,.str x.name,.int .i64 x.ver,.int .i64 x.port,.str x.to',.slice false (avs x.rules'),.slice false (avs x.hosts)]
 sz:=7
 len _:=rfl
 pure x:=by simp only [go_sem,Bool.and_self]
 nrm x:=by simp only [go_sem]
 one x:=by simp only [go_sem,List.all_cons,List.all_nil,Bool.and_self]
 known x:=rfl
@[go_sem] theorem av_Res (x:Res):Dat.av x=.agg [.int .i64 x.kind,.str x.name,.int .i64 x.ver,.int .i64 x.port,.str x.to',.slice false (avs x.rules'),.slice false (avs x.hosts)]:=rfl
@[go_sem] theorem sz_Res:Dat.sz Res=7:=rfl
@[go_sem] theorem set_Res (l:List Res) (n:Nat) (f0:Int) (f1:List UInt8) (f2:Int) (f3:Int) (f4:List UInt8) (f5:List Rule) (f6:List Int):(avs l).set n (.agg [.int .i64 f0,.str f1,.int .i64 f2,.int .i64 f3,.str f4,.slice false (avs f5),.slice false (avs f6)])=avs (l.set n ⟨f0,f1,f2,f3,f4,f5,f6⟩):=avs_set l n (⟨f0,f1,f2,f3,f4,f5,f6⟩:Res)
@[go_sem] theorem snoc_Res (l:List Res) (f0:Int) (f1:List UInt8) (f2:Int) (f3:Int) (f4:List UInt8) (f5:List Rule) (f6:List Int):avs l++[.agg [.int .i64 f0,.str f1,.int .i64 f2,.int .i64 f3,.str f4,.slice false (avs f5),.slice false (avs f6)]]=avs (l++[⟨f0,f1,f2,f3,f4,f5,f6⟩]):=by rw [avs_append]; rfl
@[go_sem] theorem eta_Res (x:Res):Res.mk x.kind x.name x.ver x.port x.to' x.rules' x.hosts=x:=rfl
@[ext] structure Key where
 kind:Int
 name:List UInt8
 deriving Inhabited,DecidableEq
instance:Dat Key where
 av x:=.agg [.int .i64 x.kind,.str x.name]
 sz:=2
 len _:=rfl
 pure x:=by simp only [go_sem,Bool.and_self]
 nrm x:=by simp only [go_sem]
 one x:=by simp only [go_sem,List.all_cons,List.all_nil,Bool.and_self]
 known x:=rfl
@[go_sem] theorem av_Key (x:Key):Dat.av x=.agg [.int .i64 x.kind,.str x.name]:=rfl
@[go_sem] theorem sz_Key:Dat.sz Key=2:=rfl
@[go_sem] theorem set_Key (l:List Key) (n:Nat) (f0:Int) (f1:List UInt8):(avs l).set n (.agg [.int .i64 f0,.str f1])=avs (l.set n ⟨f0,f1⟩):=avs_set l n (⟨f0,f1⟩:Key)
@[go_sem] theorem snoc_Key (l:List Key) (f0:Int) (f1:List UInt8):avs l++[.agg [.int .i64 f0,.str f1]]=avs (l++[⟨f0,f1⟩]):=by rw [avs_append]; rfl
@[go_sem] theorem flatL_Key:∀ l:List Key,AV.flat.flatL (avs l)=true
 | []=>rfl
 | _ :: r=>by simp only [avs_cons,AV.flat.flatL,flatL_Key r,av_Key,AV.flat,Bool.and_self]
theorem ext_Key (x y:Key):x=y↔x.kind=y.kind∧x.name=y.name:=by cases x; cases y; simp
@[go_sem] theorem eta_Key (x:Key):Key.mk x.kind x.name=x:=rfl
@[ext] structure Step where
 kind:Int
 adds:List Res
 gone:List Key
 deriving Inhabited,DecidableEq
instance:Dat Step where
 av x:=.agg [.int .i64 x.kind,.slice false (avs x.adds),.slice false (avs x.gone)]
 sz:=3
 len _:=rfl
 pure x:=by simp only [go_sem,Bool.and_self]
 nrm x:=by simp only [go_sem]
 one x:=by simp only [go_sem,List.all_cons,List.all_nil,Bool.and_self]
 known x:=rfl
@[go_sem] theorem av_Step (x:Step):Dat.av x=.agg [.int .i64 x.kind,.slice false (avs x.adds),.slice false (avs x.gone)]:=rfl
@[go_sem] theorem sz_Step:Dat.sz Step=3:=rfl
@[go_sem] theorem set_Step (l:List Step) (n:Nat) (f0:Int) (f1:List Res) (f2:List Key):(avs l).set n (.agg [.int .i64 f0,.slice false (avs f1),.slice false (avs f2)])=avs (l.set n ⟨f0,f1,f2⟩):=avs_set l n (⟨f0,f1,f2⟩:Step)
@[go_sem] theorem snoc_Step (l:List Step) (f0:Int) (f1:List Res) (f2:List Key):avs l++[.agg [.int .i64 f0,.slice false (avs f1),.slice false (avs f2)]]=avs (l++[⟨f0,f1,f2⟩]):=by rw [avs_append]; rfl
@[go_sem] theorem eta_Step (x:Step):Step.mk x.kind x.adds x.gone=x:=rfl
@[ext] structure Cache where
 cap:Int
 l:List Res
 deriving Inhabited,DecidableEq
instance:Dat Cache where
 av x:=.agg [.int .i64 x.cap,.slice false (avs x.l)]
 sz:=2
 len _:=rfl
 pure x:=by simp only [go_sem,Bool.and_self]
 nrm x:=by simp only [go_sem]
 one x:=by simp only [go_sem,List.all_cons,List.all_nil,Bool.and_self]
 known x:=rfl
@[go_sem] theorem av_Cache (x:Cache):Dat.av x=.agg [.int .i64 x.cap,.slice false (avs x.l)]:=rfl
@[go_sem] theorem sz_Cache:Dat.sz Cache=2:=rfl
@[go_sem] theorem set_Cache (l:List Cache) (n:Nat) (f0:Int) (f1:List Res):(avs l).set n (.agg [.int .i64 f0,.slice false (avs f1)])=avs (l.set n ⟨f0,f1⟩):=avs_set l n (⟨f0,f1⟩:Cache)
@[go_sem] theorem snoc_Cache (l:List Cache) (f0:Int) (f1:List Res):avs l++[.agg [.int .i64 f0,.slice false (avs f1)]]=avs (l++[⟨f0,f1⟩]):=by rw [avs_append]; rfl
@[go_sem] theorem eta_Cache (x:Cache):Cache.mk x.cap x.l=x:=rfl
@[ext] structure Warm where
 c:Cache
 ready:Bool
 shown:List Res
 deriving Inhabited,DecidableEq
instance:Dat Warm where
 av x:=.agg [.int .i64 x.c.cap,.slice false (avs x.c.l),.bool x.ready,.slice false (avs x.shown)]
 sz:=4
 len _:=rfl
 pure x:=by simp only [go_sem,Bool.and_self]
 nrm x:=by simp only [go_sem]
 one x:=by simp only [go_sem,List.all_cons,List.all_nil,Bool.and_self]
 known x:=rfl
@[go_sem] theorem av_Warm (x:Warm):Dat.av x=.agg [.int .i64 x.c.cap,.slice false (avs x.c.l),.bool x.ready,.slice false (avs x.shown)]:=rfl
@[go_sem] theorem sz_Warm:Dat.sz Warm=4:=rfl
@[go_sem] theorem set_Warm (l:List Warm) (n:Nat) (f0:Cache) (f1:Bool) (f2:List Res):(avs l).set n (.agg [.int .i64 f0.cap,.slice false (avs f0.l),.bool f1,.slice false (avs f2)])=avs (l.set n ⟨f0,f1,f2⟩):=avs_set l n (⟨f0,f1,f2⟩:Warm)
@[go_sem] theorem snoc_Warm (l:List Warm) (f0:Cache) (f1:Bool) (f2:List Res):avs l++[.agg [.int .i64 f0.cap,.slice false (avs f0.l),.bool f1,.slice false (avs f2)]]=avs (l++[⟨f0,f1,f2⟩]):=by rw [avs_append]; rfl
@[go_sem] theorem eta_Warm (x:Warm):Warm.mk x.c x.ready x.shown=x:=rfl
@[ext] structure Move where
 warm:Warm
 changed:Bool
 deriving Inhabited,DecidableEq
instance:Dat Move where
 av x:=.agg [.int .i64 x.warm.c.cap,.slice false (avs x.warm.c.l),.bool x.warm.ready,.slice false (avs x.warm.shown),.bool x.changed]
 sz:=5
 len _:=rfl
 pure x:=by simp only [go_sem,Bool.and_self]
 nrm x:=by simp only [go_sem]
 one x:=by simp only [go_sem,List.all_cons,List.all_nil,Bool.and_self]
 known x:=rfl
@[go_sem] theorem av_Move (x:Move):Dat.av x=.agg [.int .i64 x.warm.c.cap,.slice false (avs x.warm.c.l),.bool x.warm.ready,.slice false (avs x.warm.shown),.bool x.changed]:=rfl
@[go_sem] theorem sz_Move:Dat.sz Move=5:=rfl
@[go_sem] theorem set_Move (l:List Move) (n:Nat) (f0:Warm) (f1:Bool):(avs l).set n (.agg [.int .i64 f0.c.cap,.slice false (avs f0.c.l),.bool f0.ready,.slice false (avs f0.shown),.bool f1])=avs (l.set n ⟨f0,f1⟩):=avs_set l n (⟨f0,f1⟩:Move)
@[go_sem] theorem snoc_Move (l:List Move) (f0:Warm) (f1:Bool):avs l++[.agg [.int .i64 f0.c.cap,.slice false (avs f0.c.l),.bool f0.ready,.slice false (avs f0.shown),.bool f1]]=avs (l++[⟨f0,f1⟩]):=by rw [avs_append]; rfl
@[go_sem] theorem eta_Move (x:Move):Move.mk x.warm x.changed=x:=rfl
@[ext] structure Bad where
 e:Int
 deriving Inhabited,DecidableEq
instance:Dat Bad where
 av x:=.agg [.int .i64 x.e]
 sz:=1
 len _:=rfl
 pure x:=by simp only [go_sem,Bool.and_self]
 nrm x:=by simp only [go_sem]
 one x:=by simp only [go_sem,List.all_cons,List.all_nil,Bool.and_self]
 known x:=rfl
@[go_sem] theorem av_Bad (x:Bad):Dat.av x=.agg [.int .i64 x.e]:=rfl
@[go_sem] theorem sz_Bad:Dat.sz Bad=1:=rfl
@[go_sem] theorem set_Bad (l:List Bad) (n:Nat) (f0:Int):(avs l).set n (.agg [.int .i64 f0])=avs (l.set n ⟨f0⟩):=avs_set l n (⟨f0⟩:Bad)
@[go_sem] theorem snoc_Bad (l:List Bad) (f0:Int):avs l++[.agg [.int .i64 f0]]=avs (l++[⟨f0⟩]):=by rw [avs_append]; rfl
@[go_sem] theorem flatL_Bad:∀ l:List Bad,AV.flat.flatL (avs l)=true
 | []=>rfl
 | _ :: r=>by simp only [avs_cons,AV.flat.flatL,flatL_Bad r,av_Bad,AV.flat,Bool.and_self]
@[go_sem] theorem eta_Bad (x:Bad):Bad.mk x.e=x:=rfl
@[ext] structure Has where
 port:Bool
 to':Bool
 rules':Bool
 hosts:Bool
 deriving Inhabited,DecidableEq
instance:Dat Has where
 av x:=.agg [.bool x.port,.bool x.to',.bool x.rules',.bool x.hosts]
 sz:=4
 len _:=rfl
 pure x:=by simp only [go_sem,Bool.and_self]
 nrm x:=by simp only [go_sem]
 one x:=by simp only [go_sem,List.all_cons,List.all_nil,Bool.and_self]
 known x:=rfl
@[go_sem] theorem av_Has (x:Has):Dat.av x=.agg [.bool x.port,.bool x.to',.bool x.rules',.bool x.hosts]:=rfl
@[go_sem] theorem sz_Has:Dat.sz Has=4:=rfl
@[go_sem] theorem set_Has (l:List Has) (n:Nat) (f0:Bool) (f1:Bool) (f2:Bool) (f3:Bool):(avs l).set n (.agg [.bool f0,.bool f1,.bool f2,.bool f3])=avs (l.set n ⟨f0,f1,f2,f3⟩):=avs_set l n (⟨f0,f1,f2,f3⟩:Has)
@[go_sem] theorem snoc_Has (l:List Has) (f0:Bool) (f1:Bool) (f2:Bool) (f3:Bool):avs l++[.agg [.bool f0,.bool f1,.bool f2,.bool f3]]=avs (l++[⟨f0,f1,f2,f3⟩]):=by rw [avs_append]; rfl
@[go_sem] theorem flatL_Has:∀ l:List Has,AV.flat.flatL (avs l)=true
 | []=>rfl
 | _ :: r=>by simp only [avs_cons,AV.flat.flatL,flatL_Has r,av_Has,AV.flat,Bool.and_self]
@[go_sem] theorem eta_Has (x:Has):Has.mk x.port x.to' x.rules' x.hosts=x:=rfl
@[ext] structure AcceptRange where
 lo:UInt8
 hi:UInt8
 deriving Inhabited,DecidableEq
instance:Dat AcceptRange where
 av x:=.agg [.int .u8 x.lo.toNat,.int .u8 x.hi.toNat]
 sz:=2
 len _:=rfl
 pure x:=by simp only [go_sem,Bool.and_self]
 nrm x:=by simp only [go_sem]
 one x:=by simp only [go_sem,List.all_cons,List.all_nil,Bool.and_self]
 known x:=rfl
@[go_sem] theorem av_AcceptRange (x:AcceptRange):Dat.av x=.agg [.int .u8 x.lo.toNat,.int .u8 x.hi.toNat]:=rfl
@[go_sem] theorem sz_AcceptRange:Dat.sz AcceptRange=2:=rfl
@[go_sem] theorem set_AcceptRange (l:List AcceptRange) (n:Nat) (f0:UInt8) (f1:UInt8):(avs l).set n (.agg [.int .u8 f0.toNat,.int .u8 f1.toNat])=avs (l.set n ⟨f0,f1⟩):=avs_set l n (⟨f0,f1⟩:AcceptRange)
@[go_sem] theorem snoc_AcceptRange (l:List AcceptRange) (f0:UInt8) (f1:UInt8):avs l++[.agg [.int .u8 f0.toNat,.int .u8 f1.toNat]]=avs (l++[⟨f0,f1⟩]):=by rw [avs_append]; rfl
@[go_sem] theorem flatL_AcceptRange:∀ l:List AcceptRange,AV.flat.flatL (avs l)=true
 | []=>rfl
 | _ :: r=>by simp only [avs_cons,AV.flat.flatL,flatL_AcceptRange r,av_AcceptRange,AV.flat,Bool.and_self]
@[go_sem] theorem eta_AcceptRange (x:AcceptRange):AcceptRange.mk x.lo x.hi=x:=rfl
def SmWeight (x:Weight):Prop:=Small x.cluster.length
def SmRule (x:Rule):Prop:=Small x.host.length∧Small x.pfx.length∧Small x.split.length∧(∀ y∈x.split,SmWeight y)
def SmRes (x:Res):Prop:=Small x.name.length∧Small x.to'.length∧Small x.rules'.length∧(∀ y∈x.rules',SmRule y)∧Small x.hosts.length
def SmKey (x:Key):Prop:=Small x.name.length
end Go.Proofs.YtmjkjmoeicnbnaaGreatDoor.Lg
