/- Parts of the proof, one behind the other. -/
import Derived.IntWalk
import Derived.ScopeJumps
import Derived.Test.YtmjkjmoeicnbnaaGreatDoorG01
namespace Go.Proofs.YtmjkjmoeicnbnaaGreatDoor.Lg
set_option maxRecDepth 100000
set_option linter.unusedVariables false
set_option linter.unusedSimpArgs false
open Go
variable {P:Program} (T:Tys P)
section ops
variable (ts:TS) (K:TS→Prop) (dst:Option Nat) (ty:TypeId) (pos:String) (after:Array Edge) (g:Option (Nat × Bool))
@[go_sem] theorem opK_move (x:Operand):opK T ⟨dst,.move x,ty,pos,after,g⟩ ts K=setK ts dst (ts.ev x) K:=rfl
@[go_sem] theorem opK_assign (x:Operand):opK T ⟨dst,.assign x,ty,pos,after,g⟩ ts K=setK ts dst (ts.ev x) K:=rfl
@[go_sem] theorem opK_pick (c x y:Operand):opK T ⟨dst,.pick c x y,ty,pos,after,g⟩ ts K=boolK (ts.ev c) fun b=>setK ts dst (if b then ts.ev x else ts.ev y) K:=rfl
@[go_sem] theorem opK_alloc (t:TypeId):opK T ⟨dst,.alloc t,ty,pos,after,g⟩ ts K=((T.ty t).k≠.unk∧newBoxK ts dst (T.ty t).zero K):=rfl
@[go_sem] theorem opK_box (t:TypeId) (x:Operand):opK T ⟨dst,.box t x,ty,pos,after,g⟩ ts K=((ts.ev x).known=true∧newBoxK ts dst (ts.ev x).cells K):=rfl
@[go_sem] theorem opK_load (t:TypeId) (x:Operand):opK T ⟨dst,.load t x,ty,pos,after,g⟩ ts K=optK (ts.ptr (ts.ev x)) fun cs=>loadK T t cs ts dst K:=rfl
@[go_sem] theorem opK_store (t:TypeId) (p x:Operand):opK T ⟨dst,.store t p x,ty,pos,after,g⟩ ts K=((T.ty t).k≠.unk∧(ts.ev x).known=true∧(ts.ev x).cells.length=(T.ty t).sz∧(ts.ev x).cells.all AV.one=true ∧
   optK (ts.poke (ts.ev p) (ts.ev x).cells) fun q=>(∀ e,dst=some e→e < ts.n)∧K (putDst (ts.setObj q.1 q.2) dst .any)):=rfl
def fieldAddrK (T:Tys P) (k:TyK) (x:AV) (f:Nat) (ts:TS) (dst:Option Nat) (K:TS→Prop):Prop :=
 match k with
 | .struct fs=>optK fs[f]? fun q=>(T.ty q.2.1).k≠.unk∧(T.ty q.2.1).sz≠0∧optK (ts.shift x q.1) fun y=>setK ts dst y K
 | _=>False
@[go_sem] theorem opK_fieldAddr (s:TypeId) (x:Operand) (f:Nat):opK T ⟨dst,.fieldAddr s x f,ty,pos,after,g⟩ ts K=fieldAddrK T (T.ty s).k (ts.ev x) f ts dst K:=rfl
@[go_sem] theorem fieldAddrK_struct (fs:List (Nat × Nat × String)) (x:AV) (f:Nat):fieldAddrK T (.struct fs) x f ts dst K=optK fs[f]? fun q=>(T.ty q.2.1).k≠.unk∧(T.ty q.2.1).sz≠0∧optK (ts.shift x q.1) fun y=>setK ts dst y K:=rfl
@[go_sem] theorem killL_nil:ts.killL []=ts:=rfl
@[go_sem] theorem killL_cons (d:Nat) (l:List Nat):ts.killL (d :: l)=(ts.kill d).killL l:=rfl
def fieldK (T:Tys P) (k:TyK) (x:AV) (f:Nat) (ts:TS) (dst:Option Nat) (K:TS→Prop):Prop :=
 match k,x with
 | .struct fs,.agg cs=>optK fs[f]? fun q=>loadK T q.2.1 (cs.drop q.1) ts dst K
 | _,_=>False
@[go_sem] theorem opK_field (s:TypeId) (x:Operand) (f:Nat):opK T ⟨dst,.field s x f,ty,pos,after,g⟩ ts K=fieldK T (T.ty s).k (ts.ev x) f ts dst K:=rfl
@[go_sem] theorem fieldK_agg (fs:List (Nat × Nat × String)) (cs:List AV) (f:Nat):fieldK T (.struct fs) (.agg cs) f ts dst K=optK fs[f]? fun q=>loadK T q.2.1 (cs.drop q.1) ts dst K:=rfl
def indexAddrK (T:Tys P) (k:TyK) (x i:AV) (ts:TS) (dst:Option Nat) (K:TS→Prop):Prop :=
 match k with
 | .slice e=>(T.ty e).k≠.unk∧(T.ty e).sz≠0∧intK i fun _ n=>optK (ts.at x (T.ty e).sz n) fun y=>setK ts dst y K
 | _=>False
@[go_sem] theorem opK_indexAddr (t:TypeId) (x i:Operand):opK T ⟨dst,.indexAddr t x i,ty,pos,after,g⟩ ts K=indexAddrK T (T.ty t).k (ts.ev x) (ts.ev i) ts dst K:=rfl
@[go_sem] theorem indexAddrK_int (e:Nat) (x:AV) (k:IntKind) (n:Int):indexAddrK T (.slice e) x (.int k n) ts dst K=((T.ty e).k≠.unk∧(T.ty e).sz≠0∧optK (ts.at x (T.ty e).sz n) fun y=>setK ts dst y K):=rfl
def indexK (k:TyK) (x i:AV) (ts:TS) (dst:Option Nat) (K:TS→Prop):Prop :=
 match k,x with
 | .str,.str s=>intK i fun _ n=>0≤n∧n < s.length∧setK ts dst (.int .u8 (s.getD n.toNat 0).toNat) K
 | _,_=>False
@[go_sem] theorem opK_index (t:TypeId) (x i:Operand):opK T ⟨dst,.index t x i,ty,pos,after,g⟩ ts K=indexK (T.ty t).k (ts.ev x) (ts.ev i) ts dst K:=rfl
@[go_sem] theorem indexK_int (s:List UInt8) (k:IntKind) (n:Int):indexK .str (.str s) (.int k n) ts dst K=(0≤n∧n < s.length∧setK ts dst (.int .u8 (s.getD n.toNat 0).toNat) K):=rfl
@[go_sem] theorem opK_slice (t:TypeId) (x:Operand) (lo hi mx:Option Operand):opK T ⟨dst,.slice t x lo hi mx,ty,pos,after,g⟩ ts K=sliceK T t (ts.ev x) lo hi mx ts dst K:=rfl
def binK (T:Tys P) (op:BinOp) (t:TypeId) (x y:Operand) (ts:TS) (dst:Option Nat) (K:TS→Prop):Prop :=
 match op,y with
  | .eql,.const (.slice none 0 0)=>match (T.ty t).k with
   | .slice _=>optK (ts.sl (ts.ev x)) fun xs=>∀ b:Bool,(b=true→xs=[])→setK ts dst (.bool b) K
   | _=>False
  | _,_=>binD T op t (ts.ev x) (ts.ev y) ts dst K
@[go_sem] theorem opK_bin (op:BinOp) (t u:TypeId) (x y:Operand):opK T ⟨dst,.binOp op t x y u,ty,pos,after,g⟩ ts K=binK T op t x y ts dst K:=rfl
@[go_sem] theorem binK_tmp (op:BinOp) (t:TypeId) (x:Operand) (y:Nat):binK T op t x (.tmp y) ts dst K=binD T op t (ts.ev x) (ts.tmp y) ts dst K:=by cases op<;>rfl
@[go_sem] theorem binK_int (op:BinOp) (t:TypeId) (x:Operand) (k:IntKind) (n:Int):binK T op t x (.const (.int k n)) ts dst K=binD T op t (ts.ev x) (.int k n) ts dst K:=by cases op<;>rfl
@[go_sem] theorem binK_str (op:BinOp) (t:TypeId) (x:Operand) (s:ByteArray):binK T op t x (.const (.string s)) ts dst K=binD T op t (ts.ev x) (.str s.data.toList) ts dst K:=by cases op<;>rfl
@[go_sem] theorem opK_not (t:TypeId) (x:Operand):opK T ⟨dst,.unOp .not t x,ty,pos,after,g⟩ ts K=boolK (ts.ev x) fun b=>setK ts dst (.bool !b) K:=rfl
@[go_sem] theorem opK_neg (t:TypeId) (x:Operand):opK T ⟨dst,.unOp .neg t x,ty,pos,after,g⟩ ts K=intK (ts.ev x) fun k n=>setK ts dst (.int k (k.wrap (0 - n))) K:=rfl
def extractK (x:AV) (i:Nat) (ts:TS) (dst:Option Nat) (K:TS→Prop):Prop :=
 match x with
 | .tup vs=>i < vs.length∧setK ts dst (vs.getD i .any) K
 | _=>False
@[go_sem] theorem opK_extract (x:Operand) (i:Nat):opK T ⟨dst,.extract x i,ty,pos,after,g⟩ ts K=extractK (ts.ev x) i ts dst K:=rfl
@[go_sem] theorem extractK_tup (vs:List AV) (i:Nat):extractK (.tup vs) i ts dst K=(i < vs.length∧setK ts dst (vs.getD i .any) K):=rfl
@[go_sem] theorem opK_range (t:TypeId) (x:Operand):opK T ⟨dst,.range t x,ty,pos,after,g⟩ ts K=rangeK T t (ts.ev x) ts dst K:=rfl
@[go_sem] theorem opK_lookup (t:TypeId) (x k:Operand) (ok:Bool):opK T ⟨dst,.lookup t x k ok,ty,pos,after,g⟩ ts K=mapK T t (ts.ev x) (ts.ev k) ok ts dst K:=rfl
@[go_sem] theorem opK_mapUpdate (t:TypeId) (m k x:Operand):opK T ⟨dst,.mapUpdate t m k x,ty,pos,after,g⟩ ts K=mapPutK T t (ts.ev m) (ts.ev k) (ts.ev x) ts dst K:=rfl
@[go_sem] theorem opK_makeMap (t:TypeId):opK T ⟨dst,.makeMap t none,ty,pos,after,g⟩ ts K=newMapK ts dst K:=rfl
@[go_sem] theorem opK_mapEntry (t:TypeId) (m k:Operand):opK T ⟨dst,.mapEntry t m k,ty,pos,after,g⟩ ts K=entK T t (ts.ev m) (ts.ev k) ts dst K:=rfl
@[go_sem] theorem opK_entryStore (t:TypeId) (m s x:Operand):opK T ⟨dst,.entryStore t m s x,ty,pos,after,g⟩ ts K=entPutK (ts.ev m) (ts.ev s) (ts.ev x) ts dst K:=rfl
@[go_sem] theorem opK_next (x:Operand):opK T ⟨dst,.next x true,ty,pos,after,g⟩ ts K=nextK (ts.ev x) ts dst K:=rfl
def rangeS (k:TyK) (s:List UInt8) (d:Nat) (ts:TS) (K:TS→Prop):Prop :=
 match k with
 | .str=>d < ts.n∧K ((ts.new d (.iter s 0)).put d (.ref d (ts.gen d+1) 0))
 | _=>False
@[go_sem] theorem rangeK_str (t:TypeId) (s:List UInt8) (d:Nat):rangeK T t (.str s) ts (some d) K=rangeS (T.ty t).k s d ts K:=by
 unfold rangeK rangeS
 cases (T.ty t).k<;>rfl
@[go_sem] theorem rangeS_str (s:List UInt8) (d:Nat):rangeS .str s d ts K=(d < ts.n∧K ((ts.new d (.iter s 0)).put d (.ref d (ts.gen d+1) 0))):=rfl
@[go_sem] theorem nextK_ref (d g e:Nat):nextK (.ref d g 0) ts (some e) K=(g=ts.gen d∧e < ts.n∧iterK (ts.obj d) d e ts K):=rfl
@[go_sem] theorem iterK_iter (s:List UInt8) (pos d e:Nat):iterK (.iter s pos) d e ts K=((pos < s.length→K ((ts.setObj d (.iter s (pos+(decL s pos).2))).put e (.tup [.bool true,.int .i64 pos,.int .i32 (decL s pos).1])))∧(¬ pos < s.length→K (ts.put e (.tup [.bool false])))):=rfl
@[go_sem] theorem opK_makeFunc (fn:Fn) (first caps:Array Operand):opK T ⟨dst,.makeFunc fn first caps,ty,pos,after,g⟩ ts K=funcK (T.fzD dst) ts dst fn first.toList caps.toList K:=rfl
@[go_sem] theorem funcK_t (fn:Fn) (first caps:List Operand):funcK true ts dst fn first caps K=setK ts dst (.clo fn (first.map ts.ev) (caps.map ts.ev)) K:=rfl
@[go_sem] theorem funcK_f (fn:Fn) (first caps:List Operand):funcK false ts dst fn first caps K=setK (ts.frzAll (caps.map ts.ev)) dst (.clo fn (first.map (ts.frzAll (caps.map ts.ev)).ev) (caps.map (ts.frzAll (caps.map ts.ev)).ev)) K:=rfl
@[go_sem] theorem opK_makeIface (t:TypeId) (x:Operand):opK T ⟨dst,.makeInterface t x,ty,pos,after,g⟩ ts K=((T.ty t).k≠.unk∧(T.ty t).k≠.iface∧setK ts dst (.iface t (ts.ev x)) K):=rfl
@[go_sem] theorem opK_nilCheck (x:Operand):opK T ⟨dst,.nilCheck x,ty,pos,after,g⟩ ts K=(ts.there (ts.ev x)=true∧setK ts dst (ts.ev x) K):=rfl
@[go_sem] theorem there_ref (d q off:Nat):ts.there (.ref d q off)=ts.live d q:=rfl
@[go_sem] theorem there_ro (cs:List AV):ts.there (.ro cs)=true:=rfl
@[go_sem] theorem opK_len (x:Operand) (t:TypeId):opK T ⟨dst,.call ⟨.builtin .len,#[x],#[t]⟩,ty,pos,after,g⟩ ts K=lenK T t (ts.ev x) ts dst K:=rfl
@[go_sem] theorem opK_append (s x:Operand) (t tx:TypeId):opK T ⟨dst,.call ⟨.builtin .append,#[s,x],#[t,tx]⟩,ty,pos,after,g⟩ ts K=appendW T t tx (ts.ev s) (ts.ev x) ts dst K:=rfl
@[go_sem] theorem appendW_slice (t tx:TypeId) (s:AV) (c:Bool) (xs:List AV):appendW T t tx s (.slice c xs) ts dst K=appendK T t tx s (.slice c xs) ts dst K:=rfl
@[go_sem] theorem appendW_os (t tx:TypeId) (s:AV) (d q n:Nat):appendW T t tx s (.os d q n) ts dst K=appendK T t tx s (.os d q n) ts dst K:=rfl
@[go_sem] theorem appendW_ot (t tx:TypeId) (s:AV) (d q o n:Nat):appendW T t tx s (.ot d q o n) ts dst K=appendInK T t tx s (.ot d q o n) ts dst K:=rfl
@[go_sem] theorem opK_call (f:Operand) (xs:Array Operand) (at_:Array TypeId):opK T ⟨dst,.call ⟨.value f,xs,at_⟩,ty,pos,after,g⟩ ts K=callW true P (ts.ev f) (xs.toList.map ts.ev) dst ts K:=rfl
@[go_sem] theorem callW_clo (m:Bool) (f:FuncId) (caps args:List AV):callW m P (.clo (.func f) [] caps) args dst ts K=callX m P f (args++caps) (ts.toArgs (args++caps)) dst ts K:=rfl
@[go_sem] theorem opK_clear (x:Operand) (t:TypeId):opK T ⟨dst,.call ⟨.builtin .clear,#[x],#[t]⟩,ty,pos,after,g⟩ ts K=clearK T t (ts.ev x) ts dst K:=rfl
@[go_sem] theorem opK_max (x y:Operand) (at_:Array TypeId):opK T ⟨dst,.call ⟨.builtin .max,#[x,y],at_⟩,ty,pos,after,g⟩ ts K=minmaxK true (ts.ev x) (ts.ev y) ts dst K:=rfl
@[go_sem] theorem opK_min (x y:Operand) (at_:Array TypeId):opK T ⟨dst,.call ⟨.builtin .min,#[x,y],at_⟩,ty,pos,after,g⟩ ts K=minmaxK false (ts.ev x) (ts.ev y) ts dst K:=rfl
@[go_sem] theorem minmaxK_max (k k':IntKind) (n m:Int):minmaxK true (.int k n) (.int k' m) ts dst K=setK ts dst (.int k (max n m)) K:=rfl
@[go_sem] theorem minmaxK_min (k k':IntKind) (n m:Int):minmaxK false (.int k n) (.int k' m) ts dst K=setK ts dst (.int k (min n m)) K:=rfl
def buildK (T:Tys P) (k:TyK) (zero:List AV) (parts:List (Nat × AV)) (ts:TS) (dst:Option Nat) (K:TS→Prop):Prop :=
 match k with
  | .struct fs=>(∀ f∈fs,(T.ty f.2.1).k≠.unk)∧optK (fillA (placeS T fs) zero parts) fun cs=>setK ts dst (.agg cs) K
  | _=>False
@[go_sem] theorem opK_build (t:TypeId) (parts:Array (Nat × Operand)):opK T ⟨dst,.build t parts,ty,pos,after,g⟩ ts K=buildK T (T.ty t).k (T.ty t).zero (parts.toList.map fun p=>(p.1,ts.ev p.2)) ts dst K:=rfl
@[go_sem] theorem buildK_struct (fs:List (Nat × Nat × String)) (zero:List AV) (parts:List (Nat × AV)):buildK T (.struct fs) zero parts ts dst K=((∀ f∈fs,(T.ty f.2.1).k≠.unk)∧optK (fillA (placeS T fs) zero parts) fun cs=>setK ts dst (.agg cs) K):=rfl
def buildSliceK (T:Tys P) (k:TyK) (n:Nat) (parts:List (Nat × AV)) (ts:TS) (dst:Option Nat) (K:TS→Prop):Prop :=
 match k with
  | .slice e=>(T.ty e).k≠.unk∧0 < (T.ty e).sz∧parts.map (·.1)=List.range n∧n * (T.ty e).sz≤16777216 ∧
    (∀ p∈parts,p.2.known=true∧p.2.cells.length=(T.ty e).sz)∧arrK (T.fzD dst) ts dst (T.ty e).sz (parts.map (·.2)) K
  | _=>False
@[go_sem] theorem opK_buildSlice (t:TypeId) (n:Nat) (parts:Array (Nat × Operand)):opK T ⟨dst,.buildSlice t n parts,ty,pos,after,g⟩ ts K=buildSliceK T (T.ty t).k n (parts.toList.map fun p=>(p.1,ts.ev p.2)) ts dst K:=by
 show (match (T.ty t).k with
  | .slice e=>_
  | _=>False)=buildSliceK T (T.ty t).k n _ ts dst K
 unfold buildSliceK
 cases (T.ty t).k<;>simp only [List.map_map,Function.comp_def]
 rename_i e
 have h:(∀ p∈parts.toList,(ts.ev p.2).known=true∧(ts.ev p.2).cells.length=(T.ty e).sz)↔(∀ p∈parts.toList.map (fun p=>(p.1,ts.ev p.2)),p.2.known=true∧p.2.cells.length=(T.ty e).sz) :=
  ⟨fun h p hp=>by obtain ⟨q,hq,rfl⟩:=List.mem_map.1 hp; exact h q hq,fun h p hp=>h (p.1,ts.ev p.2) (List.mem_map.2 ⟨p,hp,rfl⟩)⟩
 rw [h]
@[go_sem] theorem buildSliceK_slice (e n:Nat) (parts:List (Nat × AV)):buildSliceK T (.slice e) n parts ts dst K=((T.ty e).k≠.unk∧0 < (T.ty e).sz∧parts.map (·.1)=List.range n∧n * (T.ty e).sz≤16777216 ∧
    (∀ p∈parts,p.2.known=true∧p.2.cells.length=(T.ty e).sz)∧arrK (T.fzD dst) ts dst (T.ty e).sz (parts.map (·.2)) K):=rfl
@[go_sem] theorem fzD_some (d:Nat):T.fzD (some d)=T.fz d:=rfl
@[go_sem] theorem arrK_f (sz:Nat) (xs:List AV):arrK false ts dst sz xs K=newArrK ts dst sz xs K:=rfl
@[go_sem] theorem arrK_t (sz:Nat) (xs:List AV):arrK true ts dst sz xs K=newFrzK ts dst xs K:=rfl
@[go_sem] theorem fz_withF (l:List Nat) (d:Nat):(T.withF l).fz d=l.contains d:=rfl
@[go_sem] theorem ty_withF (l:List Nat) (i:Nat):(T.withF l).ty i=T.ty i:=rfl
@[go_sem] theorem opK_cap (x:Operand) (t:TypeId):opK T ⟨dst,.call ⟨.builtin .cap,#[x],#[t]⟩,ty,pos,after,g⟩ ts K=capK T t (ts.ev x) ts dst K:=rfl
def capKK (k:TyK) (xs:List AV) (ts:TS) (dst:Option Nat) (K:TS→Prop):Prop :=
 match k with
 | .slice _=>setK ts dst (.int .i64 xs.length) K
 | _=>False
@[go_sem] theorem capK_slice (t:Nat) (xs:List AV):capK T t (.slice true xs) ts dst K=capKK (T.ty t).k xs ts dst K:=by
 unfold capK capKK
 cases (T.ty t).k<;>rfl
@[go_sem] theorem capKK_slice (e:Nat) (xs:List AV):capKK (.slice e) xs ts dst K=setK ts dst (.int .i64 xs.length) K:=rfl
@[go_sem] theorem appendW_int (t tx:TypeId) (s:AV) (k:IntKind) (n:Int):appendW T t tx s (.int k n) ts dst K=appendMakeK T t tx s n ts dst K:=rfl
def appendMakeKK (T:Tys P) (k k2:TyK) (n:Int) (ts:TS) (dst:Option Nat) (K:TS→Prop):Prop :=
 match k,k2 with
 | .slice e,.int _=>(T.ty e).k≠.unk∧0 < (T.ty e).sz∧0 < n∧n.toNat * (T.ty e).bytes≤140737488355328∧n.toNat≤9223372036854775807 ∧
   newArrK ts dst (T.ty e).sz (List.replicate n.toNat (.agg (List.replicate (T.ty e).sz .any))) K
 | _,_=>False
@[go_sem] theorem appendMakeK_nil (t tx:Nat) (n:Int):appendMakeK T t tx (.slice true []) n ts dst K=appendMakeKK T (T.ty t).k (T.ty tx).k n ts dst K:=by
 unfold appendMakeK appendMakeKK
 cases (T.ty t).k<;>cases (T.ty tx).k<;>rfl
@[go_sem] theorem appendMakeKK_eq (e:Nat) (k:IntKind) (n:Int):appendMakeKK T (.slice e) (.int k) n ts dst K=((T.ty e).k≠.unk∧0 < (T.ty e).sz∧0 < n∧n.toNat * (T.ty e).bytes≤140737488355328∧n.toNat≤9223372036854775807 ∧
   newArrK ts dst (T.ty e).sz (List.replicate n.toNat (.agg (List.replicate (T.ty e).sz .any))) K):=rfl
end ops
section kont
variable (ts:TS) (K:TS→Prop) (d u:Nat) (x:AV)
@[go_sem] theorem setK_some:setK ts (some d) x K=(d < ts.n∧K (ts.put d x)):=rfl
@[go_sem] theorem setK_none:setK ts none x K=K ts:=rfl
@[go_sem] theorem newBoxK_some (cs:List AV):newBoxK ts (some d) cs K=(d < ts.n∧K ((ts.new d (.box cs)).put d (.ref d (ts.gen d+1) 0))):=rfl
@[go_sem] theorem newArrK_some (sz:Nat) (xs:List AV):newArrK ts (some d) sz xs K=(d < ts.n∧K ((ts.new d (.arr sz xs)).put d (.os d (ts.gen d+1) xs.length))):=rfl
@[go_sem] theorem newFrzK_some (xs:List AV):newFrzK ts (some d) xs K=(d < ts.n∧K ((ts.new d .dead).put d (.slice false xs))):=rfl
@[go_sem] theorem optK_some' {α:Type} (a:α) (K:α→Prop):optK (some a) K=K a:=rfl
@[go_sem] theorem optK_none {α:Type} (K:α→Prop):optK (none:Option α) K=False:=rfl
@[go_sem] theorem optK_ite {α:Type} (c:Prop) [Decidable c] (a:α) (K:α→Prop):optK (if c then some a else none) K=(c∧K a):=by
 by_cases h:c<;>simp [h,optK]
@[go_sem] theorem boolK_bool (b:Bool) (K:Bool→Prop):boolK (.bool b) K=K b:=rfl
@[go_sem] theorem intK_int (k:IntKind) (n:Int) (K:IntKind→Int→Prop):intK (.int k n) K=K k n:=rfl
@[go_sem] theorem afterK_val (dst:Option Nat):afterK ts dst (.val x) K=setK ts dst x K:=rfl
@[go_sem] theorem afterK_own (dst:Option Nat) (sz:Nat) (xs:List AV):afterK ts dst (.own sz xs) K=newArrK ts dst sz xs K:=rfl
@[go_sem] theorem putDst_none:putDst ts none x=ts:=rfl
@[go_sem] theorem putDst_some:putDst ts (some d) x=ts.put d x:=rfl
@[go_sem] theorem n_put:(ts.put d x).n=ts.n:=rfl
@[go_sem] theorem n_new (o:Ob):(ts.new d o).n=ts.n:=rfl
@[go_sem] theorem n_setObj (o:Ob):(ts.setObj d o).n=ts.n:=rfl
@[go_sem] theorem n_kill:(ts.kill d).n=ts.n:=rfl
@[go_sem] theorem tmp_put:(ts.put d x).tmp u=if u=d then x else ts.tmp u:=rfl
@[go_sem] theorem tmp_new (o:Ob):(ts.new d o).tmp=ts.tmp:=rfl
@[go_sem] theorem tmp_setObj (o:Ob):(ts.setObj d o).tmp=ts.tmp:=rfl
@[go_sem] theorem tmp_kill:(ts.kill d).tmp=ts.tmp:=rfl
@[go_sem] theorem gen_put:(ts.put d x).gen=ts.gen:=rfl
@[go_sem] theorem gen_new (o:Ob):(ts.new d o).gen u=if u=d then ts.gen d+1 else ts.gen u:=rfl
@[go_sem] theorem gen_setObj (o:Ob):(ts.setObj d o).gen=ts.gen:=rfl
@[go_sem] theorem gen_kill:(ts.kill d).gen=ts.gen:=rfl
@[go_sem] theorem obj_put:(ts.put d x).obj=ts.obj:=rfl
@[go_sem] theorem obj_new (o:Ob):(ts.new d o).obj u=if u=d then o else ts.obj u:=rfl
@[go_sem] theorem obj_setObj (o:Ob):(ts.setObj d o).obj u=if u=d then o else ts.obj u:=rfl
@[go_sem] theorem obj_kill:(ts.kill d).obj u=if u=d then .dead else ts.obj u:=rfl
@[go_sem] theorem unbase_none:ts.unbase .none=ts:=rfl
@[go_sem] theorem unbase_own:ts.unbase (.own d)=ts.kill d:=rfl
@[go_sem] theorem ev_tmp (t:Nat):ts.ev (.tmp t)=ts.tmp t:=rfl
@[go_sem] theorem ev_func (f:Nat):ts.ev (.func f)=.clo (.func f) [] []:=rfl
@[go_sem] theorem ev_int (k:IntKind) (n:Int):ts.ev (.const (.int k n))=.int k n:=rfl
@[go_sem] theorem ev_bool (b:Bool):ts.ev (.const (.bool b))=.bool b:=rfl
@[go_sem] theorem ev_str (s:ByteArray):ts.ev (.const (.string s))=.str s.data.toList:=rfl
@[go_sem] theorem ev_nils:ts.ev (.const (.slice none 0 0))=.slice true []:=rfl
@[go_sem] theorem ev_nilp:ts.ev (.const (.pointer none))=.nilp:=rfl
@[go_sem] theorem ev_nilf:ts.ev (.const .nilFunc)=.nilf:=rfl
@[go_sem] theorem ev_nilm:ts.ev (.const (.map none))=.nilm:=rfl
@[go_sem] theorem ev_niface:ts.ev (.const .nilIface)=.niface:=rfl
@[go_sem] theorem ptr_ro (cs:List AV):ts.ptr (.ro cs)=some cs:=rfl
@[go_sem] theorem ptr_ref (g off:Nat):ts.ptr (.ref d g off)=if g=ts.gen d then (match ts.obj d with|.box cs=>some (cs.drop off)|_=>none) else none:=rfl
@[go_sem] theorem ptr_eref (g i o:Nat):ts.ptr (.eref d g i o)=if g=ts.gen d then (match ts.obj d with|.arr _ xs=>if i < xs.length then some ((xs.getD i .any).cells.drop o) else none|_=>none) else none:=rfl
@[go_sem] theorem shift_ro (cs:List AV) (o:Nat):ts.shift (.ro cs) o=if o < cs.length then some (.ro (cs.drop o)) else none:=rfl
@[go_sem] theorem shift_ref (g o o':Nat):ts.shift (.ref d g o) o'=if ts.live d g then some (.ref d g (o+o')) else none:=rfl
@[go_sem] theorem shift_eref (g i o o':Nat):ts.shift (.eref d g i o) o'=if ts.live d g then some (.eref d g i (o+o')) else none:=rfl
@[go_sem] theorem live_eq (g:Nat):ts.live d g=(g == ts.gen d && (ts.obj d).kind.isSome):=rfl
@[go_sem] theorem kind_box (cs:List AV):(Ob.box cs).kind=some 0:=rfl
@[go_sem] theorem kind_arr (sz:Nat) (xs:List AV):(Ob.arr sz xs).kind=some sz:=rfl
@[go_sem] theorem sl_slice (c:Bool) (xs:List AV):ts.sl (.slice c xs)=some xs:=rfl
@[go_sem] theorem sl_os (g len:Nat):ts.sl (.os d g len)=if g=ts.gen d then (match ts.obj d with|.arr _ xs=>if len≤xs.length then some (xs.take len) else none|_=>none) else none:=rfl
@[go_sem] theorem len_slice (c:Bool) (xs:List AV):ts.len (.slice c xs)=some xs.length:=rfl
@[go_sem] theorem len_os (g len:Nat):ts.len (.os d g len)=if ts.live d g then some len else none:=rfl
@[go_sem] theorem len_ot (g o len:Nat):ts.len (.ot d g o len)=if ts.live d g then some len else none:=rfl
@[go_sem] theorem sl_ot (g o len:Nat):ts.sl (.ot d g o len)=if g=ts.gen d then (match ts.obj d with|.arr _ xs=>if o+len≤xs.length then some ((xs.drop o).take len) else none|_=>none) else none:=rfl
@[go_sem] theorem len_str (l:List UInt8):ts.len (.str l)=some l.length:=rfl
@[go_sem] theorem len_nilm:ts.len .nilm=some 0:=rfl
@[go_sem] theorem lenK_slice (t e:Nat) (x:AV) (dst:Option Nat):lenK T t x ts dst K=(lenFits (T.ty t).k x=true∧optK (ts.len x) fun n=>setK ts dst (.int .i64 n) K):=rfl
@[go_sem] theorem lenFits_slice (e:Nat) (c:Bool) (xs:List AV):lenFits (.slice e) (.slice c xs)=true:=rfl
@[go_sem] theorem lenFits_os (e d g len:Nat):lenFits (.slice e) (.os d g len)=true:=rfl
@[go_sem] theorem lenFits_ot (e d g o len:Nat):lenFits (.slice e) (.ot d g o len)=true:=rfl
@[go_sem] theorem lenFits_str (l:List UInt8):lenFits .str (.str l)=true:=rfl
@[go_sem] theorem lenFits_map (k e:Nat):lenFits (.map k e) .nilm=true:=rfl
@[go_sem] theorem at_slice (c:Bool) (xs:List AV) (sz:Nat) (n:Int):ts.at (.slice c xs) sz n=if 0≤n∧n < xs.length∧(xs.getD n.toNat .any).cells.length=sz then some (.ro (xs.getD n.toNat .any).cells) else none:=rfl
@[go_sem] theorem at_os (g len sz:Nat) (n:Int):ts.at (.os d g len) sz n=if g=ts.gen d then (match ts.obj d with
   | .arr sz' _=>if 0≤n∧n < len∧sz'=sz then some (.eref d g n.toNat 0) else none
   | _=>none) else none:=rfl
@[go_sem] theorem at_ot (g off len sz:Nat) (n:Int):ts.at (.ot d g off len) sz n=if g=ts.gen d then (match ts.obj d with
   | .arr sz' _=>if 0≤n∧n < len∧sz'=sz then some (.eref d g (off+n.toNat) 0) else none
   | _=>none) else none:=rfl
@[go_sem] theorem base_none (sz:Nat):ts.base (.slice true []) sz=some (.none,[]):=rfl
@[go_sem] theorem base_os (g len sz:Nat):ts.base (.os d g len) sz=if g=ts.gen d then (match ts.obj d with|.arr sz' xs=>if sz'=sz∧len≤xs.length then some (.own d,xs.take len) else Option.none|_=>Option.none) else Option.none:=rfl
@[go_sem] theorem poke_ref (g off:Nat) (ys:List AV):ts.poke (.ref d g off) ys=if g=ts.gen d then (match ts.obj d with|.box cs=>if off+ys.length≤cs.length then some (d,.box (setRange cs off ys)) else none|_=>none) else none:=rfl
@[go_sem] theorem poke_eref (g i o:Nat) (ys:List AV):ts.poke (.eref d g i o) ys=if g=ts.gen d then (match ts.obj d with
   | .arr sz xs=>if i < xs.length∧o+ys.length≤sz∧ys≠[] then some (d,.arr sz (xs.set i (pokeEl (xs.getD i .any) o ys))) else none
   | _=>none) else none:=rfl
@[go_sem] theorem pokeEl_agg (cs:List AV) (o:Nat) (ys:List AV):pokeEl (.agg cs) o ys=.agg (setRange cs o ys):=rfl
@[go_sem] theorem setRange_eq (cs ys:List AV) (o:Nat):setRange cs o ys=cs.take o++ys++cs.drop (o+ys.length):=rfl
@[go_sem] theorem cells_agg (cs:List AV):(AV.agg cs).cells=cs:=rfl
@[go_sem] theorem cells_int (k:IntKind) (n:Int):(AV.int k n).cells=[.int k n]:=rfl
@[go_sem] theorem cells_bool (b:Bool):(AV.bool b).cells=[.bool b]:=rfl
@[go_sem] theorem cells_str (s:List UInt8):(AV.str s).cells=[.str s]:=rfl
@[go_sem] theorem cells_slice (c:Bool) (xs:List AV):(AV.slice c xs).cells=[.slice c xs]:=rfl
@[go_sem] theorem cells_os (g len:Nat):(AV.os d g len).cells=[.os d g len]:=rfl
@[go_sem] theorem cells_ref (g len:Nat):(AV.ref d g len).cells=[.ref d g len]:=rfl
@[go_sem] theorem cells_nilp:AV.nilp.cells=[.nilp]:=rfl
@[go_sem] theorem cells_nilf:AV.nilf.cells=[.nilf]:=rfl
@[go_sem] theorem cells_nilm:AV.nilm.cells=[.nilm]:=rfl
@[go_sem] theorem cells_mp (a b:List AV):(AV.mp a b).cells=[.mp a b]:=rfl
@[go_sem] theorem cells_mref (d g:Nat):(AV.mref d g).cells=[.mref d g]:=rfl
@[go_sem] theorem known_mp (a b:List AV):(AV.mp a b).known=true:=rfl
@[go_sem] theorem known_mref (d g:Nat):(AV.mref d g).known=true:=rfl
@[go_sem] theorem one_mp (a b:List AV):(AV.mp a b).one=true:=rfl
@[go_sem] theorem one_mref (d g:Nat):(AV.mref d g).one=true:=rfl
@[go_sem] theorem cells_clo (fn:Fn) (a b:List AV):(AV.clo fn a b).cells=[.clo fn a b]:=rfl
@[go_sem] theorem known_agg (cs:List AV):(AV.agg cs).known=true:=rfl
@[go_sem] theorem known_int (k:IntKind) (n:Int):(AV.int k n).known=true:=rfl
@[go_sem] theorem known_bool (b:Bool):(AV.bool b).known=true:=rfl
@[go_sem] theorem known_str (s:List UInt8):(AV.str s).known=true:=rfl
@[go_sem] theorem known_slice (c:Bool) (xs:List AV):(AV.slice c xs).known=true:=rfl
@[go_sem] theorem known_os (g len:Nat):(AV.os d g len).known=true:=rfl
@[go_sem] theorem known_clo (fn:Fn) (a b:List AV):(AV.clo fn a b).known=true:=rfl
@[go_sem] theorem known_nilf:AV.nilf.known=true:=rfl
@[go_sem] theorem known_nilm:AV.nilm.known=true:=rfl
@[go_sem] theorem one_int (k:IntKind) (n:Int):(AV.int k n).one=true:=rfl
@[go_sem] theorem one_bool (b:Bool):(AV.bool b).one=true:=rfl
@[go_sem] theorem one_str (s:List UInt8):(AV.str s).one=true:=rfl
@[go_sem] theorem one_slice (c:Bool) (xs:List AV):(AV.slice c xs).one=true:=rfl
@[go_sem] theorem one_os (g len:Nat):(AV.os d g len).one=true:=rfl
@[go_sem] theorem one_ref (g len:Nat):(AV.ref d g len).one=true:=rfl
@[go_sem] theorem one_nilp:AV.nilp.one=true:=rfl
@[go_sem] theorem one_nilf:AV.nilf.one=true:=rfl
@[go_sem] theorem one_nilm:AV.nilm.one=true:=rfl
@[go_sem] theorem one_clo (fn:Fn) (a b:List AV):(AV.clo fn a b).one=true:=rfl
@[go_sem] theorem agg_struct (fs:List (Nat × Nat × String)):(TyK.struct fs).agg=true:=rfl
@[go_sem] theorem agg_array (n e:Nat):(TyK.array n e).agg=true:=rfl
@[go_sem] theorem agg_int (k:IntKind):(TyK.int k).agg=false:=rfl
@[go_sem] theorem agg_bool:TyK.bool.agg=false:=rfl
@[go_sem] theorem agg_str:TyK.str.agg=false:=rfl
@[go_sem] theorem agg_slice (e:Nat):(TyK.slice e).agg=false:=rfl
@[go_sem] theorem agg_func:TyK.func.agg=false:=rfl
@[go_sem] theorem agg_map (k e:Nat):(TyK.map k e).agg=false:=rfl
@[go_sem] theorem agg_ptr (e:Nat):(TyK.ptr e).agg=false:=rfl
@[go_sem] theorem fillA_nil (pl:Nat→Option (Nat × Nat)) (cs:List AV):fillA pl cs []=some cs:=rfl
@[go_sem] theorem fillA_cons (pl:Nat→Option (Nat × Nat)) (cs:List AV) (i:Nat) (x:AV) (r:List (Nat × AV)):fillA pl cs ((i,x) :: r) =
  match pl i with
  | none=>none
  | some (off,size)=>if x.known=true∧x.cells.length=size∧off+size≤cs.length then fillA pl (setRange cs off x.cells) r else none:=rfl
@[go_sem] theorem placeS_eq (fs:List (Nat × Nat × String)) (i:Nat):placeS T fs i=(fs[i]?).map fun f=>(f.1,(T.ty f.2.1).sz):=rfl
end kont
def loadKK (k:TyK) (sz:Nat) (cs:List AV) (ts:TS) (dst:Option Nat) (K:TS→Prop):Prop :=
 match k with
 | .unk=>False
 | k=>(if k.agg then sz else 1)≤cs.length∧setK ts dst (if k.agg then .agg (cs.take sz) else cs.getD 0 .any) K
@[go_sem] theorem loadK_eq (t:Nat) (cs:List AV) (ts:TS) (dst:Option Nat) (K:TS→Prop):loadK T t cs ts dst K=loadKK (T.ty t).k (T.ty t).sz cs ts dst K:=rfl
section
variable (sz:Nat) (cs:List AV) (ts:TS) (dst:Option Nat) (K:TS→Prop)
@[go_sem] theorem loadKK_struct (fs:List (Nat × Nat × String)):loadKK (.struct fs) sz cs ts dst K=(sz≤cs.length∧setK ts dst (.agg (cs.take sz)) K):=rfl
@[go_sem] theorem loadKK_array (n e:Nat):loadKK (.array n e) sz cs ts dst K=(sz≤cs.length∧setK ts dst (.agg (cs.take sz)) K):=rfl
@[go_sem] theorem loadKK_int (k:IntKind):loadKK (.int k) sz cs ts dst K=(1≤cs.length∧setK ts dst (cs.getD 0 .any) K):=rfl
@[go_sem] theorem loadKK_bool:loadKK .bool sz cs ts dst K=(1≤cs.length∧setK ts dst (cs.getD 0 .any) K):=rfl
@[go_sem] theorem loadKK_str:loadKK .str sz cs ts dst K=(1≤cs.length∧setK ts dst (cs.getD 0 .any) K):=rfl
@[go_sem] theorem loadKK_slice (e:Nat):loadKK (.slice e) sz cs ts dst K=(1≤cs.length∧setK ts dst (cs.getD 0 .any) K):=rfl
@[go_sem] theorem loadKK_func:loadKK .func sz cs ts dst K=(1≤cs.length∧setK ts dst (cs.getD 0 .any) K):=rfl
@[go_sem] theorem loadKK_map (k e:Nat):loadKK (.map k e) sz cs ts dst K=(1≤cs.length∧setK ts dst (cs.getD 0 .any) K):=rfl
@[go_sem] theorem loadKK_ptr (e:Nat):loadKK (.ptr e) sz cs ts dst K=(1≤cs.length∧setK ts dst (cs.getD 0 .any) K):=rfl
@[go_sem] theorem loadKK_iface:loadKK .iface sz cs ts dst K=(1≤cs.length∧setK ts dst (cs.getD 0 .any) K):=rfl
end
section
variable (ts:TS) (dst:Option Nat) (K:TS→Prop)
def appendKK (T:Tys P) (k k2:TyK) (s x:AV) (ts:TS) (dst:Option Nat) (K:TS→Prop):Prop :=
 match k,k2,dst with
 | .slice e,.slice _,some d =>
  (T.ty e).k≠.unk∧0 < (T.ty e).sz∧d < ts.n ∧
  optK (ts.base s (T.ty e).sz) fun b=>optK (ts.sl x) fun ys =>
   (∀ y∈ys,y.cells.length=(T.ty e).sz)∧(∀ y∈ys,y.cells.all AV.one=true)∧((b.2.length+ys.length) * (T.ty e).bytes≤140737488355328∧b.2.length+ys.length≤9223372036854775807) ∧
   K (((ts.unbase b.1).new d (.arr (T.ty e).sz (b.2++AV.nrm.nrmL ys))).put d (.os d (ts.gen d+1) (b.2.length+ys.length)))
 | _,_,_=>False
@[go_sem] theorem appendK_eq (t tx:Nat) (s x:AV):appendK T t tx s x ts dst K=appendKK T (T.ty t).k (T.ty tx).k s x ts dst K:=rfl
def Room (n bytes:Nat):Prop:=n * bytes≤140737488355328∧n≤9223372036854775807
@[go_sem] theorem appendKK_eq (e e' d:Nat) (s x:AV):appendKK T (.slice e) (.slice e') s x ts (some d) K=((T.ty e).k≠.unk∧0 < (T.ty e).sz∧d < ts.n ∧
  optK (ts.base s (T.ty e).sz) fun b=>optK (ts.sl x) fun ys =>
   (∀ y∈ys,y.cells.length=(T.ty e).sz)∧(∀ y∈ys,y.cells.all AV.one=true)∧Room (b.2.length+ys.length) (T.ty e).bytes ∧
   K (((ts.unbase b.1).new d (.arr (T.ty e).sz (b.2++AV.nrm.nrmL ys))).put d (.os d (ts.gen d+1) (b.2.length+ys.length)))):=rfl
theorem room_big {n b:Nat} (h:n≤68719476736) (hb:b≤2048):Room n b:=by
 unfold Room
 refine ⟨?_,by omega⟩
 calc n * b≤68719476736 * 2048:=Nat.mul_le_mul h hb
  _≤140737488355328:=by decide
theorem room_small {n b:Nat} (h:n≤8589934592) (hb:b≤16384):Room n b:=by
 unfold Room
 refine ⟨?_,by omega⟩
 calc n * b≤8589934592 * 16384:=Nat.mul_le_mul h hb
  _≤140737488355328:=by decide
def sliceKK (T:Tys P) (k:TyK) (x:AV) (lo hi mx:Option Operand) (ts:TS) (dst:Option Nat) (K:TS→Prop):Prop :=
 match k,x with
 | .slice e,.slice clip xs =>
  (T.ty e).k≠.unk∧(∀ x∈xs,x.cells.length=(T.ty e).sz)∧optK (ts.optI lo 0) fun l=>optK (ts.optI hi xs.length) fun u =>
   (match mx with
    | none=>0≤l∧l≤u∧u≤xs.length∧setK ts dst (.slice (clip && (u == xs.length)) ((xs.take u.toNat).drop l.toNat)) K
    | some m=>hi.isSome=true∧optK (ts.optI (some m) 0) fun m=>0≤l∧l≤u∧u≤m∧m≤xs.length∧setK ts dst (.slice (m == u) ((xs.take u.toNat).drop l.toNat)) K)
 | .slice e,.os d g len =>
  (T.ty e).k≠.unk∧match lo,mx with
   | none,none=>ts.live d g=true∧optK (ts.optI hi len) fun u=>0≤u∧u≤len∧setK ts dst (.os d g u.toNat) K
   | _,_=>sliceOtK T e d g len lo hi mx ts dst K
 | .str,.str s =>
  mx.isNone=true∧optK (ts.optI lo 0) fun l=>optK (ts.optI hi s.length) fun u=>0≤l∧l≤u∧u≤s.length∧setK ts dst (.str ((s.take u.toNat).drop l.toNat)) K
 | _,_=>False
@[go_sem] theorem sliceK_eq (t:Nat) (x:AV) (lo hi mx:Option Operand):sliceK T t x lo hi mx ts dst K=sliceKK T (T.ty t).k x lo hi mx ts dst K:=rfl
@[go_sem] theorem sliceKK_s (e:Nat) (clip:Bool) (xs:List AV) (lo hi:Option Operand):sliceKK T (.slice e) (.slice clip xs) lo hi none ts dst K=((T.ty e).k≠.unk∧(∀ x∈xs,x.cells.length=(T.ty e).sz)∧optK (ts.optI lo 0) fun l=>optK (ts.optI hi xs.length) fun u =>
   0≤l∧l≤u∧u≤xs.length∧setK ts dst (.slice (clip && (u == xs.length)) ((xs.take u.toNat).drop l.toNat)) K):=rfl
@[go_sem] theorem sliceKK_3 (e:Nat) (clip:Bool) (xs:List AV) (lo hi:Option Operand) (m:Operand):sliceKK T (.slice e) (.slice clip xs) lo hi (some m) ts dst K=((T.ty e).k≠.unk∧(∀ x∈xs,x.cells.length=(T.ty e).sz)∧optK (ts.optI lo 0) fun l=>optK (ts.optI hi xs.length) fun u =>
   hi.isSome=true∧optK (ts.optI (some m) 0) fun m=>0≤l∧l≤u∧u≤m∧m≤xs.length∧setK ts dst (.slice (m == u) ((xs.take u.toNat).drop l.toNat)) K):=rfl
@[go_sem] theorem sliceKK_o (e d g len:Nat) (hi:Option Operand):sliceKK T (.slice e) (.os d g len) none hi none ts dst K=((T.ty e).k≠.unk∧ts.live d g=true∧optK (ts.optI hi len) fun u=>0≤u∧u≤len∧setK ts dst (.os d g u.toNat) K):=rfl
@[go_sem] theorem sliceKK_ol (e d g len:Nat) (l:Operand) (hi mx:Option Operand):sliceKK T (.slice e) (.os d g len) (some l) hi mx ts dst K=((T.ty e).k≠.unk∧sliceOtK T e d g len (some l) hi mx ts dst K):=by cases mx<;>rfl
@[go_sem] theorem sliceOtK_eq (e d g len:Nat) (lo hi mx:Option Operand):sliceOtK T e d g len lo hi mx ts dst K=(g=ts.gen d∧optK (ts.obj d).arr? fun q=>q.1=(T.ty e).sz∧optK (ts.optI lo 0) fun l=>optK (ts.optI hi len) fun u=>0≤l∧l≤u∧u≤q.2.length ∧
    maxOk ts hi mx u q.2.length∧setK ts dst (.ot d g l.toNat (u.toNat - l.toNat)) K):=rfl
@[go_sem] theorem maxOk_none (ts:TS) (hi:Option Operand) (u:Int) (n:Nat):maxOk ts hi none u n=True:=rfl
@[go_sem] theorem maxOk_some (ts:TS) (hi:Option Operand) (m:Operand) (u:Int) (n:Nat):maxOk ts hi (some m) u n=(hi.isSome=true∧optK (ts.optI (some m) 0) fun k=>u≤k∧k≤n):=rfl
@[go_sem] theorem arrQ (sz:Nat) (xs:List AV):(Ob.arr sz xs).arr?=some (sz,xs):=rfl
def clearKK (T:Tys P) (k:TyK) (x:AV) (ts:TS) (dst:Option Nat) (K:TS→Prop):Prop :=
 match k,x with
 | .slice e,.ot d g off len=>(T.ty e).k≠.unk∧0 < (T.ty e).sz∧g=ts.gen d∧dst=none∧(zeroA (T.ty e).k (T.ty e).zero).cells=(T.ty e).zero∧(T.ty e).zero.all AV.one=true ∧
  optK (ts.obj d).arr? fun q=>q.1=(T.ty e).sz∧off+len≤q.2.length∧K (ts.setObj d (.arr q.1 (clrL q.2 off len (zeroA (T.ty e).k (T.ty e).zero))))
 | _,_=>False
@[go_sem] theorem clearK_eq (t:Nat) (x:AV):clearK T t x ts dst K=clearKK T (T.ty t).k x ts dst K:=rfl
@[go_sem] theorem clearKK_ot (e d g off len:Nat):clearKK T (.slice e) (.ot d g off len) ts dst K=((T.ty e).k≠.unk∧0 < (T.ty e).sz∧g=ts.gen d∧dst=none∧(zeroA (T.ty e).k (T.ty e).zero).cells=(T.ty e).zero∧(T.ty e).zero.all AV.one=true ∧
  optK (ts.obj d).arr? fun q=>q.1=(T.ty e).sz∧off+len≤q.2.length∧K (ts.setObj d (.arr q.1 (clrL q.2 off len (zeroA (T.ty e).k (T.ty e).zero))))):=rfl
@[go_sem] theorem zeroA_struct (fs:List (Nat × Nat × String)) (zs:List AV):zeroA (.struct fs) zs=.agg zs:=rfl
@[go_sem] theorem zeroA_int (k:IntKind) (zs:List AV):zeroA (.int k) zs=zs.getD 0 .any:=rfl
@[go_sem] theorem zeroA_str (zs:List AV):zeroA .str zs=zs.getD 0 .any:=rfl
@[go_sem] theorem zeroA_slice (e:Nat) (zs:List AV):zeroA (.slice e) zs=zs.getD 0 .any:=rfl
def appendInKK (T:Tys P) (k k2:TyK) (s x:AV) (ts:TS) (dst:Option Nat) (K:TS→Prop):Prop :=
 match k,k2,s,dst with
 | .slice e,.slice _,.os d g len,some d'=>(T.ty e).k≠.unk∧0 < (T.ty e).sz∧d' < ts.n∧g=ts.gen d ∧
  optK (ts.obj d).arr? fun q=>q.1=(T.ty e).sz∧optK (ts.sl x) fun ys=>(∀ y∈ys,y.cells.length=(T.ty e).sz)∧(∀ y∈ys,y.cells.all AV.one=true)∧len+ys.length≤q.2.length ∧
    K ((ts.setObj d (.arr q.1 (q.2.take len++ys++q.2.drop (len+ys.length)))).put d' (.os d g (len+ys.length)))
 | _,_,_,_=>False
@[go_sem] theorem appendInK_eq (t tx:Nat) (s x:AV):appendInK T t tx s x ts dst K=appendInKK T (T.ty t).k (T.ty tx).k s x ts dst K:=rfl
@[go_sem] theorem appendInKK_eq (e e' d g len d':Nat) (x:AV):appendInKK T (.slice e) (.slice e') (.os d g len) x ts (some d') K=((T.ty e).k≠.unk∧0 < (T.ty e).sz∧d' < ts.n∧g=ts.gen d ∧
  optK (ts.obj d).arr? fun q=>q.1=(T.ty e).sz∧optK (ts.sl x) fun ys=>(∀ y∈ys,y.cells.length=(T.ty e).sz)∧(∀ y∈ys,y.cells.all AV.one=true)∧len+ys.length≤q.2.length ∧
    K ((ts.setObj d (.arr q.1 (q.2.take len++ys++q.2.drop (len+ys.length)))).put d' (.os d g (len+ys.length)))):=rfl
@[go_sem] theorem sliceKK_str (s:List UInt8) (lo hi mx:Option Operand):sliceKK T .str (.str s) lo hi mx ts dst K=(mx.isNone=true∧optK (ts.optI lo 0) fun l=>optK (ts.optI hi s.length) fun u=>0≤l∧l≤u∧u≤s.length∧setK ts dst (.str ((s.take u.toNat).drop l.toNat)) K):=rfl
@[go_sem] theorem optI_none (d:Int):ts.optI none d=some d:=rfl
@[go_sem] theorem optI_tmp (t:Nat) (d:Int):ts.optI (some (.tmp t)) d=(match ts.tmp t with|.int _ n=>some n|_=>none):=rfl
@[go_sem] theorem optI_const (k:IntKind) (n d:Int):ts.optI (some (.const (.int k n))) d=some n:=rfl
@[go_sem] theorem binK_nil (t:TypeId) (x:Operand):binK T .eql t x (.const (.slice none 0 0)) ts dst K=(match (T.ty t).k with
   | .slice _=>optK (ts.sl (ts.ev x)) fun xs=>∀ b:Bool,(b=true→xs=[])→setK ts dst (.bool b) K
   | _=>False):=rfl
@[go_sem] theorem binK_bool (op:BinOp) (t:TypeId) (x:Operand) (b:Bool):binK T op t x (.const (.bool b)) ts dst K=binD T op t (ts.ev x) (.bool b) ts dst K:=by cases op<;>rfl
end
def binDD (T:Tys P) (k:TyK) (op:BinOp) (t:TypeId) (a b:AV) (ts:TS) (dst:Option Nat) (K:TS→Prop):Prop :=
 match k with
 | .struct fs=>P.eqGuardType P.depth t=false∧P.stoodInHeld t=false∧optK (eqS T fs op a b) fun r=>setK ts dst (.bool r) K
 | .bool=>optK (eqB op a b) fun r=>setK ts dst (.bool r) K
 | _=>optK (binA op a b) fun r=>setK ts dst r K
section
variable (op:BinOp) (t:TypeId) (a b:AV) (ts:TS) (dst:Option Nat) (K:TS→Prop)
@[go_sem] theorem binD_eq:binD T op t a b ts dst K=binDD T (T.ty t).k op t a b ts dst K:=rfl
@[go_sem] theorem binDD_struct (fs:List (Nat × Nat × String)):binDD T (.struct fs) op t a b ts dst K=(P.eqGuardType P.depth t=false∧P.stoodInHeld t=false∧optK (eqS T fs op a b) fun r=>setK ts dst (.bool r) K):=rfl
@[go_sem] theorem binDD_int (k:IntKind):binDD T (.int k) op t a b ts dst K=optK (binA op a b) fun r=>setK ts dst r K:=rfl
@[go_sem] theorem binDD_bool:binDD T .bool op t a b ts dst K=optK (eqB op a b) fun r=>setK ts dst (.bool r) K:=rfl
@[go_sem] theorem eqB_eql (p q:Bool):eqB .eql (.bool p) (.bool q)=some (decide (p=q)):=rfl
@[go_sem] theorem eqB_neq (p q:Bool):eqB .neq (.bool p) (.bool q)=some (!decide (p=q)):=by simp [eqB]
@[go_sem] theorem binDD_str:binDD T .str op t a b ts dst K=optK (binA op a b) fun r=>setK ts dst r K:=rfl
@[go_sem] theorem eqS_eql (fs:List (Nat × Nat × String)) (xs ys:List AV):eqS T fs .eql (.agg xs) (.agg ys)=eqFs T xs ys fs:=rfl
@[go_sem] theorem eqS_neq (fs:List (Nat × Nat × String)) (xs ys:List AV):eqS T fs .neq (.agg xs) (.agg ys)=(eqFs T xs ys fs).map (!·):=rfl
@[go_sem] theorem eqFs_nil (xs ys:List AV):eqFs T xs ys []=some true:=rfl
@[go_sem] theorem eqFs_cons (xs ys : List AV) (off ty : Nat) (nm : String) (r : List (Nat × Nat × String)) : eqFs T xs ys ((off, ty, nm) :: r) = if nm = "_" then none else
  match eqF (T.ty ty).k (xs.getD off .any) (ys.getD off .any),eqFs T xs ys r with
  | some b,some c=>some (b && c)
  | _,_=>none:=rfl
@[go_sem] theorem eqF_int (k k1:IntKind) (a b:Int):eqF (.int k) (.int k1 a) (.int k1 b)=some (decide (a=b)):=by simp [eqF]
@[go_sem] theorem eqF_bool (a b:Bool):eqF .bool (.bool a) (.bool b)=some (decide (a=b)):=rfl
@[go_sem] theorem eqF_str (a b:List UInt8):eqF .str (.str a) (.str b)=some (decide (a=b)):=rfl
end
section
variable (ts:TS) (dst:Option Nat) (K:TS→Prop)
def mapKK (T:Tys P) (k:TyK) (x key:AV) (ok:Bool) (ts:TS) (dst:Option Nat) (K:TS→Prop):Prop :=
 match k with
 | .map kt et=>(T.ty et).k≠.unk∧keyTy T kt∧keyQ T kt key key=some true∧optK (ts.mapOf x) fun q=>optK (findA T kt key q.1 0) fun r=>setK ts dst (lookA ok (zeroA (T.ty et).k (T.ty et).zero) q.2 r) K
 | _=>False
@[go_sem] theorem mapK_eq (t:Nat) (x k:AV) (ok:Bool):mapK T t x k ok ts dst K=mapKK T (T.ty t).k x k ok ts dst K:=rfl
@[go_sem] theorem mapKK_map (kt et:Nat) (x k:AV) (ok:Bool):mapKK T (.map kt et) x k ok ts dst K=((T.ty et).k≠.unk∧keyTy T kt∧keyQ T kt k k=some true∧optK (ts.mapOf x) fun q=>optK (findA T kt k q.1 0) fun r=>setK ts dst (lookA ok (zeroA (T.ty et).k (T.ty et).zero) q.2 r) K):=rfl
def mapPutKK (T:Tys P) (tk:TyK) (m k x:AV) (ts:TS) (dst:Option Nat) (K:TS→Prop):Prop :=
 match tk,m with
 | .map kt _,.mref d g=>g=ts.gen d∧dst=none∧keyTy T kt∧keyQ T kt k k=some true∧k.cells.length=(T.ty kt).sz∧optK (ts.obj d).mp? fun q=>(∀ y∈q.1,y.cells.length=(T.ty kt).sz) ∧
   optK (findA T kt k q.1 0) fun r=>K (ts.setObj d (.mp (putK q.1 k r) (putK q.2 x r)))
 | _,_=>False
@[go_sem] theorem mapPutK_eq (t:Nat) (m k x:AV):mapPutK T t m k x ts dst K=mapPutKK T (T.ty t).k m k x ts dst K:=rfl
@[go_sem] theorem mapPutKK_map (kt et d g:Nat) (k x:AV):mapPutKK T (.map kt et) (.mref d g) k x ts dst K=(g=ts.gen d∧dst=none∧keyTy T kt∧keyQ T kt k k=some true∧k.cells.length=(T.ty kt).sz∧optK (ts.obj d).mp? fun q=>(∀ y∈q.1,y.cells.length=(T.ty kt).sz) ∧
   optK (findA T kt k q.1 0) fun r=>K (ts.setObj d (.mp (putK q.1 k r) (putK q.2 x r)))):=rfl
def entKK2 (T:Tys P) (tk:TyK) (m k:AV) (ts:TS) (dst:Option Nat) (K:TS→Prop):Prop :=
 match tk,m,dst with
 | .map kt et,.mref d g,some e=>g=ts.gen d∧e < ts.n∧(T.ty et).k≠.unk∧keyTy T kt∧keyQ T kt k k=some true∧k.cells.length=(T.ty kt).sz∧optK (ts.obj d).mp? fun q=>(∀ y∈q.1,y.cells.length=(T.ty kt).sz) ∧
   optK (findA T kt k q.1 0) fun r=>entK.entKK d e k (zeroA (T.ty et).k (T.ty et).zero) q r ts K
 | _,_,_=>False
@[go_sem] theorem entK_eq (t:Nat) (m k:AV):entK T t m k ts dst K=entKK2 T (T.ty t).k m k ts dst K:=by
 unfold entK entKK2
 generalize (T.ty t).k=tk
 cases tk<;>cases m<;>cases dst<;>simp only [optK_ex]
@[go_sem] theorem entKK2_map (kt et d g e:Nat) (k:AV):entKK2 T (.map kt et) (.mref d g) k ts (some e) K=(g=ts.gen d∧e < ts.n∧(T.ty et).k≠.unk∧keyTy T kt∧keyQ T kt k k=some true∧k.cells.length=(T.ty kt).sz∧optK (ts.obj d).mp? fun q=>(∀ y∈q.1,y.cells.length=(T.ty kt).sz) ∧
   optK (findA T kt k q.1 0) fun r=>entK.entKK d e k (zeroA (T.ty et).k (T.ty et).zero) q r ts K):=rfl
@[go_sem] theorem entKK_none (d e:Nat) (k z:AV) (q:List AV × List AV):entK.entKK d e k z q none ts K=K ((ts.setObj d (.mp (q.1++[k]) (q.2++[z]))).put e (.tup [z,.int .i64 q.1.length])):=rfl
@[go_sem] theorem entKK_some (d e i:Nat) (k z:AV) (q:List AV × List AV):entK.entKK d e k z q (some i) ts K=K ((ts.setObj d (.mp (q.1.set i k) q.2)).put e (.tup [q.2.getD i .any,.int .i64 i])):=rfl
@[go_sem] theorem entPutK_eq (d g:Nat) (n:Int) (x:AV):entPutK (.mref d g) (.int .i64 n) x ts dst K=(g=ts.gen d∧dst=none∧optK (ts.obj d).mp? fun q=>0≤n∧n < q.2.length∧K (ts.setObj d (.mp q.1 (q.2.set n.toNat x)))):=by
 unfold entPutK
 simp only [optK_ex]
@[go_sem] theorem mpQ (a b:List AV):(Ob.mp a b).mp?=some (a,b):=rfl
@[go_sem] theorem newMapK_some (d:Nat):newMapK ts (some d) K=(d < ts.n∧K ((ts.new d (.mp [] [])).put d (.mref d (ts.gen d+1)))):=rfl
@[go_sem] theorem mapOf_mp (a b:List AV):ts.mapOf (.mp a b)=some (a,b):=rfl
@[go_sem] theorem mapOf_mref (d g:Nat):ts.mapOf (.mref d g)=if g=ts.gen d then (match ts.obj d with|.mp ks vs=>some (ks,vs)|_=>none) else none:=rfl
@[go_sem] theorem mapOf_nilm:ts.mapOf .nilm=some ([],[]):=rfl
def keyTyK (T:Tys P) (kt:Nat) (k:TyK):Prop :=
 match k with
 | .struct fs=>P.stoodInHeld kt=false∧plainFs fs 0=true∧fs.length=(T.ty kt).sz
 | _=>True
@[go_sem] theorem keyTy_eq (kt:Nat):keyTy T kt=keyTyK T kt (T.ty kt).k:=by unfold keyTy keyTyK; cases (T.ty kt).k<;>rfl
@[go_sem] theorem keyTyK_struct (kt:Nat) (fs:List (Nat × Nat × String)):keyTyK T kt (.struct fs)=(P.stoodInHeld kt=false∧plainFs fs 0=true∧fs.length=(T.ty kt).sz):=rfl
@[go_sem] theorem keyTyK_int (kt:Nat) (k:IntKind):keyTyK T kt (.int k)=True:=rfl
@[go_sem] theorem keyTyK_str (kt:Nat):keyTyK T kt .str=True:=rfl
@[go_sem] theorem plainFs_nil (i:Nat):plainFs [] i=true:=rfl
@[go_sem] theorem plainFs_cons (o t : Nat) (nm : String) (r : List (Nat × Nat × String)) (i : Nat) : plainFs ((o, t, nm) :: r) i = (if nm = "_" then false else (o == i && plainFs r (i + 1))) := by
 rw [plainFs]
 by_cases h : nm = "_"
 ·simp [h]
 ·have h' : (nm != "_") = true := by simpa using h
  simp [h,h']
def keyQK (T:Tys P) (k:TyK) (x y:AV):Option Bool :=
 match k,x,y with
 | .struct fs,.agg xs,.agg ys=>eqFs T xs ys fs
 | .int k,x,y=>eqF (.int k) x y
 | .bool,x,y=>eqF .bool x y
 | .str,x,y=>eqF .str x y
 | _,_,_=>none
@[go_sem] theorem keyQ_eq (kt:Nat) (x y:AV):keyQ T kt x y=keyQK T (T.ty kt).k x y:=rfl
@[go_sem] theorem keyQK_struct (fs:List (Nat × Nat × String)) (xs ys:List AV):keyQK T (.struct fs) (.agg xs) (.agg ys)=eqFs T xs ys fs:=rfl
@[go_sem] theorem keyQK_int (k k1 k2:IntKind) (a b:Int):keyQK T (.int k) (.int k1 a) (.int k2 b)=eqF (.int k) (.int k1 a) (.int k2 b):=rfl
@[go_sem] theorem lookA_t (z:AV) (vs:List AV) (r:Option Nat):lookA true z vs r=.tup [lookA false z vs r,.bool r.isSome]:=rfl
@[go_sem] theorem findA_nil (kt:Nat) (x:AV) (i:Nat):findA T kt x [] i=some none:=rfl
@[go_sem] theorem lookA_none (z:AV) (vs:List AV):lookA false z vs none=z:=rfl
@[go_sem] theorem putK_none (ks:List AV) (k:AV):putK ks k none=ks++[k]:=rfl
@[go_sem] theorem zeroA_bool (zs:List AV):zeroA .bool zs=zs.getD 0 .any:=rfl
end
theorem beq_eq_decide {α:Type} [DecidableEq α] (a b:α):(a == b)=decide (a=b):=rfl
section bin
variable (k:IntKind) (a b:Int) (s t:List UInt8)
@[go_sem] theorem binA_add:binA .add (.int k a) (.int k b)=some (.int k (k.wrap (a+b))):=by simp [binA]
@[go_sem] theorem binA_sub:binA .sub (.int k a) (.int k b)=some (.int k (k.wrap (a - b))):=by simp [binA]
@[go_sem] theorem binA_mul:binA .mul (.int k a) (.int k b)=some (.int k (k.wrap (a * b))):=by simp [binA]
@[go_sem] theorem binA_eql:binA .eql (.int k a) (.int k b)=some (.bool (decide (a=b))):=by simp [binA,beq_eq_decide]
@[go_sem] theorem binA_neq:binA .neq (.int k a) (.int k b)=some (.bool (!decide (a=b))):=by simp [binA,bne,beq_eq_decide]
@[go_sem] theorem binA_lss:binA .lss (.int k a) (.int k b)=some (.bool (decide (a < b))):=by simp [binA]
@[go_sem] theorem binA_leq:binA .leq (.int k a) (.int k b)=some (.bool (decide (a≤b))):=by simp [binA]
@[go_sem] theorem binA_gtr:binA .gtr (.int k a) (.int k b)=some (.bool (decide (b < a))):=by simp [binA]
@[go_sem] theorem binA_geq:binA .geq (.int k a) (.int k b)=some (.bool (decide (b≤a))):=by simp [binA]
@[go_sem] theorem binA_rem:binA .rem (.int k a) (.int k b)=if b=0 then none else some (.int k (a.tmod b)):=by simp [binA]
@[go_sem] theorem binA_quo:binA .quo (.int k a) (.int k b)=if b=0 then none else some (.int k (k.wrap (a.tdiv b))):=by simp [binA]
@[go_sem] theorem binA_seql:binA .eql (.str s) (.str t)=some (.bool (decide (s=t))):=by show some (AV.bool (s == t))=_; exact congrArg (fun b=>some (AV.bool b)) (Bool.eq_iff_iff.2 (by simp))
@[go_sem] theorem binA_sneq:binA .neq (.str s) (.str t)=some (.bool (!decide (s=t))):=by show some (AV.bool (s != t))=_; exact congrArg (fun b=>some (AV.bool b)) (Bool.eq_iff_iff.2 (by simp))
@[go_sem] theorem binA_slss:binA .lss (.str s) (.str t)=some (.bool (Op.bytesLess s t)):=rfl
@[go_sem] theorem binA_sgtr:binA .gtr (.str s) (.str t)=some (.bool !(Op.bytesLess s t || s == t)):=rfl
@[go_sem] theorem binA_and:binA .and (.int k a) (.int k b)=some (.int k (k.wrap (BitVec.ofInt k.bits a &&& BitVec.ofInt k.bits b).toNat)):=by simp [binA]
end bin
end Go.Proofs.YtmjkjmoeicnbnaaGreatDoor.Lg
namespace Go.Proofs.YtmjkjmoeicnbnaaGreatDoor.Lg
set_option maxRecDepth 100000
set_option linter.unusedVariables false
set_option linter.unusedSimpArgs false
open Go
variable {P:Program}
def Small (n:Nat):Prop:=n≤4294967296
def ArgsAt (ts:TS):Nat→List Arg→Prop
 | _,[]=>True
 | k,.v x :: r=>ts.tmp k=x∧ArgsAt ts (k+1) r
 | k,.io cs :: r=>(ts.tmp k=.ref k 0 0∧ts.gen k=0∧ts.obj k=.box cs)∧ArgsAt ts (k+1) r
 | k,.own sz xs :: r=>(ts.tmp k=.os k 0 xs.length∧ts.gen k=0∧ts.obj k=.arr sz xs)∧ArgsAt ts (k+1) r
theorem argsAt_argTS (n:Nat):∀ (r:List Arg) (args:List Arg) (k:Nat),(∀ i,args[k+i]?=r[i]?)→ArgsAt (argTS args n) k r
 | [],_,_,_=>trivial
 | .v x :: r,args,k,h=>by
  have h0:args[k]?=some (.v x):=by simpa using h 0
  exact ⟨by simp [argTS,h0],argsAt_argTS n r args (k+1) fun i=>by have:=h (i+1); rw [show k+1+i=k+(i+1) by omega]; simpa using this⟩
 | .io cs :: r,args,k,h=>by
  have h0:args[k]?=some (.io cs):=by simpa using h 0
  exact ⟨⟨by simp [argTS,h0],rfl,by simp [argTS,h0]⟩,argsAt_argTS n r args (k+1) fun i=>by have:=h (i+1); rw [show k+1+i=k+(i+1) by omega]; simpa using this⟩
 | .own sz xs :: r,args,k,h=>by
  have h0:args[k]?=some (.own sz xs):=by simpa using h 0
  exact ⟨⟨by simp [argTS,h0],rfl,by simp [argTS,h0]⟩,argsAt_argTS n r args (k+1) fun i=>by have:=h (i+1); rw [show k+1+i=k+(i+1) by omega]; simpa using this⟩
def Ret.nrm:Ret→Ret
 | .val x=>.val x.nrm
 | .own sz xs=>.own sz (AV.nrm.nrmL xs)
theorem Post.nrm {E:Env} {R R':Ret→(Nat→List AV)→Prop} (hr:∀ r io,R r io→R' r.nrm io) {e:Ending} {w:World} (h:Post E R e w):Post E R' e w:=by
 obtain ⟨v,r,io,ts',G',he,hR,hrel,hio,hret⟩:=h
 cases r with
 | val x =>
  obtain ⟨h1,h2⟩:=hret
  refine ⟨v,_,io,ts'.put 0 x.nrm,G',he,hr _ _ hR,?_,hio,by rw [pure_nrm]; exact h1,by simp [TS.put]⟩
  have h0:=hrel.tmp 0
  rw [h2] at h0
  have hn:0 < ts'.n:=by rw [← hrel.size]; simp
  have:=hrel.put hn (v:=v) (x:=x.nrm) (by simpa using h0.nrm)
  simpa [Act.put] using this
 | own sz xs =>
  obtain ⟨d,g,h1,h2,h3,h4⟩:=hret
  have:=hrel.nrmArr (d:=d) (sz:=sz) (xs:=[]) (ys:=xs) (by simpa using h3)
  refine ⟨v,_,io,ts'.setObj d (.arr sz (AV.nrm.nrmL xs)),G',he,hr _ _ hR,by simpa using this,fun j b hj=>?_,d,g,by rw [nrmL_len]; exact h1,h2,by simp [TS.setObj],by rw [pureL_nrm]; exact h4⟩
  obtain ⟨g1,g2,g3⟩:=hio j b hj
  refine ⟨g1,?_,g3⟩
  have hjd:j≠d:=by rintro rfl; rw [h3] at g2; cases g2
  simp only [TS.setObj,upd_ne _ _ hjd]
  exact g2
theorem CallV.nrm {f:FuncId} {args:List Arg} {R R':Ret→(Nat→List AV)→Prop} (hr:∀ r io,R r io→R' r.nrm io) (h:CallV P f args R):CallV P f args R':=by
 intro E G vals w hw hrel hpin
 have:=h E G vals w hw hrel hpin
 split at this<;>rename_i heq
 ·exact Calls.mono this fun e w' h=>h.nrm hr
 ·exact this.nrm hr
 ·exact this.elim
def Ret.fits (R:Ret→(Nat→List AV)→Prop) (r:Ret) (io:Nat→List AV):Prop:=R r.nrm io∨(r=.val (.slice true [])∧∃ sz,0 < sz∧R (.own sz []) io)
theorem Post.fit {E:Env} {R:Ret→(Nat→List AV)→Prop} (hpin:∀ j,E.pin j=none) {e:Ending} {w:World} (h:Post E (Ret.fits R) e w):Post E R e w:=by
 obtain ⟨v,r,io,ts',G',he,hR,hrel,hio,hret⟩:=h
 rcases hR with hR|⟨rfl,sz,hsz,hR⟩
 ·exact Post.nrm (R:=fun r io=>R r.nrm io) (fun _ _ h=>h) ⟨v,r,io,ts',G',he,hR,hrel,hio,hret⟩
 ·obtain ⟨_,h2⟩:=hret
  have h0:=hrel.tmp 0
  rw [h2] at h0
  have hv:∃ a,v=.slice a 0 0:=by
   have h0:Rep (ctxOf E G' ts' w) v (.slice true []):=by simpa using h0
   cases h0 with
   | slice0 _ a cap h=>exact ⟨a,by rw [h rfl]⟩
   | slice=>contradiction
  obtain ⟨ad,rfl⟩:=hv
  have hn:0 < ts'.n:=by rw [← hrel.size]; simp
  have:=hrel.newObj (d:=0) hn (w':=w) (.arr sz []) w.heap.size none (Nat.le_refl _) (fun h=>absurd rfl h) (Bel.refl _ _) (v:=.slice ad 0 0) (x:=.os 0 (ts'.gen 0+1) 0)
   (.os 0 _ _ _ rfl (by simp [ctxOf,TS.new]) fun _ _=>by unfold OsIs; simp [ctxOf,Ghost.set]) ⟨hsz,by simp,by simp [ctxOf,Ghost.set]⟩
  refine ⟨_,.own sz [],io,_,_,he,hR,by simpa [Act.put] using this,?_,0,ts'.gen 0+1,by simp [TS.put],by simp [TS.put,TS.new],by simp [TS.put,TS.new],rfl⟩
  intro j b hj
  rw [hpin j] at hj
  cases hj
theorem CallV.fit {f:FuncId} {args:List Arg} {R:Ret→(Nat→List AV)→Prop} (hio:∀ (j:Nat) (cs:List AV),args[j]?≠some (Arg.io cs)) (h:CallV P f args (Ret.fits R)):CallV P f args R:=by
 intro E G vals w hw hrel hpin
 have hp:∀ j,E.pin j=none:=fun j=>by
  cases hj:E.pin j with
  | none=>rfl
  | some b =>
   obtain ⟨cs,hcs⟩:=(hpin j).2 ⟨b,hj⟩
   exact absurd hcs (hio j cs)
 have:=h E G vals w hw hrel hpin
 split at this<;>rename_i heq
 ·exact Calls.mono this fun e w' h=>h.fit hp
 ·exact this.fit hp
 ·exact this.elim
theorem SpecOs.nil {ops:Array Oper} {K:TS→Prop} {ts:TS} (h:K ts):SpecOs P ops K [] ts:=h
mutual
theorem res_of_pure (ts:TS):∀ (x:AV),x.pure=true→x.res ts=some x
 | .agg cs,h=>by simp only [AV.pure] at h; simp [AV.res,resL_of_pure ts cs h]
 | .tup cs,h=>by simp only [AV.pure] at h; simp [AV.res,resL_of_pure ts cs h]
 | .any,h=>by simp [AV.res,AV.pure]
 | .bool _,h=>by simp [AV.res,AV.pure]
 | .int _ _,h=>by simp [AV.res,AV.pure]
 | .str _,h=>by simp [AV.res,AV.pure]
 | .slice _ _,h=>by simp [AV.res,h]
 | .ro _,h=>by simp [AV.res,h]
 | .nilp,h=>by simp [AV.res,AV.pure]
 | .clo _ _ _,h=>by simp [AV.res,h]
 | .nilf,h=>by simp [AV.res,AV.pure]
 | .nilm,h=>by simp [AV.res,AV.pure]
 | .niface,h=>by simp [AV.res,AV.pure]
 | .iface _ _,h=>by simp [AV.res,h]
 | .os _ _ _,h=>by simp [AV.pure] at h
 | .ref _ _ _,h=>by simp [AV.pure] at h
 | .eref _ _ _ _,h=>by simp [AV.pure] at h
 | .ot _ _ _ _,h=>by simp [AV.pure] at h
 | .mref _ _,h=>by simp [AV.pure] at h
 | .mp _ _,h=>by simp [AV.res,h]
theorem resL_of_pure (ts:TS):∀ (l:List AV),AV.pure.pureL l=true→AV.res.resL ts l=some l
 | [],_=>rfl
 | x :: r,h=>by
  simp only [AV.pure.pureL,Bool.and_eq_true] at h
  simp [AV.res.resL,res_of_pure ts x h.1,resL_of_pure ts r h.2]
end
section
variable (ts:TS) (T:Tys P)
@[go_sem] theorem result_tmp (t:Nat):ts.result T [.tmp t]=some (ts.tmp t):=rfl
@[go_sem] theorem result_cell (a t:Nat):ts.result T [.cell a t]=ts.resV T (.cell a t):=by
 unfold TS.result TS.resVs TS.resVs
 cases ts.resV T (.cell a t)<;>rfl
@[go_sem] theorem result_nil:ts.result T []=some (.tup []):=rfl
@[go_sem] theorem result_two (r s:ResultVar):ts.result T [r,s]=(match ts.resV T r,ts.resV T s with|some x,some y=>some (.tup [x,y])|_,_=>none):=by
 simp only [TS.result,TS.resVs]
 cases ts.resV T r<;>cases ts.resV T s<;>rfl
@[go_sem] theorem result_three (r s t:ResultVar):ts.result T [r,s,t]=(match ts.resV T r,ts.resV T s,ts.resV T t with|some x,some y,some z=>some (.tup [x,y,z])|_,_,_=>none):=by
 simp only [TS.result,TS.resVs]
 cases ts.resV T r<;>cases ts.resV T s<;>cases ts.resV T t<;>rfl
@[go_sem] theorem resV_tmp (t:Nat):ts.resV T (.tmp t)=some (ts.tmp t):=rfl
@[go_sem] theorem resV_cell (a t:Nat):ts.resV T (.cell a t)=(match (T.ty t).k with
  | .unk=>none
  | k=>match ts.ptr (ts.tmp a) with
   | some cs=>if k.agg then (if (T.ty t).sz≤cs.length then some (.agg (cs.take (T.ty t).sz)) else none) else (if 1≤cs.length then some (cs.getD 0 .any) else none)
   | none=>none):=rfl
@[go_sem] theorem res_int (k:IntKind) (n:Int):(AV.int k n).res ts=some (.int k n):=rfl
@[go_sem] theorem res_bool (b:Bool):(AV.bool b).res ts=some (.bool b):=rfl
@[go_sem] theorem res_str (s:List UInt8):(AV.str s).res ts=some (.str s):=rfl
@[go_sem] theorem res_agg (cs:List AV):(AV.agg cs).res ts=(AV.res.resL ts cs).map .agg:=rfl
@[go_sem] theorem res_tup (cs:List AV):(AV.tup cs).res ts=(AV.res.resL ts cs).map .tup:=rfl
@[go_sem] theorem res_slice (c:Bool) (cs:List AV):(AV.slice c cs).res ts=if AV.pure.pureL cs then some (.slice c cs) else none:=rfl
@[go_sem] theorem res_os (d g len:Nat):(AV.os d g len).res ts=if g=ts.gen d then (match ts.obj d with|.arr _ xs=>if len≤xs.length∧AV.pure.pureL xs=true then some (.slice false (xs.take len)) else none|_=>none) else none:=rfl
@[go_sem] theorem res_mp (a b:List AV):(AV.mp a b).res ts=if (AV.pure.pureL a && AV.pure.pureL b)=true then some (.mp a b) else none:=rfl
@[go_sem] theorem res_mref (d g:Nat):(AV.mref d g).res ts=if g=ts.gen d then (match ts.obj d with|.mp ks vs=>if AV.pure.pureL ks=true∧AV.pure.pureL vs=true then some (.mp ks vs) else none|_=>none) else none:=rfl
@[go_sem] theorem resL_nil:AV.res.resL ts []=some []:=rfl
@[go_sem] theorem resL_cons (x:AV) (r:List AV):AV.res.resL ts (x :: r)=match x.res ts,AV.res.resL ts r with
  | some y,some s=>some (y :: s)
  | _,_=>none:=rfl
end
section
variable (ts:TS)
@[go_sem] theorem toArgs_nil:ts.toArgs []=some ([],[]):=rfl
@[go_sem] theorem toArgs_cons (x:AV) (r:List AV):ts.toArgs (x :: r)=match x.res ts,ts.toArgs r with
  | some y,some (ys,ds)=>some (y.nrm :: ys,x.owns++ds)
  | _,_=>none:=rfl
@[go_sem] theorem nrm_int (k:IntKind) (n:Int):(AV.int k n).nrm=.int k n:=rfl
@[go_sem] theorem nrm_bool (b:Bool):(AV.bool b).nrm=.bool b:=rfl
@[go_sem] theorem nrm_str (s:List UInt8):(AV.str s).nrm=.str s:=rfl
@[go_sem] theorem nrm_agg (cs:List AV):(AV.agg cs).nrm=.agg (AV.nrm.nrmL cs):=rfl
@[go_sem] theorem nrm_tup (cs:List AV):(AV.tup cs).nrm=.tup (AV.nrm.nrmL cs):=rfl
@[go_sem] theorem nrm_slice (c:Bool) (cs:List AV):(AV.slice c cs).nrm=.slice false (AV.nrm.nrmL cs):=rfl
@[go_sem] theorem nrm_ro (cs:List AV):(AV.ro cs).nrm=.ro (AV.nrm.nrmL cs):=rfl
@[go_sem] theorem nrm_clo (fn:Fn) (a b:List AV):(AV.clo fn a b).nrm=.clo fn (AV.nrm.nrmL a) (AV.nrm.nrmL b):=rfl
@[go_sem] theorem nrm_nilp:AV.nilp.nrm=.nilp:=rfl
@[go_sem] theorem nrm_mp (a b:List AV):(AV.mp a b).nrm=.mp (AV.nrm.nrmL a) (AV.nrm.nrmL b):=rfl
@[go_sem] theorem owns_mref (d g:Nat):(AV.mref d g).owns=[d]:=rfl
@[go_sem] theorem owns_mp (a b:List AV):(AV.mp a b).owns=[]:=rfl
@[go_sem] theorem pure_mp (a b:List AV):(AV.mp a b).pure=(AV.pure.pureL a && AV.pure.pureL b):=rfl
@[go_sem] theorem nrm_nilf:AV.nilf.nrm=.nilf:=rfl
@[go_sem] theorem nrm_nilm:AV.nilm.nrm=.nilm:=rfl
@[go_sem] theorem nrm_niface:AV.niface.nrm=.niface:=rfl
@[go_sem] theorem nrmL_nil:AV.nrm.nrmL []=[]:=rfl
@[go_sem] theorem nrmL_cons (x:AV) (r:List AV):AV.nrm.nrmL (x :: r)=x.nrm :: AV.nrm.nrmL r:=rfl
@[go_sem] theorem nrmL_append (l r:List AV):AV.nrm.nrmL (l++r)=AV.nrm.nrmL l++AV.nrm.nrmL r:=by simp [nrmL_eq]
@[go_sem] theorem owns_os (d g n:Nat):(AV.os d g n).owns=[d]:=rfl
@[go_sem] theorem owns_agg (cs:List AV):(AV.agg cs).owns=AV.owns.ownsL cs:=rfl
@[go_sem] theorem owns_int (k:IntKind) (n:Int):(AV.int k n).owns=[]:=rfl
@[go_sem] theorem owns_bool (b:Bool):(AV.bool b).owns=[]:=rfl
@[go_sem] theorem owns_str (s:List UInt8):(AV.str s).owns=[]:=rfl
@[go_sem] theorem owns_slice (c:Bool) (cs:List AV):(AV.slice c cs).owns=[]:=rfl
@[go_sem] theorem owns_ro (cs:List AV):(AV.ro cs).owns=[]:=rfl
@[go_sem] theorem owns_clo (fn:Fn) (a b:List AV):(AV.clo fn a b).owns=[]:=rfl
@[go_sem] theorem owns_nilf:AV.nilf.owns=[]:=rfl
@[go_sem] theorem owns_nilp:AV.nilp.owns=[]:=rfl
@[go_sem] theorem owns_nilm:AV.nilm.owns=[]:=rfl
@[go_sem] theorem owns_niface:AV.niface.owns=[]:=rfl
@[go_sem] theorem ownsL_nil:AV.owns.ownsL []=[]:=rfl
@[go_sem] theorem ownsL_cons (x:AV) (r:List AV):AV.owns.ownsL (x :: r)=x.owns++AV.owns.ownsL r:=rfl
@[go_sem] theorem res_ro (cs:List AV):(AV.ro cs).res ts=if AV.pure.pureL cs then some (.ro cs) else none:=rfl
@[go_sem] theorem res_clo (fn:Fn) (a b:List AV):(AV.clo fn a b).res ts=if (AV.pure.pureL a && AV.pure.pureL b)=true then some (.clo fn a b) else none:=rfl
@[go_sem] theorem res_nilp:AV.nilp.res ts=some .nilp:=rfl
@[go_sem] theorem res_nilf:AV.nilf.res ts=some .nilf:=rfl
@[go_sem] theorem res_nilm:AV.nilm.res ts=some .nilm:=rfl
@[go_sem] theorem res_niface:AV.niface.res ts=some .niface:=rfl
@[go_sem] theorem pureL_nil:AV.pure.pureL []=true:=rfl
@[go_sem] theorem pureL_cons (x:AV) (r:List AV):AV.pure.pureL (x :: r)=(x.pure && AV.pure.pureL r):=rfl
@[go_sem] theorem pure_int (k:IntKind) (n:Int):(AV.int k n).pure=true:=rfl
@[go_sem] theorem pure_bool (b:Bool):(AV.bool b).pure=true:=rfl
@[go_sem] theorem pure_str (s:List UInt8):(AV.str s).pure=true:=rfl
@[go_sem] theorem pure_agg (cs:List AV):(AV.agg cs).pure=AV.pure.pureL cs:=rfl
@[go_sem] theorem pure_tup (cs:List AV):(AV.tup cs).pure=AV.pure.pureL cs:=rfl
@[go_sem] theorem pure_slice (c:Bool) (cs:List AV):(AV.slice c cs).pure=AV.pure.pureL cs:=rfl
@[go_sem] theorem pure_ro (cs:List AV):(AV.ro cs).pure=AV.pure.pureL cs:=rfl
@[go_sem] theorem pure_clo (fn:Fn) (a b:List AV):(AV.clo fn a b).pure=(AV.pure.pureL a && AV.pure.pureL b):=rfl
@[go_sem] theorem pure_nilp:AV.nilp.pure=true:=rfl
@[go_sem] theorem pure_nilf:AV.nilf.pure=true:=rfl
@[go_sem] theorem pure_nilm:AV.nilm.pure=true:=rfl
@[go_sem] theorem flat_int (k:IntKind) (n:Int):(AV.int k n).flat=true:=rfl
@[go_sem] theorem flat_bool (b:Bool):(AV.bool b).flat=true:=rfl
@[go_sem] theorem flat_str (s:List UInt8):(AV.str s).flat=true:=rfl
@[go_sem] theorem flat_agg (cs:List AV):(AV.agg cs).flat=AV.flat.flatL cs:=rfl
@[go_sem] theorem flatL_nil:AV.flat.flatL []=true:=rfl
@[go_sem] theorem flatL_cons (x:AV) (r:List AV):AV.flat.flatL (x :: r)=(x.flat && AV.flat.flatL r):=rfl
end
end Go.Proofs.YtmjkjmoeicnbnaaGreatDoor.Lg
namespace Go.Proofs.YtmjkjmoeicnbnaaGreatDoor.Lg
set_option maxRecDepth 100000
set_option linter.unusedVariables false
set_option linter.unusedSimpArgs false
open Go
variable {P:Program}
def SameSlot (a b:TS) (t:Nat):Prop:=a.tmp t=b.tmp t∧a.gen t=b.gen t∧a.obj t=b.obj t
theorem ts_ext {a b:TS} (hn:a.n=b.n) (h:∀ t,SameSlot a b t):a=b:=by
 cases a; cases b
 simp only at hn
 subst hn
 have h1:=funext fun t=>(h t).1
 have h2:=funext fun t=>(h t).2.1
 have h3:=funext fun t=>(h t).2.2
 simp only at h1 h2 h3
 subst h1 h2 h3
 rfl
def afterOf (ops:Array Oper) (i:Nat):List Nat :=
 match ops[i]? with
 | some o=>(o.after.toList.filter (Region.binds .any)).map (·.on)
 | none=>[]
def reach (ops:Array Oper):Nat→Nat→Nat→Bool
 | 0,_,_=>false
 | f+1,k,j=>(afterOf ops k).contains j || (afterOf ops k).any fun e=>reach ops f e j
def reachT (ops:Array Oper) (k j:Nat):Bool:=reach ops 2 k j || reach ops 6 k j
def drawChk (ops:Array Oper) (m:Nat) (wr bads:List (List Nat)):Bool :=
 decide (m≤ops.size) &&
 ((List.range ops.size).all fun i=>(afterOf ops i).all fun e=>decide (e < i)) &&
 ((List.range m).all fun i=>((wr.getD i []).all fun t=>!(bads.getD i []).contains t) &&
  (List.range m).all fun j=>i == j || (decide (j < i) && reach ops 2 i j) || (decide (i < j) && reach ops 2 j i) || (wr.getD j []).all fun t=>(bads.getD i []).contains t) &&
 ((List.range ops.size).all fun k=>decide (k < m) || (List.range k).all fun j=>reachT ops k j)
structure DrawOk (ops:Array Oper) (m:Nat) (wr bads:List (List Nat)):Prop where
 le:m≤ops.size
 lt:∀ i,i < ops.size→∀ e∈afterOf ops i,e < i
 own:∀ i,i < m→∀ t∈wr.getD i [],(bads.getD i []).contains t=false
 ord:∀ i,i < m→∀ j,j < m→i≠j→(j < i∧reach ops 2 i j=true)∨(i < j∧reach ops 2 j i=true)∨∀ t∈wr.getD j [],(bads.getD i []).contains t=true
 tail:∀ k,m≤k→k < ops.size→∀ j,j < k→reachT ops k j=true
theorem drawChk_spec {ops:Array Oper} {m:Nat} {wr bads:List (List Nat)} (h:drawChk ops m wr bads=true):DrawOk ops m wr bads:=by
 unfold drawChk at h
 simp only [Bool.and_eq_true] at h
 obtain ⟨⟨⟨h1,h2⟩,h3⟩,h4⟩:=h
 refine ⟨by simpa using h1,fun i hi e he=>?_,fun i hi t ht=>?_,fun i hi j hj hne=>?_,fun k hk hk2 j hj=>?_⟩
 ·have:=List.all_eq_true.1 (List.all_eq_true.1 h2 i (List.mem_range.2 hi)) e he
  simpa using this
 ·have:=(Bool.and_eq_true _ _▸List.all_eq_true.1 h3 i (List.mem_range.2 hi):_∧_).1
  have:=List.all_eq_true.1 this t ht
  simpa using this
 ·have:=(Bool.and_eq_true _ _▸List.all_eq_true.1 h3 i (List.mem_range.2 hi):_∧_).2
  have:=List.all_eq_true.1 this j (List.mem_range.2 hj)
  simp only [Bool.or_eq_true,Bool.and_eq_true,decide_eq_true_eq,beq_iff_eq] at this
  rcases this with ((h|h)|h)|h
  ·exact absurd h hne
  ·exact .inl h
  ·exact .inr (.inl h)
  ·exact .inr (.inr fun t ht=>List.all_eq_true.1 h t ht)
 ·have:=List.all_eq_true.1 h4 k (List.mem_range.2 hk2)
  simp only [Bool.or_eq_true,decide_eq_true_eq] at this
  rcases this with h|h
  ·omega
  ·exact List.all_eq_true.1 h j (List.mem_range.2 hj)
def listedIs (l:Array Bool) (i:Nat):Prop:=l.getD i false=true
theorem mem_ready {ops:Array Oper} {l:Array Bool} (hs:l.size=ops.size) {i:Nat}:i∈Region.ready .any ops l↔i < ops.size∧¬ listedIs l i∧∀ e∈afterOf ops i,listedIs l e:=by
 unfold Region.ready
 simp only [List.mem_filter,List.mem_range]
 constructor
 ·rintro ⟨hi,h⟩
  simp only [Bool.and_eq_true,Bool.not_eq_true'] at h
  obtain ⟨h1,h2⟩:=h
  refine ⟨hi,?_,fun e he=>?_⟩
  ·unfold listedIs
   have:l.getD i true=l.getD i false:=by simp [show i < l.size by omega]
   rw [← this,h1]; simp
  ·unfold afterOf at he
   cases ho:ops[i]? with
   | none=>rw [ho] at he; simp at he
   | some o =>
    rw [ho] at he h2
    simp only [Option.map_some,Option.getD_some,Array.all_eq_true_iff_forall_mem,Bool.or_eq_true,Bool.not_eq_true'] at h2
    obtain ⟨x,hx,rfl⟩:=List.mem_map.1 he
    obtain ⟨hx1,hx2⟩:=List.mem_filter.1 hx
    rcases h2 x (by simpa using hx1) with h|h
    ·rw [hx2] at h; cases h
    ·exact h
 ·rintro ⟨hi,h1,h2⟩
  refine ⟨hi,?_⟩
  simp only [Bool.and_eq_true,Bool.not_eq_true']
  refine ⟨?_,?_⟩
  ·have:l.getD i true=l.getD i false:=by simp [show i < l.size by omega]
   rw [this]; simpa [listedIs] using h1
  ·have ho:ops[i]?=some ops[i]:=Array.getElem?_eq_getElem hi
   rw [ho]
   simp only [Option.map_some,Option.getD_some,Array.all_eq_true_iff_forall_mem,Bool.or_eq_true,Bool.not_eq_true']
   intro e he
   cases hb:Region.binds .any e with
   | false=>exact .inl rfl
   | true =>
    right
    refine h2 e.on ?_
    unfold afterOf
    rw [ho]
    exact List.mem_map.2 ⟨e,List.mem_filter.2 ⟨by simpa using he,hb⟩,rfl⟩
def closed (ops:Array Oper) (l:Array Bool):Prop:=∀ i,i < ops.size→listedIs l i→∀ e∈afterOf ops i,listedIs l e
theorem reach_listed {ops:Array Oper} {l:Array Bool} (hc:closed ops l) (hlt:∀ i,i < ops.size→∀ e∈afterOf ops i,e < i):∀ (f k j:Nat),k < ops.size→(∀ e∈afterOf ops k,listedIs l e)→reach ops f k j=true→listedIs l j
 | 0,k,j,_,_,h=>by simp [reach] at h
 | f+1,k,j,hk,ha,h=>by
  simp only [reach,List.any_eq_true,Bool.or_eq_true,List.contains_iff_mem] at h
  rcases h with h|⟨e,he,h⟩
  ·exact ha j h
  ·have hek:=hlt k hk e he
   exact reach_listed hc hlt f e j (by omega) (hc e (by omega) (ha e he)) h
theorem reachT_listed {ops:Array Oper} {l:Array Bool} (hc:closed ops l) (hlt:∀ i,i < ops.size→∀ e∈afterOf ops i,e < i) (k j:Nat) (hk:k < ops.size) (h:∀ e∈afterOf ops k,listedIs l e) (hr:reachT ops k j=true):listedIs l j:=by
 simp only [reachT,Bool.or_eq_true] at hr
 rcases hr with hr|hr
 ·exact reach_listed hc hlt 2 k j hk h hr
 ·exact reach_listed hc hlt 6 k j hk h hr
theorem listed_set {l:Array Bool} {i j:Nat} (hi:i < l.size):listedIs (l.setIfInBounds i true) j↔j=i∨listedIs l j:=by
 unfold listedIs
 by_cases e:j=i
 ·subst e; simp [hi]
 ·simp [Array.getElem?_setIfInBounds,Ne.symm e,e]
def left (ops:Array Oper) (l:Array Bool):Nat:=((List.range ops.size).filter fun i=>!l.getD i false).length
theorem left_set {ops:Array Oper} {l:Array Bool} (hs:l.size=ops.size) {i:Nat} (hi:i < ops.size) (hn:¬ listedIs l i):left ops (l.setIfInBounds i true) < left ops l:=by
 unfold left
 have key:∀ (r:List Nat),r.Nodup→i∈r→(r.filter fun j=>!(l.setIfInBounds i true).getD j false).length < (r.filter fun j=>!l.getD j false).length:=by
  intro r
  induction r with
  | nil=>intro _ h; simp at h
  | cons x r ih =>
   intro hnd hm
   have hnd':=List.nodup_cons.1 hnd
   have hle:∀ (q:List Nat),(q.filter fun j=>!(l.setIfInBounds i true).getD j false).length≤(q.filter fun j=>!l.getD j false).length:=by
    intro q
    induction q with
    | nil=>simp
    | cons y q ihq =>
     simp only [List.filter_cons]
     have:(!(l.setIfInBounds i true).getD y false)=true→(!l.getD y false)=true:=by
      intro h
      simp only [Bool.not_eq_true'] at h ⊢
      cases hy:l.getD y false with
      | false=>rfl
      | true=>have:=(listed_set (l:=l) (i:=i) (j:=y) (by omega)).2 (.inr hy); unfold listedIs at this; rw [this] at h; cases h
     by_cases h1:(!(l.setIfInBounds i true).getD y false)=true
     ·rw [if_pos h1,if_pos (this h1)]; simpa using ihq
     ·rw [if_neg h1]
      split
      ·simp only [List.length_cons]; omega
      ·exact ihq
   simp only [List.filter_cons]
   rcases List.mem_cons.1 hm with rfl|hm'
   ·have h1:(!(l.setIfInBounds i true).getD i false)=false:=by
     have:i < l.size:=by omega
     simp [this]
    have h2:(!l.getD i false)=true:=by
     cases hx:l.getD i false with
     | false=>rfl
     | true=>exact absurd hx hn
    rw [if_neg (by rw [h1]; decide),if_pos h2]
    simp only [List.length_cons]
    have:=hle r
    omega
   ·have hxi:x≠i:=fun e=>hnd'.1 (e▸hm')
    have h3:(l.setIfInBounds i true).getD x false=l.getD x false:=by simp [Array.getElem?_setIfInBounds,Ne.symm hxi]
    rw [h3]
    have:=ih hnd'.2 hm'
    split
    ·simp only [List.length_cons]; omega
    ·exact this
 exact key _ List.nodup_range (by simpa using hi)
theorem ready_nil {ops:Array Oper} {l:Array Bool} (hs:l.size=ops.size) (hlt:∀ i,i < ops.size→∀ e∈afterOf ops i,e < i) (h:Region.ready .any ops l=[]):∀ i,i < ops.size→listedIs l i:=by
 intro i
 induction i using Nat.strongRecOn with
 | _ i ih =>
  intro hi
  by_cases hl:listedIs l i
  ·exact hl
  ·have:i∈Region.ready .any ops l:=(mem_ready hs).2 ⟨hi,hl,fun e he=>ih e (hlt i hi e he) (by have:=hlt i hi e he; omega)⟩
   rw [h] at this
   simp at this
theorem left_pos {ops:Array Oper} {l:Array Bool} {i:Nat} (hi:i < ops.size) (hn:¬ listedIs l i):0 < left ops l:=by
 unfold left
 refine List.length_pos_iff.2 fun e=>?_
 have:i∈(List.range ops.size).filter fun i=>!l.getD i false:=List.mem_filter.2 ⟨by simpa using hi,by
  cases hx:l.getD i false with
  | false=>rfl
  | true=>exact absurd hx hn⟩
 rw [e] at this
 simp at this
theorem draw_tail {ops:Array Oper} {m:Nat} {wr bads:List (List Nat)} (hd:DrawOk ops m wr bads) {K:TS→Prop} {Q:Exit→Act→World→Prop} {E:Env} (hQ:∀ ts' G' a' w',K ts'→Rel E ts' G' a' w'→Q .normal a' w') :
  ∀ (fuel:Nat) (l:Array Bool) (k:Nat) (ts:TS) (G:Ghost) (a:Act) (w:World),l.size=ops.size→left ops l≤fuel→m≤k→k≤ops.size→(∀ j,j < ops.size→(listedIs l j↔j < k)) →
   SpecOs P ops K (ops.toList.drop k) ts→Rel E ts G a w→wpAny P .any ops Q fuel l a w:=by
 intro fuel
 induction fuel with
 | zero =>
  intro l k ts G a w hs hf hm hk hl h hr
  have hall:∀ j,j < ops.size→listedIs l j:=fun j hj=>by
   by_cases hn:listedIs l j
   ·exact hn
   ·have:=left_pos hj hn; omega
  have hke:k=ops.size:=by
   rcases Nat.lt_or_ge k ops.size with h1|h1
   ·exact absurd ((hl k h1).1 (hall k h1)) (Nat.lt_irrefl k)
   ·omega
  subst hke
  have:ops.toList.drop ops.size=[]:=by simp
  rw [this] at h
  refine ⟨?_,hQ ts G a w h hr⟩
  by_cases e:Region.ready .any ops l=[]
  ·exact e
  ·obtain ⟨i,hi⟩:=List.exists_mem_of_ne_nil _ e
   obtain ⟨h1,h2,_⟩:=(mem_ready hs).1 hi
   exact absurd (hall i h1) h2
 | succ fuel ih =>
  intro l k ts G a w hs hf hm hk hl h hr
  refine ⟨fun hnil=>?_,fun i hi=>?_⟩
  ·have hall:=ready_nil hs hd.lt hnil
   have hke:k=ops.size:=by
    rcases Nat.lt_or_ge k ops.size with h1|h1
    ·exact absurd ((hl k h1).1 (hall k h1)) (Nat.lt_irrefl k)
    ·omega
   subst hke
   have:ops.toList.drop ops.size=[]:=by simp
   rw [this] at h
   exact hQ ts G a w h hr
  ·obtain ⟨hi1,hi2,hi3⟩:=(mem_ready hs).1 hi
   have hik:k≤i:=Nat.le_of_not_lt fun hlt=>hi2 ((hl i hi1).2 hlt)
   have hc:closed ops l:=fun q hq hlq e he=>(hl e (by have:=hd.lt q hq e he; omega)).2 (by have:=hd.lt q hq e he; have:=(hl q hq).1 hlq; omega)
   have hik2:i=k:=by
    rcases Nat.lt_or_ge k i with h1|h1
    ·have:=reachT_listed hc hd.lt i k hi1 hi3 (hd.tail i (by omega) hi1 k h1)
     exact absurd ((hl k (by omega)).1 this) (Nat.lt_irrefl k)
    ·omega
   subst hik2
   have hdrop:ops.toList.drop i=ops[i] :: ops.toList.drop (i+1):=by
    rw [List.drop_eq_getElem_cons (by simpa using hi1)]; simp
   rw [hdrop] at h
   refine SpecG.sound h (Array.getElem?_eq_getElem hi1) hr fun ts' G' a' w' hK hr'=>?_
   refine ih (l.setIfInBounds i true) (i+1) ts' G' a' w' (by simp [hs]) (by have:=left_set hs hi1 hi2; omega) (by omega) hi1 (fun j hj=>?_) hK hr'
   rw [listed_set (by omega),hl j hj]
   omega
def mix (bad:List Nat) (J F:TS):TS :=
 {n:=F.n
  tmp:=fun t=>if bad.contains t then J.tmp t else F.tmp t
  gen:=fun t=>if bad.contains t then J.gen t else F.gen t
  obj:=fun t=>if bad.contains t then J.obj t else F.obj t }
theorem mix_in {bad:List Nat} {J F:TS} {t:Nat} (h:bad.contains t=true):SameSlot (mix bad J F) J t:=by simp only [SameSlot,mix,h,if_true,and_self]
theorem mix_out {bad:List Nat} {J F:TS} {t:Nat} (h:bad.contains t=false):SameSlot (mix bad J F) F t:=by simp only [SameSlot,mix,h,Bool.false_eq_true,if_false,and_self]
theorem SameSlot.symm {a b:TS} {t:Nat} (h:SameSlot a b t):SameSlot b a t:=⟨h.1.symm,h.2.1.symm,h.2.2.symm⟩
theorem SameSlot.trans {a b c:TS} {t:Nat} (h:SameSlot a b t) (k:SameSlot b c t):SameSlot a c t:=⟨h.1.trans k.1,h.2.1.trans k.2.1,h.2.2.trans k.2.2⟩
theorem SameSlot.rfl' {a:TS} {t:Nat}:SameSlot a a t:=⟨rfl,rfl,rfl⟩
def DrawInv (m:Nat) (wr:List (List Nat)) (F:Nat→TS) (l:Array Bool) (ts:TS):Prop :=
 ts.n=(F 0).n∧∀ t k,k≤m→(∀ j,j < k→t∈wr.getD j []→listedIs l j)→(∀ j,k≤j→j < m→t∈wr.getD j []→¬ listedIs l j)→SameSlot ts (F k) t
theorem seq_same {m:Nat} {wr:List (List Nat)} {F:Nat→TS} (hF:∀ i,i < m→∀ t,t ∉ wr.getD i []→SameSlot (F (i+1)) (F i) t) {t:Nat}:∀ (q i:Nat),i+q≤m→(∀ j,i≤j→j < i+q→t ∉ wr.getD j [])→SameSlot (F (i+q)) (F i) t
 | 0,_,_,_=>SameSlot.rfl'
 | q+1,i,h,hj=>(hF (i+q) (by omega) t (hj (i+q) (by omega) (by omega))).trans (seq_same hF q i (by omega) fun j h1 h2=>hj j h1 (by omega))
theorem draw_pre {ops:Array Oper} {m:Nat} {wr bads:List (List Nat)} (hd:DrawOk ops m wr bads) {K:TS→Prop} {Q:Exit→Act→World→Prop} {E:Env} (hQ:∀ ts' G' a' w',K ts'→Rel E ts' G' a' w'→Q .normal a' w')
  {F:Nat→TS} (hn:∀ k,k≤m→(F k).n=(F 0).n) (hF:∀ i,i < m→∀ t,t ∉ wr.getD i []→SameSlot (F (i+1)) (F i) t)
  (hop:∀ i (hi:i < ops.size),i < m→∀ ts1:TS,ts1.n=(F 0).n→(∀ t,(bads.getD i []).contains t=false→SameSlot ts1 (F i) t)→SpecG P ops ops[i] ts1 (fun ts'=>ts'=mix (wr.getD i []) (F (i+1)) ts1))
  (htail:SpecOs P ops K (ops.toList.drop m) (F m)) :
  ∀ (fuel:Nat) (l:Array Bool) (ts:TS) (G:Ghost) (a:Act) (w:World),l.size=ops.size→left ops l≤fuel→closed ops l→(∀ j,j < ops.size→m≤j→¬ listedIs l j) →
   DrawInv m wr F l ts→Rel E ts G a w→wpAny P .any ops Q fuel l a w:=by
 have sameF:∀ (l:Array Bool) (ts:TS),(∀ j,j < m→listedIs l j)→DrawInv m wr F l ts→ts=F m:=fun l ts hall hi =>
  ts_ext (by rw [hi.1,hn m (Nat.le_refl _)]) fun t=>hi.2 t m (Nat.le_refl _) (fun j hj _=>hall j hj) fun j h1 h2=>by omega
 intro fuel
 induction fuel with
 | zero =>
  intro l ts G a w hs hf hc htl hinv hr
  have hall:∀ j,j < ops.size→listedIs l j:=fun j hj=>by
   by_cases hx:listedIs l j
   ·exact hx
   ·have:=left_pos hj hx; omega
  have hme:m=ops.size:=by
   rcases Nat.lt_or_ge m ops.size with h|h
   ·exact absurd (hall m h) (htl m h (Nat.le_refl _))
   ·have:=hd.le; omega
  have heq:=sameF l ts (fun j hj=>hall j (by have:=hd.le; omega)) hinv
  subst heq
  have hdr:ops.toList.drop m=[]:=by rw [hme]; simp
  rw [hdr] at htail
  refine ⟨?_,hQ _ G a w htail hr⟩
  by_cases e:Region.ready .any ops l=[]
  ·exact e
  ·obtain ⟨i,hi⟩:=List.exists_mem_of_ne_nil _ e
   obtain ⟨q1,q2,_⟩:=(mem_ready hs).1 hi
   exact absurd (hall i q1) q2
 | succ fuel ih =>
  intro l ts G a w hs hf hc htl hinv hr
  refine ⟨fun hnil=>?_,fun i hi=>?_⟩
  ·have hall:=ready_nil hs hd.lt hnil
   have hme:m=ops.size:=by
    rcases Nat.lt_or_ge m ops.size with h|h
    ·exact absurd (hall m h) (htl m h (Nat.le_refl _))
    ·have:=hd.le; omega
   have heq:=sameF l ts (fun j hj=>hall j (by have:=hd.le; omega)) hinv
   subst heq
   have hdr:ops.toList.drop m=[]:=by rw [hme]; simp
   rw [hdr] at htail
   exact hQ _ G a w htail hr
  ·obtain ⟨hi1,hi2,hi3⟩:=(mem_ready hs).1 hi
   have hbefore:∀ j,reach ops 2 i j=true→listedIs l j:=fun j h=>reach_listed hc hd.lt 2 i j hi1 hi3 h
   have hnot:∀ j,j < ops.size→reach ops 2 j i=true→¬ listedIs l j:=fun j hj h hlj=>hi2 (reach_listed hc hd.lt 2 j i hj (hc j hj hlj) h)
   by_cases him:i < m
   ·have hord:∀ j,j < m→i≠j→∀ t∈wr.getD j [],(bads.getD i []).contains t=false→(j < i→listedIs l j)∧(i < j→¬ listedIs l j):=by
     intro j hj hne t ht hb
     rcases hd.ord i him j hj hne with ⟨h1,h2⟩|⟨h1,h2⟩|h
     ·exact ⟨fun _=>hbefore j h2,fun h=>by omega⟩
     ·exact ⟨fun h=>by omega,fun _=>hnot j (by have:=hd.le; omega) h2⟩
     ·rw [h t ht] at hb; cases hb
    have hreads:∀ t,(bads.getD i []).contains t=false→SameSlot ts (F i) t:=fun t ht =>
     hinv.2 t i (by omega) (fun j hj hw=>(hord j (by omega) (by omega) t hw ht).1 hj) fun j h1 h2 hw=>by
      by_cases hji:i=j
      ·subst hji; exact hi2
      ·exact (hord j h2 hji t hw ht).2 (by omega)
    refine SpecG.sound (hop i hi1 him ts hinv.1 hreads) (Array.getElem?_eq_getElem hi1) hr fun ts' G' a' w' hK hr'=>?_
    subst hK
    refine ih (l.setIfInBounds i true) (mix (wr.getD i []) (F (i+1)) ts) G' a' w' (by simp [hs]) (by have:=left_set hs hi1 hi2; omega) ?_ ?_ ⟨hinv.1,fun t k hk h1 h2=>?_⟩ hr'
    ·intro q hq hlq e he
     rw [listed_set (by omega)] at hlq ⊢
     rcases hlq with rfl|hlq
     ·exact .inr (hi3 e he)
     ·exact .inr (hc q hq hlq e he)
    ·intro j hj hmj hlj
     rw [listed_set (by omega)] at hlj
     rcases hlj with rfl|hlj
     ·omega
     ·exact htl j hj hmj hlj
    ·by_cases htw:t∈wr.getD i []
     ·have hik:i < k:=by
       rcases Nat.lt_or_ge i k with h|h
       ·exact h
       ·exact absurd ((listed_set (by omega)).2 (.inl rfl)) (h2 i h him htw)
      have a1:SameSlot (mix (wr.getD i []) (F (i+1)) ts) (F (i+1)) t:=mix_in (List.contains_iff_mem.2 htw)
      refine a1.trans (SameSlot.symm ?_)
      have:=seq_same hF (t:=t) (k - (i+1)) (i+1) (by omega) fun j h3 h4 hw=>by
       have hlj:=(listed_set (i:=i) (by omega)).1 (h1 j (by omega) hw)
       rcases hlj with h|h
       ·omega
       ·exact (hord j (by omega) (by omega) t hw (hd.own i him t htw)).2 (by omega) h
      rwa [show i+1+(k - (i+1))=k by omega] at this
     ·have a1:SameSlot (mix (wr.getD i []) (F (i+1)) ts) ts t:=mix_out (by
       cases h:(wr.getD i []).contains t with
       | false=>rfl
       | true=>exact absurd (List.contains_iff_mem.1 h) htw)
      refine a1.trans (hinv.2 t k hk (fun j hj hw=>?_) fun j h3 h4 hw hl=>h2 j h3 h4 hw ((listed_set (by omega)).2 (.inr hl)))
      rcases (listed_set (i:=i) (by omega)).1 (h1 j hj hw) with h|h
      ·subst h; exact absurd hw htw
      ·exact h
   ·have hmi:m≤i:=Nat.le_of_not_lt him
    have hall:∀ j,j < i→listedIs l j:=fun j hj=>reachT_listed hc hd.lt i j hi1 hi3 (hd.tail i hmi hi1 j hj)
    have hmi2:m=i:=by
     rcases Nat.lt_or_ge m i with h|h
     ·exact absurd (hall m h) (htl m (by omega) (Nat.le_refl _))
     ·omega
    subst hmi2
    have heq:=sameF l ts (fun j hj=>hall j hj) hinv
    subst heq
    have hdrop:ops.toList.drop m=ops[m] :: ops.toList.drop (m+1):=by
     rw [List.drop_eq_getElem_cons (by simpa using hi1)]; simp
    rw [hdrop] at htail
    refine SpecG.sound htail (Array.getElem?_eq_getElem hi1) hr fun ts' G' a' w' hK hr'=>?_
    refine draw_tail hd hQ fuel (l.setIfInBounds m true) (m+1) ts' G' a' w' (by simp [hs]) (by have:=left_set hs hi1 hi2; omega) (by omega) hi1 (fun j hj=>?_) hK hr'
    rw [listed_set (by omega)]
    constructor
    ·rintro (rfl|hlj)
     ·omega
     ·rcases Nat.lt_or_ge j m with h|h
      ·omega
      ·exact absurd hlj (htl j hj h)
    ·intro hj2
     rcases Nat.lt_or_ge j m with h|h
     ·exact .inr (hall j h)
     ·exact .inl (by omega)
end Go.Proofs.YtmjkjmoeicnbnaaGreatDoor.Lg
namespace Go.Proofs.YtmjkjmoeicnbnaaGreatDoor.Lg
set_option maxRecDepth 100000
set_option linter.unusedVariables false
set_option linter.unusedSimpArgs false
open Go
variable {P:Program}
def PreOk (P:Program) (ops:Array Oper) (wr bads:List (List Nat)) (C:TS→Prop):Nat→List Oper→TS→Prop
 | _,[],F=>C F
 | i,o :: l,F=>∃ F',F'.n=F.n∧(∀ t,t ∉ wr.getD i []→SameSlot F' F t)∧(∀ J,SpecG P ops o (mix (bads.getD i []) J F) (fun ts'=>ts'=mix (wr.getD i []) F' (mix (bads.getD i []) J F)))∧PreOk P ops wr bads C (i+1) l F'
structure Loc (ws:List Nat) (g:TS→TS):Prop where
 n:∀ A,(g A).n=A.n
 off:∀ A t,t ∉ ws→SameSlot (g A) A t
 on:∀ A B t,t∈ws→(∀ s∈ws,SameSlot A B s)→SameSlot (g A) (g B) t
theorem Loc.put (d:Nat) (x:AV):Loc [d] (fun A=>A.put d x) where
 n _:=rfl
 off A t h:=by
  have h:t≠d:=by simpa using h
  simp [SameSlot,TS.put,upd,h]
 on A B t h k:=by
  have h:t=d:=by simpa using h
  subst h
  have:=k t (by simp)
  exact ⟨by simp [TS.put],this.2.1,this.2.2⟩
theorem Loc.new (d:Nat) (ob:Ob):Loc [d] (fun A=>A.new d ob) where
 n _:=rfl
 off A t h:=by
  have h:t≠d:=by simpa using h
  simp [SameSlot,TS.new,upd,h]
 on A B t h k:=by
  have h:t=d:=by simpa using h
  subst h
  have:=k t (by simp)
  refine ⟨this.1,?_,by simp [TS.new]⟩
  show (A.new t ob).gen t=(B.new t ob).gen t
  simp only [TS.new,upd_same,this.2.1]
theorem Loc.setObj (d:Nat) (ob:Ob):Loc [d] (fun A=>A.setObj d ob) where
 n _:=rfl
 off A t h:=by
  have h:t≠d:=by simpa using h
  simp [SameSlot,TS.setObj,upd,h]
 on A B t h k:=by
  have h:t=d:=by simpa using h
  subst h
  have:=k t (by simp)
  exact ⟨this.1,this.2.1,by simp [TS.setObj]⟩
theorem Loc.kill (d:Nat):Loc [d] (fun A=>A.kill d) where
 n _:=rfl
 off A t h:=by
  have h:t≠d:=by simpa using h
  simp [SameSlot,TS.kill,TS.setObj,upd,h]
 on A B t h k:=by
  have h:t=d:=by simpa using h
  subst h
  have:=k t (by simp)
  exact ⟨this.1,this.2.1,by simp [TS.kill,TS.setObj]⟩
theorem Loc.comp {ws:List Nat} {g h:TS→TS} (hg:Loc ws g) (hh:Loc ws h):Loc ws (fun A=>h (g A)) where
 n A:=(hh.n _).trans (hg.n A)
 off A t ht:=(hh.off _ t ht).trans (hg.off A t ht)
 on A B t ht k:=hh.on _ _ t ht fun s hs=>hg.on A B s hs k
theorem Loc.wide {ws vs:List Nat} {g:TS→TS} (hg:Loc ws g) (h:∀ t∈ws,t∈vs):Loc vs g where
 n:=hg.n
 off A t ht:=hg.off A t fun k=>ht (h t k)
 on A B t ht k:=by
  by_cases hw:t∈ws
  ·exact hg.on A B t hw fun s hs=>k s (h s hs)
  ·exact ((hg.off A t hw).trans (k t ht)).trans (hg.off B t hw).symm
theorem loc_mix {ws bad:List Nat} {g:TS→TS} (hg:Loc ws g) (hb:ws.all (fun t=>!bad.contains t)=true) (J F:TS):g (mix bad J F)=mix ws (g F) (mix bad J F):=by
 have hb:∀ t∈ws,bad.contains t=false:=fun t ht=>by
  have:=List.all_eq_true.1 hb t ht
  simpa using this
 refine ts_ext (hg.n _) fun t=>?_
 by_cases ht:t∈ws
 ·exact (hg.on _ F t ht fun s hs=>mix_out (hb s hs)).trans (mix_in (List.contains_iff_mem.2 ht)).symm
 ·refine (hg.off _ t ht).trans (mix_out ?_).symm
  cases h:ws.contains t with
  | false=>rfl
  | true=>exact absurd (List.contains_iff_mem.1 h) ht
section
variable {ops:Array Oper} {wr bads:List (List Nat)} {C:TS→Prop} {i:Nat} {o:Oper} {l:List Oper} {F:TS}
theorem PreOk.nil (h:C F):PreOk P ops wr bads C i [] F:=h
theorem PreOk.loc {ws bad:List Nat} {g:TS→TS} (hw:wr.getD i []=ws) (hbd:bads.getD i []=bad) (hg:Loc ws g) (hb:ws.all (fun t=>!bad.contains t)=true)
  (h:∀ J,SpecG P ops o (mix bad J F) (fun ts'=>ts'=g (mix bad J F))) (hl:PreOk P ops wr bads C (i+1) l (g F)):PreOk P ops wr bads C i (o :: l) F:=by
 subst hw hbd
 refine ⟨g F,hg.n F,fun t ht=>hg.off F t ht,fun J=>?_,hl⟩
 rw [← loc_mix hg hb]
 exact h J
end
theorem pre_run {ops:Array Oper} {wr bads:List (List Nat)} {m:Nat} (hle:m≤ops.size) {C:TS→Prop}:∀ (k i:Nat) (F:TS),i+k=m→PreOk P ops wr bads C i ((ops.toList.take m).drop i) F →
  ∃ Fs:Nat→TS,Fs i=F∧C (Fs m)∧∀ q (hq:q < ops.size),i≤q→q < m→(Fs (q+1)).n=(Fs q).n∧(∀ t,t ∉ wr.getD q []→SameSlot (Fs (q+1)) (Fs q) t) ∧
   ∀ J,SpecG P ops ops[q] (mix (bads.getD q []) J (Fs q)) (fun ts'=>ts'=mix (wr.getD q []) (Fs (q+1)) (mix (bads.getD q []) J (Fs q)))
 | 0,i,F,hik,h=>by
  have:(ops.toList.take m).drop i=[]:=List.drop_eq_nil_of_le (by simp; omega)
  rw [this] at h
  exact ⟨fun _=>F,rfl,h,fun q _ h1 h2=>by omega⟩
 | k+1,i,F,hik,h=>by
  have hi:i < ops.size:=by omega
  have hdrop:(ops.toList.take m).drop i=ops[i] :: (ops.toList.take m).drop (i+1):=by
   rw [List.drop_eq_getElem_cons (by simp; omega)]
   simp
  rw [hdrop] at h
  obtain ⟨F',h1,h2,h3,h4⟩:=h
  obtain ⟨Fs,g1,g2,g3⟩:=pre_run hle k (i+1) F' (by omega) h4
  refine ⟨fun q=>if q≤i then F else Fs q,by simp,by simp only [show ¬ m≤i by omega,if_false]; exact g2,fun q hq hq1 hq2=>?_⟩
  by_cases hqi:q=i
  ·subst hqi
   simp only [Nat.le_refl,if_true,show ¬ q+1≤q by omega,if_false,g1]
   exact ⟨h1,h2,h3⟩
  ·simp only [show ¬ q≤i by omega,show ¬ q+1≤i by omega,if_false]
   exact g3 q hq (by omega) hq2
theorem SpecC.drawP (hmix:P.follows .mixedOrders=true) (id:Nat) {ops:Array Oper} {ts:TS} {Q:Exit→TS→Prop} (m:Nat) (wr bads:List (List Nat)) (hc:drawChk ops m wr bads=true)
  (h:PreOk P ops wr bads (SpecOs P ops (Q .normal) (ops.toList.drop m)) 0 (ops.toList.take m) ts):SpecC P (.region id ops true) ts Q:=by
 have hd:=drawChk_spec hc
 obtain ⟨Fs,g1,g2,g3⟩:=pre_run hd.le (C:=SpecOs P ops (Q .normal) (ops.toList.drop m)) m 0 ts (by omega) (by simpa using h)
 have hn:∀ k,k≤m→(Fs k).n=(Fs 0).n:=by
  intro k
  induction k with
  | zero=>intro _; rfl
  | succ k ih=>intro hk; exact (g3 k (by have:=hd.le; omega) (Nat.zero_le _) (by omega)).1.trans (ih (by omega))
 intro E G a w hr
 refine wp_region_any hmix ?_
 have hlist:∀ j,¬ listedIs (Array.replicate ops.size false) j:=fun j=>by
  unfold listedIs
  by_cases h:j < ops.size<;>simp [h]
 refine draw_pre hd (E:=E) (K:=Q .normal) (Q:=fun ex a' w'=>∃ ts' G',Q ex ts'∧Rel E ts' G' a' w') (fun ts' G' a' w' hK hr'=>⟨ts',G',hK,hr'⟩) hn
  (fun i hi t ht=>(g3 i (by have:=hd.le; omega) (Nat.zero_le _) hi).2.1 t ht) (fun i hi him ts1 hn1 hag=>?_) g2 ops.size _ ts G a { w with drawn:=w.drawn+1 } (by simp)
  (by unfold left; exact Nat.le_trans (List.length_filter_le _ _) (by simp)) (fun i _ hl=>absurd hl (hlist i)) (fun j _ _=>hlist j) ⟨by rw [g1],fun t k hk h1 h2=>?_⟩ hr.drew
 ·have:=(g3 i hi (Nat.zero_le _) him).2.2 ts1
  have he:mix (bads.getD i []) ts1 (Fs i)=ts1:=by
   refine ts_ext (by show (Fs i).n=ts1.n; rw [hn i (by omega),hn1]) fun t=>?_
   cases hb:(bads.getD i []).contains t with
   | true=>exact mix_in hb
   | false=>exact (mix_out hb).trans (hag t hb).symm
  rw [he] at this
  exact this
 ·have hF:∀ i,i < m→∀ t,t ∉ wr.getD i []→SameSlot (Fs (i+1)) (Fs i) t:=fun i hi t ht=>(g3 i (by have:=hd.le; omega) (Nat.zero_le _) hi).2.1 t ht
  have:=seq_same hF (t:=t) k 0 (by omega) fun j _ h4 hw=>hlist j (h1 j (by omega) hw)
  rw [Nat.zero_add,g1] at this
  exact this.symm
section
variable (bad:List Nat) (J F:TS) (t:Nat)
@[go_sem] theorem n_mix:(mix bad J F).n=F.n:=rfl
@[go_sem] theorem tmp_mix:(mix bad J F).tmp t=if bad.contains t then J.tmp t else F.tmp t:=rfl
@[go_sem] theorem gen_mix:(mix bad J F).gen t=if bad.contains t then J.gen t else F.gen t:=rfl
@[go_sem] theorem obj_mix:(mix bad J F).obj t=if bad.contains t then J.obj t else F.obj t:=rfl
end
end Go.Proofs.YtmjkjmoeicnbnaaGreatDoor.Lg
namespace Go.Proofs.YtmjkjmoeicnbnaaGreatDoor.Lg
set_option maxRecDepth 100000
set_option linter.unusedVariables false
set_option linter.unusedSimpArgs false
open Go
class Dat (α:Type) where
 av:α→AV
 sz:Nat
 len:∀ x,(av x).cells.length=sz
 pure:∀ x,(av x).pure=true
 nrm:∀ x,(av x).nrm=av x
 one:∀ x,(av x).cells.all AV.one=true
 known:∀ x,(av x).known=true
def avs {α:Type} [Dat α] (l:List α):List AV:=l.map Dat.av
section
variable {α:Type} [Dat α] (l r:List α)
theorem pureL_map:AV.pure.pureL (avs l)=true:=by
 induction l with
 | nil=>rfl
 | cons x r ih=>simp only [avs,List.map_cons,AV.pure.pureL,Dat.pure,Bool.true_and]; exact ih
theorem nrmL_map:AV.nrm.nrmL (avs l)=avs l:=by
 induction l with
 | nil=>rfl
 | cons x r ih=>simp only [avs,List.map_cons,AV.nrm.nrmL,Dat.nrm]; exact congrArg _ ih
@[go_sem] theorem pureL_avs:AV.pure.pureL (avs l)=true:=pureL_map l
@[go_sem] theorem nrmL_avs:AV.nrm.nrmL (avs l)=avs l:=nrmL_map l
@[go_sem] theorem len_avs:(avs l).length=l.length:=by simp [avs]
theorem avs_nil:avs ([]:List α)=[]:=rfl
theorem avs_append:avs (l++r)=avs l++avs r:=by simp [avs]
theorem avs_cons (x:α):avs (x :: r)=Dat.av x :: avs r:=rfl
@[go_sem] theorem avs_take (n:Nat):(avs l).take n=avs (l.take n):=by simp [avs]
@[go_sem] theorem avs_drop (n:Nat):(avs l).drop n=avs (l.drop n):=by simp [avs]
theorem avs_set (n:Nat) (x:α):(avs l).set n (Dat.av x)=avs (l.set n x):=by simp [avs]
@[go_sem] theorem avs_get (n:Nat) (h:n < l.length):(avs l).getD n .any=Dat.av l[n]:=by simp [avs,h]
theorem avs_get? (n:Nat) (x:α) (h:l[n]?=some x):(avs l).getD n .any=Dat.av x:=by simp [avs,h]
@[go_sem] theorem cellsLen_avs (n:Nat) (h:Dat.sz α=n):(∀ y∈avs l,y.cells.length=n)↔True:=by
 simp only [iff_true]
 intro y hy
 obtain ⟨x,_,rfl⟩:=List.mem_map.1 hy
 rw [Dat.len,h]
@[go_sem] theorem ones_avs:(∀ y∈avs l,y.cells.all AV.one=true)↔True:=by
 simp only [iff_true]
 intro y hy
 obtain ⟨x,_,rfl⟩:=List.mem_map.1 hy
 exact Dat.one x
end
instance:Dat Int where
 av n:=.int .i64 n
 sz:=1
 len _:=rfl
 pure _:=rfl
 nrm _:=rfl
 one _:=rfl
 known _:=rfl
instance:Dat UInt8 where
 av n:=.int .u8 n.toNat
 sz:=1
 len _:=rfl
 pure _:=rfl
 nrm _:=rfl
 one _:=rfl
 known _:=rfl
instance:Dat Bool where
 av n:=.bool n
 sz:=1
 len _:=rfl
 pure _:=rfl
 nrm _:=rfl
 one _:=rfl
 known _:=rfl
instance:Dat (List UInt8) where
 av n:=.str n
 sz:=1
 len _:=rfl
 pure _:=rfl
 nrm _:=rfl
 one _:=rfl
 known _:=rfl
@[go_sem] theorem av_int (n:Int):Dat.av n=.int .i64 n:=rfl
@[go_sem] theorem av_bool (b:Bool):Dat.av b=.bool b:=rfl
@[go_sem] theorem av_u8 (b:UInt8):Dat.av b=.int .u8 b.toNat:=rfl
@[go_sem] theorem av_str (b:List UInt8):Dat.av b=.str b:=rfl
@[go_sem] theorem set_Int (l:List Int) (n:Nat) (a:Int):(avs l).set n (.int .i64 a)=avs (l.set n a):=avs_set l n a
@[go_sem] theorem set_Bool (l:List Bool) (n:Nat) (a:Bool):(avs l).set n (.bool a)=avs (l.set n a):=avs_set l n a
@[go_sem] theorem set_Str (l:List (List UInt8)) (n:Nat) (a:List UInt8):(avs l).set n (.str a)=avs (l.set n a):=avs_set l n a
@[go_sem] theorem set_U8 (l:List UInt8) (n:Nat) (a:UInt8):(avs l).set n (.int .u8 a.toNat)=avs (l.set n a):=avs_set l n a
@[go_sem] theorem snoc_Int (l:List Int) (a:Int):avs l++[.int .i64 a]=avs (l++[a]):=by rw [avs_append]; rfl
@[go_sem] theorem snoc_Bool (l:List Bool) (a:Bool):avs l++[.bool a]=avs (l++[a]):=by rw [avs_append]; rfl
@[go_sem] theorem snoc_Str (l:List (List UInt8)) (a:List UInt8):avs l++[.str a]=avs (l++[a]):=by rw [avs_append]; rfl
@[go_sem] theorem snoc_U8 (l:List UInt8) (a:UInt8):avs l++[.int .u8 a.toNat]=avs (l++[a]):=by rw [avs_append]; rfl
@[go_sem] theorem avs_app {α:Type} [Dat α] (l r:List α):avs l++avs r=avs (l++r):=(avs_append l r).symm
@[go_sem] theorem flatL_Int:∀ l:List Int,AV.flat.flatL (avs l)=true
 | []=>rfl
 | _ :: r=>by simp only [avs_cons,AV.flat.flatL,flatL_Int r,av_int,AV.flat,Bool.and_self]
@[go_sem] theorem flatL_Str:∀ l:List (List UInt8),AV.flat.flatL (avs l)=true
 | []=>rfl
 | _ :: r=>by simp only [avs_cons,AV.flat.flatL,flatL_Str r,av_str,AV.flat,Bool.and_self]
@[go_sem] theorem sz_int:Dat.sz Int=1:=rfl
@[go_sem] theorem sz_u8:Dat.sz UInt8=1:=rfl
@[go_sem] theorem sz_bool:Dat.sz Bool=1:=rfl
@[go_sem] theorem sz_str:Dat.sz (List UInt8)=1:=rfl
@[go_sem] theorem cast0:((0:Nat):Int)=0:=rfl
@[go_sem] theorem natneg (k:Nat):((k:Int) < 0)=False:=by simp only [eq_iff_iff,iff_false]; omega
@[go_sem] theorem getD_set (l:List AV) (i:Nat) (x:AV) (h:i < l.length):(l.set i x).getD i .any=x:=by simp [h]
@[go_sem] theorem getD_set_ne (l:List AV) (i j:Nat) (x:AV) (h:¬ i=j):(l.set i x).getD j .any=l.getD j .any:=by simp [List.getElem?_set_ne h]
@[go_sem] theorem length_set' (l:List AV) (i:Nat) (x:AV):(l.set i x).length=l.length:=by simp
@[go_sem] theorem toNat_pred (n:Nat):((n:Int) - 1).toNat=n - 1:=by omega
@[go_sem] theorem pred_neg (n:Nat):((n:Int) - 1 < 0)=¬ 0 < n:=by apply propext; omega
@[go_sem] theorem pred_nonneg (n:Nat):(0≤(n:Int) - 1)=(0 < n):=by apply propext; omega
@[go_sem] theorem pred_ltI (n:Nat):((n:Int) - 1 < n)=True:=by simp only [eq_iff_iff,iff_true]; omega
@[go_sem] theorem pred_ltN (n:Nat) (h:0 < n):(n - 1 < n)=True:=by simp only [eq_iff_iff,iff_true]; omega
@[go_sem] theorem pred_ltI2 (k n:Nat) (h:k≤n):((k:Int) - 1 < n)=True:=by simp only [eq_iff_iff,iff_true]; omega
@[go_sem] theorem pred_ltN2 (k n:Nat) (h:k≤n) (h0:0 < k):(k - 1 < n)=True:=by simp only [eq_iff_iff,iff_true]; omega
theorem lit_lt (k n:Nat):((@OfNat.ofNat Int k instOfNat) < (n:Int))=((@OfNat.ofNat Nat k (instOfNatNat k)) < n):=propext (show ((k:Nat):Int) < n↔k < n from Int.ofNat_lt)
theorem lit_le (k n:Nat):((@OfNat.ofNat Int k instOfNat)≤(n:Int))=((@OfNat.ofNat Nat k (instOfNatNat k))≤n):=propext (show ((k:Nat):Int)≤n↔k≤n from Int.ofNat_le)
theorem lt_lit (k n:Nat):((n:Int) < (@OfNat.ofNat Int k instOfNat))=(n < (@OfNat.ofNat Nat k (instOfNatNat k))):=propext (show (n:Int) < ((k:Nat):Int)↔n < k from Int.ofNat_lt)
theorem le_lit (k n:Nat):((n:Int)≤(@OfNat.ofNat Int k instOfNat))=(n≤(@OfNat.ofNat Nat k (instOfNatNat k))):=propext (show (n:Int)≤((k:Nat):Int)↔n≤k from Int.ofNat_le)
theorem eq_lit (k n:Nat):((n:Int)=(@OfNat.ofNat Int k instOfNat))=(n=(@OfNat.ofNat Nat k (instOfNatNat k))):=propext (show (n:Int)=((k:Nat):Int)↔n=k from Int.ofNat_inj)
@[go_sem] theorem lit1a (n:Nat):((1:Int) < n)=(1 < n):=lit_lt 1 n
@[go_sem] theorem lit1b (n:Nat):((1:Int)≤n)=(1≤n):=lit_le 1 n
@[go_sem] theorem lit1c (n:Nat):((n:Int) < 1)=(n < 1):=lt_lit 1 n
@[go_sem] theorem lit1d (n:Nat):((n:Int)≤1)=(n≤1):=le_lit 1 n
@[go_sem] theorem lit1e (n:Nat):((n:Int)=1)=(n=1):=eq_lit 1 n
@[go_sem] theorem lit2a (n:Nat):((2:Int) < n)=(2 < n):=lit_lt 2 n
@[go_sem] theorem lit2b (n:Nat):((2:Int)≤n)=(2≤n):=lit_le 2 n
@[go_sem] theorem lit2c (n:Nat):((n:Int) < 2)=(n < 2):=lt_lit 2 n
@[go_sem] theorem lit2d (n:Nat):((n:Int)≤2)=(n≤2):=le_lit 2 n
@[go_sem] theorem lit2e (n:Nat):((n:Int)=2)=(n=2):=eq_lit 2 n
@[go_sem] theorem lit3a (n:Nat):((3:Int) < n)=(3 < n):=lit_lt 3 n
@[go_sem] theorem lit3b (n:Nat):((3:Int)≤n)=(3≤n):=lit_le 3 n
@[go_sem] theorem lit3c (n:Nat):((n:Int) < 3)=(n < 3):=lt_lit 3 n
@[go_sem] theorem lit3d (n:Nat):((n:Int)≤3)=(n≤3):=le_lit 3 n
@[go_sem] theorem lit3e (n:Nat):((n:Int)=3)=(n=3):=eq_lit 3 n
@[go_sem] theorem lit4a (n:Nat):((4:Int) < n)=(4 < n):=lit_lt 4 n
@[go_sem] theorem lit4b (n:Nat):((4:Int)≤n)=(4≤n):=lit_le 4 n
@[go_sem] theorem lit4c (n:Nat):((n:Int) < 4)=(n < 4):=lt_lit 4 n
@[go_sem] theorem lit4d (n:Nat):((n:Int)≤4)=(n≤4):=le_lit 4 n
@[go_sem] theorem lit4e (n:Nat):((n:Int)=4)=(n=4):=eq_lit 4 n
@[go_sem] theorem lit8a (n:Nat):((8:Int) < n)=(8 < n):=lit_lt 8 n
@[go_sem] theorem lit8b (n:Nat):((8:Int)≤n)=(8≤n):=lit_le 8 n
@[go_sem] theorem lit8c (n:Nat):((n:Int) < 8)=(n < 8):=lt_lit 8 n
@[go_sem] theorem lit8d (n:Nat):((n:Int)≤8)=(n≤8):=le_lit 8 n
@[go_sem] theorem lit8e (n:Nat):((n:Int)=8)=(n=8):=eq_lit 8 n
@[go_sem] theorem lit12a (n:Nat):((12:Int) < n)=(12 < n):=lit_lt 12 n
@[go_sem] theorem lit12b (n:Nat):((12:Int)≤n)=(12≤n):=lit_le 12 n
@[go_sem] theorem lit12c (n:Nat):((n:Int) < 12)=(n < 12):=lt_lit 12 n
@[go_sem] theorem lit12d (n:Nat):((n:Int)≤12)=(n≤12):=le_lit 12 n
@[go_sem] theorem lit12e (n:Nat):((n:Int)=12)=(n=12):=eq_lit 12 n
@[go_sem] theorem lit16a (n:Nat):((16:Int) < n)=(16 < n):=lit_lt 16 n
@[go_sem] theorem lit16b (n:Nat):((16:Int)≤n)=(16≤n):=lit_le 16 n
@[go_sem] theorem lit16c (n:Nat):((n:Int) < 16)=(n < 16):=lt_lit 16 n
@[go_sem] theorem lit16d (n:Nat):((n:Int)≤16)=(n≤16):=le_lit 16 n
@[go_sem] theorem lit16e (n:Nat):((n:Int)=16)=(n=16):=eq_lit 16 n
@[go_sem] theorem lit20a (n:Nat):((20:Int) < n)=(20 < n):=lit_lt 20 n
@[go_sem] theorem lit20b (n:Nat):((20:Int)≤n)=(20≤n):=lit_le 20 n
@[go_sem] theorem lit20c (n:Nat):((n:Int) < 20)=(n < 20):=lt_lit 20 n
@[go_sem] theorem lit20d (n:Nat):((n:Int)≤20)=(n≤20):=le_lit 20 n
@[go_sem] theorem lit20e (n:Nat):((n:Int)=20)=(n=20):=eq_lit 20 n
@[go_sem] theorem lit40a (n:Nat):((40:Int) < n)=(40 < n):=lit_lt 40 n
@[go_sem] theorem lit40b (n:Nat):((40:Int)≤n)=(40≤n):=lit_le 40 n
@[go_sem] theorem lit40c (n:Nat):((n:Int) < 40)=(n < 40):=lt_lit 40 n
@[go_sem] theorem lit40d (n:Nat):((n:Int)≤40)=(n≤40):=le_lit 40 n
@[go_sem] theorem lit40e (n:Nat):((n:Int)=40)=(n=40):=eq_lit 40 n
@[go_sem] theorem lit60a (n:Nat):((60:Int) < n)=(60 < n):=lit_lt 60 n
@[go_sem] theorem lit60b (n:Nat):((60:Int)≤n)=(60≤n):=lit_le 60 n
@[go_sem] theorem lit60c (n:Nat):((n:Int) < 60)=(n < 60):=lt_lit 60 n
@[go_sem] theorem lit60d (n:Nat):((n:Int)≤60)=(n≤60):=le_lit 60 n
@[go_sem] theorem lit60e (n:Nat):((n:Int)=60)=(n=60):=eq_lit 60 n
@[go_sem] theorem lit64a (n:Nat):((64:Int) < n)=(64 < n):=lit_lt 64 n
@[go_sem] theorem lit64b (n:Nat):((64:Int)≤n)=(64≤n):=lit_le 64 n
@[go_sem] theorem lit64c (n:Nat):((n:Int) < 64)=(n < 64):=lt_lit 64 n
@[go_sem] theorem lit64d (n:Nat):((n:Int)≤64)=(n≤64):=le_lit 64 n
@[go_sem] theorem lit64e (n:Nat):((n:Int)=64)=(n=64):=eq_lit 64 n
@[go_sem] theorem lit80a (n:Nat):((80:Int) < n)=(80 < n):=lit_lt 80 n
@[go_sem] theorem lit80b (n:Nat):((80:Int)≤n)=(80≤n):=lit_le 80 n
@[go_sem] theorem lit80c (n:Nat):((n:Int) < 80)=(n < 80):=lt_lit 80 n
@[go_sem] theorem lit80d (n:Nat):((n:Int)≤80)=(n≤80):=le_lit 80 n
@[go_sem] theorem lit80e (n:Nat):((n:Int)=80)=(n=80):=eq_lit 80 n
@[go_sem] theorem lit100a (n:Nat):((100:Int) < n)=(100 < n):=lit_lt 100 n
@[go_sem] theorem lit100b (n:Nat):((100:Int)≤n)=(100≤n):=lit_le 100 n
@[go_sem] theorem lit100c (n:Nat):((n:Int) < 100)=(n < 100):=lt_lit 100 n
@[go_sem] theorem lit100d (n:Nat):((n:Int)≤100)=(n≤100):=le_lit 100 n
@[go_sem] theorem lit100e (n:Nat):((n:Int)=100)=(n=100):=eq_lit 100 n
@[go_sem] theorem lit400a (n:Nat):((400:Int) < n)=(400 < n):=lit_lt 400 n
@[go_sem] theorem lit400b (n:Nat):((400:Int)≤n)=(400≤n):=lit_le 400 n
@[go_sem] theorem lit400c (n:Nat):((n:Int) < 400)=(n < 400):=lt_lit 400 n
@[go_sem] theorem lit400d (n:Nat):((n:Int)≤400)=(n≤400):=le_lit 400 n
@[go_sem] theorem lit400e (n:Nat):((n:Int)=400)=(n=400):=eq_lit 400 n
@[go_sem] theorem lit1000a (n:Nat):((1000:Int) < n)=(1000 < n):=lit_lt 1000 n
@[go_sem] theorem lit1000b (n:Nat):((1000:Int)≤n)=(1000≤n):=lit_le 1000 n
@[go_sem] theorem lit1000c (n:Nat):((n:Int) < 1000)=(n < 1000):=lt_lit 1000 n
@[go_sem] theorem lit1000d (n:Nat):((n:Int)≤1000)=(n≤1000):=le_lit 1000 n
@[go_sem] theorem lit1000e (n:Nat):((n:Int)=1000)=(n=1000):=eq_lit 1000 n
@[go_sem] theorem lit0e (n:Nat):((n:Int)=0)=(n=0):=eq_lit 0 n
theorem ilt_t (a b:Int):(decide (a < b)=true)=(a < b):=by simp
theorem ilt_f (a b:Int):(decide (a < b)=false)=(¬ a < b):=by simp
theorem ile_t (a b:Int):(decide (a≤b)=true)=(a≤b):=by simp
theorem ile_f (a b:Int):(decide (a≤b)=false)=(¬ a≤b):=by simp
theorem nlt_t (a b:Nat):(decide (a < b)=true)=(a < b):=by simp
theorem nlt_f (a b:Nat):(decide (a < b)=false)=(¬ a < b):=by simp
theorem nle_t (a b:Nat):(decide (a≤b)=true)=(a≤b):=by simp
theorem nle_f (a b:Nat):(decide (a≤b)=false)=(¬ a≤b):=by simp
theorem nr:(∀ (p:Prop) [Decidable p],decide (¬ p)=!decide p)∧(∀ a b:Int,(decide (a < b)=true)=(a < b))∧(∀ a b:Int,(decide (a < b)=false)=(¬ a < b))∧(∀ a b:Int,(decide (a≤b)=true)=(a≤b))∧(∀ a b:Int,(decide (a≤b)=false)=(¬ a≤b)) ∧
  (∀ a b:Nat,(decide (a < b)=true)=(a < b))∧(∀ a b:Nat,(decide (a < b)=false)=(¬ a < b))∧(∀ a b:Nat,(decide (a≤b)=true)=(a≤b))∧(∀ a b:Nat,(decide (a≤b)=false)=(¬ a≤b)) ∧
  (∀ b:Bool,((!b)=true)=(b=false))∧(∀ b:Bool,((!b)=false)=(b=true))∧(∀ a b:Nat,((a:Int) < (b:Int))=(a < b))∧(∀ a b:Nat,((a:Int)≤(b:Int))=(a≤b)) :=
 ⟨fun p _=>by simp,ilt_t,ilt_f,ile_t,ile_f,nlt_t,nlt_f,nle_t,nle_f,fun b=>by cases b<;>simp,fun b=>by cases b<;>simp,fun a b=>propext Int.ofNat_lt,fun a b=>propext Int.ofNat_le⟩
theorem w64_nat {i n:Nat} (h:i < n) (hn:Small n):IntKind.i64.wrap (i+1:Int)=((i+1:Nat):Int):=by
 unfold Small at hn
 rw [IntWalk.i64_in _ (by omega)]
 omega
theorem w64_pred {n:Nat} (hn:Small n):IntKind.i64.wrap (n - 1:Int)=(n:Int) - 1:=by
 unfold Small at hn
 rw [IntWalk.i64_in _ (by omega)]
def jumpK (l:Nat) (J:TS→Prop) (Q:Exit→TS→Prop):Exit→TS→Prop
 | .goto l',ts=>l'=l∧J ts
 | e,ts=>Q e ts
section
variable {P:Program} {Q:Exit→TS→Prop} {ts:TS}
@[go_sem] theorem jumpK_ret (l:Nat) (J:TS→Prop):jumpK l J Q .ret ts=Q .ret ts:=rfl
@[go_sem] theorem jumpK_normal (l:Nat) (J:TS→Prop):jumpK l J Q .normal ts=Q .normal ts:=rfl
@[go_sem] theorem jumpK_exit (l id:Nat) (J:TS→Prop):jumpK l J Q (.exit id) ts=Q (.exit id) ts:=rfl
@[go_sem] theorem jumpK_goto (l l':Nat) (J:TS→Prop):jumpK l J Q (.goto l') ts=(l'=l∧J ts):=rfl
end
end Go.Proofs.YtmjkjmoeicnbnaaGreatDoor.Lg
namespace Go.Proofs.YtmjkjmoeicnbnaaGreatDoor.Lg
set_option maxRecDepth 100000
set_option linter.unusedVariables false
set_option linter.unusedSimpArgs false
open Go
variable {P:Program}
theorem Rel.newVirt {E:Env} {ts:TS} {G:Ghost} {a:Act} {w:World} (h:Rel E ts G a w) (d sz:Nat) (hsz:0 < sz):Rel E (ts.new d (.arr sz [])) (G.set d w.heap.size none) a w:=by
 have hle:=le_new E G ts w w d w.heap.size none (.arr sz []) (Nat.le_refl _) (fun _ _=>rfl)
 have live:∀ e,e≠d→(liveR (ts.new d (.arr sz [])) (G.set d w.heap.size none) e↔liveR ts G e):=fun e he=>by
  simp [liveR,Ghost.set,TS.new,upd,he]
 have hβ:∀ e,e≠d→(G.set d w.heap.size none).β e=G.β e:=fun e he=>by simp [Ghost.set,upd,he]
 have hdead:¬ liveR (ts.new d (.arr sz [])) (G.set d w.heap.size none) d:=fun hl=>hl.2 (by simp [Ghost.set])
 constructor
 ·exact h.size
 ·exact h.defers
 ·exact fun t=>(h.tmp t).mono hle
 ·intro e
  show ObOk (ctxOf E (G.set d w.heap.size none) (ts.new d (.arr sz [])) w) e ((upd ts.obj d (.arr sz [])) e)
  by_cases he:e=d
  ·subst he
   rw [upd_same]
   exact ⟨hsz,by simp,by simp [ctxOf,Ghost.set]⟩
  ·rw [upd_ne _ _ he]
   exact ObOk.mono hle (by simp [ctxOf,Ghost.set,upd,he]) (by simp [ctxOf,Ghost.set,upd,he]) (fun _ _=>rfl) (h.obj e)
 ·intro e e' h1 h2 h3
  by_cases he:e=d
  ·subst he; exact absurd h1 hdead
  ·by_cases he':e'=d
   ·subst he'; exact absurd h2 hdead
   ·rw [hβ e he,hβ e' he'] at h3
    exact h.sep e e' ((live e he).1 h1) ((live e' he').1 h2) h3
 ·intro e h1
  by_cases he:e=d
  ·subst he; exact absurd h1 hdead
  ·rw [hβ e he]
   exact h.own e ((live e he).1 h1)
 ·exact h.inF
 ·exact h.bel
 ·intro j b' hj hg
  by_cases he:j=d
  ·subst he; simp [TS.new] at hg
  ·rw [hβ j he]; exact h.pin j b' hj (by simpa [TS.new,upd,he] using hg)
theorem nil_os {E:Env} {ts:TS} {G:Ghost} {w:World} {d sz:Nat} {v:Value} {c:Ctx} (h:Rep c v (.slice true [])):Rep (ctxOf E (G.set d w.heap.size none) (ts.new d (.arr sz [])) w) v (.os d (ts.gen d+1) 0):=by
 have hv:∃ a,v=.slice a 0 0:=by
  cases h with
  | slice0 _ a cap h=>exact ⟨a,by rw [h rfl]⟩
  | slice=>contradiction
 obtain ⟨a,rfl⟩:=hv
 exact .os d _ _ _ rfl (by simp [ctxOf,TS.new]) fun _ _=>by unfold OsIs; simp [ctxOf,Ghost.set]
theorem SpecC.virt {c:Code} {ts:TS} {Q:Exit→TS→Prop} (t d sz:Nat) (hsz:0 < sz) (ht:ts.tmp t=.slice true []) (h:SpecC P c ((ts.new d (.arr sz [])).put t (.os d (ts.gen d+1) 0)) Q):SpecC P c ts Q:=by
 intro E G a w hr
 have h0:=hr.tmp t
 rw [ht] at h0
 exact h E _ a w ((hr.newVirt d sz hsz).reput (nil_os h0))
end Go.Proofs.YtmjkjmoeicnbnaaGreatDoor.Lg
namespace Go.Proofs.YtmjkjmoeicnbnaaGreatDoor.Lg
set_option maxRecDepth 100000
set_option linter.unusedVariables false
set_option linter.unusedSimpArgs false
open Go
variable {P:Program}
def oneTS (x:AV):TS:={ n:=1,tmp:=fun t=>if t=0 then x else .any,gen:=fun _=>0,obj:=fun _=>.dead }
theorem CallP.extn {f:FuncId} {args:List AV} {x:AV} (hp:x.pure=true)
  (h:∀ (vals:Array Value) (w:World) (c:Ctx),vals.size=args.length→(∀ i,Rep c (vals.getD i undef) (args.getD i .any))→∃ v,(callFunc f vals).run P w=.ok (.value v) w∧Rep c v x):CallP P f args x:=by
 intro E G vals w hw hrel hpin
 have hobj:∀ d,(argTS (args.map Arg.v) (args.map Arg.v).length).obj d=.dead:=fun d=>by
  simp only [argTS,List.getElem?_map]
  cases args[d]?<;>rfl
 have hdead:∀ d,¬ liveR (argTS (args.map Arg.v) (args.map Arg.v).length) G d:=fun d hl=>hl.1 (by rw [hobj]; rfl)
 have hdead1:∀ d,¬ liveR (oneTS x) G d:=fun d hl=>hl.1 rfl
 have hctx:ctxOf E G (oneTS x) w=ctxOf E G (argTS (args.map Arg.v) (args.map Arg.v).length) w:=by
  unfold ctxOf
  have e1:(fun b=>E.F b∨∃ d,liveR (oneTS x) G d∧G.β d=b)=fun b=>E.F b∨∃ d,liveR (argTS (args.map Arg.v) (args.map Arg.v).length) G d∧G.β d=b:=by
   funext b
   apply propext
   constructor
   ·rintro (h|⟨d,h,_⟩)
    ·exact .inl h
    ·exact absurd h (hdead1 d)
   ·rintro (h|⟨d,h,_⟩)
    ·exact .inl h
    ·exact absurd h (hdead d)
  have e2:(fun d=>((oneTS x).obj d).kind)=fun d=>((argTS (args.map Arg.v) (args.map Arg.v).length).obj d).kind:=by
   funext d
   rw [hobj]; rfl
  rw [e1,e2]
  rfl
 obtain ⟨v,hv,hr⟩:=h vals w (ctxOf E G (argTS (args.map Arg.v) (args.map Arg.v).length) w) (by have:=hrel.size; simpa [argTS] using this) fun i=>by
  have:=hrel.tmp i
  have e:(argTS (args.map Arg.v) (args.map Arg.v).length).tmp i=args.getD i .any:=by
   simp only [argTS,List.getElem?_map,List.getD_eq_getElem?_getD]
   cases args[i]?<;>rfl
  rwa [e] at this
 rw [hv]
 refine ⟨v,.val x,fun _=>[],oneTS x,G,rfl,rfl,?_,fun j b hj=>?_,hp,rfl⟩
 ·refine ⟨rfl,rfl,fun t=>?_,fun d=>trivial,fun d d' h1 _ _=>absurd h1 (hdead1 d),fun d h1=>absurd h1 (hdead1 d),hrel.inF,hrel.bel,fun j b hj _=>?_⟩
  ·rw [hctx]
   by_cases ht:t=0
   ·subst ht; simpa [oneTS] using hr
   ·simp only [oneTS,if_neg ht]; exact .any _
  ·obtain ⟨cs,hcs⟩:=(hpin j).2 ⟨b,hj⟩
   simp only [List.getElem?_map] at hcs
   cases hh:args[j]?<;>rw [hh] at hcs<;>simp at hcs
 ·obtain ⟨cs,hcs⟩:=(hpin j).2 ⟨b,hj⟩
  simp only [List.getElem?_map] at hcs
  cases hh:args[j]?<;>rw [hh] at hcs<;>simp at hcs
end Go.Proofs.YtmjkjmoeicnbnaaGreatDoor.Lg
namespace Go.Proofs.YtmjkjmoeicnbnaaGreatDoor.Lg
set_option maxRecDepth 100000
set_option linter.unusedVariables false
set_option linter.unusedSimpArgs false
open Go
variable {P:Program}
def vOk (bad:List Nat):AV→Bool
 | .os d _ _=>!bad.contains d
 | .ref d _ _=>!bad.contains d
 | .eref d _ _ _=>!bad.contains d
 | .ot d _ _ _=>!bad.contains d
 | .mref d _=>!bad.contains d
 | .agg cs=>vOkL cs
 | .tup cs=>vOkL cs
 | .clo _ a b=>vOkL a && vOkL b
 | _=>true
where vOkL:List AV→Bool
 | []=>true
 | x :: r=>vOk bad x && vOkL r
def xOk (bad:List Nat) (F:TS):Operand→Bool
 | .tmp t=>!bad.contains t && vOk bad (F.tmp t)
 | _=>true
section mix
variable {bad:List Nat} {J F:TS}
theorem ev_mix {x:Operand} (h:xOk bad F x=true):(mix bad J F).ev x=F.ev x:=by
 cases x with
 | tmp t =>
  simp only [xOk,Bool.and_eq_true,Bool.not_eq_true'] at h
  exact (mix_out h.1).1
 | _=>rfl
theorem vOk_ev {x:Operand} (h:xOk bad F x=true):vOk bad (F.ev x)=true:=by
 cases x with
 | tmp t=>simp only [xOk,Bool.and_eq_true] at h; exact h.2
 | const v=>simp only [TS.ev]; unfold ofV; split<;>rfl
 | func f=>rfl
 | global g=>rfl
theorem gen_out {d:Nat} (h:bad.contains d=false):(mix bad J F).gen d=F.gen d:=(mix_out h).2.1
theorem obj_out {d:Nat} (h:bad.contains d=false):(mix bad J F).obj d=F.obj d:=(mix_out h).2.2
theorem ptr_mix {x:AV} (h:vOk bad x=true):(mix bad J F).ptr x=F.ptr x:=by
 cases x with
 | ref d g off=>simp only [vOk,Bool.not_eq_true'] at h; simp only [TS.ptr,gen_out h,obj_out h]
 | eref d g i o=>simp only [vOk,Bool.not_eq_true'] at h; simp only [TS.ptr,gen_out h,obj_out h]
 | _=>rfl
theorem live_mix {d g:Nat} (h:bad.contains d=false):(mix bad J F).live d g=F.live d g:=by simp only [TS.live,gen_out h,obj_out h]
theorem there_mix {x:AV} (h:vOk bad x=true):(mix bad J F).there x=F.there x:=by
 cases x with
 | ref d g off=>simp only [vOk,Bool.not_eq_true'] at h; simp only [TS.there,live_mix h]
 | _=>rfl
theorem shift_mix {x:AV} {o:Nat} (h:vOk bad x=true):(mix bad J F).shift x o=F.shift x o:=by
 cases x with
 | ref d g off=>simp only [vOk,Bool.not_eq_true'] at h; simp only [TS.shift,live_mix h]
 | eref d g i o=>simp only [vOk,Bool.not_eq_true'] at h; simp only [TS.shift,live_mix h]
 | _=>rfl
theorem sl_mix {x:AV} (h:vOk bad x=true):(mix bad J F).sl x=F.sl x:=by
 cases x with
 | os d g len=>simp only [vOk,Bool.not_eq_true'] at h; simp only [TS.sl,gen_out h,obj_out h]
 | ot d g o len=>simp only [vOk,Bool.not_eq_true'] at h; simp only [TS.sl,gen_out h,obj_out h]
 | _=>rfl
theorem len_mix {x:AV} (h:vOk bad x=true):(mix bad J F).len x=F.len x:=by
 cases x with
 | os d g len=>simp only [vOk,Bool.not_eq_true'] at h; simp only [TS.len,live_mix h]
 | ot d g o len=>simp only [vOk,Bool.not_eq_true'] at h; simp only [TS.len,live_mix h]
 | _=>rfl
theorem at_mix {x:AV} {sz:Nat} {n:Int} (h:vOk bad x=true):(mix bad J F).at x sz n=F.at x sz n:=by
 cases x with
 | os d g len=>simp only [vOk,Bool.not_eq_true'] at h; simp only [TS.at,gen_out h,obj_out h]
 | ot d g o len=>simp only [vOk,Bool.not_eq_true'] at h; simp only [TS.at,gen_out h,obj_out h]
 | _=>rfl
theorem poke_mix {x:AV} {ys:List AV} (h:vOk bad x=true):(mix bad J F).poke x ys=F.poke x ys:=by
 cases x with
 | ref d g off=>simp only [vOk,Bool.not_eq_true'] at h; simp only [TS.poke,gen_out h,obj_out h]
 | eref d g i o=>simp only [vOk,Bool.not_eq_true'] at h; simp only [TS.poke,gen_out h,obj_out h]
 | _=>rfl
theorem base_mix {x:AV} {sz:Nat} (h:vOk bad x=true):(mix bad J F).base x sz=F.base x sz:=by
 cases x with
 | os d g n=>simp only [vOk,Bool.not_eq_true'] at h; simp only [TS.base,gen_out h,obj_out h]
 | slice c xs=>cases c<;>cases xs<;>rfl
 | _=>rfl
theorem mapOf_mix {x:AV} (h:vOk bad x=true):(mix bad J F).mapOf x=F.mapOf x:=by
 cases x with
 | mref d g=>simp only [vOk,Bool.not_eq_true'] at h; simp only [TS.mapOf,gen_out h,obj_out h]
 | _=>rfl
theorem optI_mix {x:Option Operand} {d:Int} (h:∀ y,x=some y→xOk bad F y=true):(mix bad J F).optI x d=F.optI x d:=by
 cases x with
 | none=>rfl
 | some y=>simp only [TS.optI,ev_mix (h y rfl)]
mutual
theorem res_mix:∀ (x:AV),vOk bad x=true→x.res (mix bad J F)=x.res F
 | .os d g len,h=>by simp only [vOk,Bool.not_eq_true'] at h; simp only [AV.res,gen_out h,obj_out h]
 | .mref d g,h=>by simp only [vOk,Bool.not_eq_true'] at h; simp only [AV.res,gen_out h,obj_out h]
 | .mp _ _,_=>rfl
 | .agg cs,h=>by simp only [vOk] at h; simp only [AV.res,resL_mix cs h]
 | .tup cs,h=>by simp only [vOk] at h; simp only [AV.res,resL_mix cs h]
 | .any,_|.bool _,_|.int _ _,_|.str _,_|.slice _ _,_|.ro _,_|.nilp,_|.clo _ _ _,_|.nilf,_|.nilm,_|.niface,_|.iface _ _,_|.ref _ _ _,_|.eref _ _ _ _,_|.ot _ _ _ _,_=>rfl
theorem resL_mix:∀ (l:List AV),vOk.vOkL bad l=true→AV.res.resL (mix bad J F) l=AV.res.resL F l
 | [],_=>rfl
 | x :: r,h=>by
  simp only [vOk.vOkL,Bool.and_eq_true] at h
  simp only [AV.res.resL,res_mix x h.1,resL_mix r h.2]
end
theorem toArgs_mix:∀ (l:List AV),vOk.vOkL bad l=true→(mix bad J F).toArgs l=F.toArgs l
 | [],_=>rfl
 | x :: r,h=>by
  simp only [vOk.vOkL,Bool.and_eq_true] at h
  simp only [TS.toArgs,res_mix x h.1,toArgs_mix r h.2]
theorem vOkL_append:∀ (l r:List AV),vOk.vOkL bad (l++r)=(vOk.vOkL bad l && vOk.vOkL bad r)
 | [],r=>by simp [vOk.vOkL]
 | x :: l,r=>by simp [vOk.vOkL,vOkL_append l r,Bool.and_assoc]
theorem evs_mix:∀ (l:List Operand),(l.all fun x=>xOk bad F x)=true→l.map (mix bad J F).ev=l.map F.ev∧vOk.vOkL bad (l.map F.ev)=true
 | [],_=>⟨rfl,rfl⟩
 | x :: r,h=>by
  simp only [List.all_cons,Bool.and_eq_true] at h
  obtain ⟨h1,h2⟩:=evs_mix r h.2
  exact ⟨by simp only [List.map_cons,ev_mix h.1,h1],by simp only [List.map_cons,vOk.vOkL,vOk_ev h.1,h2,Bool.and_self]⟩
end mix
theorem Loc.id (ws:List Nat):Loc ws (fun A=>A):=⟨fun _=>rfl,fun _ _ _=>.rfl',fun _ _ t ht k=>k t ht⟩
def Same (o:Oper) (bad:List Nat) (F:TS) (tgt:Nat→Prop) (K:TS→Prop) (sem:TS→(TS→Prop)→Prop):Prop :=
 ∃ (g:TS→TS) (ws:List Nat),Loc ws g∧(∀ t∈ws,o.dst=some t∨tgt t)∧K (g F)∧∀ J (K':TS→Prop),K' (g (mix bad J F))→sem (mix bad J F) K'
section same
variable {o:Oper} {bad:List Nat} {F:TS} {tgt:Nat→Prop} {K:TS→Prop}
theorem Same.mono {s s':TS→(TS→Prop)→Prop} (h:Same o bad F tgt K s) (hs:∀ J K',s (mix bad J F) K'→s' (mix bad J F) K'):Same o bad F tgt K s':=by
 obtain ⟨g,ws,h1,h2,h3,h4⟩:=h
 exact ⟨g,ws,h1,h2,h3,fun J K' hk=>hs J K' (h4 J K' hk)⟩
theorem Same.set {v:AV} (h:setK F o.dst v K):Same o bad F tgt K fun A K'=>setK A o.dst v K':=by
 cases hd:o.dst with
 | none=>rw [hd] at h; exact ⟨fun A=>A,[],Loc.id [],by simp,h,fun J K' hk=>hk⟩
 | some d=>rw [hd] at h; exact ⟨fun A=>A.put d v,[d],Loc.put d v,by simp [hd],h.2,fun J K' hk=>⟨h.1,hk⟩⟩
theorem Same.box {cs:List AV} (hd:∀ d,o.dst=some d→bad.contains d=false) (h:newBoxK F o.dst cs K):Same o bad F tgt K fun A K'=>newBoxK A o.dst cs K':=by
 cases hdst:o.dst with
 | none=>rw [hdst] at h; exact h.elim
 | some d =>
  rw [hdst] at h
  refine ⟨fun A=>(A.new d (.box cs)).put d (.ref d (F.gen d+1) 0),[d],(Loc.new d _).comp (Loc.put d _),by simp [hdst],h.2,fun J K' hk=>⟨h.1,?_⟩⟩
  rw [gen_out (hd d hdst)]; exact hk
theorem Same.arr {sz:Nat} {xs:List AV} (hd:∀ d,o.dst=some d→bad.contains d=false) (h:newArrK F o.dst sz xs K):Same o bad F tgt K fun A K'=>newArrK A o.dst sz xs K':=by
 cases hdst:o.dst with
 | none=>rw [hdst] at h; exact h.elim
 | some d =>
  rw [hdst] at h
  refine ⟨fun A=>(A.new d (.arr sz xs)).put d (.os d (F.gen d+1) xs.length),[d],(Loc.new d _).comp (Loc.put d _),by simp [hdst],h.2,fun J K' hk=>⟨h.1,?_⟩⟩
  rw [gen_out (hd d hdst)]; exact hk
theorem Same.arrK {b:Bool} {sz:Nat} {xs:List AV} (hd:∀ d,o.dst=some d→bad.contains d=false) (h:Lg.arrK b F o.dst sz xs K):Same o bad F tgt K fun A K'=>Lg.arrK b A o.dst sz xs K':=by
 cases b with
 | false=>exact Same.arr hd h
 | true =>
  cases hdst:o.dst with
  | none=>rw [hdst] at h; exact h.elim
  | some d =>
   rw [hdst] at h
   exact ⟨fun A=>(A.new d .dead).put d (.slice false xs),[d],(Loc.new d _).comp (Loc.put d _),by simp [hdst],h.2,fun J K' hk=>⟨h.1,hk⟩⟩
end same
def tgtOf (F:TS) (o:Oper) (t:Nat):Prop :=
 match o.op with
 | .store _ p _=>match F.ev p with
  | .ref d _ _=>d=t
  | .eref d _ _ _=>d=t
  | _=>False
 | .mapUpdate _ m _ _=>match F.ev m with
  | .mref d _=>d=t
  | _=>False
 | .mapEntry _ m _=>match F.ev m with
  | .mref d _=>d=t
  | _=>False
 | .entryStore _ m _ _=>match F.ev m with
  | .mref d _=>d=t
  | _=>False
 | .call ⟨.builtin .append,xs,_⟩=>match F.ev (xs.toList.headD (.const (.bool false))) with
  | .os d _ _=>d=t
  | _=>False
 | _=>False
def opKp (T:Tys P) (o:Oper) (ts:TS) (K:TS→Prop):Prop :=
 match o.op with
 | .call ⟨.value f,xs,_⟩=>callW false P (ts.ev f) (xs.toList.map ts.ev) o.dst ts K
 | .makeFunc fn first caps=>T.fzD o.dst=true∧funcK true ts o.dst fn first.toList caps.toList K
 | _=>opK T o ts K
theorem callX.up {m:Bool} {f:FuncId} {vs:List AV} {q:Option (List AV × List Nat)} {dst:Option Nat} {ts:TS} {K:TS→Prop} (h:callX false P f vs q dst ts K):callX m P f vs q dst ts K:=by
 rcases h with h|⟨h,_⟩
 ·exact .inl h
 ·cases h
theorem opKp.up {T:Tys P} {o:Oper} {ts:TS} {K:TS→Prop} (h:opKp T o ts K):opK T o ts K:=by
 unfold opKp at h
 split at h
 ·rename_i f xs at_ ho
  obtain ⟨dst,op,ty,pos,after,gd⟩:=o
  subst ho
  rw [opK_call]
  unfold callW at h ⊢
  split at h
  ·exact callX.up h
  ·exact h.elim
 ·rename_i fn first caps ho
  obtain ⟨dst,op,ty,pos,after,gd⟩:=o
  subst ho
  obtain ⟨h1,h2⟩:=h
  rw [opK_makeFunc,h1]; exact h2
 ·exact h
def drawable (o:Oper):Bool :=
 match o.op with
 | .move _|.assign _|.pick ..|.alloc _|.box ..|.build ..|.buildSlice ..|.load ..|.field ..|.fieldAddr ..|.indexAddr ..|.index ..|.slice ..|.unOp ..|.extract ..|.nilCheck ..|.makeFunc ..=>true
 | .store ..=>o.dst.isNone
 | .binOp .eql _ _ (.const (.slice none 0 0)) _=>false
 | .binOp ..=>true
 | .call c=>match c.callee with
  | .value _=>true
  | .builtin .len=>c.args.size == 1 && c.argTypes.size == 1
  | .builtin .cap=>c.args.size == 1 && c.argTypes.size == 1
  | .builtin .append=>c.args.size == 2 && c.argTypes.size == 2
  | .builtin .max=>c.args.size == 2
  | .builtin .min=>c.args.size == 2
  | _=>false
 | .lookup ..=>true
 | .makeMap _ none=>true
 | .mapUpdate ..=>true
 | .mapEntry ..=>true
 | .entryStore ..=>true
 | _=>false
theorem binK_loc (T:Tys P) {op:BinOp} {t:TypeId} {a b:AV} {o:Oper} {bad:List Nat} {F:TS} {tgt:Nat→Prop} {K:TS→Prop} (h:binD T op t a b F o.dst K) :
  Same o bad F tgt K fun A K'=>binD T op t a b A o.dst K':=by
 unfold binD at h ⊢
 cases hk:(T.ty t).k with
 | struct fs =>
  simp only [hk] at h ⊢
  obtain ⟨h1,h2,h3⟩:=h
  obtain ⟨r,h4,h5⟩:=optK_some h3
  exact (Same.set h5).mono fun J K' hs=>⟨h1,h2,by rw [h4]; exact hs⟩
 | _ =>
  simp only [hk] at h ⊢
  obtain ⟨r,h4,h5⟩:=optK_some h
  exact (Same.set h5).mono fun J K' hs=>by rw [h4]; exact hs
theorem opK_loc (T:Tys P) {o:Oper} {bad:List Nat} {F:TS} {K:TS→Prop} (hops:(o.op.operands.toList.all fun x=>xOk bad F x)=true) (hdr:drawable o=true)
  (hd:∀ d,o.dst=some d→bad.contains d=false) (h:opKp T o F K):Same o bad F (tgtOf F o) K fun A K'=>opK T o A K':=by
 obtain ⟨dst,op,ty,pos,after,gd⟩:=o
 cases op with
 | move x =>
  have hx:xOk bad F x=true:=by simpa [Op.operands] using hops
  exact (Same.set (o:=⟨dst,_,ty,pos,after,gd⟩) h).mono fun J K' hs=>by rw [opK_move,ev_mix hx]; exact hs
 | assign x =>
  have hx:xOk bad F x=true:=by simpa [Op.operands] using hops
  exact (Same.set (o:=⟨dst,_,ty,pos,after,gd⟩) h).mono fun J K' hs=>by rw [opK_assign,ev_mix hx]; exact hs
 | pick c x y =>
  have hx:xOk bad F c=true∧xOk bad F x=true∧xOk bad F y=true:=by simpa [Op.operands] using hops
  obtain ⟨b,h1,h2⟩:=boolK_some h
  exact (Same.set (o:=⟨dst,_,ty,pos,after,gd⟩) h2).mono fun J K' hs=>by rw [opK_pick,ev_mix hx.1,ev_mix hx.2.1,ev_mix hx.2.2,h1]; exact hs
 | alloc t=>exact (Same.box (o:=⟨dst,_,ty,pos,after,gd⟩) hd h.2).mono fun J K' hs=>⟨h.1,hs⟩
 | box t x =>
  have hx:xOk bad F x=true:=by simpa [Op.operands] using hops
  exact (Same.box (o:=⟨dst,_,ty,pos,after,gd⟩) hd h.2).mono fun J K' hs=>by rw [opK_box,ev_mix hx]; exact ⟨h.1,hs⟩
 | build t parts =>
  have hx:((parts.toList.map (·.2)).all fun x=>xOk bad F x)=true:=by simpa [Op.operands] using hops
  have e:∀ J,(parts.toList.map fun p=>(p.1,(mix bad J F).ev p.2))=parts.toList.map fun p=>(p.1,F.ev p.2):=fun J=>by
   apply List.map_congr_left
   intro p hp
   rw [ev_mix (List.all_eq_true.1 hx _ (List.mem_map_of_mem hp))]
  have h:=opKp.up h
  rw [opK_build] at h
  unfold buildK at h
  split at h
  ·rename_i fs hfs
   obtain ⟨cs,h1,h2⟩:=optK_some h.2
   exact (Same.set (o:=⟨dst,_,ty,pos,after,gd⟩) h2).mono fun J K' hs=>by rw [opK_build,e,hfs]; exact ⟨h.1,by rw [h1]; exact hs⟩
  ·exact h.elim
 | buildSlice t n parts =>
  have hx:((parts.toList.map (·.2)).all fun x=>xOk bad F x)=true:=by simpa [Op.operands] using hops
  have e:∀ J,(parts.toList.map fun p=>(p.1,(mix bad J F).ev p.2))=parts.toList.map fun p=>(p.1,F.ev p.2):=fun J=>by
   apply List.map_congr_left
   intro p hp
   rw [ev_mix (List.all_eq_true.1 hx _ (List.mem_map_of_mem hp))]
  have h:=opKp.up h
  rw [opK_buildSlice] at h
  unfold buildSliceK at h
  split at h
  ·rename_i e' he
   obtain ⟨h1,h2,h3,h4,h5,h6⟩:=h
   exact (Same.arrK (o:=⟨dst,_,ty,pos,after,gd⟩) hd h6).mono fun J K' hs=>by rw [opK_buildSlice,e,he]; exact ⟨h1,h2,h3,h4,h5,hs⟩
  ·exact h.elim
 | load t x =>
  have hx:xOk bad F x=true:=by simpa [Op.operands] using hops
  have h:=opKp.up h
  rw [opK_load] at h
  obtain ⟨cs,h1,h2⟩:=optK_some h
  unfold loadK at h2
  split at h2
  ·exact h2.elim
  ·rename_i hne
   exact (Same.set (o:=⟨dst,_,ty,pos,after,gd⟩) h2.2).mono fun J K' hs=>by
    rw [opK_load,ev_mix hx,ptr_mix (vOk_ev hx),h1]
    show loadK T t cs (mix bad J F) dst K'
    unfold loadK
    split
    ·rename_i hu; exact absurd hu (by simpa using hne)
    ·exact ⟨h2.1,hs⟩
 | store t p x =>
  have hx:xOk bad F p=true∧xOk bad F x=true:=by simpa [Op.operands] using hops
  have hdn:dst=none:=by simpa [drawable] using hdr
  subst hdn
  have h:=opKp.up h
  rw [opK_store] at h
  obtain ⟨h1,h2,h3,h4,h5⟩:=h
  obtain ⟨q,h6,h7,h8⟩:=optK_some h5
  refine ⟨fun A=>A.setObj q.1 q.2,[q.1],Loc.setObj q.1 q.2,fun t' ht'=>.inr ?_,h8,fun J K' hs=>?_⟩
  ·have:t'=q.1:=by simpa using ht'
   subst this
   show tgtOf F _ q.1
   simp only [tgtOf]
   generalize F.ev p=v at h6
   cases v with
   | ref d g off =>
    simp only [TS.poke] at h6
    split at h6
    ·split at h6
     ·split at h6
      ·cases h6; rfl
      ·cases h6
     ·cases h6
    ·cases h6
   | eref d g i off =>
    simp only [TS.poke] at h6
    split at h6
    ·split at h6
     ·split at h6
      ·cases h6; rfl
      ·cases h6
     ·cases h6
    ·cases h6
   | _=>simp [TS.poke] at h6
  ·show opK T _ (mix bad J F) K'
   rw [opK_store,ev_mix hx.1,ev_mix hx.2,poke_mix (vOk_ev hx.1),h6]
   exact ⟨h1,h2,h3,h4,h7,hs⟩
 | field s x f =>
  have hx:xOk bad F x=true:=by simpa [Op.operands] using hops
  have h:=opKp.up h
  rw [opK_field] at h
  unfold fieldK at h
  split at h
  ·rename_i fs cs hfs hcs
   obtain ⟨q,h1,h2⟩:=optK_some h
   unfold loadK at h2
   split at h2
   ·exact h2.elim
   all_goals
    rename_i hk
    refine (Same.set (o:=⟨dst,_,ty,pos,after,gd⟩) h2.2).mono fun J K' hs=>?_
    rw [opK_field,ev_mix hx,hfs,hcs,fieldK_agg]
    show optK fs[f]? _
    rw [h1]
    show loadK T q.2.1 (cs.drop q.1) (mix bad J F) dst K'
    unfold loadK
    simp only [hk]
    exact ⟨h2.1,hs⟩
  ·exact h.elim
 | fieldAddr s x f =>
  have hx:xOk bad F x=true:=by simpa [Op.operands] using hops
  have h:=opKp.up h
  rw [opK_fieldAddr] at h
  unfold fieldAddrK at h
  split at h
  ·rename_i fs hfs
   obtain ⟨q,h1,h2,h3,h4⟩:=optK_some h
   obtain ⟨y,h5,h6⟩:=optK_some h4
   exact (Same.set (o:=⟨dst,_,ty,pos,after,gd⟩) h6).mono fun J K' hs=>by
    rw [opK_fieldAddr,ev_mix hx,hfs]
    show optK fs[f]? _
    rw [h1]
    exact ⟨h2,h3,by rw [shift_mix (vOk_ev hx),h5]; exact hs⟩
  ·exact h.elim
 | indexAddr t x i =>
  have hx:xOk bad F x=true∧xOk bad F i=true:=by simpa [Op.operands] using hops
  have h:=opKp.up h
  rw [opK_indexAddr] at h
  unfold indexAddrK at h
  split at h
  ·rename_i e he
   obtain ⟨h1,h2,h3⟩:=h
   obtain ⟨k,n,h4,h5⟩:=intK_some h3
   obtain ⟨y,h6,h7⟩:=optK_some h5
   exact (Same.set (o:=⟨dst,_,ty,pos,after,gd⟩) h7).mono fun J K' hs=>by
    rw [opK_indexAddr,ev_mix hx.1,ev_mix hx.2,he,h4]
    exact ⟨h1,h2,by show optK ((mix bad J F).at _ _ n) _; rw [at_mix (vOk_ev hx.1),h6]; exact hs⟩
  ·exact h.elim
 | index t x i =>
  have hx:xOk bad F x=true∧xOk bad F i=true:=by simpa [Op.operands] using hops
  have h:=opKp.up h
  rw [opK_index] at h
  unfold indexK at h
  split at h
  ·rename_i s hs1 hs2
   obtain ⟨k,n,h4,h5,h6,h7⟩:=intK_some h
   exact (Same.set (o:=⟨dst,_,ty,pos,after,gd⟩) h7).mono fun J K' hs=>by
    rw [opK_index,ev_mix hx.1,ev_mix hx.2,hs1,hs2,h4]
    exact ⟨h5,h6,hs⟩
  ·exact h.elim
 | slice t x lo hi mx =>
  have hx:xOk bad F x=true∧(∀ y,lo=some y→xOk bad F y=true)∧(∀ y,hi=some y→xOk bad F y=true)∧(∀ y,mx=some y→xOk bad F y=true):=by
   simp only [Op.operands,Array.toList_append,List.all_append,Bool.and_eq_true] at hops
   obtain ⟨⟨⟨h1,h2⟩,h3⟩,h4⟩:=hops
   refine ⟨by simpa using h1,?_,?_,?_⟩<;>· intro y hy; subst hy; first|simpa using h2|simpa using h3|simpa using h4
  obtain ⟨hx,hlo,hhi,hmx⟩:=hx
  have h:=opKp.up h
  rw [opK_slice] at h
  unfold sliceK at h
  split at h
  ·rename_i e clip xs he hxe
   obtain ⟨h1,h2,h3⟩:=h
   obtain ⟨l,h4,h5⟩:=optK_some h3
   obtain ⟨u,h6,h7⟩:=optK_some h5
   cases mx with
   | none =>
    obtain ⟨q1,q2,q3,q4⟩:=h7
    exact (Same.set (o:=⟨dst,_,ty,pos,after,gd⟩) q4).mono fun J K' hs=>by
     rw [opK_slice,ev_mix hx,sliceK_eq,he,hxe,sliceKK_s]
     exact ⟨h1,h2,by rw [optI_mix hlo,h4]; show optK ((mix bad J F).optI hi _) _; rw [optI_mix hhi,h6]; exact ⟨q1,q2,q3,hs⟩⟩
   | some m =>
    obtain ⟨q0,h8⟩:=h7
    obtain ⟨m',h9,q1,q2,q3,q4,q5⟩:=optK_some h8
    exact (Same.set (o:=⟨dst,_,ty,pos,after,gd⟩) q5).mono fun J K' hs=>by
     rw [opK_slice,ev_mix hx,sliceK_eq,he,hxe,sliceKK_3]
     exact ⟨h1,h2,by rw [optI_mix hlo,h4]; show optK ((mix bad J F).optI hi _) _; rw [optI_mix hhi,h6]; exact ⟨q0,by rw [optI_mix hmx,h9]; exact ⟨q1,q2,q3,q4,hs⟩⟩⟩
  ·rename_i e d g len he hxe
   obtain ⟨h1,h2⟩:=h
   have hv:=vOk_ev hx
   rw [hxe] at hv
   simp only [vOk,Bool.not_eq_true'] at hv
   have main:Same ⟨dst,.slice t x lo hi mx,ty,pos,after,gd⟩ bad F (tgtOf F ⟨dst,.slice t x lo hi mx,ty,pos,after,gd⟩) K fun A K'=>(match lo,mx with
     | none,none=>A.live d g=true∧optK (A.optI hi len) fun u=>0≤u∧u≤len∧setK A dst (.os d g u.toNat) K'
     | _,_=>sliceOtK T e d g len lo hi mx A dst K'):=by
    split at h2
    ·obtain ⟨h3,h4⟩:=h2
     obtain ⟨u,h6,h7,h8,h9⟩:=optK_some h4
     exact (Same.set (o:=⟨dst,_,ty,pos,after,gd⟩) h9).mono fun J K' hs=>⟨by rw [live_mix hv]; exact h3,by rw [optI_mix hhi,h6]; exact ⟨h7,h8,hs⟩⟩
    ·rename_i hne
     obtain ⟨hg,h⟩:=h2
     obtain ⟨⟨sz,xs⟩,hob,hsz,h⟩:=optK_some h
     obtain ⟨l,q1,h⟩:=optK_some h
     obtain ⟨u,q2,q3,q4,q5,q6,q7⟩:=optK_some h
     refine (Same.set (o:=⟨dst,_,ty,pos,after,gd⟩) q7).mono fun J K' hs=>?_
     have goal:sliceOtK T e d g len lo hi mx (mix bad J F) dst K':=by
      refine ⟨by rw [gen_out hv]; exact hg,?_⟩
      rw [obj_out hv,hob]
      refine ⟨hsz,?_⟩
      rw [optI_mix hlo,q1]
      show optK ((mix bad J F).optI hi _) _
      rw [optI_mix hhi,q2]
      refine ⟨q3,q4,q5,?_,hs⟩
      unfold maxOk at q6 ⊢
      split at q6
      ·trivial
      ·obtain ⟨p1,p2⟩:=q6
       exact ⟨p1,by rw [optI_mix hmx]; exact p2⟩
     cases lo with
     | none=>cases mx with
      | none=>exact (hne rfl rfl).elim
      | some m=>exact goal
     | some l=>cases mx<;>exact goal
   exact main.mono fun J K' hs=>by
    rw [opK_slice,ev_mix hx,sliceK_eq,he,hxe]
    cases lo<;>cases mx<;>exact ⟨h1,hs⟩
  ·rename_i s he hxe
   obtain ⟨h1,h2⟩:=h
   obtain ⟨l,h4,h5⟩:=optK_some h2
   obtain ⟨u,h6,q1,q2,q3,q4⟩:=optK_some h5
   exact (Same.set (o:=⟨dst,_,ty,pos,after,gd⟩) q4).mono fun J K' hs=>by
    rw [opK_slice,ev_mix hx,sliceK_eq,he,hxe,sliceKK_str]
    exact ⟨h1,by rw [optI_mix hlo,h4]; show optK ((mix bad J F).optI hi _) _; rw [optI_mix hhi,h6]; exact ⟨q1,q2,q3,hs⟩⟩
  ·exact h.elim
 | binOp op t x y u =>
  have hx:xOk bad F x=true∧xOk bad F y=true:=by simpa [Op.operands] using hops
  have h:=opKp.up h
  rw [opK_bin] at h
  unfold binK at h
  split at h
  ·simp [drawable] at hdr
  ·rename_i hne
   refine (binK_loc T (o:=⟨dst,_,ty,pos,after,gd⟩) h).mono fun J K' hs=>?_
   rw [opK_bin]
   unfold binK
   split
   ·exact (hne rfl rfl).elim
   ·rw [ev_mix hx.1,ev_mix hx.2]; exact hs
 | unOp op t x =>
  have hx:xOk bad F x=true:=by simpa [Op.operands] using hops
  cases op with
  | not =>
   have h:=opKp.up h
   rw [opK_not] at h
   obtain ⟨b,h1,h2⟩:=boolK_some h
   exact (Same.set (o:=⟨dst,_,ty,pos,after,gd⟩) h2).mono fun J K' hs=>by rw [opK_not,ev_mix hx,h1]; exact hs
  | neg =>
   have h:=opKp.up h
   rw [opK_neg] at h
   obtain ⟨k,n,h1,h2⟩:=intK_some h
   exact (Same.set (o:=⟨dst,_,ty,pos,after,gd⟩) h2).mono fun J K' hs=>by rw [opK_neg,ev_mix hx,h1]; exact hs
  | _=>exact h.elim
 | extract x i =>
  have hx:xOk bad F x=true:=by simpa [Op.operands] using hops
  have h:=opKp.up h
  rw [opK_extract] at h
  unfold extractK at h
  split at h
  ·rename_i vs hvs
   exact (Same.set (o:=⟨dst,_,ty,pos,after,gd⟩) h.2).mono fun J K' hs=>by rw [opK_extract,ev_mix hx,hvs]; exact ⟨h.1,hs⟩
  ·exact h.elim
 | makeFunc fn first caps =>
  have hx:(first.toList.all fun x=>xOk bad F x)=true∧(caps.toList.all fun x=>xOk bad F x)=true:=by
   simpa [Op.operands] using hops
  obtain ⟨h1,h2⟩:T.fzD dst=true∧funcK true F dst fn first.toList caps.toList K:=h
  rw [funcK_t] at h2
  exact (Same.set (o:=⟨dst,_,ty,pos,after,gd⟩) h2).mono fun J K' hs=>by
   rw [opK_makeFunc,h1,funcK_t,(evs_mix first.toList hx.1).1,(evs_mix caps.toList hx.2).1]
   exact hs
 | nilCheck x =>
  have hx:xOk bad F x=true:=by simpa [Op.operands] using hops
  have h:=opKp.up h
  rw [opK_nilCheck] at h
  exact (Same.set (o:=⟨dst,_,ty,pos,after,gd⟩) h.2).mono fun J K' hs=>by
   rw [opK_nilCheck,ev_mix hx,there_mix (vOk_ev hx)]
   exact ⟨h.1,hs⟩
 | call c =>
  obtain ⟨callee,args,ats⟩:=c
  cases callee with
  | value f =>
   have hx:xOk bad F f=true∧(args.toList.all fun x=>xOk bad F x)=true:=by simpa [Op.operands,Call.operands] using hops
   have h:callW false P (F.ev f) (args.toList.map F.ev) dst F K:=h
   unfold callW at h
   split at h
   ·rename_i f' caps hf
    rcases h with ⟨as,lent,r,h1,h2,h3,h4⟩|⟨h,_⟩
    ·have hv:=vOk_ev hx.1
     rw [hf] at hv
     simp only [vOk,vOk.vOkL,Bool.true_and] at hv
     have key:Same ⟨dst,.call ⟨.value f,args,ats⟩,ty,pos,after,gd⟩ bad F (tgtOf F ⟨dst,.call ⟨.value f,args,ats⟩,ty,pos,after,gd⟩) K fun A K'=>afterK A dst r K':=by
      cases r with
      | val x=>exact Same.set (o:=⟨dst,_,ty,pos,after,gd⟩) h4
      | own sz xs=>exact Same.arr (o:=⟨dst,_,ty,pos,after,gd⟩) hd h4
     refine key.mono fun J K' hs=>?_
     rw [opK_call,ev_mix hx.1,hf,callW,(evs_mix args.toList hx.2).1,toArgs_mix _ (by rw [vOkL_append,(evs_mix (J:=F) args.toList hx.2).2,hv]; rfl),h1]
     exact .inl ⟨as,lent,r,rfl,h2,h3,hs⟩
    ·cases h
   ·exact h.elim
  | builtin b =>
   cases b with
   | len =>
    have hx:(args.toList.all fun x=>xOk bad F x)=true:=by simpa [Op.operands,Call.operands] using hops
    have hl:builtinK T ⟨.builtin .len,args,ats⟩ ⟨dst,.call ⟨.builtin .len,args,ats⟩,ty,pos,after,gd⟩ F K:=h
    show Same _ _ _ _ _ fun A K'=>builtinK T ⟨.builtin .len,args,ats⟩ ⟨dst,.call ⟨.builtin .len,args,ats⟩,ty,pos,after,gd⟩ A K'
    obtain ⟨al⟩:=args
    obtain ⟨tl⟩:=ats
    have hs:al.length=1∧tl.length=1:=by simpa [drawable] using hdr
    obtain ⟨x,rfl⟩:=List.length_eq_one_iff.1 hs.1
    obtain ⟨t,rfl⟩:=List.length_eq_one_iff.1 hs.2
    have hx:xOk bad F x=true:=by simpa using hx
    have h:lenK T t (F.ev x) F dst K:=hl
    obtain ⟨h1,h2⟩:=h
    obtain ⟨n,h3,h4⟩:=optK_some h2
    refine (Same.set (o:=⟨dst,_,ty,pos,after,gd⟩) h4).mono fun J K' hs=>?_
    show lenK T t ((mix bad J F).ev x) (mix bad J F) dst K'
    rw [ev_mix hx]
    exact ⟨h1,by rw [len_mix (vOk_ev hx),h3]; exact hs⟩
   | cap =>
    have hx:(args.toList.all fun x=>xOk bad F x)=true:=by simpa [Op.operands,Call.operands] using hops
    obtain ⟨al⟩:=args
    obtain ⟨tl⟩:=ats
    have hs:al.length=1∧tl.length=1:=by simpa [drawable] using hdr
    obtain ⟨x,rfl⟩:=List.length_eq_one_iff.1 hs.1
    obtain ⟨t,rfl⟩:=List.length_eq_one_iff.1 hs.2
    have hx:xOk bad F x=true:=by simpa using hx
    have h:capK T t (F.ev x) F dst K:=h
    show Same _ _ _ _ _ fun A K'=>capK T t (A.ev x) A dst K'
    have hK:∀ J,capK T t ((mix bad J F).ev x)=capK T t (F.ev x):=fun J=>by rw [ev_mix hx]
    unfold capK at h
    split at h
    ·rename_i e xs he hxe
     refine (Same.set (o:=⟨dst,_,ty,pos,after,gd⟩) h).mono fun J K' hs=>?_
     rw [hK,hxe]
     unfold capK
     simp only [he]
     exact hs
    ·exact h.elim
   | append =>
    have hx:(args.toList.all fun x=>xOk bad F x)=true:=by simpa [Op.operands,Call.operands] using hops
    obtain ⟨al⟩:=args
    obtain ⟨tl⟩:=ats
    have hs:al.length=2∧tl.length=2:=by simpa [drawable] using hdr
    obtain ⟨s,x,rfl⟩:∃ x y,al=[x,y]:=by
     match al,hs.1 with
     | [x,y],_=>exact ⟨x,y,rfl⟩
    obtain ⟨t,tx,rfl⟩:∃ x y,tl=[x,y]:=by
     match tl,hs.2 with
     | [x,y],_=>exact ⟨x,y,rfl⟩
    have hx:xOk bad F s=true∧xOk bad F x=true:=by simpa using hx
    have h:appendW T t tx (F.ev s) (F.ev x) F dst K:=h
    have hK:∀ J,appendW T t tx ((mix bad J F).ev s) ((mix bad J F).ev x)=appendW T t tx (F.ev s) (F.ev x):=fun J=>by rw [ev_mix hx.1,ev_mix hx.2]
    show Same _ _ _ _ _ fun A K'=>appendW T t tx (A.ev s) (A.ev x) A dst K'
    have hvs:=vOk_ev hx.1
    have hvx:=vOk_ev hx.2
    unfold appendW at h
    split at h
    ·rename_i k0 n0 hxe
     unfold appendMakeK at h
     split at h
     ·rename_i e k' he he' hse
      obtain ⟨h1,h2,h3,h4,h5,h6⟩:=h
      refine (Same.arr (o:=⟨dst,_,ty,pos,after,gd⟩) hd h6).mono fun J K' hs=>?_
      rw [hK,hxe,hse]
      unfold appendW appendMakeK
      simp only [he,he']
      exact ⟨h1,h2,h3,h4,h5,hs⟩
     ·exact h.elim
    ·rename_i d0 g0 o0 n0 hxe
     unfold appendInK at h
     split at h
     ·rename_i e e' d g len d' he he' hse hd2
      obtain ⟨h1,h2,h3,h4,h5⟩:=h
      obtain ⟨q,h6,h7,h8⟩:=optK_some h5
      obtain ⟨ys,h9,h10,h11,h12,h13⟩:=optK_some h8
      have hvd:bad.contains d=false:=by rw [hse] at hvs; simpa [vOk] using hvs
      refine ⟨fun A=>(A.setObj d (.arr q.1 (q.2.take len++ys++q.2.drop (len+ys.length)))).put d' (.os d g (len+ys.length)),[d,d'],((Loc.setObj d _).wide (by simp)).comp ((Loc.put d' _).wide (by simp)),fun t' ht'=>?_,h13,fun J K' hs=>?_⟩
      ·have:t'=d∨t'=d':=by simpa using ht'
       rcases this with rfl|rfl
       ·right; show tgtOf F _ t'; simp only [tgtOf,List.headD_cons,hse]
       ·exact .inl rfl
      ·show appendW T t tx _ _ _ _ _
       rw [hK,hxe,hse]
       unfold appendW appendInK
       simp only [he,he']
       refine ⟨h1,h2,h3,by rw [gen_out hvd]; exact h4,?_⟩
       rw [obj_out hvd,h6]
       refine ⟨h7,?_⟩
       have hsl:=sl_mix (J:=J) (F:=F) hvx
       rw [hxe] at hsl h9
       show optK ((mix bad J F).sl _) _
       rw [hsl,h9]
       exact ⟨h10,h11,h12,hs⟩
     ·exact h.elim
    ·rename_i hneI hne
     unfold appendK at h
     split at h
     ·rename_i e e' d' he he' hd2
      obtain ⟨h1,h2,h3,h4⟩:=h
      obtain ⟨b,h5,h6⟩:=optK_some h4
      obtain ⟨ys,h7,h8,h9,h10,h11⟩:=optK_some h6
      have hd':bad.contains d'=false:=hd d' rfl
      have fin:∀ J (K':TS→Prop),K' ((((mix bad J F).unbase b.1).new d' (.arr (T.ty e).sz (b.2++AV.nrm.nrmL ys))).put d' (.os d' (F.gen d'+1) (b.2.length+ys.length)))→appendW T t tx ((mix bad J F).ev s) ((mix bad J F).ev x) (mix bad J F) (some d') K':=fun J K' hs=>by
       rw [hK]
       have hw:∀ A K',appendW T t tx (F.ev s) (F.ev x) A (some d') K'=appendK T t tx (F.ev s) (F.ev x) A (some d') K':=fun A K'=>by
        unfold appendW
        split
        ·rename_i e1; exact absurd e1 (hneI _ _)
        ·rename_i e1; exact absurd e1 (hne _ _ _ _)
        ·rfl
       rw [hw]
       unfold appendK
       simp only [he,he']
       refine ⟨h1,h2,h3,?_⟩
       rw [base_mix hvs,h5]
       show optK ((mix bad J F).sl _) _
       rw [sl_mix hvx,h7]
       refine ⟨h8,h9,h10,?_⟩
       rw [gen_out hd']
       exact hs
      obtain ⟨b1,b2⟩:=b
      cases b1 with
      | none=>exact ⟨fun A=>(A.new d' (.arr (T.ty e).sz (b2++AV.nrm.nrmL ys))).put d' (.os d' (F.gen d'+1) (b2.length+ys.length)),[d'],(Loc.new d' _).comp (Loc.put d' _),by simp,h11,fun J K' hs=>fin J K' hs⟩
      | own d =>
       have hse:∃ g n,F.ev s=.os d g n:=by
        generalize F.ev s=v at h5
        unfold TS.base at h5
        split at h5
        ·cases h5
        ·split at h5
         ·split at h5
          ·split at h5
           ·cases h5; exact ⟨_,_,rfl⟩
           ·cases h5
          ·cases h5
         ·cases h5
        ·cases h5
       obtain ⟨g,n,hse⟩:=hse
       refine ⟨fun A=>((A.kill d).new d' (.arr (T.ty e).sz (b2++AV.nrm.nrmL ys))).put d' (.os d' (F.gen d'+1) (b2.length+ys.length)),[d,d'],(((Loc.kill d).wide (by simp)).comp ((Loc.new d' _).wide (by simp))).comp ((Loc.put d' _).wide (by simp)),fun t' ht'=>?_,h11,fun J K' hs=>fin J K' hs⟩
       have:t'=d∨t'=d':=by simpa using ht'
       rcases this with rfl|rfl
       ·right; show tgtOf F _ t'; simp only [tgtOf,List.headD_cons,hse]
       ·exact .inl rfl
     ·exact h.elim
   | max =>
    have hx:(args.toList.all fun x=>xOk bad F x)=true:=by simpa [Op.operands,Call.operands] using hops
    obtain ⟨al⟩:=args
    have hs:al.length=2:=by simpa [drawable] using hdr
    obtain ⟨x,y,rfl⟩:∃ x y,al=[x,y]:=by
     match al,hs with
     | [x,y],_=>exact ⟨x,y,rfl⟩
    have hx:xOk bad F x=true∧xOk bad F y=true:=by simpa using hx
    have h:minmaxK true (F.ev x) (F.ev y) F dst K:=h
    show Same _ _ _ _ _ fun A K'=>minmaxK true (A.ev x) (A.ev y) A dst K'
    unfold minmaxK at h
    split at h
    ·rename_i k n k' m e1 e2
     refine (Same.set (o:=⟨dst,_,ty,pos,after,gd⟩) h).mono fun J K' hs=>?_
     rw [ev_mix hx.1,ev_mix hx.2,e1,e2]
     exact hs
    ·exact h.elim
   | min =>
    have hx:(args.toList.all fun x=>xOk bad F x)=true:=by simpa [Op.operands,Call.operands] using hops
    obtain ⟨al⟩:=args
    have hs:al.length=2:=by simpa [drawable] using hdr
    obtain ⟨x,y,rfl⟩:∃ x y,al=[x,y]:=by
     match al,hs with
     | [x,y],_=>exact ⟨x,y,rfl⟩
    have hx:xOk bad F x=true∧xOk bad F y=true:=by simpa using hx
    have h:minmaxK false (F.ev x) (F.ev y) F dst K:=h
    show Same _ _ _ _ _ fun A K'=>minmaxK false (A.ev x) (A.ev y) A dst K'
    unfold minmaxK at h
    split at h
    ·rename_i k n k' m e1 e2
     refine (Same.set (o:=⟨dst,_,ty,pos,after,gd⟩) h).mono fun J K' hs=>?_
     rw [ev_mix hx.1,ev_mix hx.2,e1,e2]
     exact hs
    ·exact h.elim
   | _=>simp [drawable] at hdr
  | invoke r m=>simp [drawable] at hdr
 | lookup t x k ok =>
  have hx:xOk bad F x=true∧xOk bad F k=true:=by simpa [Op.operands] using hops
  have h:=opKp.up h
  rw [opK_lookup] at h
  unfold mapK at h
  split at h
  ·rename_i kt et ht
   obtain ⟨h1,h2,h3,h4⟩:=h
   obtain ⟨q,h5,h6⟩:=optK_some h4
   obtain ⟨r,h7,h8⟩:=optK_some h6
   refine (Same.set (o:=⟨dst,_,ty,pos,after,gd⟩) h8).mono fun J K' hs=>?_
   rw [opK_lookup,ev_mix hx.1,ev_mix hx.2]
   unfold mapK
   rw [ht]
   exact ⟨h1,h2,h3,by rw [mapOf_mix (vOk_ev hx.1),h5]; show optK (findA T kt _ q.1 0) _; rw [h7]; exact hs⟩
  ·exact h.elim
 | makeMap t r =>
  cases r with
  | some r=>simp [drawable] at hdr
  | none =>
   have h:=opKp.up h
   rw [opK_makeMap] at h
   unfold newMapK at h
   cases dst with
   | none=>exact h.elim
   | some d =>
    refine ⟨fun A=>(A.new d (.mp [] [])).put d (.mref d (F.gen d+1)),[d],(Loc.new d _).comp (Loc.put d _),by simp,h.2,fun J K' hk=>?_⟩
    show opK T _ _ _
    rw [opK_makeMap]
    exact ⟨h.1,by rw [gen_out (hd d rfl)]; exact hk⟩
 | mapEntry t m k =>
  have hx:xOk bad F m=true∧xOk bad F k=true:=by simpa [Op.operands] using hops
  have h:=opKp.up h
  rw [opK_mapEntry] at h
  have hx0:∃ kt et d g e,(T.ty t).k=.map kt et∧F.ev m=.mref d g∧dst=some e:=by
   unfold entK at h
   split at h
   ·exact ⟨_,_,_,_,_,by assumption,by assumption,rfl⟩
   ·exact h.elim
  obtain ⟨kt,et,d,g,e,ht,hm,rfl⟩:=hx0
  ·unfold entK at h
   rw [ht,hm] at h
   obtain ⟨h1,h2,h3,h4,h5,h6,q,h7,h8,r,h10,h11⟩:=h
   have hv:=vOk_ev hx.1
   rw [hm] at hv
   simp only [vOk,Bool.not_eq_true'] at hv
   have fin:∀ J (K':TS→Prop),entK.entKK d e (F.ev k) (zeroA (T.ty et).k (T.ty et).zero) q r (mix bad J F) K'→opK T ⟨some e,.mapEntry t m k,ty,pos,after,gd⟩ (mix bad J F) K':=fun J K' hs=>by
    rw [opK_mapEntry,ev_mix hx.1,ev_mix hx.2,hm]
    unfold entK
    simp only [ht]
    exact ⟨by rw [gen_out hv]; exact h1,h2,h3,h4,h5,h6,q,by rw [obj_out hv]; exact h7,h8,r,h10,hs⟩
   cases r with
   | none =>
    refine ⟨fun A=>(A.setObj d (.mp (q.1++[F.ev k]) (q.2++[zeroA (T.ty et).k (T.ty et).zero]))).put e (.tup [zeroA (T.ty et).k (T.ty et).zero,.int .i64 q.1.length]),[d,e],((Loc.setObj d _).wide (by simp)).comp ((Loc.put e _).wide (by simp)),fun t' ht'=>?_,h11,fun J K' hs=>fin J K' hs⟩
    have:t'=d∨t'=e:=by simpa using ht'
    rcases this with rfl|rfl
    ·right; show tgtOf F _ t'; simp only [tgtOf,hm]
    ·exact .inl rfl
   | some i =>
    refine ⟨fun A=>(A.setObj d (.mp (q.1.set i (F.ev k)) q.2)).put e (.tup [q.2.getD i .any,.int .i64 i]),[d,e],((Loc.setObj d _).wide (by simp)).comp ((Loc.put e _).wide (by simp)),fun t' ht'=>?_,h11,fun J K' hs=>fin J K' hs⟩
    have:t'=d∨t'=e:=by simpa using ht'
    rcases this with rfl|rfl
    ·right; show tgtOf F _ t'; simp only [tgtOf,hm]
    ·exact .inl rfl
 | entryStore t m s x =>
  have hx:xOk bad F m=true∧xOk bad F s=true∧xOk bad F x=true:=by simpa [Op.operands] using hops
  have h:=opKp.up h
  rw [opK_entryStore] at h
  unfold entPutK at h
  split at h
  ·rename_i d g n hm hse
   obtain ⟨h1,h2,q,h3,h4,h5,h6⟩:=h
   have hv:=vOk_ev hx.1
   rw [hm] at hv
   simp only [vOk,Bool.not_eq_true'] at hv
   refine ⟨fun A=>A.setObj d (.mp q.1 (q.2.set n.toNat (F.ev x))),[d],Loc.setObj d _,fun t' ht'=>.inr ?_,h6,fun J K' hs=>?_⟩
   ·have:t'=d:=by simpa using ht'
    subst this
    show tgtOf F _ t'
    simp only [tgtOf,hm]
   ·show opK T _ (mix bad J F) K'
    rw [opK_entryStore,ev_mix hx.1,ev_mix hx.2.1,ev_mix hx.2.2,hm,hse]
    exact ⟨by rw [gen_out hv]; exact h1,h2,q,by rw [obj_out hv]; exact h3,h4,h5,hs⟩
  ·exact h.elim
 | mapUpdate t m k x =>
  have hx:xOk bad F m=true∧xOk bad F k=true∧xOk bad F x=true:=by simpa [Op.operands] using hops
  have h:=opKp.up h
  rw [opK_mapUpdate] at h
  unfold mapPutK at h
  split at h
  ·rename_i kt et d g ht hm
   obtain ⟨h1,h2,h3,h4,h5,h6⟩:=h
   obtain ⟨q,h7,h8,h9⟩:=optK_some h6
   obtain ⟨r,h10,h11⟩:=optK_some h9
   have hv:=vOk_ev hx.1
   rw [hm] at hv
   simp only [vOk,Bool.not_eq_true'] at hv
   refine ⟨fun A=>A.setObj d (.mp (putK q.1 (F.ev k) r) (putK q.2 (F.ev x) r)),[d],Loc.setObj d _,fun t' ht'=>.inr ?_,h11,fun J K' hs=>?_⟩
   ·have:t'=d:=by simpa using ht'
    subst this
    show tgtOf F _ t'
    simp only [tgtOf,hm]
   ·show opK T _ (mix bad J F) K'
    rw [opK_mapUpdate,ev_mix hx.1,ev_mix hx.2.1,ev_mix hx.2.2,hm]
    unfold mapPutK
    rw [ht]
    refine ⟨by rw [gen_out hv]; exact h1,h2,h3,h4,h5,?_⟩
    rw [obj_out hv,h7]
    refine ⟨h8,?_⟩
    show optK (findA T kt _ q.1 0) _
    rw [h10]
    exact hs
  ·exact h.elim
 | _=>simp [drawable] at hdr
end Go.Proofs.YtmjkjmoeicnbnaaGreatDoor.Lg
namespace Go.Proofs.YtmjkjmoeicnbnaaGreatDoor.Lg
set_option maxRecDepth 100000
set_option linter.unusedVariables false
set_option linter.unusedSimpArgs false
open Go
variable {P:Program}
mutual
theorem vOk_nil:∀ v:AV,vOk [] v=true
 | .agg cs=>by simp only [vOk]; exact vOkL_nil cs
 | .tup cs=>by simp only [vOk]; exact vOkL_nil cs
 | .clo _ a b=>by simp only [vOk,vOkL_nil a,vOkL_nil b,Bool.and_self]
 | .any|.bool _|.int _ _|.str _|.slice _ _|.ro _|.nilp|.nilf|.nilm|.niface|.iface _ _=>rfl
 | .os _ _ _|.ref _ _ _|.eref _ _ _ _|.ot _ _ _ _|.mref _ _|.mp _ _=>rfl
theorem vOkL_nil:∀ l:List AV,vOk.vOkL [] l=true
 | []=>rfl
 | x :: r=>by simp only [vOk.vOkL,vOk_nil x,vOkL_nil r,Bool.and_self]
end
def condK (v:AV) (A B:Prop):Prop :=
 match v with
 | .bool b=>(b=true→A)∧(b=false→B)
 | _=>False
theorem condK.split {b:Bool} {A B:Prop} (ht:b=true→A) (hf:b=false→B):condK (.bool b) A B:=⟨ht,hf⟩
def gvalL (ts:TS):List Oper→Nat→AV
 | [],_=>.any
 | o :: _,0=>match o.dst with
  | some d=>ts.tmp d
  | none=>.any
 | _ :: l,j+1=>gvalL ts l j
def gK (v:AV) (want:Bool) (A B:TS→Prop) (ts:TS):Prop :=
 match v with
 | .bool b=>(b=want→A ts)∧(b=!want→B ts)
 | .tup []=>B ts
 | _=>False
theorem gK.split_t {b:Bool} {A B:TS→Prop} {ts:TS} (ht:b=true→A ts) (hf:b=false→B ts):gK (.bool b) true A B ts:=⟨ht,hf⟩
theorem gK.split_f {b:Bool} {A B:TS→Prop} {ts:TS} (ht:b=true→B ts) (hf:b=false→A ts):gK (.bool b) false A B ts:=⟨hf,ht⟩
def skipK (dst:Option Nat) (K:TS→Prop) (ts:TS):Prop :=
 match dst with
 | some d=>d < ts.n∧K (ts.put d (.tup []))
 | none=>K ts
def opKt (T:Tys P) (o:Oper) (K:TS→Prop) (ts:TS):Prop:=opK T o ts K
def wG (T:Tys P) (all:List Oper) (o:Oper) (K:TS→Prop) (ts:TS):Prop :=
 match o.guard with
 | none=>opK T o ts K
 | some (j,want)=>gK (gvalL ts all j) want (opKt T o K) (skipK o.dst K) ts
def opKpt (T:Tys P) (o:Oper) (K:TS→Prop) (ts:TS):Prop:=opKp T o ts K
def wGp (T:Tys P) (all:List Oper) (o:Oper) (K:TS→Prop) (ts:TS):Prop :=
 match o.guard with
 | none=>opKp T o ts K
 | some (j,want)=>gK (gvalL ts all j) want (opKpt T o K) (skipK o.dst K) ts
def wOps (T:Tys P) (all:List Oper):List Oper→(TS→Prop)→TS→Prop
 | [],K,ts=>K ts
 | o :: l,K,ts=>wG T all o (wOps T all l K) ts
theorem gvalL_eq {ts:TS}:∀ (l:List Oper) (j:Nat),gvalL ts l j=match (l[j]?).bind (·.dst) with|some d=>ts.tmp d|none=>.any
 | [],j=>by simp [gvalL]
 | o :: l,0=>by cases hd:o.dst<;>simp [gvalL,hd]
 | o :: l,j+1=>by simp [gvalL,gvalL_eq l j]
theorem guardOf_gval {all:List Oper} {ts:TS} {j:Nat} {b:Option Bool} (h:gvalL ts all j=(match b with|some b=>.bool b|none=>.tup [])):guardOf (List.toArray all) ts j=some b:=by
 rw [gvalL_eq] at h
 have e:(List.toArray all)[j]?=all[j]?:=by simp
 unfold guardOf
 rw [e]
 split
 ·rename_i d hd
  rw [hd] at h
  cases b with
  | none=>simp only at h; simp [h]
  | some b=>simp only at h; simp [h]
 ·rename_i hd
  rw [hd] at h
  cases b<;>simp at h
theorem wG.sound {T:Tys P} {all:List Oper} {o:Oper} {ts:TS} {K:TS→Prop} (h:wG T all o K ts):SpecG P (List.toArray all) o ts K:=by
 unfold wG at h
 unfold SpecG
 split at h
 ·rename_i hg; rw [hg]; exact opK_sound T h
 ·rename_i j want hg
  rw [hg]
  generalize hv:gvalL ts all j=v at h
  unfold gK at h
  split at h
  ·rename_i b
   refine ⟨some b,guardOf_gval hv,?_⟩
   by_cases e:b=want
   ·subst e; rw [if_pos (by simp)]; exact opK_sound T (h.1 rfl)
   ·rw [if_neg (by simpa using e)]
    have hs:=h.2 (by cases b<;>cases want<;>simp_all)
    unfold skipK at hs
    cases hd:o.dst with
    | none=>rw [hd] at hs; exact ⟨by simp,hs⟩
    | some d=>rw [hd] at hs; exact ⟨fun d' e'=>by cases e'; exact hs.1,hs.2⟩
  ·refine ⟨none,guardOf_gval hv,?_⟩
   rw [if_neg (by simp)]
   unfold skipK at h
   cases hd:o.dst with
   | none=>rw [hd] at h; exact ⟨by simp,h⟩
   | some d=>rw [hd] at h; exact ⟨fun d' e'=>by cases e'; exact h.1,h.2⟩
  ·exact h.elim
theorem SpecG.mono {ops:Array Oper} {o:Oper} {ts:TS} {K K':TS→Prop} (h:SpecG P ops o ts K) (hk:∀ ts,K ts→K' ts):SpecG P ops o ts K':=by
 unfold SpecG at h ⊢
 split
 ·rename_i hg; rw [hg] at h; exact SpecO.mono h hk
 ·rename_i j want hg
  rw [hg] at h
  obtain ⟨b,h1,h2⟩:=h
  refine ⟨b,h1,?_⟩
  split
  ·rename_i e; rw [if_pos e] at h2; exact SpecO.mono h2 hk
  ·rename_i e; rw [if_neg e] at h2; exact ⟨h2.1,hk _ h2.2⟩
theorem wOps.sound {T:Tys P} {all:List Oper}:∀ {l:List Oper} {ts:TS} {K:TS→Prop},wOps T all l K ts→SpecOs P (List.toArray all) K l ts
 | [],_,_,h=>h
 | _ :: _,_,_,h=>SpecG.mono (wG.sound h) fun _ h=>wOps.sound h
structure NxK (next K:TS→Prop):Prop where
 out:∀ ts,next ts→K ts
structure Nx (a b:Prop):Prop where
 out:a→b
theorem SpecC.regW (T:Tys P) {id:Nat} {l:List Oper} {ts:TS} {Q:Exit→TS→Prop} (h:∀ K,NxK (fun ts'=>Q .normal ts') K→wOps T l l K ts):SpecC P (.region id (List.toArray l) false) ts Q :=
 SpecC.region (wOps.sound (h _ ⟨fun _ h=>h⟩))
def gOk (bad:List Nat):List Oper→Nat→Bool
 | [],_=>false
 | o :: _,0=>match o.dst with
  | some d=>!bad.contains d
  | none=>false
 | _ :: l,j+1=>gOk bad l j
def tgtOk (wr:List Nat) (F:TS) (o:Oper):Bool :=
 match o.op with
 | .store _ p _=>match F.ev p with
  | .ref d _ _=>wr.contains d
  | .eref d _ _ _=>wr.contains d
  | _=>true
 | .mapUpdate _ m _ _=>match F.ev m with
  | .mref d _=>wr.contains d
  | _=>true
 | .mapEntry _ m _=>match F.ev m with
  | .mref d _=>wr.contains d
  | _=>true
 | .entryStore _ m _ _=>match F.ev m with
  | .mref d _=>wr.contains d
  | _=>true
 | .call ⟨.builtin .append,xs,_⟩=>match F.ev (xs.toList.headD (.const (.bool false))) with
  | .os d _ _=>wr.contains d
  | _=>true
 | _=>true
def drawS (all:List Oper) (wr bad:List Nat) (o:Oper):Bool :=
 drawable o && (match o.dst with|some d=>wr.contains d && !bad.contains d|none=>true) && wr.all (fun t=>!bad.contains t) &&
 (o.op.operands.toList.all fun x=>match x with|.tmp t=>!bad.contains t|_=>true) && (match o.guard with|some (j,_)=>gOk bad all j|none=>true)
def opndOk (bad:List Nat) (F:TS):List Operand→Bool
 | []=>true
 | .tmp t :: l=>vOk bad (F.tmp t) && opndOk bad F l
 | _ :: l=>opndOk bad F l
def wDraw (T:Tys P) (all:List Oper):List (List Nat × List Nat)→List Oper→(TS→Prop)→TS→Prop
 | [],l,K,ts=>wOps T all l K ts
 | _ :: _,[],_,_=>False
 | (wr,bad) :: r,o :: l,K,ts=>wGp T all o (wDraw T all r l K) ts∧(opndOk bad ts o.op.operands.toList=true∧tgtOk wr ts o=true)
theorem gOk_spec {bad:List Nat}:∀ {l:List Oper} {j:Nat},gOk bad l j=true→∃ d,(l[j]?).bind (·.dst)=some d∧bad.contains d=false
 | [],_,h=>by simp [gOk] at h
 | o :: l,0,h=>by
  unfold gOk at h
  split at h
  ·rename_i d hd; exact ⟨d,by simp [hd],by simpa using h⟩
  ·cases h
 | o :: l,j+1,h=>by
  obtain ⟨d,h1,h2⟩:=gOk_spec (l:=l) (j:=j) (by simpa [gOk] using h)
  exact ⟨d,by simpa using h1,h2⟩
theorem opnd_all {bad:List Nat} {F:TS}:∀ (l:List Operand),(l.all fun x=>match x with|.tmp t=>!bad.contains t|_=>true)=true→opndOk bad F l=true→(l.all fun x=>xOk bad F x)=true
 | [],_,_=>rfl
 | x :: r,h1,h2=>by
  simp only [List.all_cons,Bool.and_eq_true] at h1 ⊢
  cases x with
  | tmp t =>
   simp only [opndOk,Bool.and_eq_true] at h2
   exact ⟨by simp only [xOk,Bool.and_eq_true]; exact ⟨h1.1,h2.1⟩,opnd_all r h1.2 h2.2⟩
  | _=>exact ⟨rfl,opnd_all r h1.2 (by simpa [opndOk] using h2)⟩
theorem wDraw.step {T:Tys P} {all:List Oper} {wrs bads:List (List Nat)} {C:TS→Prop} {i:Nat} {o:Oper} {l:List Oper} {F:TS} {wr bad:List Nat} (hw:wrs.getD i []=wr) (hb:bads.getD i []=bad)
  (hs:drawS all wr bad o=true) (ho:opndOk bad F o.op.operands.toList=true) (ht:tgtOk wr F o=true)
  (h:wGp T all o (fun F'=>PreOk P (List.toArray all) wrs bads C (i+1) l F') F):PreOk P (List.toArray all) wrs bads C i (o :: l) F:=by
 simp only [drawS,Bool.and_eq_true] at hs
 obtain ⟨⟨⟨⟨h1,h2⟩,h3⟩,h4⟩,h5⟩:=hs
 have hops:=opnd_all _ h4 ho
 have hdst:∀ d,o.dst=some d→wr.contains d=true∧bad.contains d=false:=fun d hd=>by
  rw [hd] at h2; simp only [Bool.and_eq_true,Bool.not_eq_true'] at h2; exact h2
 have hmem:∀ d,wr.contains d=true→d∈wr:=fun d hd=>List.contains_iff_mem.1 hd
 have main:opKp T o F (fun F'=>PreOk P (List.toArray all) wrs bads C (i+1) l F')→∃ g,Loc wr g∧PreOk P (List.toArray all) wrs bads C (i+1) l (g F)∧∀ J (K':TS→Prop),K' (g (mix bad J F))→SpecO P o (mix bad J F) K':=fun h=>by
  obtain ⟨g,ws,g1,g2,g3,g4⟩:=opK_loc T hops h1 (fun d hd=>(hdst d hd).2) h
  refine ⟨g,g1.wide fun t htw=>?_,g3,fun J K' hk=>opK_sound T (g4 J K' hk)⟩
  rcases g2 t htw with hd|htg
  ·exact hmem t (hdst t hd).1
  ·unfold tgtOf at htg
   unfold tgtOk at ht
   split at htg
   ·rename_i p x hop
    rw [hop] at ht
    simp only at ht
    split at htg
    ·rename_i hev; rw [hev] at ht; subst htg; exact hmem _ ht
    ·rename_i hev; rw [hev] at ht; subst htg; exact hmem _ ht
    ·exact htg.elim
   ·rename_i m _ _ hop
    rw [hop] at ht
    simp only at ht
    split at htg
    ·rename_i hev; rw [hev] at ht; subst htg; exact hmem _ ht
    ·exact htg.elim
   ·rename_i m _ hop
    rw [hop] at ht
    simp only at ht
    split at htg
    ·rename_i hev; rw [hev] at ht; subst htg; exact hmem _ ht
    ·exact htg.elim
   ·rename_i m _ _ hop
    rw [hop] at ht
    simp only at ht
    split at htg
    ·rename_i hev; rw [hev] at ht; subst htg; exact hmem _ ht
    ·exact htg.elim
   ·rename_i xs _ hop
    rw [hop] at ht
    simp only at ht
    split at htg
    ·rename_i hev; rw [hev] at ht; subst htg; exact hmem _ ht
    ·exact htg.elim
   ·exact htg.elim
 unfold wGp at h
 split at h
 ·rename_i hg
  obtain ⟨g,g1,g2,g3⟩:=main h
  refine PreOk.loc hw hb g1 h3 (fun J=>?_) g2
  unfold SpecG
  rw [hg]
  exact g3 J _ rfl
 ·rename_i j want hg
  rw [hg] at h5
  obtain ⟨d,hd1,hd2⟩:=gOk_spec h5
  have hd1':((List.toArray all)[j]?).bind (·.dst)=some d:=by simpa using hd1
  have hv:gvalL F all j=F.tmp d:=by rw [gvalL_eq,hd1]
  have hgd:∀ J,guardOf (List.toArray all) (mix bad J F) j=guardOf (List.toArray all) F j:=fun J=>by
   unfold guardOf
   rw [hd1']
   simp only [(mix_out (J:=J) (F:=F) hd2).1]
  generalize hvv:gvalL F all j=v at h
  have skip:∀ b:Option Bool,guardOf (List.toArray all) F j=some b→b≠some want→skipK o.dst (fun F'=>PreOk P (List.toArray all) wrs bads C (i+1) l F') F→PreOk P (List.toArray all) wrs bads C i (o :: l) F:=fun b hgb hne hs=>by
   unfold skipK at hs
   cases hdo:o.dst with
   | none =>
    rw [hdo] at hs
    refine PreOk.loc hw hb (Loc.id wr) h3 (fun J=>?_) hs
    unfold SpecG
    rw [hg]
    refine ⟨b,by rw [hgd]; exact hgb,?_⟩
    rw [if_neg (by simpa using hne),hdo]
    exact ⟨by simp,rfl⟩
   | some e =>
    rw [hdo] at hs
    refine PreOk.loc hw hb ((Loc.put e (.tup [])).wide fun t ht'=>by
     have:t=e:=by simpa using ht'
     subst this; exact hmem _ (hdst _ hdo).1) h3 (fun J=>?_) hs.2
    unfold SpecG
    rw [hg]
    refine ⟨b,by rw [hgd]; exact hgb,?_⟩
    rw [if_neg (by simpa using hne),hdo]
    exact ⟨fun d' e'=>by cases e'; exact hs.1,rfl⟩
  unfold gK at h
  split at h
  ·rename_i b
   have hgb:=guardOf_gval (b:=some b) hvv
   by_cases e:b=want
   ·subst e
    obtain ⟨g,g1,g2,g3⟩:=main (h.1 rfl)
    refine PreOk.loc hw hb g1 h3 (fun J=>?_) g2
    unfold SpecG
    rw [hg]
    refine ⟨some b,by rw [hgd]; exact hgb,?_⟩
    rw [if_pos (by simp)]
    exact g3 J _ rfl
   ·exact skip (some b) hgb (by simpa using e) (h.2 (by cases b<;>cases want<;>simp_all))
  ·exact skip none (guardOf_gval (b:=none) hvv) (by simp) h
  ·exact h.elim
def drawSs (all:List Oper):List (List Nat × List Nat)→List Oper→Bool
 | [],_=>true
 | _ :: _,[]=>false
 | (wr,bad) :: r,o :: l=>drawS all wr bad o && drawSs all r l
theorem afterK.mono {ts:TS} {dst:Option Nat} {r:Ret} {K1 K2:TS→Prop} (hk:∀ ts,K1 ts→K2 ts) (h:afterK ts dst r K1):afterK ts dst r K2:=by
 cases r<;>cases dst<;>simp only [afterK,setK,newArrK] at h ⊢
 ·exact hk _ h
 ·exact ⟨h.1,hk _ h.2⟩
 ·exact ⟨h.1,hk _ h.2⟩
theorem opKp_mono {T:Tys P} {o:Oper} {F:TS} {K1 K2:TS→Prop} (hd:drawable o=true) (hops:(o.op.operands.toList.all fun x=>xOk [] F x)=true) (hk:∀ F',K1 F'→K2 F') (h:opKp T o F K1):opKp T o F K2:=by
 have e:mix [] F F=F:=ts_ext rfl fun t=>mix_out (by simp)
 have key:(∀ f xs at_,o.op≠.call ⟨.value f,xs,at_⟩)→opKp T o F K2:=fun hne=>by
  obtain ⟨g,_,_,_,g3,g4⟩:=opK_loc T (bad:=[]) hops hd (by simp) h
  have:=g4 F K2 (by rw [e]; exact hk _ g3)
  rw [e] at this
  unfold opKp
  split
  ·rename_i f xs at_ ho; exact absurd ho (hne f xs at_)
  ·rename_i fn first caps ho
   obtain ⟨dst,op,ty,pos,after,gd⟩:=o
   subst ho
   obtain ⟨h1,h2⟩:=h
   refine ⟨h1,?_⟩
   rw [opK_makeFunc,h1] at this
   exact this
  ·exact this
 by_cases hc:∃ f xs at_,o.op=.call ⟨.value f,xs,at_⟩
 ·obtain ⟨f,xs,at_,ho⟩:=hc
  obtain ⟨dst,op,ty,pos,after,gd⟩:=o
  subst ho
  have h:callW false P (F.ev f) (xs.toList.map F.ev) dst F K1:=h
  show callW false P (F.ev f) (xs.toList.map F.ev) dst F K2
  unfold callW at h ⊢
  split at h
  ·rcases h with ⟨as,lent,r,h1,h2,h3,h4⟩|⟨h,_⟩
   ·exact .inl ⟨as,lent,r,h1,h2,h3,h4.mono hk⟩
   ·cases h
  ·exact h.elim
 ·exact key fun f xs at_ ho=>hc ⟨f,xs,at_,ho⟩
theorem wDraw.pre {T:Tys P} {all:List Oper} {wrs bads:List (List Nat)} {K:TS→Prop}:∀ (q:List (List Nat × List Nat)) (l:List Oper) (i:Nat) (F:TS),(wrs.zip bads).drop i=q→wrs.length=bads.length→drawSs all q l=true→all.drop i=l→wDraw T all q l K F →
  PreOk P (List.toArray all) wrs bads (SpecOs P (List.toArray all) K (all.drop (i+q.length))) i (l.take q.length) F
 | [],l,i,F,_,_,_,hl,h=>by
  rw [List.length_nil,Nat.add_zero,hl]
  exact wOps.sound h
 | (wr,bad) :: r,[],i,F,_,_,_,_,h=>h.elim
 | (wr,bad) :: r,o :: l,i,F,hq,hlen,hs,hl,h=>by
  obtain ⟨h1,h2,h3⟩:=h
  simp only [drawSs,Bool.and_eq_true] at hs
  have hzi:(wrs.zip bads)[i]?=some (wr,bad):=by
   have:=congrArg (fun l=>l[0]?) hq
   simpa using this
  have hw:wrs.getD i []=wr:=by
   have:wrs[i]?=some wr:=(List.getElem?_zip_eq_some.1 hzi).1
   simp [this]
  have hb:bads.getD i []=bad:=by
   have:bads[i]?=some bad:=(List.getElem?_zip_eq_some.1 hzi).2
   simp [this]
  have hq':(wrs.zip bads).drop (i+1)=r:=by rw [← List.drop_drop,hq]; rfl
  have hl':all.drop (i+1)=l:=by rw [← List.drop_drop,hl]; rfl
  have e:i+((wr,bad) :: r).length=i+1+r.length:=by simp; omega
  rw [e]
  refine wDraw.step (T:=T) hw hb hs.1 h2 h3 ?_
  have mono:∀ {K1 K2:TS→Prop},(∀ F',K1 F'→K2 F')→opKp T o F K1→opKp T o F K2:=fun {K1 K2} hk ho=>by
   exact opKp_mono (by
    have:=hs.1
    simp only [drawS,Bool.and_eq_true] at this
    exact this.1.1.1.1) (by
    have:=hs.1
    simp only [drawS,Bool.and_eq_true] at this
    refine opnd_all _ (List.all_eq_true.2 fun x _=>by cases x<;>simp) ?_
    generalize o.op.operands.toList=xs
    induction xs with
    | nil=>rfl
    | cons x r ih=>cases x<;>simp [opndOk,ih,vOk_nil]) hk ho
  have hk:=fun F' (h:wDraw T all r l K F')=>wDraw.pre (wrs:=wrs) (bads:=bads) r l (i+1) F' hq' hlen hs.2 hl' h
  unfold wGp at h1 ⊢
  split
  ·rename_i hg; rw [hg] at h1; exact mono hk h1
  ·rename_i j want hg
   rw [hg] at h1
   simp only at h1
   generalize gvalL F all j=v at h1 ⊢
   unfold gK at h1 ⊢
   have skip:skipK o.dst (wDraw T all r l K) F→skipK o.dst (fun F'=>PreOk P (List.toArray all) wrs bads (SpecOs P (List.toArray all) K (all.drop (i+1+r.length))) (i+1) (l.take r.length) F') F:=fun h=>by
    unfold skipK at h ⊢
    cases hd:o.dst with
    | none=>rw [hd] at h; exact hk _ h
    | some d=>rw [hd] at h; exact ⟨h.1,hk _ h.2⟩
   split
   ·exact ⟨fun e=>mono hk (h1.1 e),fun e=>skip (h1.2 e)⟩
   ·exact skip h1
   ·rename_i g1 g2
    split at h1
    ·exact (g1 _ rfl).elim
    ·exact (g2 rfl).elim
    ·exact h1
theorem zip_parts {α β:Type}:∀ q:List (α × β),(q.map (·.1)).zip (q.map (·.2))=q
 | []=>rfl
 | x :: r=>by simp only [List.map_cons,List.zip_cons_cons,zip_parts r]
theorem SpecC.drawW (T:Tys P) (hmix:P.follows .mixedOrders=true) (q:List (List Nat × List Nat)) {id:Nat} {l:List Oper} {ts:TS} {Q:Exit→TS→Prop}
  (hc:(drawChk (List.toArray l) q.length (q.map (·.1)) (q.map (·.2)) && drawSs l q l)=true) (h:∀ K,NxK (fun ts'=>Q .normal ts') K→wDraw T l q l K ts):SpecC P (.region id (List.toArray l) true) ts Q:=by
 simp only [Bool.and_eq_true] at hc
 have hz:=zip_parts q
 have:=wDraw.pre (wrs:=q.map (·.1)) (bads:=q.map (·.2)) q l 0 ts (by rw [hz]; rfl) (by simp) hc.2 rfl (h _ ⟨fun _ h=>h⟩)
 exact SpecC.drawP hmix id q.length _ _ hc.1 (by simpa using this)
theorem SpecC.seqW {x y:Code} {ts:TS} {Q:Exit→TS→Prop} (h:∀ K,NxK (fun ts'=>SpecC P y ts' Q) K→SpecC P x ts (thenK K Q)):SpecC P (.seq x y) ts Q:=SpecC.seq (h _ ⟨fun _ h=>h⟩)
theorem SpecC.condW {c:Operand} {x y:Code} {ts:TS} {Q:Exit→TS→Prop} (h:∀ A B,Nx (SpecC P x ts Q) A→Nx (SpecC P y ts Q) B→condK (ts.ev c) A B):SpecC P (.cond c x y) ts Q:=by
 have:=h _ _ ⟨fun h=>h⟩ ⟨fun h=>h⟩
 unfold condK at this
 split at this
 ·rename_i b hb; exact SpecC.cond hb this.1 this.2
 ·exact this.elim
def CallR (P:Program) (f:FuncId) (args:List AV) (r:Ret):Prop:=CallV P f (args.map Arg.v) fun r' _=>r'=r
def CallM (P:Program) (f:FuncId) (sz:Nat) (xs args:List AV) (r:Ret):Prop:=CallV P f (.own sz xs :: args.map Arg.v) fun r' _=>r'=r
def CallI (P:Program) (f:FuncId) (cs args:List AV) (x:AV) (cs':List AV):Prop:=CallV P f (.io cs :: args.map Arg.v) fun r' io=>r'=.val x∧io 0=cs'
theorem callX.by {m:Bool} {f:FuncId} {vs as:List AV} {lent:List Nat} {dst:Option Nat} {ts:TS} {K:TS→Prop} {r:Ret} (h:CallR P f as r) (hk:(lent=[]∨r.flat=true)∧afterK ts dst r K):callX m P f vs (some (as,lent)) dst ts K :=
 .inl ⟨as,lent,r,rfl,h,hk.1,hk.2⟩
theorem callX.mv {f:FuncId} {d g len sz:Nat} {xs rest as:List AV} {q:Option (List AV × List Nat)} {dst:Option Nat} {ts:TS} {K:TS→Prop} {r:Ret}
  (h1:((ts.obj d).arr?.map fun q=>(q.1,q.2.take len))=some (sz,xs)) (h3:ts.toArgs rest=some (as,[])) (hk:(g=ts.gen d∧optK (ts.obj d).arr? fun q=>len≤q.2.length∧AV.pure.pureL q.2=true)∧afterK (ts.kill d) dst r K) (h:CallM P f sz xs as r):callX true P f (.os d g len :: rest) q dst ts K:=by
 obtain ⟨⟨hg,ho⟩,hk⟩:=hk
 obtain ⟨⟨sz',zs⟩,ho,hl,hp⟩:=optK_some ho
 rw [ho] at h1
 simp only [Option.map_some,Option.some.injEq,Prod.mk.injEq] at h1
 obtain ⟨rfl,rfl⟩:=h1
 exact .inr ⟨rfl,.inl ⟨d,g,len,sz',zs,rest,as,r,rfl,hg,arr?_some ho,hl,hp,h3,h,hk⟩⟩
def Ob.box?:Ob→Option (List AV)
 | .box cs=>some cs
 | _=>none
theorem box?_some {o:Ob} {cs:List AV} (h:o.box?=some cs):o=.box cs:=by
 cases o<;>simp [Ob.box?] at h
 subst h; rfl
theorem callX.io {f:FuncId} {d g:Nat} {cs cs' rest as:List AV} {q:Option (List AV × List Nat)} {dst:Option Nat} {ts:TS} {K:TS→Prop} {x:AV}
  (h1:(ts.obj d).box?=some cs) (h3:ts.toArgs rest=some (as,[])) (hk:(g=ts.gen d∧AV.pure.pureL cs=true)∧setK (ts.setObj d (.box cs')) dst x K) (h:CallI P f cs as x cs'):callX true P f (.ref d g 0 :: rest) q dst ts K :=
 .inr ⟨rfl,.inr (.inl ⟨d,g,cs,cs',rest,as,x,rfl,hk.1.1,box?_some h1,hk.1.2,h3,h,hk.2⟩)⟩
theorem callX.ar {f fg:FuncId} {d g sz len:Nat} {zs zs':List AV} {q:Option (List AV × List Nat)} {dst:Option Nat} {ts:TS} {K:TS→Prop}
  (h1:(ts.obj d).arr?=some (sz,zs)) (hk:(g=ts.gen d∧len=zs.length)∧setK (ts.setObj d (.arr sz zs')) dst (.tup []) K) (h:CallA P f fg sz zs zs'):callX true P f [.os d g len,.clo (.func fg) [] []] q dst ts K:=by
 obtain ⟨⟨hg,rfl⟩,hk⟩:=hk
 exact .inr ⟨rfl,.inr (.inr (.inl ⟨d,g,fg,sz,zs,zs',rfl,hg,arr?_some h1,h,hk⟩))⟩
theorem callX.hm {f:FuncId} {H d g:Nat} {ks vl ks' vl' vs as:List AV} {q:Option (List AV × List Nat)} {dst:Option Nat} {ts:TS} {K:TS→Prop} {x:AV}
  (h1:(ts.obj d).mp?=some (ks,vl)) (ha:AV.renM.renML d g H vs=as) (h:CallH P f H as ks vl x ks' vl')
  (hk:(g=ts.gen d∧(AV.pure.pureL ks=true∧AV.pure.pureL vl=true)∧AV.pureH.pureHL d g vs=true)∧setK (ts.setObj d (.mp ks' vl')) dst x K):callX true P f vs q dst ts K:=by
 subst ha
 exact .inr ⟨rfl,.inr (.inr (.inr (.inr (.inl ⟨d,g,H,ks,vl,ks',vl',x,hk.1.1,mp?_some h1,hk.1.2.1,hk.1.2.2,h,hk.2⟩))))⟩
theorem callX.raw {f:FuncId} {vs:List AV} {q:Option (List AV × List Nat)} {dst:Option Nat} {ts:TS} {K:TS→Prop} {r:Ret} (h:CallR P f vs r) (hk:AV.pure.pureL vs=true∧afterK ts dst r K):callX true P f vs q dst ts K :=
 .inr ⟨rfl,.inr (.inr (.inr (.inr (.inr ⟨hk.1,r,h,hk.2⟩))))⟩
theorem callX.fz {f:FuncId} {vs as:List AV} {lent:List Nat} {dst:Option Nat} {ts:TS} {K:TS→Prop} {r:Ret} (h:CallR P f as r) (hk:afterK (ts.killL lent) dst r K):callX true P f vs (some (as,lent)) dst ts K :=
 .inr ⟨rfl,.inr (.inr (.inr (.inl ⟨as,lent,r,rfl,h,hk⟩)))⟩
def endK (Q:TS→Prop) (ex:Exit) (ts:TS):Prop :=
 match ex with
 | .normal=>Q ts
 | .ret=>Q ts
 | _=>False
def ownX (ts:TS) (x:AV) (sz:Nat) (zs:List AV):Prop :=
 match x with
 | .os d g len=>g=ts.gen d∧optK (ts.obj d).arr? fun q=>q.1=sz∧len≤q.2.length∧AV.pure.pureL (q.2.take len)=true∧AV.nrm.nrmL (q.2.take len)=zs
 | .slice true []=>0 < sz∧[]=zs
 | _=>False
theorem Rel.trunc {E:Env} {ts:TS} {G:Ghost} {a:Act} {w:World} (h:Rel E ts G a w) {d sz:Nat} {xs:List AV} (ho:ts.obj d=.arr sz xs) (n:Nat):Rel E (ts.setObj d (.arr sz (xs.take n))) G a w:=by
 have hkind:(fun e=>((ts.setObj d (.arr sz (xs.take n))).obj e).kind)=fun e=>(ts.obj e).kind:=by
  funext e
  simp only [TS.setObj]
  by_cases he:e=d
  ·subst he; rw [upd_same,ho]; rfl
  ·rw [upd_ne _ _ he]
 have hlive:∀ e,liveR (ts.setObj d (.arr sz (xs.take n))) G e↔liveR ts G e:=fun e=>by
  unfold liveR
  rw [congrFun hkind e]
 have hctx:ctxOf E G (ts.setObj d (.arr sz (xs.take n))) w=ctxOf E G ts w:=by
  unfold ctxOf
  have e1:(fun k=>E.F k∨∃ e,liveR (ts.setObj d (.arr sz (xs.take n))) G e∧G.β e=k)=fun k=>E.F k∨∃ e,liveR ts G e∧G.β e=k:=by
   funext k
   simp only [hlive]
  rw [e1,hkind]
  rfl
 refine ⟨h.size,h.defers,fun t=>by rw [hctx]; exact h.tmp t,fun e=>?_,fun e e' h1 h2 h3=>h.sep e e' ((hlive e).1 h1) ((hlive e').1 h2) h3,fun e h1=>h.own e ((hlive e).1 h1),h.inF,h.bel,h.pin⟩
 rw [hctx]
 show ObOk _ e ((upd ts.obj d _) e)
 by_cases he:e=d
 ·subst he
  have:=h.obj e
  rw [ho] at this
  rw [upd_same]
  exact take_rep this n
 ·rw [upd_ne _ _ he]; exact h.obj e
def oneRes (ts:TS) (rs:List ResultVar):Bool :=
 match rs with
 | [.tmp _]=>true
 | [.cell a _]=>(match ts.tmp a with|.ref ..=>true|_=>false)
 | _=>false
def EndX (T:Tys P) (rs:List ResultVar) (r:Ret) (ts:TS):Prop :=
 match r with
 | .val z=>optK (ts.result T rs) fun x=>optK (x.res ts) fun y=>y.nrm=z
 | .own sz zs=>oneRes ts rs=true∧optK (ts.result T rs) fun x=>ownX ts x sz zs
theorem ptr_setArr {ts:TS} {d sz sz':Nat} {xs ys:List AV} (ho:ts.obj d=.arr sz xs) {x:AV} {cs:List AV} (h:ts.ptr x=some cs) (hx:∀ g i o,x≠.eref d g i o):(ts.setObj d (.arr sz' ys)).ptr x=some cs:=by
 cases x with
 | ref e g off =>
  simp only [TS.ptr] at h ⊢
  by_cases he:e=d
  ·subst he
   rw [ho] at h
   split at h<;>simp at h
  ·simp only [TS.setObj,upd_ne _ _ he]; exact h
 | eref e g i o =>
  by_cases he:e=d
  ·subst he; exact absurd rfl (hx g i o)
  ·simp only [TS.ptr,TS.setObj,upd_ne _ _ he] at h ⊢; exact h
 | _=>exact h
theorem resV_setArr {T:Tys P} {ts:TS} {d sz sz':Nat} {xs ys:List AV} (ho:ts.obj d=.arr sz xs) {r:ResultVar} {x:AV} (h:ts.resV T r=some x) (hx:match r with|.tmp _=>True|.cell a _=>∀ g i o,ts.tmp a≠.eref d g i o):(ts.setObj d (.arr sz' ys)).resV T r=some x:=by
 cases r with
 | tmp t=>exact h
 | cell a t =>
  simp only [TS.resV] at h ⊢
  split at h
  ·cases h
  ·split at h
   ·rename_i cs hp
    have:(ts.setObj d (.arr sz' ys)).ptr ((ts.setObj d (.arr sz' ys)).tmp a)=some cs:=ptr_setArr ho hp hx
    rw [this]; exact h
   ·cases h
theorem EndX_trunc {T:Tys P} {ts:TS} {d sz sz':Nat} {xs ys:List AV} (ho:ts.obj d=.arr sz xs) {rs:List ResultVar} (h1:oneRes ts rs=true) {x:AV} (h:ts.result T rs=some x):(ts.setObj d (.arr sz' ys)).result T rs=some x:=by
 unfold oneRes at h1
 split at h1
 ·exact h
 ·rename_i a u
  rw [result_cell] at h ⊢
  refine resV_setArr ho h ?_
  split at h1
  ·rename_i hr
   intro g i o
   rw [hr]; simp
  ·cases h1
 ·cases h1
theorem CallH.go5 {T:Tys P} {f:FuncId} {fn:Func} {c:Code} {rs:List ResultVar} {H:Nat} {ks vs ks' vs':List AV} {x a b d e q:AV} (hcall:∀ (vals:Array Value) (w:World),(callFunc f vals).run P w=.ok (.enter f vals) w)
  (hf:P.funcs[f]?=some fn) (hb:fn.body=some c) {n:Nat} (hnt:fn.ntmps=n) (hrs:fn.results.toList=rs) (hn:5≤n)
  (h:∀ ts:TS,ts.n=n→ts.tmp 0=a→ts.tmp 1=b→ts.tmp 2=d→ts.tmp 3=e→ts.tmp 4=q→ts.gen H=0→ts.obj H=.mp ks vs→SpecC P c ts (endK (EndH T rs H x ks' vs'))):CallH P f H [a,b,d,e,q] ks vs x ks' vs':=by
 subst hnt hrs
 refine CallH.of_body (T:=T) hcall hf hb hn ((h _ rfl rfl rfl rfl rfl rfl rfl (by simp [argH])).mono fun ex ts hq=>?_)
 cases ex with
 | normal=>exact ⟨.inl rfl,hq⟩
 | ret=>exact ⟨.inr rfl,hq⟩
 | _=>exact hq.elim
theorem CallV.go {T:Tys P} {f:FuncId} {fn:Func} {c:Code} {args:List Arg} {rs:List ResultVar} {r:Ret} (hcall:∀ (vals:Array Value) (w:World),(callFunc f vals).run P w=.ok (.enter f vals) w)
  (hf:P.funcs[f]?=some fn) (hb:fn.body=some c) {n:Nat} (hnt:fn.ntmps=n) (hrs:fn.results.toList=rs) (hn:args.length≤n) (hio:∀ (j:Nat) (cs:List AV),args[j]?≠some (Arg.io cs))
  (h:∀ ts:TS,ts.n=n→ArgsAt ts 0 args→SpecC P c ts (endK (EndX T rs r))):CallV P f args fun r' _=>r'=r:=by
 subst hnt
 refine CallV.fit hio ?_
 refine CallV.of_body (T:=T) hcall hf hb hn ?_
 have hs:=h (argTS args fn.ntmps) rfl (argsAt_argTS _ args args 0 fun i=>by simp)
 intro E G a w hr
 refine wp_mono (hs E G a w hr) ?_
 rintro e a' w' ⟨ts',G',he,hr'⟩
 have key:(e=.normal∨e=.ret)→EndX T rs r ts'→∃ ts'' G'',(EndsP T fn args (Ret.fits fun r' _=>r'=r) e ts''∨EndsO T fn args (Ret.fits fun r' _=>r'=r) e ts'')∧Rel E ts'' G'' a' w':=fun hex hx=>by
  cases r with
  | val z =>
   obtain ⟨x,h3,h4⟩:=optK_some hx
   obtain ⟨y,h5,h6⟩:=optK_some h4
   exact ⟨ts',G',.inl ⟨hex,x,y,fun _=>[],by rw [hrs]; exact h3,h5,by refine .inl ?_; show Ret.val y.nrm=_; rw [h6],fun j cs h=>absurd h (hio j cs)⟩,hr'⟩
  | own sz zs =>
   obtain ⟨h1r,hx⟩:=hx
   obtain ⟨x,h3,h4⟩:=optK_some hx
   unfold ownX at h4
   split at h4
   ·rename_i d g len
    obtain ⟨h5,h6⟩:=h4
    obtain ⟨⟨sz',xs⟩,ho,rfl,h7,h8,h9⟩:=optK_some h6
    have ho:=arr?_some ho
    refine ⟨_,G',.inr ⟨hex,d,g,sz',xs.take len,fun _=>[],?_,?_,?_,h8,?_,fun j cs h=>absurd h (hio j cs)⟩,hr'.trunc ho len⟩
    ·have hl:(xs.take len).length=len:=by simp only at h7; simp; omega
     rw [hrs,hl]
     exact EndX_trunc ho h1r h3
    ·simp [TS.setObj]; exact h5
    ·simp [TS.setObj]
    ·refine .inl ?_; show Ret.own sz' (AV.nrm.nrmL (xs.take len))=_; rw [h9]
   ·exact ⟨ts',G',.inl ⟨hex,.slice true [],.slice true [],fun _=>[],by rw [hrs]; exact h3,rfl,.inr ⟨rfl,sz,h4.1,by rw [h4.2]⟩,fun j cs h=>absurd h (hio j cs)⟩,hr'⟩
   ·exact h4.elim
 cases e with
 | normal=>exact key (.inl rfl) he
 | ret=>exact key (.inr rfl) he
 | _=>exact he.elim
theorem CallR.go {T:Tys P} {f:FuncId} {fn:Func} {c:Code} {args:List AV} {rs:List ResultVar} {r:Ret} (hcall:∀ (vals:Array Value) (w:World),(callFunc f vals).run P w=.ok (.enter f vals) w)
  (hf:P.funcs[f]?=some fn) (hb:fn.body=some c) {n:Nat} (hnt:fn.ntmps=n) (hrs:fn.results.toList=rs) (hn:args.length≤n)
  (h:∀ ts:TS,ts.n=n→ArgsAt ts 0 (args.map Arg.v)→SpecC P c ts (endK (EndX T rs r))):CallR P f args r :=
 CallV.go hcall hf hb hnt hrs (by simpa using hn) (fun j cs h=>by simp only [List.getElem?_map] at h; cases hh:args[j]?<;>rw [hh] at h<;>simp at h) h
section go
variable {T:Tys P} {f:FuncId} {fn:Func} {c:Code} {rs:List ResultVar} {r:Ret} (hcall:∀ (vals:Array Value) (w:World),(callFunc f vals).run P w=.ok (.enter f vals) w)
  (hf:P.funcs[f]?=some fn) (hb:fn.body=some c) {n:Nat} (hnt:fn.ntmps=n) (hrs:fn.results.toList=rs)
include hcall hf hb hnt hrs
theorem CallR.go0 (h:∀ ts:TS,ts.n=n→SpecC P c ts (endK (EndX T rs r))):CallR P f [] r:=CallR.go hcall hf hb hnt hrs (Nat.zero_le _) fun ts h1 _=>h ts h1
theorem CallR.go1 {a:AV} (hn:1≤n) (h:∀ ts:TS,ts.n=n→ts.tmp 0=a→SpecC P c ts (endK (EndX T rs r))):CallR P f [a] r:=CallR.go hcall hf hb hnt hrs hn fun ts h1 h2=>h ts h1 h2.1
theorem CallR.go2 {a b:AV} (hn:2≤n) (h:∀ ts:TS,ts.n=n→ts.tmp 0=a→ts.tmp 1=b→SpecC P c ts (endK (EndX T rs r))):CallR P f [a,b] r:=CallR.go hcall hf hb hnt hrs hn fun ts h1 h2=>h ts h1 h2.1 h2.2.1
theorem CallR.go5 {a b d e g:AV} (hn:5≤n) (h:∀ ts:TS,ts.n=n→ts.tmp 0=a→ts.tmp 1=b→ts.tmp 2=d→ts.tmp 3=e→ts.tmp 4=g→SpecC P c ts (endK (EndX T rs r))):CallR P f [a,b,d,e,g] r :=
 CallR.go hcall hf hb hnt hrs hn fun ts h1 h2=>h ts h1 h2.1 h2.2.1 h2.2.2.1 h2.2.2.2.1 h2.2.2.2.2.1
theorem CallM.go0 {sz:Nat} {xs:List AV} (hn:1≤n) (h:∀ ts:TS,ts.n=n→ts.tmp 0=.os 0 0 xs.length→ts.gen 0=0→ts.obj 0=.arr sz xs→SpecC P c ts (endK (EndX T rs r))):CallM P f sz xs [] r :=
 CallV.go hcall hf hb hnt hrs hn (fun j cs h=>by cases j<;>simp at h) fun ts h1 h2=>h ts h1 h2.1.1 h2.1.2.1 h2.1.2.2
theorem CallM.go1 {sz:Nat} {xs:List AV} {a:AV} (hn:2≤n) (h:∀ ts:TS,ts.n=n→ts.tmp 0=.os 0 0 xs.length→ts.gen 0=0→ts.obj 0=.arr sz xs→ts.tmp 1=a→SpecC P c ts (endK (EndX T rs r))):CallM P f sz xs [a] r :=
 CallV.go hcall hf hb hnt hrs hn (fun j cs h=>by match j,h with|0,h=>simp at h|1,h=>simp at h|j+2,h=>simp at h) fun ts h1 h2=>h ts h1 h2.1.1 h2.1.2.1 h2.1.2.2 h2.2.1
theorem CallM.go2 {sz:Nat} {xs:List AV} {a b:AV} (hn:3≤n) (h:∀ ts:TS,ts.n=n→ts.tmp 0=.os 0 0 xs.length→ts.gen 0=0→ts.obj 0=.arr sz xs→ts.tmp 1=a→ts.tmp 2=b→SpecC P c ts (endK (EndX T rs r))):CallM P f sz xs [a,b] r :=
 CallV.go hcall hf hb hnt hrs hn (fun j cs h=>by match j,h with|0,h=>simp at h|1,h=>simp at h|2,h=>simp at h|j+3,h=>simp at h) fun ts h1 h2=>h ts h1 h2.1.1 h2.1.2.1 h2.1.2.2 h2.2.1 h2.2.2.1
end go
end Go.Proofs.YtmjkjmoeicnbnaaGreatDoor.Lg
