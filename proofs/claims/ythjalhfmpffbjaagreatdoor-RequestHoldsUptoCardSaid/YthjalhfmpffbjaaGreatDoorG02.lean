/- Parts of the proof, one behind the other. -/
import Derived.IntWalk
import Derived.ScopeJumps
import Derived.Test.YthjalhfmpffbjaaGreatDoorG01
set_option linter.unusedVariables false
set_option linter.unusedSimpArgs false
set_option maxRecDepth 100000
set_option maxHeartbeats 64000000
namespace Go.Proofs.YthjalhfmpffbjaaGreatDoor.Lg
open Go
variable {P:Program} (T:Tys P)
section ops
variable (ts:TS) (K:TS→Prop) (dst:Option Nat) (ty:TypeId) (pos:String) (after:Array Edge) (g:Option (Nat×Bool))
@[go_sem] theorem Jgg(x:Operand):Js T ⟨dst,.move x,ty,pos,after,g⟩ ts K=Jd ts dst (ts.ev x) K:=rfl
@[go_sem] theorem Jpl(x:Operand):Js T ⟨dst,.assign x,ty,pos,after,g⟩ ts K=Jd ts dst (ts.ev x) K:=rfl
@[go_sem] theorem Jpo(c x y:Operand):Js T ⟨dst,.pick c x y,ty,pos,after,g⟩ ts K=Jaq (ts.ev c) fun b=>Jd ts dst (if b then ts.ev x else ts.ev y) K:=rfl
@[go_sem] theorem JAU(t:TypeId):Js T ⟨dst,.alloc t,ty,pos,after,g⟩ ts K=((T.ty t).k≠.unk∧ZK ts dst (T.ty t).zero K):=rfl
@[go_sem] theorem Jpm(t:TypeId)(x:Operand):Js T ⟨dst,.box t x,ty,pos,after,g⟩ ts K=((ts.ev x).known=true∧ZK ts dst (ts.ev x).cells K):=rfl
@[go_sem] theorem Jjh(t:TypeId)(x:Operand):Js T ⟨dst,.load t x,ty,pos,after,g⟩ ts K=Ji (ts.ptr (ts.ev x)) fun cs=>YE T t cs ts dst K:=rfl
@[go_sem] theorem Jjo(t:TypeId)(p x:Operand):Js T ⟨dst,.store t p x,ty,pos,after,g⟩ ts K=((T.ty t).k≠.unk∧(ts.ev x).known=true∧(ts.ev x).cells.length=(T.ty t).sz∧(ts.ev x).cells.all AV.one=true ∧
   Ji (ts.poke (ts.ev p) (ts.ev x).cells) fun q=>(∀e,dst=some e→e<ts.n)∧K (Jab (ts.setObj q.1 q.2) dst .any)):=rfl
def JcN(T:Tys P)(k:TyK)(x:AV)(f:Nat)(ts:TS)(dst:Option Nat)(K:TS→Prop):Prop :=
 match k with
 | .struct fs=>Ji fs[f]? fun q=>(T.ty q.2.1).k≠.unk∧(T.ty q.2.1).sz≠0∧Ji (ts.shift x q.1) fun y=>Jd ts dst y K
 |_=>False
@[go_sem] theorem Jeu(s:TypeId)(x:Operand)(f:Nat):Js T ⟨dst,.fieldAddr s x f,ty,pos,after,g⟩ ts K=JcN T (T.ty s).k (ts.ev x) f ts dst K:=rfl
@[go_sem] theorem Jws(fs:List (Nat×Nat×String))(x:AV)(f:Nat):JcN T (.struct fs) x f ts dst K=Ji fs[f]? fun q=>(T.ty q.2.1).k≠.unk∧(T.ty q.2.1).sz≠0∧Ji (ts.shift x q.1) fun y=>Jd ts dst y K:=rfl
@[go_sem] theorem JxS:ts.killL []=ts:=rfl
@[go_sem] theorem JxR(d:Nat)(l:List Nat):ts.killL (d :: l)=(ts.kill d).killL l:=rfl
def JfK(T:Tys P)(k:TyK)(x:AV)(f:Nat)(ts:TS)(dst:Option Nat)(K:TS→Prop):Prop :=
 match k,x with
 | .struct fs,.agg cs=>Ji fs[f]? fun q=>YE T q.2.1 (cs.drop q.1) ts dst K
 |_,_=>False
@[go_sem] theorem Jjf(s:TypeId)(x:Operand)(f:Nat):Js T ⟨dst,.field s x f,ty,pos,after,g⟩ ts K=JfK T (T.ty s).k (ts.ev x) f ts dst K:=rfl
@[go_sem] theorem JnP(fs:List (Nat×Nat×String))(cs:List AV)(f:Nat):JfK T (.struct fs) (.agg cs) f ts dst K=Ji fs[f]? fun q=>YE T q.2.1 (cs.drop q.1) ts dst K:=rfl
def Jed(T:Tys P)(k:TyK)(x i:AV)(ts:TS)(dst:Option Nat)(K:TS→Prop):Prop :=
 match k with
 | .slice e=>(T.ty e).k≠.unk∧(T.ty e).sz≠0∧Y5 i fun _ n=>Ji (ts.at x (T.ty e).sz n) fun y=>Jd ts dst y K
 | .array n e=>(T.ty e).k≠.unk∧Y5 i fun _ m=>0≤m∧m<n∧Ji (ts.shift x (m.toNat*(T.ty e).sz)) fun y=>Jd ts dst y K
 |_=>False
@[go_sem] theorem Jgd(t:TypeId)(x i:Operand):Js T ⟨dst,.indexAddr t x i,ty,pos,after,g⟩ ts K=Jed T (T.ty t).k (ts.ev x) (ts.ev i) ts dst K:=rfl
@[go_sem] theorem Jxy(e:Nat)(x:AV)(k:IntKind)(n:Int):Jed T (.slice e) x (.int k n) ts dst K=((T.ty e).k≠.unk∧(T.ty e).sz≠0∧Ji (ts.at x (T.ty e).sz n) fun y=>Jd ts dst y K):=rfl
@[go_sem] theorem Jxx(n e:Nat)(x:AV)(k:IntKind)(m:Int):Jed T (.array n e) x (.int k m) ts dst K=((T.ty e).k≠.unk∧0≤m∧m<n∧Ji (ts.shift x (m.toNat*(T.ty e).sz)) fun y=>Jd ts dst y K):=rfl
def JfT(k:TyK)(x i:AV)(ts:TS)(dst:Option Nat)(K:TS→Prop):Prop :=
 match k,x with
 | .str,.str s=>Y5 i fun _ n=>0≤n∧n<s.length∧Jd ts dst (.int .u8 (s.getD n.toNat 0).toNat) K
 |_,_=>False
@[go_sem] theorem Jjg(t:TypeId)(x i:Operand):Js T ⟨dst,.index t x i,ty,pos,after,g⟩ ts K=JfT (T.ty t).k (ts.ev x) (ts.ev i) ts dst K:=rfl
@[go_sem] theorem Jxz(s:List UInt8)(k:IntKind)(n:Int):JfT .str (.str s) (.int k n) ts dst K=(0≤n∧n<s.length∧Jd ts dst (.int .u8 (s.getD n.toNat 0).toNat) K):=rfl
@[go_sem] theorem Jcl(t:TypeId)(x:Operand)(lo hi mx:Option Operand):Js T ⟨dst,.slice t x lo hi mx,ty,pos,after,g⟩ ts K=Jdw T t (ts.ev x) lo hi mx ts dst K:=rfl
def Jap(T:Tys P)(op:BinOp)(t:TypeId)(x y:Operand)(ts:TS)(dst:Option Nat)(K:TS→Prop):Prop :=
 match op,y with
  | .eql,.const (.slice none 0 0)=>match (T.ty t).k with
   | .slice _=>Ji (ts.sl (ts.ev x)) fun xs=>∀b:Bool,(b=true→xs=[])→Jd ts dst (.bool b) K
   |_=>False
  |_,_=>Zh T op t (ts.ev x) (ts.ev y) ts dst K
@[go_sem] theorem Jjc(op:BinOp)(t u:TypeId)(x y:Operand):Js T ⟨dst,.binOp op t x y u,ty,pos,after,g⟩ ts K=Jap T op t x y ts dst K:=rfl
@[go_sem] theorem JuJ(op:BinOp)(t:TypeId)(x:Operand)(y:Nat):Jap T op t x (.tmp y) ts dst K=Zh T op t (ts.ev x) (ts.tmp y) ts dst K:=by cases op<;>rfl
@[go_sem] theorem JuG(op:BinOp)(t:TypeId)(x:Operand)(k:IntKind)(n:Int):Jap T op t x (.const (.int k n)) ts dst K=Zh T op t (ts.ev x) (.int k n) ts dst K:=by cases op<;>rfl
@[go_sem] theorem JuI(op:BinOp)(t:TypeId)(x:Operand)(s:ByteArray):Jap T op t x (.const (.string s)) ts dst K=Zh T op t (ts.ev x) (.str s.data.toList) ts dst K:=by cases op<;>rfl
@[go_sem] theorem Jjn(t:TypeId)(x:Operand):Js T ⟨dst,.unOp .not t x,ty,pos,after,g⟩ ts K=Jaq (ts.ev x) fun b=>Jd ts dst (.bool !b) K:=rfl
@[go_sem] theorem Jjm(t:TypeId)(x:Operand):Js T ⟨dst,.unOp .neg t x,ty,pos,after,g⟩ ts K=Y5 (ts.ev x) fun k n=>Jd ts dst (.int k (k.wrap (0-n))) K:=rfl
def Jd5(x:AV)(i:Nat)(ts:TS)(dst:Option Nat)(K:TS→Prop):Prop :=
 match x with
 | .tup vs=>i<vs.length∧Jd ts dst (vs.getD i .any) K
 |_=>False
@[go_sem] theorem Jet(x:Operand)(i:Nat):Js T ⟨dst,.extract x i,ty,pos,after,g⟩ ts K=Jd5 (ts.ev x) i ts dst K:=rfl
@[go_sem] theorem Jwr(vs:List AV)(i:Nat):Jd5 (.tup vs) i ts dst K=(i<vs.length∧Jd ts dst (vs.getD i .any) K):=rfl
@[go_sem] theorem JA4(t:TypeId)(x:Operand):Js T ⟨dst,.range t x,ty,pos,after,g⟩ ts K=Jcr T t (ts.ev x) ts dst K:=rfl
@[go_sem] theorem Jji(t:TypeId)(x k:Operand)(ok:Bool):Js T ⟨dst,.lookup t x k ok,ty,pos,after,g⟩ ts K=Jcb T t (ts.ev x) (ts.ev k) ok ts dst K:=rfl
@[go_sem] theorem Jjl(t:TypeId)(m k x:Operand):Js T ⟨dst,.mapUpdate t m k x,ty,pos,after,g⟩ ts K=Jcc T t (ts.ev m) (ts.ev k) (ts.ev x) ts dst K:=rfl
@[go_sem] theorem Jjj(t:TypeId):Js T ⟨dst,.makeMap t none,ty,pos,after,g⟩ ts K=Jce ts dst K:=rfl
@[go_sem] theorem Jjk(t:TypeId)(m k:Operand):Js T ⟨dst,.mapEntry t m k,ty,pos,after,g⟩ ts K=entK T t (ts.ev m) (ts.ev k) ts dst K:=rfl
@[go_sem] theorem Jje(t:TypeId)(m s x:Operand):Js T ⟨dst,.entryStore t m s x,ty,pos,after,g⟩ ts K=entPutK (ts.ev m) (ts.ev s) (ts.ev x) ts dst K:=rfl
@[go_sem] theorem JA3(x:Operand):Js T ⟨dst,.next x true,ty,pos,after,g⟩ ts K=Jc7 (ts.ev x) ts dst K:=rfl
def Jgr(k:TyK)(s:List UInt8)(d:Nat)(ts:TS)(K:TS→Prop):Prop :=
 match k with
 | .str=>d<ts.n∧K ((ts.new d (.iter s 0)).put d (.ref d (ts.gen d+1) 0))
 |_=>False
@[go_sem] theorem JDr(t:TypeId)(s:List UInt8)(d:Nat):Jcr T t (.str s) ts (some d) K=Jgr (T.ty t).k s d ts K:=by
 unfold Jcr Jgr
 cases (T.ty t).k<;>rfl
@[go_sem] theorem JDs(s:List UInt8)(d:Nat):Jgr .str s d ts K=(d<ts.n∧K ((ts.new d (.iter s 0)).put d (.ref d (ts.gen d+1) 0))):=rfl
@[go_sem] theorem JAc(d g e:Nat):Jc7 (.ref d g 0) ts (some e) K=(g=ts.gen d∧e<ts.n∧Jee (ts.obj d) d e ts K):=rfl
@[go_sem] theorem JxC(s:List UInt8)(pos d e:Nat):Jee (.iter s pos) d e ts K=((pos<s.length→K ((ts.setObj d (.iter s (pos+(VV s pos).2))).put e (.tup [.bool true,.int .i64 pos,.int .i32 (VV s pos).1])))∧(¬pos<s.length→K (ts.put e (.tup [.bool false])))):=rfl
@[go_sem] theorem Jgf(fn:Fn)(first caps:Array Operand):Js T ⟨dst,.makeFunc fn first caps,ty,pos,after,g⟩ ts K=Jax (T.fzD dst) ts dst fn first.toList caps.toList K:=rfl
@[go_sem] theorem Jiu(fn:Fn)(first caps:List Operand):Jax true ts dst fn first caps K=Jd ts dst (.clo fn (first.map ts.ev) (caps.map ts.ev)) K:=rfl
@[go_sem] theorem Jxd(fn:Fn)(first caps:List Operand):Jax false ts dst fn first caps K=Jd (ts.frzAll (caps.map ts.ev)) dst (.clo fn (first.map (ts.frzAll (caps.map ts.ev)).ev) (caps.map (ts.frzAll (caps.map ts.ev)).ev)) K:=rfl
@[go_sem] theorem JAZ(t:TypeId)(x:Operand):Js T ⟨dst,.makeInterface t x,ty,pos,after,g⟩ ts K=((T.ty t).k≠.unk∧(T.ty t).k≠.iface∧Jd ts dst (.iface t (ts.ev x)) K):=rfl
@[go_sem] theorem Jev(x:Operand):Js T ⟨dst,.nilCheck x,ty,pos,after,g⟩ ts K=(ts.there (ts.ev x)=true∧Jd ts dst (ts.ev x) K):=rfl
@[go_sem] theorem JGi(d q off:Nat):ts.there (.ref d q off)=ts.live d q:=rfl
@[go_sem] theorem JGj(cs:List AV):ts.there (.ro cs)=true:=rfl
@[go_sem] theorem JAY(x:Operand)(t:TypeId):Js T ⟨dst,.call ⟨.builtin .len,#[x],#[t]⟩,ty,pos,after,g⟩ ts K=Jc3 T t (ts.ev x) ts dst K:=rfl
@[go_sem] theorem JAV(s x:Operand)(t tx:TypeId):Js T ⟨dst,.call ⟨.builtin .append,#[s,x],#[t,tx]⟩,ty,pos,after,g⟩ ts K=VS T t tx (ts.ev s) (ts.ev x) ts dst K:=rfl
@[go_sem] theorem JtP(t tx:TypeId)(s:AV)(c:Bool)(xs:List AV):VS T t tx s (.slice c xs) ts dst K=Jan T t tx s (.slice c xs) ts dst K:=rfl
@[go_sem] theorem JtN(t tx:TypeId)(s:AV)(d q n:Nat):VS T t tx s (.os d q n) ts dst K=Jan T t tx s (.os d q n) ts dst K:=rfl
@[go_sem] theorem JtO(t tx:TypeId)(s:AV)(d q o n:Nat):VS T t tx s (.ot d q o n) ts dst K=appendInK T t tx s (.ot d q o n) ts dst K:=rfl
@[go_sem] theorem Jgc(f:Operand)(xs:Array Operand)(at_:Array TypeId):Js T ⟨dst,.call ⟨.value f,xs,at_⟩,ty,pos,after,g⟩ ts K=YB true P (ts.ev f) (xs.toList.map ts.ev) dst ts K:=rfl
@[go_sem] theorem JuQ(m:Bool)(f:FuncId)(caps args:List AV):YB m P (.clo (.func f) [] caps) args dst ts K=callX m P f (args++caps) (ts.toArgs (args++caps)) dst ts K:=rfl
@[go_sem] theorem JAX(x:Operand)(t:TypeId):Js T ⟨dst,.call ⟨.builtin .clear,#[x],#[t]⟩,ty,pos,after,g⟩ ts K=clearK T t (ts.ev x) ts dst K:=rfl
@[go_sem] theorem JA0(x y:Operand)(at_:Array TypeId):Js T ⟨dst,.call ⟨.builtin .max,#[x,y],at_⟩,ty,pos,after,g⟩ ts K=minmaxK true (ts.ev x) (ts.ev y) ts dst K:=rfl
@[go_sem] theorem JA1(a b c d:Operand)(at_:Array TypeId):Js T ⟨dst,.call ⟨.builtin .max,#[a,b,c,d],at_⟩,ty,pos,after,g⟩ ts K=max4K (ts.ev a) (ts.ev b) (ts.ev c) (ts.ev d) ts dst K:=rfl
@[go_sem] theorem JzU(ka kb kc kd:IntKind)(a b c d:Int):max4K (.int ka a) (.int kb b) (.int kc c) (.int kd d) ts dst K=Jd ts dst (.int ka (max (max (max a b) c) d)) K:=rfl
@[go_sem] theorem JA2(x y:Operand)(at_:Array TypeId):Js T ⟨dst,.call ⟨.builtin .min,#[x,y],at_⟩,ty,pos,after,g⟩ ts K=minmaxK false (ts.ev x) (ts.ev y) ts dst K:=rfl
@[go_sem] theorem JzX(k k':IntKind)(n m:Int):minmaxK true (.int k n) (.int k' m) ts dst K=Jd ts dst (.int k (max n m)) K:=rfl
@[go_sem] theorem JzY(k k':IntKind)(n m:Int):minmaxK false (.int k n) (.int k' m) ts dst K=Jd ts dst (.int k (min n m)) K:=rfl
def JdV(T:Tys P)(k:TyK)(zero:List AV)(parts:List (Nat×AV))(ts:TS)(dst:Option Nat)(K:TS→Prop):Prop :=
 match k with
  | .struct fs=>(∀f∈fs,(T.ty f.2.1).k≠.unk)∧Ji (Zl (JaJ T fs) zero parts) fun cs=>Jd ts dst (.agg cs) K
  | .array _ e=>(T.ty e).k≠.unk∧parts=[]∧Jd ts dst (.agg zero) K
  |_=>False
@[go_sem] theorem Jgb(t:TypeId)(parts:Array (Nat×Operand)):Js T ⟨dst,.build t parts,ty,pos,after,g⟩ ts K=JdV T (T.ty t).k (T.ty t).zero (parts.toList.map fun p=>(p.1,ts.ev p.2)) ts dst K:=rfl
@[go_sem] theorem JuO(fs:List (Nat×Nat×String))(zero:List AV)(parts:List (Nat×AV)):JdV T (.struct fs) zero parts ts dst K=((∀f∈fs,(T.ty f.2.1).k≠.unk)∧Ji (Zl (JaJ T fs) zero parts) fun cs=>Jd ts dst (.agg cs) K):=rfl
@[go_sem] theorem JuN(n e:Nat)(zero:List AV)(parts:List (Nat×AV)):JdV T (.array n e) zero parts ts dst K=((T.ty e).k≠.unk∧parts=[]∧Jd ts dst (.agg zero) K):=rfl
def JcG(T:Tys P)(k:TyK)(n:Nat)(parts:List (Nat×AV))(ts:TS)(dst:Option Nat)(K:TS→Prop):Prop :=
 match k with
  | .slice e=>(T.ty e).k≠.unk∧0<(T.ty e).sz∧parts.map (·.1)=List.range n∧n*(T.ty e).sz≤16777216 ∧
    (∀p∈parts,p.2.known=true∧p.2.cells.length=(T.ty e).sz)∧arrK (T.fzD dst) ts dst (T.ty e).sz (parts.map (·.2)) K
  |_=>False
@[go_sem] theorem Jjd(t:TypeId)(n:Nat)(parts:Array (Nat×Operand)):Js T ⟨dst,.buildSlice t n parts,ty,pos,after,g⟩ ts K=JcG T (T.ty t).k n (parts.toList.map fun p=>(p.1,ts.ev p.2)) ts dst K:=by
 show(match (T.ty t).k with
  | .slice e=>_
  |_=>False)=JcG T (T.ty t).k n _ ts dst K
 unfold JcG
 cases (T.ty t).k<;>simp only[List.map_map,Function.comp_def]
 rename_i e
 have h:(∀p∈parts.toList,(ts.ev p.2).known=true∧(ts.ev p.2).cells.length=(T.ty e).sz)↔(∀p∈parts.toList.map (fun p=>(p.1,ts.ev p.2)),p.2.known=true∧p.2.cells.length=(T.ty e).sz) :=
  ⟨fun h p hp=>by obtain⟨q,hq,rfl⟩:=List.mem_map.1 hp;exact h q hq,fun h p hp=>h (p.1,ts.ev p.2) (List.mem_map.2 ⟨p,hp,rfl⟩)⟩
 rw[h]
@[go_sem] theorem JuP(e n:Nat)(parts:List (Nat×AV)):JcG T (.slice e) n parts ts dst K=((T.ty e).k≠.unk∧0<(T.ty e).sz∧parts.map (·.1)=List.range n∧n*(T.ty e).sz≤16777216 ∧
    (∀p∈parts,p.2.known=true∧p.2.cells.length=(T.ty e).sz)∧arrK (T.fzD dst) ts dst (T.ty e).sz (parts.map (·.2)) K):=rfl
@[go_sem] theorem Jxe(d:Nat):T.fzD (some d)=T.fz d:=rfl
@[go_sem] theorem JtQ(sz:Nat)(xs:List AV):arrK false ts dst sz xs K=VY ts dst sz xs K:=rfl
@[go_sem] theorem JtR(sz:Nat)(xs:List AV):arrK true ts dst sz xs K=Jeo ts dst xs K:=rfl
@[go_sem] theorem Jxg(l:List Nat)(d:Nat):(T.withF l).fz d=l.contains d:=rfl
@[go_sem] theorem JGu(l:List Nat)(i:Nat):(T.withF l).ty i=T.ty i:=rfl
@[go_sem] theorem JAW(x:Operand)(t:TypeId):Js T ⟨dst,.call ⟨.builtin .cap,#[x],#[t]⟩,ty,pos,after,g⟩ ts K=Zi T t (ts.ev x) ts dst K:=rfl
def JfC(k:TyK)(xs:List AV)(ts:TS)(dst:Option Nat)(K:TS→Prop):Prop :=
 match k with
 | .slice _=>Jd ts dst (.int .i64 xs.length) K
 |_=>False
@[go_sem] theorem JuT(t:Nat)(xs:List AV):Zi T t (.slice true xs) ts dst K=JfC (T.ty t).k xs ts dst K:=by
 unfold Zi JfC
 cases (T.ty t).k<;>rfl
@[go_sem] theorem JuS(e:Nat)(xs:List AV):JfC (.slice e) xs ts dst K=Jd ts dst (.int .i64 xs.length) K:=rfl
@[go_sem] theorem JtM(t tx:TypeId)(s:AV)(k:IntKind)(n:Int):VS T t tx s (.int k n) ts dst K=appendMakeK T t tx s n ts dst K:=rfl
def Jfx(T:Tys P)(k k2:TyK)(n:Int)(ts:TS)(dst:Option Nat)(K:TS→Prop):Prop :=
 match k,k2 with
 | .slice e,.int _=>(T.ty e).k≠.unk∧0<(T.ty e).sz∧0<n∧n.toNat*(T.ty e).bytes≤140737488355328∧n.toNat≤9223372036854775807 ∧
   VY ts dst (T.ty e).sz (List.replicate n.toNat (.agg (List.replicate (T.ty e).sz .any))) K
 |_,_=>False
@[go_sem] theorem JtL(t tx:Nat)(n:Int):appendMakeK T t tx (.slice true []) n ts dst K=Jfx T (T.ty t).k (T.ty tx).k n ts dst K:=by
 unfold appendMakeK Jfx
 cases (T.ty t).k<;>cases (T.ty tx).k<;>rfl
@[go_sem] theorem JtK(e:Nat)(k:IntKind)(n:Int):Jfx T (.slice e) (.int k) n ts dst K=((T.ty e).k≠.unk∧0<(T.ty e).sz∧0<n∧n.toNat*(T.ty e).bytes≤140737488355328∧n.toNat≤9223372036854775807 ∧
   VY ts dst (T.ty e).sz (List.replicate n.toNat (.agg (List.replicate (T.ty e).sz .any))) K):=rfl
end ops
section kont
variable (ts:TS) (K:TS→Prop) (d u:Nat) (x:AV)
@[go_sem] theorem JEv:Jd ts (some d) x K=(d<ts.n∧K (ts.put d x)):=rfl
@[go_sem] theorem JEu:Jd ts none x K=K ts:=rfl
@[go_sem] theorem Jz9(cs:List AV):ZK ts (some d) cs K=(d<ts.n∧K ((ts.new d (.box cs)).put d (.ref d (ts.gen d+1) 0))):=rfl
@[go_sem] theorem Jz8(sz:Nat)(xs:List AV):VY ts (some d) sz xs K=(d<ts.n∧K ((ts.new d (.arr sz xs)).put d (.os d (ts.gen d+1) xs.length))):=rfl
@[go_sem] theorem JAa(xs:List AV):Jeo ts (some d) xs K=(d<ts.n∧K ((ts.new d .dead).put d (.slice false xs))):=rfl
@[go_sem] theorem JCh{α:Type}(a:α)(K:α→Prop):Ji (some a) K=K a:=rfl
@[go_sem] theorem JCg{α:Type}(K:α→Prop):Ji (none:Option α) K=False:=rfl
@[go_sem] theorem JCf{α:Type}(c:Prop) [Decidable c](a:α)(K:α→Prop):Ji (if c then some a else none) K=(c∧K a):=by
 by_cases h:c<;>simp[h,Ji]
@[go_sem] theorem JuK(b:Bool)(K:Bool→Prop):Jaq (.bool b) K=K b:=rfl
@[go_sem] theorem JxB(k:IntKind)(n:Int)(K:IntKind→Int→Prop):Y5 (.int k n) K=K k n:=rfl
@[go_sem] theorem Jtw(dst:Option Nat):afterK ts dst (.val x) K=Jd ts dst x K:=rfl
@[go_sem] theorem Jtv(dst:Option Nat)(sz:Nat)(xs:List AV):afterK ts dst (.own sz xs) K=VY ts dst sz xs K:=rfl
@[go_sem] theorem JDl:Jab ts none x=ts:=rfl
@[go_sem] theorem JDm:Jab ts (some d) x=ts.put d x:=rfl
@[go_sem] theorem Jz5:(ts.put d x).n=ts.n:=rfl
@[go_sem] theorem Jz4(o:Ob):(ts.new d o).n=ts.n:=rfl
@[go_sem] theorem Jz7(o:Ob):(ts.setObj d o).n=ts.n:=rfl
@[go_sem] theorem Jz2:(ts.kill d).n=ts.n:=rfl
@[go_sem] theorem JGn:(ts.put d x).tmp u=if u=d then x else ts.tmp u:=rfl
@[go_sem] theorem JGm(o:Ob):(ts.new d o).tmp=ts.tmp:=rfl
@[go_sem] theorem JGp(o:Ob):(ts.setObj d o).tmp=ts.tmp:=rfl
@[go_sem] theorem JGk:(ts.kill d).tmp=ts.tmp:=rfl
@[go_sem] theorem Jxp:(ts.put d x).gen=ts.gen:=rfl
@[go_sem] theorem Jxo(o:Ob):(ts.new d o).gen u=if u=d then ts.gen d+1 else ts.gen u:=rfl
@[go_sem] theorem Jxr(o:Ob):(ts.setObj d o).gen=ts.gen:=rfl
@[go_sem] theorem Jxm:(ts.kill d).gen=ts.gen:=rfl
@[go_sem] theorem JAC:(ts.put d x).obj=ts.obj:=rfl
@[go_sem] theorem JAB(o:Ob):(ts.new d o).obj u=if u=d then o else ts.obj u:=rfl
@[go_sem] theorem JAE(o:Ob):(ts.setObj d o).obj u=if u=d then o else ts.obj u:=rfl
@[go_sem] theorem JAz:(ts.kill d).obj u=if u=d then .dead else ts.obj u:=rfl
@[go_sem] theorem JGv:ts.unbase .none=ts:=rfl
@[go_sem] theorem JGw:ts.unbase (.own d)=ts.kill d:=rfl
@[go_sem] theorem Jwq(t:Nat):ts.ev (.tmp t)=ts.tmp t:=rfl
@[go_sem] theorem Jwi(f:Nat):ts.ev (.func f)=.clo (.func f) [] []:=rfl
@[go_sem] theorem Jwj(k:IntKind)(n:Int):ts.ev (.const (.int k n))=.int k n:=rfl
@[go_sem] theorem Jwh(b:Bool):ts.ev (.const (.bool b))=.bool b:=rfl
@[go_sem] theorem Jwp(s:ByteArray):ts.ev (.const (.string s))=.str s.data.toList:=rfl
@[go_sem] theorem Jwo:ts.ev (.const (.slice none 0 0))=.slice true []:=rfl
@[go_sem] theorem Jwn:ts.ev (.const (.pointer none))=.nilp:=rfl
@[go_sem] theorem Jwl:ts.ev (.const .nilFunc)=.nilf:=rfl
@[go_sem] theorem Jwm:ts.ev (.const (.map none))=.nilm:=rfl
@[go_sem] theorem Jwk:ts.ev (.const .nilIface)=.niface:=rfl
@[go_sem] theorem JCO(cs:List AV):ts.ptr (.ro cs)=some cs:=rfl
@[go_sem] theorem JCN(g off:Nat):ts.ptr (.ref d g off)=if g=ts.gen d then (match ts.obj d with|.box cs=>some (cs.drop off)|_=>none) else none:=rfl
@[go_sem] theorem JCM(g i o:Nat):ts.ptr (.eref d g i o)=if g=ts.gen d then (match ts.obj d with|.arr _ xs=>if i<xs.length then some ((xs.getD i .any).cells.drop o) else none|_=>none) else none:=rfl
@[go_sem] theorem JEK(cs:List AV)(o:Nat):ts.shift (.ro cs) o=if o<cs.length then some (.ro (cs.drop o)) else none:=rfl
@[go_sem] theorem JEJ(g o o':Nat):ts.shift (.ref d g o) o'=if ts.live d g then some (.ref d g (o+o')) else none:=rfl
@[go_sem] theorem JEI(g i o o':Nat):ts.shift (.eref d g i o) o'=if ts.live d g then some (.eref d g i (o+o')) else none:=rfl
@[go_sem] theorem Jzy(g:Nat):ts.live d g=(g == ts.gen d && (ts.obj d).kind.isSome):=rfl
@[go_sem] theorem JxU(cs:List AV):(Ob.box cs).kind=some 0:=rfl
@[go_sem] theorem JxT(sz:Nat)(xs:List AV):(Ob.arr sz xs).kind=some sz:=rfl
@[go_sem] theorem JEP(c:Bool)(xs:List AV):ts.sl (.slice c xs)=some xs:=rfl
@[go_sem] theorem JEN(g len:Nat):ts.sl (.os d g len)=if g=ts.gen d then (match ts.obj d with|.arr _ xs=>if len≤xs.length then some (xs.take len) else none|_=>none) else none:=rfl
@[go_sem] theorem Jyh(c:Bool)(xs:List AV):ts.len (.slice c xs)=some xs.length:=rfl
@[go_sem] theorem Jyf(g len:Nat):ts.len (.os d g len)=if ts.live d g then some len else none:=rfl
@[go_sem] theorem Jyg(g o len:Nat):ts.len (.ot d g o len)=if ts.live d g then some len else none:=rfl
@[go_sem] theorem JEO(g o len:Nat):ts.sl (.ot d g o len)=if g=ts.gen d then (match ts.obj d with|.arr _ xs=>if o+len≤xs.length then some ((xs.drop o).take len) else none|_=>none) else none:=rfl
@[go_sem] theorem Jyi(l:List UInt8):ts.len (.str l)=some l.length:=rfl
@[go_sem] theorem Jye:ts.len .nilm=some 0:=rfl
@[go_sem] theorem Jyb(t e:Nat)(x:AV)(dst:Option Nat):Jc3 T t x ts dst K=(JaD (T.ty t).k x=true∧Ji (ts.len x) fun n=>Jd ts dst (.int .i64 n) K):=rfl
@[go_sem] theorem Jx9(e:Nat)(c:Bool)(xs:List AV):JaD (.slice e) (.slice c xs)=true:=rfl
@[go_sem] theorem Jx7(e d g len:Nat):JaD (.slice e) (.os d g len)=true:=rfl
@[go_sem] theorem Jx8(e d g o len:Nat):JaD (.slice e) (.ot d g o len)=true:=rfl
@[go_sem] theorem Jya(l:List UInt8):JaD .str (.str l)=true:=rfl
@[go_sem] theorem Jx6(k e:Nat):JaD (.map k e) .nilm=true:=rfl
@[go_sem] theorem JtV(c:Bool)(xs:List AV)(sz:Nat)(n:Int):ts.at (.slice c xs) sz n=if 0≤n∧n<xs.length∧(xs.getD n.toNat .any).cells.length=sz then some (.ro (xs.getD n.toNat .any).cells) else none:=rfl
@[go_sem] theorem JtT(g len sz:Nat)(n:Int):ts.at (.os d g len) sz n=if g=ts.gen d then (match ts.obj d with
   | .arr sz' _=>if 0≤n∧n<len∧sz'=sz then some (.eref d g n.toNat 0) else none
   |_=>none) else none:=rfl
@[go_sem] theorem JtU(g off len sz:Nat)(n:Int):ts.at (.ot d g off len) sz n=if g=ts.gen d then (match ts.obj d with
   | .arr sz' _=>if 0≤n∧n<len∧sz'=sz then some (.eref d g (off+n.toNat) 0) else none
   |_=>none) else none:=rfl
@[go_sem] theorem Juh(sz:Nat):ts.base (.slice true []) sz=some (.none,[]):=rfl
@[go_sem] theorem Jui(g len sz:Nat):ts.base (.os d g len) sz=if g=ts.gen d then (match ts.obj d with|.arr sz' xs=>if sz'=sz∧len≤xs.length then some (.own d,xs.take len) else Option.none|_=>Option.none) else Option.none:=rfl
@[go_sem] theorem JCF(g off:Nat)(ys:List AV):ts.poke (.ref d g off) ys=if g=ts.gen d then (match ts.obj d with|.box cs=>if off+ys.length≤cs.length then some (d,.box (V2 cs off ys)) else none|_=>none) else none:=rfl
@[go_sem] theorem JCE(g i o:Nat)(ys:List AV):ts.poke (.eref d g i o) ys=if g=ts.gen d then (match ts.obj d with
   | .arr sz xs=>if i<xs.length∧o+ys.length≤sz∧ys≠[] then some (d,.arr sz (xs.set i (ZN (xs.getD i .any) o ys))) else none
   |_=>none) else none:=rfl
@[go_sem] theorem JCD(cs:List AV)(o:Nat)(ys:List AV):ZN (.agg cs) o ys=.agg (V2 cs o ys):=rfl
@[go_sem] theorem JEw(cs ys:List AV)(o:Nat):V2 cs o ys=cs.take o++ys++cs.drop (o+ys.length):=rfl
@[go_sem] theorem JuX(cs:List AV):(AV.agg cs).cells=cs:=rfl
@[go_sem] theorem Ju0(k:IntKind)(n:Int):(AV.int k n).cells=[.int k n]:=rfl
@[go_sem] theorem JuY(b:Bool):(AV.bool b).cells=[.bool b]:=rfl
@[go_sem] theorem Ju9(s:List UInt8):(AV.str s).cells=[.str s]:=rfl
@[go_sem] theorem Ju8(c:Bool)(xs:List AV):(AV.slice c xs).cells=[.slice c xs]:=rfl
@[go_sem] theorem Ju6(g len:Nat):(AV.os d g len).cells=[.os d g len]:=rfl
@[go_sem] theorem Ju7(g len:Nat):(AV.ref d g len).cells=[.ref d g len]:=rfl
@[go_sem] theorem Ju5:AV.nilp.cells=[.nilp]:=rfl
@[go_sem] theorem Ju3:AV.nilf.cells=[.nilf]:=rfl
@[go_sem] theorem Ju4:AV.nilm.cells=[.nilm]:=rfl
@[go_sem] theorem Ju1(a b:List AV):(AV.mp a b).cells=[.mp a b]:=rfl
@[go_sem] theorem Ju2(d g:Nat):(AV.mref d g).cells=[.mref d g]:=rfl
@[go_sem] theorem JxZ(a b:List AV):(AV.mp a b).known=true:=rfl
@[go_sem] theorem Jx0(d g:Nat):(AV.mref d g).known=true:=rfl
@[go_sem] theorem JAK(a b:List AV):(AV.mp a b).one=true:=rfl
@[go_sem] theorem JAL(d g:Nat):(AV.mref d g).one=true:=rfl
@[go_sem] theorem JuZ(fn:Fn)(a b:List AV):(AV.clo fn a b).cells=[.clo fn a b]:=rfl
@[go_sem] theorem JxV(cs:List AV):(AV.agg cs).known=true:=rfl
@[go_sem] theorem JxY(k:IntKind)(n:Int):(AV.int k n).known=true:=rfl
@[go_sem] theorem JxW(b:Bool):(AV.bool b).known=true:=rfl
@[go_sem] theorem Jx5(s:List UInt8):(AV.str s).known=true:=rfl
@[go_sem] theorem Jx4(c:Bool)(xs:List AV):(AV.slice c xs).known=true:=rfl
@[go_sem] theorem Jx3(g len:Nat):(AV.os d g len).known=true:=rfl
@[go_sem] theorem JxX(fn:Fn)(a b:List AV):(AV.clo fn a b).known=true:=rfl
@[go_sem] theorem Jx1:AV.nilf.known=true:=rfl
@[go_sem] theorem Jx2:AV.nilm.known=true:=rfl
@[go_sem] theorem JAJ(k:IntKind)(n:Int):(AV.int k n).one=true:=rfl
@[go_sem] theorem JAH(b:Bool):(AV.bool b).one=true:=rfl
@[go_sem] theorem JAS(s:List UInt8):(AV.str s).one=true:=rfl
@[go_sem] theorem JAR(c:Bool)(xs:List AV):(AV.slice c xs).one=true:=rfl
@[go_sem] theorem JAP(g len:Nat):(AV.os d g len).one=true:=rfl
@[go_sem] theorem JAQ(g len:Nat):(AV.ref d g len).one=true:=rfl
@[go_sem] theorem JAO:AV.nilp.one=true:=rfl
@[go_sem] theorem JAM:AV.nilf.one=true:=rfl
@[go_sem] theorem JAN:AV.nilm.one=true:=rfl
@[go_sem] theorem JAI(fn:Fn)(a b:List AV):(AV.clo fn a b).one=true:=rfl
@[go_sem] theorem JtF(fs:List (Nat×Nat×String)):(TyK.struct fs).agg=true:=rfl
@[go_sem] theorem Jtx(n e:Nat):(TyK.array n e).agg=true:=rfl
@[go_sem] theorem JtA(k:IntKind):(TyK.int k).agg=false:=rfl
@[go_sem] theorem Jty:TyK.bool.agg=false:=rfl
@[go_sem] theorem JtE:TyK.str.agg=false:=rfl
@[go_sem] theorem JtD(e:Nat):(TyK.slice e).agg=false:=rfl
@[go_sem] theorem Jtz:TyK.func.agg=false:=rfl
@[go_sem] theorem JtB(k e:Nat):(TyK.map k e).agg=false:=rfl
@[go_sem] theorem JtC(e:Nat):(TyK.ptr e).agg=false:=rfl
@[go_sem] theorem Jwu(pl:Nat→Option (Nat×Nat))(cs:List AV):Zl pl cs []=some cs:=rfl
@[go_sem] theorem Jwt(pl:Nat→Option (Nat×Nat))(cs:List AV)(i:Nat)(x:AV)(r:List (Nat×AV)):Zl pl cs ((i,x) :: r) =
  match pl i with
  |none=>none
  |some (off,size)=>if x.known=true∧x.cells.length=size∧off+size≤cs.length then Zl pl (V2 cs off x.cells) r else none:=rfl
@[go_sem] theorem JCA(fs:List (Nat×Nat×String))(i:Nat):JaJ T fs i=(fs[i]?).map fun f=>(f.1,(T.ty f.2.1).sz):=rfl
end kont
def Zp(k:TyK)(sz:Nat)(cs:List AV)(ts:TS)(dst:Option Nat)(K:TS→Prop):Prop :=
 match k with
 | .unk=>False
 |k=>(if k.agg then sz else 1)≤cs.length∧Jd ts dst (if k.agg then .agg (cs.take sz) else cs.getD 0 .any) K
@[go_sem] theorem JzJ(t:Nat)(cs:List AV)(ts:TS)(dst:Option Nat)(K:TS→Prop):YE T t cs ts dst K=Zp (T.ty t).k (T.ty t).sz cs ts dst K:=rfl
section
variable (sz:Nat) (cs:List AV) (ts:TS) (dst:Option Nat) (K:TS→Prop)
@[go_sem] theorem JzI(fs:List (Nat×Nat×String)):Zp (.struct fs) sz cs ts dst K=(sz≤cs.length∧Jd ts dst (.agg (cs.take sz)) K):=rfl
@[go_sem] theorem Jzz(n e:Nat):Zp (.array n e) sz cs ts dst K=(sz≤cs.length∧Jd ts dst (.agg (cs.take sz)) K):=rfl
@[go_sem] theorem JzD(k:IntKind):Zp (.int k) sz cs ts dst K=(1≤cs.length∧Jd ts dst (cs.getD 0 .any) K):=rfl
@[go_sem] theorem JzA:Zp .bool sz cs ts dst K=(1≤cs.length∧Jd ts dst (cs.getD 0 .any) K):=rfl
@[go_sem] theorem JzH:Zp .str sz cs ts dst K=(1≤cs.length∧Jd ts dst (cs.getD 0 .any) K):=rfl
@[go_sem] theorem JzG(e:Nat):Zp (.slice e) sz cs ts dst K=(1≤cs.length∧Jd ts dst (cs.getD 0 .any) K):=rfl
@[go_sem] theorem JzB:Zp .func sz cs ts dst K=(1≤cs.length∧Jd ts dst (cs.getD 0 .any) K):=rfl
@[go_sem] theorem JzE(k e:Nat):Zp (.map k e) sz cs ts dst K=(1≤cs.length∧Jd ts dst (cs.getD 0 .any) K):=rfl
@[go_sem] theorem JzF(e:Nat):Zp (.ptr e) sz cs ts dst K=(1≤cs.length∧Jd ts dst (cs.getD 0 .any) K):=rfl
@[go_sem] theorem JzC:Zp .iface sz cs ts dst K=(1≤cs.length∧Jd ts dst (cs.getD 0 .any) K):=rfl
end
section
variable (ts:TS) (dst:Option Nat) (K:TS→Prop)
def Jhm(T:Tys P)(k k2:TyK)(s x:AV)(ts:TS)(dst:Option Nat)(K:TS→Prop):Prop :=
 match k,k2,dst with
 | .slice e,.slice _,some d =>
  (T.ty e).k≠.unk∧0<(T.ty e).sz∧d<ts.n ∧
  Ji (ts.base s (T.ty e).sz) fun b=>Ji (ts.sl x) fun ys =>
   (∀y∈ys,y.cells.length=(T.ty e).sz)∧(∀y∈ys,y.cells.all AV.one=true)∧((b.2.length+ys.length)*(T.ty e).bytes≤140737488355328∧b.2.length+ys.length≤9223372036854775807) ∧
   K (((ts.unbase b.1).new d (.arr (T.ty e).sz (b.2++AV.nrm.nrmL ys))).put d (.os d (ts.gen d+1) (b.2.length+ys.length)))
 |_,_,_=>False
@[go_sem] theorem JtJ(t tx:Nat)(s x:AV):Jan T t tx s x ts dst K=Jhm T (T.ty t).k (T.ty tx).k s x ts dst K:=rfl
def Vt(n bytes:Nat):Prop:=n*bytes≤140737488355328∧n≤9223372036854775807
@[go_sem] theorem JtI(e e' d:Nat)(s x:AV):Jhm T (.slice e) (.slice e') s x ts (some d) K=((T.ty e).k≠.unk∧0<(T.ty e).sz∧d<ts.n ∧
  Ji (ts.base s (T.ty e).sz) fun b=>Ji (ts.sl x) fun ys =>
   (∀y∈ys,y.cells.length=(T.ty e).sz)∧(∀y∈ys,y.cells.all AV.one=true)∧Vt (b.2.length+ys.length) (T.ty e).bytes ∧
   K (((ts.unbase b.1).new d (.arr (T.ty e).sz (b.2++AV.nrm.nrmL ys))).put d (.os d (ts.gen d+1) (b.2.length+ys.length)))):=rfl
theorem Jbw{n b:Nat}(h:n≤68719476736)(hb:b≤2048):Vt n b:=by
 unfold Vt
 refine⟨?_,by omega⟩
 calc n*b≤68719476736*2048:=Nat.mul_le_mul h hb
  _≤140737488355328:=by decide
theorem JaO{n b:Nat}(h:n≤8589934592)(hb:b≤16384):Vt n b:=by
 unfold Vt
 refine⟨?_,by omega⟩
 calc n*b≤8589934592*16384:=Nat.mul_le_mul h hb
  _≤140737488355328:=by decide
def JaT(T:Tys P)(k:TyK)(x:AV)(lo hi mx:Option Operand)(ts:TS)(dst:Option Nat)(K:TS→Prop):Prop :=
 match k,x with
 | .slice e,.slice clip xs =>
  (T.ty e).k≠.unk∧(∀x∈xs,x.cells.length=(T.ty e).sz)∧Ji (ts.optI lo 0) fun l=>Ji (ts.optI hi xs.length) fun u =>
   (match mx with
    |none=>0≤l∧l≤u∧u≤xs.length∧Jd ts dst (.slice (clip && (u == xs.length)) ((xs.take u.toNat).drop l.toNat)) K
    |some m=>hi.isSome=true∧Ji (ts.optI (some m) 0) fun m=>0≤l∧l≤u∧u≤m∧m≤xs.length∧Jd ts dst (.slice (m == u) ((xs.take u.toNat).drop l.toNat)) K)
 | .slice e,.os d g len =>
  (T.ty e).k≠.unk∧match lo,mx with
   |none,none=>ts.live d g=true∧Ji (ts.optI hi len) fun u=>0≤u∧u≤len∧Jd ts dst (.os d g u.toNat) K
   |_,_=>sliceOtK T e d g len lo hi mx ts dst K
 | .str,.str s =>
  mx.isNone=true∧Ji (ts.optI lo 0) fun l=>Ji (ts.optI hi s.length) fun u=>0≤l∧l≤u∧u≤s.length∧Jd ts dst (.str ((s.take u.toNat).drop l.toNat)) K
 | .array n e,.ro cs=>(lo.isNone && hi.isNone && mx.isNone)=true∧(T.ty e).k≠.unk∧(T.ty e).sz=1∧0<n∧n≤cs.length∧(cs.take n).all AV.one=true∧Jd ts dst (.slice true (cs.take n)) K
 |_,_=>False
@[go_sem] theorem JEQ(n e:Nat)(cs:List AV):JaT T (.array n e) (.ro cs) none none none ts dst K=((T.ty e).k≠.unk∧(T.ty e).sz=1∧0<n∧n≤cs.length∧(cs.take n).all AV.one=true∧Jd ts dst (.slice true (cs.take n)) K):=by simp[JaT]
@[go_sem] theorem Jdx(t:Nat)(x:AV)(lo hi mx:Option Operand):Jdw T t x lo hi mx ts dst K=JaT T (T.ty t).k x lo hi mx ts dst K:=rfl
@[go_sem] theorem JqS(e:Nat)(clip:Bool)(xs:List AV)(lo hi:Option Operand):JaT T (.slice e) (.slice clip xs) lo hi none ts dst K=((T.ty e).k≠.unk∧(∀x∈xs,x.cells.length=(T.ty e).sz)∧Ji (ts.optI lo 0) fun l=>Ji (ts.optI hi xs.length) fun u =>
   0≤l∧l≤u∧u≤xs.length∧Jd ts dst (.slice (clip && (u == xs.length)) ((xs.take u.toNat).drop l.toNat)) K):=rfl
@[go_sem] theorem JqR(e:Nat)(clip:Bool)(xs:List AV)(lo hi:Option Operand)(m:Operand):JaT T (.slice e) (.slice clip xs) lo hi (some m) ts dst K=((T.ty e).k≠.unk∧(∀x∈xs,x.cells.length=(T.ty e).sz)∧Ji (ts.optI lo 0) fun l=>Ji (ts.optI hi xs.length) fun u =>
   hi.isSome=true∧Ji (ts.optI (some m) 0) fun m=>0≤l∧l≤u∧u≤m∧m≤xs.length∧Jd ts dst (.slice (m == u) ((xs.take u.toNat).drop l.toNat)) K):=rfl
@[go_sem] theorem JER(e d g len:Nat)(hi:Option Operand):JaT T (.slice e) (.os d g len) none hi none ts dst K=((T.ty e).k≠.unk∧ts.live d g=true∧Ji (ts.optI hi len) fun u=>0≤u∧u≤len∧Jd ts dst (.os d g u.toNat) K):=rfl
@[go_sem] theorem JES(e d g len:Nat)(l:Operand)(hi mx:Option Operand):JaT T (.slice e) (.os d g len) (some l) hi mx ts dst K=((T.ty e).k≠.unk∧sliceOtK T e d g len (some l) hi mx ts dst K):=by cases mx<;>rfl
@[go_sem] theorem JET(e d g len:Nat)(lo hi mx:Option Operand):sliceOtK T e d g len lo hi mx ts dst K=(g=ts.gen d∧Ji (ts.obj d).arr? fun q=>q.1=(T.ty e).sz∧Ji (ts.optI lo 0) fun l=>Ji (ts.optI hi len) fun u=>0≤l∧l≤u∧u≤q.2.length ∧
    Jc5 ts hi mx u q.2.length∧Jd ts dst (.ot d g l.toNat (u.toNat-l.toNat)) K):=rfl
@[go_sem] theorem JzV(ts:TS)(hi:Option Operand)(u:Int)(n:Nat):Jc5 ts hi none u n=True:=rfl
@[go_sem] theorem JzW(ts:TS)(hi:Option Operand)(m:Operand)(u:Int)(n:Nat):Jc5 ts hi (some m) u n=(hi.isSome=true∧Ji (ts.optI (some m) 0) fun k=>u≤k∧k≤n):=rfl
@[go_sem] theorem JtS(sz:Nat)(xs:List AV):(Ob.arr sz xs).arr?=some (sz,xs):=rfl
def JhM(T:Tys P)(k:TyK)(x:AV)(ts:TS)(dst:Option Nat)(K:TS→Prop):Prop :=
 match k,x with
 | .slice e,.ot d g off len=>(T.ty e).k≠.unk∧0<(T.ty e).sz∧g=ts.gen d∧dst=none∧(JR (T.ty e).k (T.ty e).zero).cells=(T.ty e).zero∧(T.ty e).zero.all AV.one=true ∧
  Ji (ts.obj d).arr? fun q=>q.1=(T.ty e).sz∧off+len≤q.2.length∧K (ts.setObj d (.arr q.1 (VU q.2 off len (JR (T.ty e).k (T.ty e).zero))))
 |_,_=>False
@[go_sem] theorem Jvb(t:Nat)(x:AV):clearK T t x ts dst K=JhM T (T.ty t).k x ts dst K:=rfl
@[go_sem] theorem Jva(e d g off len:Nat):JhM T (.slice e) (.ot d g off len) ts dst K=((T.ty e).k≠.unk∧0<(T.ty e).sz∧g=ts.gen d∧dst=none∧(JR (T.ty e).k (T.ty e).zero).cells=(T.ty e).zero∧(T.ty e).zero.all AV.one=true ∧
  Ji (ts.obj d).arr? fun q=>q.1=(T.ty e).sz∧off+len≤q.2.length∧K (ts.setObj d (.arr q.1 (VU q.2 off len (JR (T.ty e).k (T.ty e).zero))))):=rfl
@[go_sem] theorem JG9(fs:List (Nat×Nat×String))(zs:List AV):JR (.struct fs) zs=.agg zs:=rfl
@[go_sem] theorem JG6(k:IntKind)(zs:List AV):JR (.int k) zs=zs.getD 0 .any:=rfl
@[go_sem] theorem JG8(zs:List AV):JR .str zs=zs.getD 0 .any:=rfl
@[go_sem] theorem JG7(e:Nat)(zs:List AV):JR (.slice e) zs=zs.getD 0 .any:=rfl
def Jhl(T:Tys P)(k k2:TyK)(s x:AV)(ts:TS)(dst:Option Nat)(K:TS→Prop):Prop :=
 match k,k2,s,dst with
 | .slice e,.slice _,.os d g len,some d'=>(T.ty e).k≠.unk∧0<(T.ty e).sz∧d' < ts.n∧g=ts.gen d ∧
  Ji (ts.obj d).arr? fun q=>q.1=(T.ty e).sz∧Ji (ts.sl x) fun ys=>(∀y∈ys,y.cells.length=(T.ty e).sz)∧(∀y∈ys,y.cells.all AV.one=true)∧len+ys.length≤q.2.length ∧
    K ((ts.setObj d (.arr q.1 (q.2.take len++ys++q.2.drop (len+ys.length)))).put d' (.os d g (len+ys.length)))
 |_,_,_,_=>False
@[go_sem] theorem JtH(t tx:Nat)(s x:AV):appendInK T t tx s x ts dst K=Jhl T (T.ty t).k (T.ty tx).k s x ts dst K:=rfl
@[go_sem] theorem JtG(e e' d g len d':Nat)(x:AV):Jhl T (.slice e) (.slice e') (.os d g len) x ts (some d') K=((T.ty e).k≠.unk∧0<(T.ty e).sz∧d' < ts.n∧g=ts.gen d ∧
  Ji (ts.obj d).arr? fun q=>q.1=(T.ty e).sz∧Ji (ts.sl x) fun ys=>(∀y∈ys,y.cells.length=(T.ty e).sz)∧(∀y∈ys,y.cells.all AV.one=true)∧len+ys.length≤q.2.length ∧
    K ((ts.setObj d (.arr q.1 (q.2.take len++ys++q.2.drop (len+ys.length)))).put d' (.os d g (len+ys.length)))):=rfl
@[go_sem] theorem JqT(s:List UInt8)(lo hi mx:Option Operand):JaT T .str (.str s) lo hi mx ts dst K=(mx.isNone=true∧Ji (ts.optI lo 0) fun l=>Ji (ts.optI hi s.length) fun u=>0≤l∧l≤u∧u≤s.length∧Jd ts dst (.str ((s.take u.toNat).drop l.toNat)) K):=rfl
@[go_sem] theorem JCc(d:Int):ts.optI none d=some d:=rfl
@[go_sem] theorem JCd(t:Nat)(d:Int):ts.optI (some (.tmp t)) d=(match ts.tmp t with|.int _ n=>some n|_=>none):=rfl
@[go_sem] theorem JCb(k:IntKind)(n d:Int):ts.optI (some (.const (.int k n))) d=some n:=rfl
@[go_sem] theorem JuH(t:TypeId)(x:Operand):Jap T .eql t x (.const (.slice none 0 0)) ts dst K=(match (T.ty t).k with
   | .slice _=>Ji (ts.sl (ts.ev x)) fun xs=>∀b:Bool,(b=true→xs=[])→Jd ts dst (.bool b) K
   |_=>False):=rfl
@[go_sem] theorem JuF(op:BinOp)(t:TypeId)(x:Operand)(b:Bool):Jap T op t x (.const (.bool b)) ts dst K=Zh T op t (ts.ev x) (.bool b) ts dst K:=by cases op<;>rfl
end
def JbP(T:Tys P)(k:TyK)(op:BinOp)(t:TypeId)(a b:AV)(ts:TS)(dst:Option Nat)(K:TS→Prop):Prop :=
 match k with
 | .struct fs=>P.eqGuardType P.depth t=false∧P.stoodInHeld t=false∧Ji (eqS T fs op a b) fun r=>Jd ts dst (.bool r) K
 | .array n e=>P.eqGuardType P.depth t=false∧Ji (eqA T n e op a b) fun r=>Jd ts dst (.bool r) K
 | .bool=>Ji (eqB op a b) fun r=>Jd ts dst (.bool r) K
 |_=>Ji (JS op a b) fun r=>Jd ts dst r K
section
variable (op:BinOp) (t:TypeId) (a b:AV) (ts:TS) (dst:Option Nat) (K:TS→Prop)
@[go_sem] theorem JuE:Zh T op t a b ts dst K=JbP T (T.ty t).k op t a b ts dst K:=rfl
@[go_sem] theorem JuD(fs:List (Nat×Nat×String)):JbP T (.struct fs) op t a b ts dst K=(P.eqGuardType P.depth t=false∧P.stoodInHeld t=false∧Ji (eqS T fs op a b) fun r=>Jd ts dst (.bool r) K):=rfl
@[go_sem] theorem Juz(n e:Nat):JbP T (.array n e) op t a b ts dst K=(P.eqGuardType P.depth t=false∧Ji (eqA T n e op a b) fun r=>Jd ts dst (.bool r) K):=rfl
@[go_sem] theorem JuB(k:IntKind):JbP T (.int k) op t a b ts dst K=Ji (JS op a b) fun r=>Jd ts dst r K:=rfl
@[go_sem] theorem JuA:JbP T .bool op t a b ts dst K=Ji (eqB op a b) fun r=>Jd ts dst (.bool r) K:=rfl
@[go_sem] theorem Jvs(p q:Bool):eqB .eql (.bool p) (.bool q)=some (decide (p=q)):=rfl
@[go_sem] theorem Jvt(p q:Bool):eqB .neq (.bool p) (.bool q)=some (!decide (p=q)):=by simp[eqB]
@[go_sem] theorem JuC:JbP T .str op t a b ts dst K=Ji (JS op a b) fun r=>Jd ts dst r K:=rfl
@[go_sem] theorem JvM(fs:List (Nat×Nat×String))(xs ys:List AV):eqS T fs .eql (.agg xs) (.agg ys)=Zj T xs ys fs:=rfl
@[go_sem] theorem JvN(fs:List (Nat×Nat×String))(xs ys:List AV):eqS T fs .neq (.agg xs) (.agg ys)=(Zj T xs ys fs).map (!·):=rfl
@[go_sem] theorem Jvq(n e:Nat)(xs ys:List AV):eqA T n e .eql (.agg xs) (.agg ys)=V6 T (.array n e) n 0 xs ys:=rfl
@[go_sem] theorem Jvr(n e:Nat)(xs ys:List AV):eqA T n e .neq (.agg xs) (.agg ys)=(V6 T (.array n e) n 0 xs ys).map (!·):=rfl
@[go_sem] theorem JvE(xs ys:List AV):Zj T xs ys []=some true:=rfl
@[go_sem] theorem JvD (xs ys : List AV) (off ty : Nat) (nm : String) (r : List (Nat × Nat × String)) : Zj T xs ys ((off, ty, nm) :: r) = if nm = "_" then none else
  match Z3 T ty (T.ty ty).k (T.ty ty).sz off xs ys,Zj T xs ys r with
  |some b,some c=>some (b && c)
  |_,_=>none:=rfl
@[go_sem] theorem JvJ(t:Nat)(k:IntKind)(sz off:Nat)(xs ys:List AV):Z3 T t (.int k) sz off xs ys=V6 T (.int k) sz off xs ys:=rfl
@[go_sem] theorem JvI(t sz off:Nat)(xs ys:List AV):Z3 T t .bool sz off xs ys=V6 T .bool sz off xs ys:=rfl
@[go_sem] theorem JvK(t sz off:Nat)(xs ys:List AV):Z3 T t .str sz off xs ys=V6 T .str sz off xs ys:=rfl
@[go_sem] theorem JvH(t n e sz off:Nat)(xs ys:List AV):Z3 T t (.array n e) sz off xs ys=V6 T (.array n e) sz off xs ys:=rfl
@[go_sem] theorem JvL(t:Nat)(fs:List (Nat×Nat×String))(sz off:Nat)(xs ys:List AV):Z3 T t (.struct fs) sz off xs ys=if P.stoodInHeld t=true then none else Yj T ((xs.drop off).take sz) ((ys.drop off).take sz) fs:=rfl
@[go_sem] theorem Jvz(k:IntKind)(sz off:Nat)(xs ys:List AV):V6 T (.int k) sz off xs ys=JU (.int k) (xs.getD off .any) (ys.getD off .any):=rfl
@[go_sem] theorem Jvy(sz off:Nat)(xs ys:List AV):V6 T .bool sz off xs ys=JU .bool (xs.getD off .any) (ys.getD off .any):=rfl
@[go_sem] theorem JvA(sz off:Nat)(xs ys:List AV):V6 T .str sz off xs ys=JU .str (xs.getD off .any) (ys.getD off .any):=rfl
@[go_sem] theorem Jvx(n e sz off:Nat)(xs ys:List AV):V6 T (.array n e) sz off xs ys=if(T.ty e).sz=1∧(T.ty e).k≠.unk∧n≤sz then ZG (T.ty e).k (xs.drop off) (ys.drop off) (List.range n) else none:=rfl
@[go_sem] theorem JDq:List.range 4=[0,1,2,3]:=rfl
@[go_sem] theorem JvG(k:TyK)(xs ys:List AV):ZG k xs ys []=some true:=rfl
@[go_sem] theorem JvF(k:TyK)(xs ys:List AV)(i:Nat)(r:List Nat):ZG k xs ys (i :: r)=match JU k (xs.getD i .any) (ys.getD i .any),ZG k xs ys r with
  |some b,some c=>some (b && c)
  |_,_=>none:=rfl
@[go_sem] theorem JvC(xs ys:List AV):Yj T xs ys []=some true:=rfl
@[go_sem] theorem JvB (xs ys : List AV) (off ty : Nat) (nm : String) (r : List (Nat × Nat × String)) : Yj T xs ys ((off, ty, nm) :: r) = if nm = "_" then none else
  match JU (T.ty ty).k (xs.getD off .any) (ys.getD off .any),Yj T xs ys r with
  |some b,some c=>some (b && c)
  |_,_=>none:=rfl
@[go_sem] theorem Jvv(k k1:IntKind)(a b:Int):JU (.int k) (.int k1 a) (.int k1 b)=some (decide (a=b)):=by simp[JU]
@[go_sem] theorem Jvu(a b:Bool):JU .bool (.bool a) (.bool b)=some (decide (a=b)):=rfl
@[go_sem] theorem Jvw(a b:List UInt8):JU .str (.str a) (.str b)=some (decide (a=b)):=rfl
end
section
variable (ts:TS) (dst:Option Nat) (K:TS→Prop)
def JiT(T:Tys P)(k:TyK)(x key:AV)(ok:Bool)(ts:TS)(dst:Option Nat)(K:TS→Prop):Prop :=
 match k with
 | .map kt et=>(T.ty et).k≠.unk∧VM T kt∧J1 T kt key key=some true∧Ji (ts.mapOf x) fun q=>Ji (J3 T kt key q.1 0) fun r=>Jd ts dst (YS ok (JR (T.ty et).k (T.ty et).zero) q.2 r) K
 |_=>False
@[go_sem] theorem JzO(t:Nat)(x k:AV)(ok:Bool):Jcb T t x k ok ts dst K=JiT T (T.ty t).k x k ok ts dst K:=rfl
@[go_sem] theorem JzN(kt et:Nat)(x k:AV)(ok:Bool):JiT T (.map kt et) x k ok ts dst K=((T.ty et).k≠.unk∧VM T kt∧J1 T kt k k=some true∧Ji (ts.mapOf x) fun q=>Ji (J3 T kt k q.1 0) fun r=>Jd ts dst (YS ok (JR (T.ty et).k (T.ty et).zero) q.2 r) K):=rfl
def JiU(T:Tys P)(tk:TyK)(m k x:AV)(ts:TS)(dst:Option Nat)(K:TS→Prop):Prop :=
 match tk,m with
 | .map kt _,.mref d g=>g=ts.gen d∧dst=none∧VM T kt∧J1 T kt k k=some true∧k.cells.length=(T.ty kt).sz∧Ji (ts.obj d).mp? fun q=>(∀y∈q.1,y.cells.length=(T.ty kt).sz) ∧
   Ji (J3 T kt k q.1 0) fun r=>K (ts.setObj d (.mp (J2 q.1 k r) (J2 q.2 x r)))
 |_,_=>False
@[go_sem] theorem JzT(t:Nat)(m k x:AV):Jcc T t m k x ts dst K=JiU T (T.ty t).k m k x ts dst K:=rfl
@[go_sem] theorem JzS(kt et d g:Nat)(k x:AV):JiU T (.map kt et) (.mref d g) k x ts dst K=(g=ts.gen d∧dst=none∧VM T kt∧J1 T kt k k=some true∧k.cells.length=(T.ty kt).sz∧Ji (ts.obj d).mp? fun q=>(∀y∈q.1,y.cells.length=(T.ty kt).sz) ∧
   Ji (J3 T kt k q.1 0) fun r=>K (ts.setObj d (.mp (J2 q.1 k r) (J2 q.2 x r)))):=rfl
def JfH(T:Tys P)(tk:TyK)(m k:AV)(ts:TS)(dst:Option Nat)(K:TS→Prop):Prop :=
 match tk,m,dst with
 | .map kt et,.mref d g,some e=>g=ts.gen d∧e<ts.n∧(T.ty et).k≠.unk∧VM T kt∧J1 T kt k k=some true∧k.cells.length=(T.ty kt).sz∧Ji (ts.obj d).mp? fun q=>(∀y∈q.1,y.cells.length=(T.ty kt).sz) ∧
   Ji (J3 T kt k q.1 0) fun r=>entK.entKK d e k (JR (T.ty et).k (T.ty et).zero) q r ts K
 |_,_,_=>False
@[go_sem] theorem Jvo(t:Nat)(m k:AV):entK T t m k ts dst K=JfH T (T.ty t).k m k ts dst K:=by
 unfold entK JfH
 generalize (T.ty t).k=tk
 cases tk<;>cases m<;>cases dst<;>simp only[Jjp]
@[go_sem] theorem Jvl(kt et d g e:Nat)(k:AV):JfH T (.map kt et) (.mref d g) k ts (some e) K=(g=ts.gen d∧e<ts.n∧(T.ty et).k≠.unk∧VM T kt∧J1 T kt k k=some true∧k.cells.length=(T.ty kt).sz∧Ji (ts.obj d).mp? fun q=>(∀y∈q.1,y.cells.length=(T.ty kt).sz) ∧
   Ji (J3 T kt k q.1 0) fun r=>entK.entKK d e k (JR (T.ty et).k (T.ty et).zero) q r ts K):=rfl
@[go_sem] theorem Jvm(d e:Nat)(k z:AV)(q:List AV×List AV):entK.entKK d e k z q none ts K=K ((ts.setObj d (.mp (q.1++[k]) (q.2++[z]))).put e (.tup [z,.int .i64 q.1.length])):=rfl
@[go_sem] theorem Jvn(d e i:Nat)(k z:AV)(q:List AV×List AV):entK.entKK d e k z q (some i) ts K=K ((ts.setObj d (.mp (q.1.set i k) q.2)).put e (.tup [q.2.getD i .any,.int .i64 i])):=rfl
@[go_sem] theorem Jvp(d g:Nat)(n:Int)(x:AV):entPutK (.mref d g) (.int .i64 n) x ts dst K=(g=ts.gen d∧dst=none∧Ji (ts.obj d).mp? fun q=>0≤n∧n<q.2.length∧K (ts.setObj d (.mp q.1 (q.2.set n.toNat x)))):=by
 unfold entPutK
 simp only[Jjp]
@[go_sem] theorem mpQ(a b:List AV):(Ob.mp a b).mp?=some (a,b):=rfl
@[go_sem] theorem JAb(d:Nat):Jce ts (some d) K=(d<ts.n∧K ((ts.new d (.mp [] [])).put d (.mref d (ts.gen d+1)))):=rfl
@[go_sem] theorem JzP(a b:List AV):ts.mapOf (.mp a b)=some (a,b):=rfl
@[go_sem] theorem JzQ(d g:Nat):ts.mapOf (.mref d g)=if g=ts.gen d then (match ts.obj d with|.mp ks vs=>some (ks,vs)|_=>none) else none:=rfl
@[go_sem] theorem JzR:ts.mapOf .nilm=some ([],[]):=rfl
def JcW(T:Tys P)(kt:Nat)(k:TyK):Prop :=
 match k with
 | .struct fs=>P.stoodInHeld kt=false∧ZM fs 0=true∧fs.length=(T.ty kt).sz
 |_=>True
@[go_sem] theorem JxQ(kt:Nat):VM T kt=JcW T kt (T.ty kt).k:=by unfold VM JcW;cases (T.ty kt).k<;>rfl
@[go_sem] theorem JxP(kt:Nat)(fs:List (Nat×Nat×String)):JcW T kt (.struct fs)=(P.stoodInHeld kt=false∧ZM fs 0=true∧fs.length=(T.ty kt).sz):=rfl
@[go_sem] theorem JxN(kt:Nat)(k:IntKind):JcW T kt (.int k)=True:=rfl
@[go_sem] theorem JxO(kt:Nat):JcW T kt .str=True:=rfl
@[go_sem] theorem JCC(i:Nat):ZM [] i=true:=rfl
@[go_sem] theorem JCB (o t : Nat) (nm : String) (r : List (Nat × Nat × String)) (i : Nat) : ZM ((o, t, nm) :: r) i = (if nm = "_" then false else (o == i && ZM r (i + 1))) := by
 rw[ZM]
 by_cases h : nm = "_"
 ·simp[h]
 ·have h' : (nm != "_") = true := by simpa using h
  simp[h,h']
def JfU(T:Tys P)(k:TyK)(x y:AV):Option Bool :=
 match k,x,y with
 | .struct fs,.agg xs,.agg ys=>Yj T xs ys fs
 | .int k,x,y=>JU (.int k) x y
 | .bool,x,y=>JU .bool x y
 | .str,x,y=>JU .str x y
 |_,_,_=>none
@[go_sem] theorem JxM(kt:Nat)(x y:AV):J1 T kt x y=JfU T (T.ty kt).k x y:=rfl
@[go_sem] theorem JxL(fs:List (Nat×Nat×String))(xs ys:List AV):JfU T (.struct fs) (.agg xs) (.agg ys)=Yj T xs ys fs:=rfl
@[go_sem] theorem JxK(k k1 k2:IntKind)(a b:Int):JfU T (.int k) (.int k1 a) (.int k2 b)=JU (.int k) (.int k1 a) (.int k2 b):=rfl
@[go_sem] theorem JzL(z:AV)(vs:List AV)(r:Option Nat):YS true z vs r=.tup [YS false z vs r,.bool r.isSome]:=rfl
@[go_sem] theorem Jwv(kt:Nat)(x:AV)(i:Nat):J3 T kt x [] i=some none:=rfl
@[go_sem] theorem JzK(z:AV)(vs:List AV):YS false z vs none=z:=rfl
@[go_sem] theorem JDo(ks:List AV)(k:AV):J2 ks k none=ks++[k]:=rfl
@[go_sem] theorem JG5(zs:List AV):JR .bool zs=zs.getD 0 .any:=rfl
end
theorem Jhu{α:Type} [DecidableEq α](a b:α):(a == b)=decide (a=b):=rfl
section bin
variable (k:IntKind) (a b:Int) (s t:List UInt8)
@[go_sem] theorem Juj:JS .add (.int k a) (.int k b)=some (.int k (k.wrap (a+b))):=by simp[JS]
@[go_sem] theorem Juy:JS .sub (.int k a) (.int k b)=some (.int k (k.wrap (a-b))):=by simp[JS]
@[go_sem] theorem Juq:JS .mul (.int k a) (.int k b)=some (.int k (k.wrap (a*b))):=by simp[JS]
@[go_sem] theorem Jul:JS .eql (.int k a) (.int k b)=some (.bool (decide (a=b))):=by simp[JS,Jhu]
@[go_sem] theorem Jur:JS .neq (.int k a) (.int k b)=some (.bool (!decide (a=b))):=by simp[JS,bne,Jhu]
@[go_sem] theorem Jup:JS .lss (.int k a) (.int k b)=some (.bool (decide (a<b))):=by simp[JS]
@[go_sem] theorem Juo:JS .leq (.int k a) (.int k b)=some (.bool (decide (a≤b))):=by simp[JS]
@[go_sem] theorem Jun:JS .gtr (.int k a) (.int k b)=some (.bool (decide (b<a))):=by simp[JS]
@[go_sem] theorem Jum:JS .geq (.int k a) (.int k b)=some (.bool (decide (b≤a))):=by simp[JS]
@[go_sem] theorem Jut:JS .rem (.int k a) (.int k b)=if b=0 then none else some (.int k (a.tmod b)):=by simp[JS]
@[go_sem] theorem Jus:JS .quo (.int k a) (.int k b)=if b=0 then none else some (.int k (k.wrap (a.tdiv b))):=by simp[JS]
@[go_sem] theorem Juu:JS .eql (.str s) (.str t)=some (.bool (decide (s=t))):=by show some (AV.bool (s == t))=_;exact congrArg (fun b=>some (AV.bool b)) (Bool.eq_iff_iff.2 (by simp))
@[go_sem] theorem Jux:JS .neq (.str s) (.str t)=some (.bool (!decide (s=t))):=by show some (AV.bool (s != t))=_;exact congrArg (fun b=>some (AV.bool b)) (Bool.eq_iff_iff.2 (by simp))
@[go_sem] theorem Juw:JS .lss (.str s) (.str t)=some (.bool (Op.bytesLess s t)):=rfl
@[go_sem] theorem Juv:JS .gtr (.str s) (.str t)=some (.bool !(Op.bytesLess s t || s == t)):=rfl
@[go_sem] theorem Juk:JS .and (.int k a) (.int k b)=some (.int k (k.wrap (BitVec.ofInt k.bits a &&& BitVec.ofInt k.bits b).toNat)):=by simp[JS]
end bin
end Go.Proofs.YthjalhfmpffbjaaGreatDoor.Lg
namespace Go.Proofs.YthjalhfmpffbjaaGreatDoor.Lg
open Go
variable {P:Program}
def Jc(n:Nat):Prop:=n≤4294967296
def Jak(ts:TS):Nat→List Arg→Prop
 |_,[]=>True
 |k,.v x :: r=>ts.tmp k=x∧Jak ts (k+1) r
 |k,.io cs :: r=>(ts.tmp k=.ref k 0 0∧ts.gen k=0∧ts.obj k=.box cs)∧Jak ts (k+1) r
 |k,.own sz xs :: r=>(ts.tmp k=.os k 0 xs.length∧ts.gen k=0∧ts.obj k=.arr sz xs)∧Jak ts (k+1) r
theorem Z1(n:Nat):∀(r:List Arg) (args:List Arg) (k:Nat),(∀i,args[k+i]?=r[i]?)→Jak (Jk args n) k r
 | [],_,_,_=>trivial
 | .v x :: r,args,k,h=>by
  have h0:args[k]?=some (.v x):=by simpa using h 0
  exact⟨by simp[Jk,h0],Z1 n r args (k+1) fun i=>by have:=h (i+1);rw[show k+1+i=k+(i+1) by omega];simpa using this⟩
 | .io cs :: r,args,k,h=>by
  have h0:args[k]?=some (.io cs):=by simpa using h 0
  exact⟨⟨by simp[Jk,h0],rfl,by simp[Jk,h0]⟩,Z1 n r args (k+1) fun i=>by have:=h (i+1);rw[show k+1+i=k+(i+1) by omega];simpa using this⟩
 | .own sz xs :: r,args,k,h=>by
  have h0:args[k]?=some (.own sz xs):=by simpa using h 0
  exact⟨⟨by simp[Jk,h0],rfl,by simp[Jk,h0]⟩,Z1 n r args (k+1) fun i=>by have:=h (i+1);rw[show k+1+i=k+(i+1) by omega];simpa using this⟩
def Ret.nrm:Ret→Ret
 | .val x=>.val x.nrm
 | .own sz xs=>.own sz (AV.nrm.nrmL xs)
theorem Post.nrm{E:Env}{R R':Ret→(Nat→List AV)→Prop}(hr:∀r io,R r io→R' r.nrm io){e:Ending}{w:World}(h:Post E R e w):Post E R' e w:=by
 obtain⟨v,r,io,ts',G',he,hR,hrel,hio,hret⟩:=h
 cases r with
 |val x =>
  obtain⟨h1,h2⟩:=hret
  refine⟨v,_,io,ts'.put 0 x.nrm,G',he,hr _ _ hR,?_,hio,by rw[JeE];exact h1,by simp[TS.put]⟩
  have h0:=hrel.tmp 0
  rw[h2] at h0
  have hn:0<ts'.n:=by rw[←hrel.size];simp
  have:=hrel.put hn (v:=v) (x:=x.nrm) (by simpa using h0.nrm)
  simpa[Act.put] using this
 |own sz xs =>
  obtain⟨d,g,h1,h2,h3,h4⟩:=hret
  have:=hrel.nrmArr (d:=d) (sz:=sz) (xs:=[]) (ys:=xs) (by simpa using h3)
  refine⟨v,_,io,ts'.setObj d (.arr sz (AV.nrm.nrmL xs)),G',he,hr _ _ hR,by simpa using this,fun j b hj=>?_,d,g,by rw[Yb];exact h1,h2,by simp[TS.setObj],by rw[ZP];exact h4⟩
  obtain⟨g1,g2,g3⟩:=hio j b hj
  refine⟨g1,?_,g3⟩
  have hjd:j≠d:=by rintro rfl;rw[h3] at g2;cases g2
  simp only[TS.setObj,Vo _ _ hjd]
  exact g2
theorem CallV.nrm{f:FuncId}{args:List Arg}{R R':Ret→(Nat→List AV)→Prop}(hr:∀r io,R r io→R' r.nrm io)(h:CallV P f args R):CallV P f args R':=by
 intro E G vals w hw hrel hpin
 have:=h E G vals w hw hrel hpin
 split at this<;>rename_i heq
 ·exact Calls.mono this fun e w' h=>h.nrm hr
 ·exact this.nrm hr
 ·exact this.elim
def Ret.fits(R:Ret→(Nat→List AV)→Prop)(r:Ret)(io:Nat→List AV):Prop:=R r.nrm io∨(r=.val (.slice true [])∧∃sz,0<sz∧R (.own sz []) io)
theorem Post.fit{E:Env}{R:Ret→(Nat→List AV)→Prop}(hpin:∀j,E.pin j=none){e:Ending}{w:World}(h:Post E (Ret.fits R) e w):Post E R e w:=by
 obtain⟨v,r,io,ts',G',he,hR,hrel,hio,hret⟩:=h
 rcases hR with hR|⟨rfl,sz,hsz,hR⟩
 ·exact Post.nrm (R:=fun r io=>R r.nrm io) (fun _ _ h=>h) ⟨v,r,io,ts',G',he,hR,hrel,hio,hret⟩
 ·obtain⟨_,h2⟩:=hret
  have h0:=hrel.tmp 0
  rw[h2] at h0
  have hv:∃a,v=.slice a 0 0:=by
   have h0:Rep (Jb E G' ts' w) v (.slice true []):=by simpa using h0
   cases h0 with
   |slice0 _ a cap h=>exact⟨a,by rw[h rfl]⟩
   |slice=>contradiction
  obtain⟨ad,rfl⟩:=hv
  have hn:0<ts'.n:=by rw[←hrel.size];simp
  have:=hrel.newObj (d:=0) hn (w':=w) (.arr sz []) w.heap.size none (Nat.le_refl _) (fun h=>absurd rfl h) (Bel.refl _ _) (v:=.slice ad 0 0) (x:=.os 0 (ts'.gen 0+1) 0)
   (.os 0 _ _ _ rfl (by simp[Jb,TS.new]) fun _ _=>by unfold JO;simp[Jb,Ghost.set]) ⟨hsz,by simp,by simp[Jb,Ghost.set]⟩
  refine⟨_,.own sz [],io,_,_,he,hR,by simpa[Act.put] using this,?_,0,ts'.gen 0+1,by simp[TS.put],by simp[TS.put,TS.new],by simp[TS.put,TS.new],rfl⟩
  intro j b hj
  rw[hpin j] at hj
  cases hj
theorem CallV.fit{f:FuncId}{args:List Arg}{R:Ret→(Nat→List AV)→Prop}(hio:∀(j:Nat) (cs:List AV),args[j]?≠some (Arg.io cs))(h:CallV P f args (Ret.fits R)):CallV P f args R:=by
 intro E G vals w hw hrel hpin
 have hp:∀j,E.pin j=none:=fun j=>by
  cases hj:E.pin j with
  |none=>rfl
  |some b =>
   obtain⟨cs,hcs⟩:=(hpin j).2 ⟨b,hj⟩
   exact absurd hcs (hio j cs)
 have:=h E G vals w hw hrel hpin
 split at this<;>rename_i heq
 ·exact Calls.mono this fun e w' h=>h.fit hp
 ·exact this.fit hp
 ·exact this.elim
theorem SpecOs.nil{ops:Array Oper}{K:TS→Prop}{ts:TS}(h:K ts):SpecOs P ops K [] ts:=h
mutual
theorem JjU(ts:TS):∀(x:AV),x.pure=true→x.res ts=some x
 | .agg cs,h=>by simp only[AV.pure] at h;simp[AV.res,JgD ts cs h]
 | .tup cs,h=>by simp only[AV.pure] at h;simp[AV.res,JgD ts cs h]
 | .any,h=>by simp[AV.res,AV.pure]
 | .bool _,h=>by simp[AV.res,AV.pure]
 | .int _ _,h=>by simp[AV.res,AV.pure]
 | .str _,h=>by simp[AV.res,AV.pure]
 | .slice _ _,h=>by simp[AV.res,h]
 | .ro _,h=>by simp[AV.res,h]
 | .nilp,h=>by simp[AV.res,AV.pure]
 | .clo _ _ _,h=>by simp[AV.res,h]
 | .nilf,h=>by simp[AV.res,AV.pure]
 | .nilm,h=>by simp[AV.res,AV.pure]
 | .niface,h=>by simp[AV.res,AV.pure]
 | .iface _ _,h=>by simp[AV.res,h]
 | .os _ _ _,h=>by simp[AV.pure] at h
 | .ref _ _ _,h=>by simp[AV.pure] at h
 | .eref _ _ _ _,h=>by simp[AV.pure] at h
 | .ot _ _ _ _,h=>by simp[AV.pure] at h
 | .mref _ _,h=>by simp[AV.pure] at h
 | .mp _ _,h=>by simp[AV.res,h]
theorem JgD(ts:TS):∀(l:List AV),AV.pure.pureL l=true→AV.res.resL ts l=some l
 | [],_=>rfl
 |x :: r,h=>by
  simp only[AV.pure.pureL,Bool.and_eq_true] at h
  simp[AV.res.resL,JjU ts x h.1,JgD ts r h.2]
end
section
variable (ts:TS) (T:Tys P)
@[go_sem] theorem JEq(t:Nat):ts.result T [.tmp t]=some (ts.tmp t):=rfl
@[go_sem] theorem Jqe(a t:Nat):ts.result T [.cell a t]=ts.resV T (.cell a t):=by
 unfold TS.result TS.resVs TS.resVs
 cases ts.resV T (.cell a t)<;>rfl
@[go_sem] theorem JEo:ts.result T []=some (.tup []):=rfl
@[go_sem] theorem JEr(r s:ResultVar):ts.result T [r,s]=(match ts.resV T r,ts.resV T s with|some x,some y=>some (.tup [x,y])|_,_=>none):=by
 simp only[TS.result,TS.resVs]
 cases ts.resV T r<;>cases ts.resV T s<;>rfl
@[go_sem] theorem JEp(r s t:ResultVar):ts.result T [r,s,t]=(match ts.resV T r,ts.resV T s,ts.resV T t with|some x,some y,some z=>some (.tup [x,y,z])|_,_,_=>none):=by
 simp only[TS.result,TS.resVs]
 cases ts.resV T r<;>cases ts.resV T s<;>cases ts.resV T t<;>rfl
@[go_sem] theorem JD8(t:Nat):ts.resV T (.tmp t)=some (ts.tmp t):=rfl
@[go_sem] theorem JD7(a t:Nat):ts.resV T (.cell a t)=(match (T.ty t).k with
  | .unk=>none
  |k=>match ts.ptr (ts.tmp a) with
   |some cs=>if k.agg then (if(T.ty t).sz≤cs.length then some (.agg (cs.take (T.ty t).sz)) else none) else (if 1≤cs.length then some (cs.getD 0 .any) else none)
   |none=>none):=rfl
@[go_sem] theorem JEc(k:IntKind)(n:Int):(AV.int k n).res ts=some (.int k n):=rfl
@[go_sem] theorem JEa(b:Bool):(AV.bool b).res ts=some (.bool b):=rfl
@[go_sem] theorem JEm(s:List UInt8):(AV.str s).res ts=some (.str s):=rfl
@[go_sem] theorem JD9(cs:List AV):(AV.agg cs).res ts=(AV.res.resL ts cs).map .agg:=rfl
@[go_sem] theorem JEn(cs:List AV):(AV.tup cs).res ts=(AV.res.resL ts cs).map .tup:=rfl
@[go_sem] theorem JEl(c:Bool)(cs:List AV):(AV.slice c cs).res ts=if AV.pure.pureL cs then some (.slice c cs) else none:=rfl
@[go_sem] theorem JEj(d g len:Nat):(AV.os d g len).res ts=if g=ts.gen d then (match ts.obj d with|.arr _ xs=>if len≤xs.length∧AV.pure.pureL xs=true then some (.slice false (xs.take len)) else none|_=>none) else none:=rfl
@[go_sem] theorem JEd(a b:List AV):(AV.mp a b).res ts=if(AV.pure.pureL a && AV.pure.pureL b)=true then some (.mp a b) else none:=rfl
@[go_sem] theorem JEe(d g:Nat):(AV.mref d g).res ts=if g=ts.gen d then (match ts.obj d with|.mp ks vs=>if AV.pure.pureL ks=true∧AV.pure.pureL vs=true then some (.mp ks vs) else none|_=>none) else none:=rfl
@[go_sem] theorem JD6:AV.res.resL ts []=some []:=rfl
@[go_sem] theorem JD5(x:AV)(r:List AV):AV.res.resL ts (x :: r)=match x.res ts,AV.res.resL ts r with
  |some y,some s=>some (y :: s)
  |_,_=>none:=rfl
end
section
variable (ts:TS)
@[go_sem] theorem JGr:ts.toArgs []=some ([],[]):=rfl
@[go_sem] theorem JGq(x:AV)(r:List AV):ts.toArgs (x :: r)=match x.res ts,ts.toArgs r with
  |some y,some (ys,ds)=>some (y.nrm :: ys,x.owns++ds)
  |_,_=>none:=rfl
@[go_sem] theorem JAp(k:IntKind)(n:Int):(AV.int k n).nrm=.int k n:=rfl
@[go_sem] theorem JAn(b:Bool):(AV.bool b).nrm=.bool b:=rfl
@[go_sem] theorem JAx(s:List UInt8):(AV.str s).nrm=.str s:=rfl
@[go_sem] theorem JAm(cs:List AV):(AV.agg cs).nrm=.agg (AV.nrm.nrmL cs):=rfl
@[go_sem] theorem JAy(cs:List AV):(AV.tup cs).nrm=.tup (AV.nrm.nrmL cs):=rfl
@[go_sem] theorem JAw(c:Bool)(cs:List AV):(AV.slice c cs).nrm=.slice false (AV.nrm.nrmL cs):=rfl
@[go_sem] theorem JAv(cs:List AV):(AV.ro cs).nrm=.ro (AV.nrm.nrmL cs):=rfl
@[go_sem] theorem JAo(fn:Fn)(a b:List AV):(AV.clo fn a b).nrm=.clo fn (AV.nrm.nrmL a) (AV.nrm.nrmL b):=rfl
@[go_sem] theorem JAu:AV.nilp.nrm=.nilp:=rfl
@[go_sem] theorem JAq(a b:List AV):(AV.mp a b).nrm=.mp (AV.nrm.nrmL a) (AV.nrm.nrmL b):=rfl
@[go_sem] theorem JCr(d g:Nat):(AV.mref d g).owns=[d]:=rfl
@[go_sem] theorem JCq(a b:List AV):(AV.mp a b).owns=[]:=rfl
@[go_sem] theorem JDc(a b:List AV):(AV.mp a b).pure=(AV.pure.pureL a && AV.pure.pureL b):=rfl
@[go_sem] theorem JAs:AV.nilf.nrm=.nilf:=rfl
@[go_sem] theorem JAt:AV.nilm.nrm=.nilm:=rfl
@[go_sem] theorem JAr:AV.niface.nrm=.niface:=rfl
@[go_sem] theorem JAl:AV.nrm.nrmL []=[]:=rfl
@[go_sem] theorem JAi(x:AV)(r:List AV):AV.nrm.nrmL (x :: r)=x.nrm :: AV.nrm.nrmL r:=rfl
@[go_sem] theorem JAg(l r:List AV):AV.nrm.nrmL (l++r)=AV.nrm.nrmL l++AV.nrm.nrmL r:=by simp[Jci]
@[go_sem] theorem JCw(d g n:Nat):(AV.os d g n).owns=[d]:=rfl
@[go_sem] theorem JCm(cs:List AV):(AV.agg cs).owns=AV.owns.ownsL cs:=rfl
@[go_sem] theorem JCp(k:IntKind)(n:Int):(AV.int k n).owns=[]:=rfl
@[go_sem] theorem JCn(b:Bool):(AV.bool b).owns=[]:=rfl
@[go_sem] theorem JCz(s:List UInt8):(AV.str s).owns=[]:=rfl
@[go_sem] theorem JCy(c:Bool)(cs:List AV):(AV.slice c cs).owns=[]:=rfl
@[go_sem] theorem JCx(cs:List AV):(AV.ro cs).owns=[]:=rfl
@[go_sem] theorem JCo(fn:Fn)(a b:List AV):(AV.clo fn a b).owns=[]:=rfl
@[go_sem] theorem JCt:AV.nilf.owns=[]:=rfl
@[go_sem] theorem JCv:AV.nilp.owns=[]:=rfl
@[go_sem] theorem JCu:AV.nilm.owns=[]:=rfl
@[go_sem] theorem JCs:AV.niface.owns=[]:=rfl
@[go_sem] theorem JCl:AV.owns.ownsL []=[]:=rfl
@[go_sem] theorem JCk(x:AV)(r:List AV):AV.owns.ownsL (x :: r)=x.owns++AV.owns.ownsL r:=rfl
@[go_sem] theorem JEk(cs:List AV):(AV.ro cs).res ts=if AV.pure.pureL cs then some (.ro cs) else none:=rfl
@[go_sem] theorem JEb(fn:Fn)(a b:List AV):(AV.clo fn a b).res ts=if(AV.pure.pureL a && AV.pure.pureL b)=true then some (.clo fn a b) else none:=rfl
@[go_sem] theorem JEi:AV.nilp.res ts=some .nilp:=rfl
@[go_sem] theorem JEg:AV.nilf.res ts=some .nilf:=rfl
@[go_sem] theorem JEh:AV.nilm.res ts=some .nilm:=rfl
@[go_sem] theorem JEf:AV.niface.res ts=some .niface:=rfl
@[go_sem] theorem JC7:AV.pure.pureL []=true:=rfl
@[go_sem] theorem JC4(x:AV)(r:List AV):AV.pure.pureL (x :: r)=(x.pure && AV.pure.pureL r):=rfl
@[go_sem] theorem JDb(k:IntKind)(n:Int):(AV.int k n).pure=true:=rfl
@[go_sem] theorem JC9(b:Bool):(AV.bool b).pure=true:=rfl
@[go_sem] theorem JDi(s:List UInt8):(AV.str s).pure=true:=rfl
@[go_sem] theorem JC8(cs:List AV):(AV.agg cs).pure=AV.pure.pureL cs:=rfl
@[go_sem] theorem JDj(cs:List AV):(AV.tup cs).pure=AV.pure.pureL cs:=rfl
@[go_sem] theorem JDh(c:Bool)(cs:List AV):(AV.slice c cs).pure=AV.pure.pureL cs:=rfl
@[go_sem] theorem JDg(cs:List AV):(AV.ro cs).pure=AV.pure.pureL cs:=rfl
@[go_sem] theorem JDa(fn:Fn)(a b:List AV):(AV.clo fn a b).pure=(AV.pure.pureL a && AV.pure.pureL b):=rfl
@[go_sem] theorem JDf:AV.nilp.pure=true:=rfl
@[go_sem] theorem JDd:AV.nilf.pure=true:=rfl
@[go_sem] theorem JDe:AV.nilm.pure=true:=rfl
@[go_sem] theorem JwC(k:IntKind)(n:Int):(AV.int k n).flat=true:=rfl
@[go_sem] theorem JwB(b:Bool):(AV.bool b).flat=true:=rfl
@[go_sem] theorem JwD(s:List UInt8):(AV.str s).flat=true:=rfl
@[go_sem] theorem JwA(cs:List AV):(AV.agg cs).flat=AV.flat.flatL cs:=rfl
@[go_sem] theorem Jwz:AV.flat.flatL []=true:=rfl
@[go_sem] theorem Jwy(x:AV)(r:List AV):AV.flat.flatL (x :: r)=(x.flat && AV.flat.flatL r):=rfl
end
end Go.Proofs.YthjalhfmpffbjaaGreatDoor.Lg
namespace Go.Proofs.YthjalhfmpffbjaaGreatDoor.Lg
open Go
variable {P:Program}
def SameSlot(a b:TS)(t:Nat):Prop:=a.tmp t=b.tmp t∧a.gen t=b.gen t∧a.obj t=b.obj t
theorem Jcy{a b:TS}(hn:a.n=b.n)(h:∀t,SameSlot a b t):a=b:=by
 cases a;cases b
 simp only at hn
 subst hn
 have h1:=funext fun t=>(h t).1
 have h2:=funext fun t=>(h t).2.1
 have h3:=funext fun t=>(h t).2.2
 simp only at h1 h2 h3
 subst h1 h2 h3
 rfl
def YL(ops:Array Oper)(i:Nat):List Nat :=
 match ops[i]? with
 |some o=>(o.after.toList.filter (Region.binds .any)).map (·.on)
 |none=>[]
def YH(ops:Array Oper):Nat→Nat→Nat→Bool
 |0,_,_=>false
 |f+1,k,j=>(YL ops k).contains j || (YL ops k).any fun e=>YH ops f e j
def JeG(ops:Array Oper)(k j:Nat):Bool:=YH ops 2 k j || YH ops 6 k j
def Ja4(ops:Array Oper)(m:Nat)(wr bads:List (List Nat)):Bool :=
 decide (m≤ops.size) &&
 ((List.range ops.size).all fun i=>(YL ops i).all fun e=>decide (e<i)) &&
 ((List.range m).all fun i=>((wr.getD i []).all fun t=>!(bads.getD i []).contains t) &&
  (List.range m).all fun j=>i == j || (decide (j<i) && YH ops 2 i j) || (decide (i<j) && YH ops 2 j i) || (wr.getD j []).all fun t=>(bads.getD i []).contains t) &&
 ((List.range ops.size).all fun k=>decide (k<m) || (List.range k).all fun j=>JeG ops k j)
structure DrawOk(ops:Array Oper)(m:Nat)(wr bads:List (List Nat)):Prop where
 le:m≤ops.size
 lt:∀i,i<ops.size→∀e∈YL ops i,e<i
 own:∀i,i<m→∀t∈wr.getD i [],(bads.getD i []).contains t=false
 ord:∀i,i<m→∀j,j<m→i≠j→(j<i∧YH ops 2 i j=true)∨(i<j∧YH ops 2 j i=true)∨∀t∈wr.getD j [],(bads.getD i []).contains t=true
 tail:∀k,m≤k→k<ops.size→∀j,j<k→JeG ops k j=true
theorem JhX{ops:Array Oper}{m:Nat}{wr bads:List (List Nat)}(h:Ja4 ops m wr bads=true):DrawOk ops m wr bads:=by
 unfold Ja4 at h
 simp only[Bool.and_eq_true] at h
 obtain⟨⟨⟨h1,h2⟩,h3⟩,h4⟩:=h
 refine⟨by simpa using h1,fun i hi e he=>?_,fun i hi t ht=>?_,fun i hi j hj hne=>?_,fun k hk hk2 j hj=>?_⟩
 ·have:=List.all_eq_true.1 (List.all_eq_true.1 h2 i (List.mem_range.2 hi)) e he
  simpa using this
 ·have:=(Bool.and_eq_true _ _▸List.all_eq_true.1 h3 i (List.mem_range.2 hi):_∧_).1
  have:=List.all_eq_true.1 this t ht
  simpa using this
 ·have:=(Bool.and_eq_true _ _▸List.all_eq_true.1 h3 i (List.mem_range.2 hi):_∧_).2
  have:=List.all_eq_true.1 this j (List.mem_range.2 hj)
  simp only[Bool.or_eq_true,Bool.and_eq_true,decide_eq_true_eq,beq_iff_eq] at this
  rcases this with ((h|h)|h)|h
  ·exact absurd h hne
  ·exact .inl h
  ·exact .inr (.inl h)
  ·exact .inr (.inr fun t ht=>List.all_eq_true.1 h t ht)
 ·have:=List.all_eq_true.1 h4 k (List.mem_range.2 hk2)
  simp only[Bool.or_eq_true,decide_eq_true_eq] at this
  rcases this with h|h
  ·omega
  ·exact List.all_eq_true.1 h j (List.mem_range.2 hj)
def JF(l:Array Bool)(i:Nat):Prop:=l.getD i false=true
theorem Jbk{ops:Array Oper}{l:Array Bool}(hs:l.size=ops.size){i:Nat}:i∈Region.ready .any ops l↔i<ops.size∧¬JF l i∧∀e∈YL ops i,JF l e:=by
 unfold Region.ready
 simp only[List.mem_filter,List.mem_range]
 constructor
 ·rintro⟨hi,h⟩
  simp only[Bool.and_eq_true,Bool.not_eq_true'] at h
  obtain⟨h1,h2⟩:=h
  refine⟨hi,?_,fun e he=>?_⟩
  ·unfold JF
   have:l.getD i true=l.getD i false:=by simp[show i<l.size by omega]
   rw[←this,h1];simp
  ·unfold YL at he
   cases ho:ops[i]? with
   |none=>rw[ho] at he;simp at he
   |some o =>
    rw[ho] at he h2
    simp only[Option.map_some,Option.getD_some,Array.all_eq_true_iff_forall_mem,Bool.or_eq_true,Bool.not_eq_true'] at h2
    obtain⟨x,hx,rfl⟩:=List.mem_map.1 he
    obtain⟨hx1,hx2⟩:=List.mem_filter.1 hx
    rcases h2 x (by simpa using hx1) with h|h
    ·rw[hx2] at h;cases h
    ·exact h
 ·rintro⟨hi,h1,h2⟩
  refine⟨hi,?_⟩
  simp only[Bool.and_eq_true,Bool.not_eq_true']
  refine⟨?_,?_⟩
  ·have:l.getD i true=l.getD i false:=by simp[show i<l.size by omega]
   rw[this];simpa[JF] using h1
  ·have ho:ops[i]?=some ops[i]:=Array.getElem?_eq_getElem hi
   rw[ho]
   simp only[Option.map_some,Option.getD_some,Array.all_eq_true_iff_forall_mem,Bool.or_eq_true,Bool.not_eq_true']
   intro e he
   cases hb:Region.binds .any e with
   |false=>exact .inl rfl
   |true =>
    right
    refine h2 e.on ?_
    unfold YL
    rw[ho]
    exact List.mem_map.2 ⟨e,List.mem_filter.2 ⟨by simpa using he,hb⟩,rfl⟩
def JbR(ops:Array Oper)(l:Array Bool):Prop:=∀i,i<ops.size→JF l i→∀e∈YL ops i,JF l e
theorem JaL{ops:Array Oper}{l:Array Bool}(hc:JbR ops l)(hlt:∀i,i<ops.size→∀e∈YL ops i,e<i):∀(f k j:Nat),k<ops.size→(∀e∈YL ops k,JF l e)→YH ops f k j=true→JF l j
 |0,k,j,_,_,h=>by simp[YH] at h
 |f+1,k,j,hk,ha,h=>by
  simp only[YH,List.any_eq_true,Bool.or_eq_true,List.contains_iff_mem] at h
  rcases h with h|⟨e,he,h⟩
  ·exact ha j h
  ·have hek:=hlt k hk e he
   exact JaL hc hlt f e j (by omega) (hc e (by omega) (ha e he)) h
theorem Jgu{ops:Array Oper}{l:Array Bool}(hc:JbR ops l)(hlt:∀i,i<ops.size→∀e∈YL ops i,e<i)(k j:Nat)(hk:k<ops.size)(h:∀e∈YL ops k,JF l e)(hr:JeG ops k j=true):JF l j:=by
 simp only[JeG,Bool.or_eq_true] at hr
 rcases hr with hr|hr
 ·exact JaL hc hlt 2 k j hk h hr
 ·exact JaL hc hlt 6 k j hk h hr
theorem Yl{l:Array Bool}{i j:Nat}(hi:i<l.size):JF (l.setIfInBounds i true) j↔j=i∨JF l j:=by
 unfold JF
 by_cases e:j=i
 ·subst e;simp[hi]
 ·simp[Array.getElem?_setIfInBounds,Ne.symm e,e]
def left(ops:Array Oper)(l:Array Bool):Nat:=((List.range ops.size).filter fun i=>!l.getD i false).length
theorem Jc2{ops:Array Oper}{l:Array Bool}(hs:l.size=ops.size){i:Nat}(hi:i<ops.size)(hn:¬JF l i):left ops (l.setIfInBounds i true)<left ops l:=by
 unfold left
 have key:∀(r:List Nat),r.Nodup→i∈r→(r.filter fun j=>!(l.setIfInBounds i true).getD j false).length<(r.filter fun j=>!l.getD j false).length:=by
  intro r
  induction r with
  |nil=>intro _ h;simp at h
  |cons x r ih =>
   intro hnd hm
   have hnd':=List.nodup_cons.1 hnd
   have hle:∀(q:List Nat),(q.filter fun j=>!(l.setIfInBounds i true).getD j false).length≤(q.filter fun j=>!l.getD j false).length:=by
    intro q
    induction q with
    |nil=>simp
    |cons y q ihq =>
     simp only[List.filter_cons]
     have:(!(l.setIfInBounds i true).getD y false)=true→(!l.getD y false)=true:=by
      intro h
      simp only[Bool.not_eq_true'] at h ⊢
      cases hy:l.getD y false with
      |false=>rfl
      |true=>have:=(Yl (l:=l) (i:=i) (j:=y) (by omega)).2 (.inr hy);unfold JF at this;rw[this] at h;cases h
     by_cases h1:(!(l.setIfInBounds i true).getD y false)=true
     ·rw[if_pos h1,if_pos (this h1)];simpa using ihq
     ·rw[if_neg h1]
      split
      ·simp only[List.length_cons];omega
      ·exact ihq
   simp only[List.filter_cons]
   rcases List.mem_cons.1 hm with rfl|hm'
   ·have h1:(!(l.setIfInBounds i true).getD i false)=false:=by
     have:i<l.size:=by omega
     simp[this]
    have h2:(!l.getD i false)=true:=by
     cases hx:l.getD i false with
     |false=>rfl
     |true=>exact absurd hx hn
    rw[if_neg (by rw[h1];decide),if_pos h2]
    simp only[List.length_cons]
    have:=hle r
    omega
   ·have hxi:x≠i:=fun e=>hnd'.1 (e▸hm')
    have h3:(l.setIfInBounds i true).getD x false=l.getD x false:=by simp[Array.getElem?_setIfInBounds,Ne.symm hxi]
    rw[h3]
    have:=ih hnd'.2 hm'
    split
    ·simp only[List.length_cons];omega
    ·exact this
 exact key _ List.nodup_range (by simpa using hi)
theorem Jgv{ops:Array Oper}{l:Array Bool}(hs:l.size=ops.size)(hlt:∀i,i<ops.size→∀e∈YL ops i,e<i)(h:Region.ready .any ops l=[]):∀i,i<ops.size→JF l i:=by
 intro i
 induction i using Nat.strongRecOn with
 |_ i ih =>
  intro hi
  by_cases hl:JF l i
  ·exact hl
  ·have:i∈Region.ready .any ops l:=(Jbk hs).2 ⟨hi,hl,fun e he=>ih e (hlt i hi e he) (by have:=hlt i hi e he;omega)⟩
   rw[h] at this
   simp at this
theorem JfX{ops:Array Oper}{l:Array Bool}{i:Nat}(hi:i<ops.size)(hn:¬JF l i):0<left ops l:=by
 unfold left
 refine List.length_pos_iff.2 fun e=>?_
 have:i∈(List.range ops.size).filter fun i=>!l.getD i false:=List.mem_filter.2 ⟨by simpa using hi,by
  cases hx:l.getD i false with
  |false=>rfl
  |true=>exact absurd hx hn⟩
 rw[e] at this
 simp at this
theorem JhY{ops:Array Oper}{m:Nat}{wr bads:List (List Nat)}(hd:DrawOk ops m wr bads){K:TS→Prop}{Q:Exit→Act→World→Prop}{E:Env}(hQ:∀ts' G' a' w',K ts'→Rel E ts' G' a' w'→Q .normal a' w') :
  ∀(fuel:Nat) (l:Array Bool) (k:Nat) (ts:TS) (G:Ghost) (a:Act) (w:World),l.size=ops.size→left ops l≤fuel→m≤k→k≤ops.size→(∀j,j<ops.size→(JF l j↔j<k)) →
   SpecOs P ops K (ops.toList.drop k) ts→Rel E ts G a w→wpAny P .any ops Q fuel l a w:=by
 intro fuel
 induction fuel with
 |zero =>
  intro l k ts G a w hs hf hm hk hl h hr
  have hall:∀j,j<ops.size→JF l j:=fun j hj=>by
   by_cases hn:JF l j
   ·exact hn
   ·have:=JfX hj hn;omega
  have hke:k=ops.size:=by
   rcases Nat.lt_or_ge k ops.size with h1|h1
   ·exact absurd ((hl k h1).1 (hall k h1)) (Nat.lt_irrefl k)
   ·omega
  subst hke
  have:ops.toList.drop ops.size=[]:=by simp
  rw[this] at h
  refine⟨?_,hQ ts G a w h hr⟩
  by_cases e:Region.ready .any ops l=[]
  ·exact e
  ·obtain⟨i,hi⟩:=List.exists_mem_of_ne_nil _ e
   obtain⟨h1,h2,_⟩:=(Jbk hs).1 hi
   exact absurd (hall i h1) h2
 |succ fuel ih =>
  intro l k ts G a w hs hf hm hk hl h hr
  refine⟨fun hnil=>?_,fun i hi=>?_⟩
  ·have hall:=Jgv hs hd.lt hnil
   have hke:k=ops.size:=by
    rcases Nat.lt_or_ge k ops.size with h1|h1
    ·exact absurd ((hl k h1).1 (hall k h1)) (Nat.lt_irrefl k)
    ·omega
   subst hke
   have:ops.toList.drop ops.size=[]:=by simp
   rw[this] at h
   exact hQ ts G a w h hr
  ·obtain⟨hi1,hi2,hi3⟩:=(Jbk hs).1 hi
   have hik:k≤i:=Nat.le_of_not_lt fun hlt=>hi2 ((hl i hi1).2 hlt)
   have hc:JbR ops l:=fun q hq hlq e he=>(hl e (by have:=hd.lt q hq e he;omega)).2 (by have:=hd.lt q hq e he;have:=(hl q hq).1 hlq;omega)
   have hik2:i=k:=by
    rcases Nat.lt_or_ge k i with h1|h1
    ·have:=Jgu hc hd.lt i k hi1 hi3 (hd.tail i (by omega) hi1 k h1)
     exact absurd ((hl k (by omega)).1 this) (Nat.lt_irrefl k)
    ·omega
   subst hik2
   have hdrop:ops.toList.drop i=ops[i] :: ops.toList.drop (i+1):=by
    rw[List.drop_eq_getElem_cons (by simpa using hi1)];simp
   rw[hdrop] at h
   refine SpecG.sound h (Array.getElem?_eq_getElem hi1) hr fun ts' G' a' w' hK hr'=>?_
   refine ih (l.setIfInBounds i true) (i+1) ts' G' a' w' (by simp[hs]) (by have:=Jc2 hs hi1 hi2;omega) (by omega) hi1 (fun j hj=>?_) hK hr'
   rw[Yl (by omega),hl j hj]
   omega
def Jm(bad:List Nat)(J F:TS):TS :=
 {n:=F.n
  tmp:=fun t=>if bad.contains t then J.tmp t else F.tmp t
  gen:=fun t=>if bad.contains t then J.gen t else F.gen t
  obj:=fun t=>if bad.contains t then J.obj t else F.obj t }
theorem JaF{bad:List Nat}{J F:TS}{t:Nat}(h:bad.contains t=true):SameSlot (Jm bad J F) J t:=by simp only[SameSlot,Jm,h,if_true,and_self]
theorem V9{bad:List Nat}{J F:TS}{t:Nat}(h:bad.contains t=false):SameSlot (Jm bad J F) F t:=by simp only[SameSlot,Jm,h,Bool.false_eq_true,if_false,and_self]
theorem SameSlot.symm{a b:TS}{t:Nat}(h:SameSlot a b t):SameSlot b a t:=⟨h.1.symm,h.2.1.symm,h.2.2.symm⟩
theorem SameSlot.trans{a b c:TS}{t:Nat}(h:SameSlot a b t)(k:SameSlot b c t):SameSlot a c t:=⟨h.1.trans k.1,h.2.1.trans k.2.1,h.2.2.trans k.2.2⟩
theorem SameSlot.rfl'{a:TS}{t:Nat}:SameSlot a a t:=⟨rfl,rfl,rfl⟩
def JcB(m:Nat)(wr:List (List Nat))(F:Nat→TS)(l:Array Bool)(ts:TS):Prop :=
 ts.n=(F 0).n∧∀t k,k≤m→(∀j,j<k→t∈wr.getD j []→JF l j)→(∀j,k≤j→j<m→t∈wr.getD j []→¬JF l j)→SameSlot ts (F k) t
theorem Jds{m:Nat}{wr:List (List Nat)}{F:Nat→TS}(hF:∀i,i<m→∀t,t ∉ wr.getD i []→SameSlot (F (i+1)) (F i) t){t:Nat}:∀(q i:Nat),i+q≤m→(∀j,i≤j→j<i+q→t ∉ wr.getD j [])→SameSlot (F (i+q)) (F i) t
 |0,_,_,_=>SameSlot.rfl'
 |q+1,i,h,hj=>(hF (i+q) (by omega) t (hj (i+q) (by omega) (by omega))).trans (Jds hF q i (by omega) fun j h1 h2=>hj j h1 (by omega))
theorem JnB{ops:Array Oper}{m:Nat}{wr bads:List (List Nat)}(hd:DrawOk ops m wr bads){K:TS→Prop}{Q:Exit→Act→World→Prop}{E:Env}(hQ:∀ts' G' a' w',K ts'→Rel E ts' G' a' w'→Q .normal a' w')
  {F:Nat→TS} (hn:∀k,k≤m→(F k).n=(F 0).n) (hF:∀i,i<m→∀t,t ∉ wr.getD i []→SameSlot (F (i+1)) (F i) t)
  (hop:∀i (hi:i<ops.size),i<m→∀ts1:TS,ts1.n=(F 0).n→(∀t,(bads.getD i []).contains t=false→SameSlot ts1 (F i) t)→SpecG P ops ops[i] ts1 (fun ts'=>ts'=Jm (wr.getD i []) (F (i+1)) ts1))
  (htail:SpecOs P ops K (ops.toList.drop m) (F m)) :
  ∀(fuel:Nat) (l:Array Bool) (ts:TS) (G:Ghost) (a:Act) (w:World),l.size=ops.size→left ops l≤fuel→JbR ops l→(∀j,j<ops.size→m≤j→¬JF l j) →
   JcB m wr F l ts→Rel E ts G a w→wpAny P .any ops Q fuel l a w:=by
 have sameF:∀(l:Array Bool) (ts:TS),(∀j,j<m→JF l j)→JcB m wr F l ts→ts=F m:=fun l ts hall hi =>
  Jcy (by rw[hi.1,hn m (Nat.le_refl _)]) fun t=>hi.2 t m (Nat.le_refl _) (fun j hj _=>hall j hj) fun j h1 h2=>by omega
 intro fuel
 induction fuel with
 |zero =>
  intro l ts G a w hs hf hc htl hinv hr
  have hall:∀j,j<ops.size→JF l j:=fun j hj=>by
   by_cases hx:JF l j
   ·exact hx
   ·have:=JfX hj hx;omega
  have hme:m=ops.size:=by
   rcases Nat.lt_or_ge m ops.size with h|h
   ·exact absurd (hall m h) (htl m h (Nat.le_refl _))
   ·have:=hd.le;omega
  have heq:=sameF l ts (fun j hj=>hall j (by have:=hd.le;omega)) hinv
  subst heq
  have hdr:ops.toList.drop m=[]:=by rw[hme];simp
  rw[hdr] at htail
  refine⟨?_,hQ _ G a w htail hr⟩
  by_cases e:Region.ready .any ops l=[]
  ·exact e
  ·obtain⟨i,hi⟩:=List.exists_mem_of_ne_nil _ e
   obtain⟨q1,q2,_⟩:=(Jbk hs).1 hi
   exact absurd (hall i q1) q2
 |succ fuel ih =>
  intro l ts G a w hs hf hc htl hinv hr
  refine⟨fun hnil=>?_,fun i hi=>?_⟩
  ·have hall:=Jgv hs hd.lt hnil
   have hme:m=ops.size:=by
    rcases Nat.lt_or_ge m ops.size with h|h
    ·exact absurd (hall m h) (htl m h (Nat.le_refl _))
    ·have:=hd.le;omega
   have heq:=sameF l ts (fun j hj=>hall j (by have:=hd.le;omega)) hinv
   subst heq
   have hdr:ops.toList.drop m=[]:=by rw[hme];simp
   rw[hdr] at htail
   exact hQ _ G a w htail hr
  ·obtain⟨hi1,hi2,hi3⟩:=(Jbk hs).1 hi
   have hbefore:∀j,YH ops 2 i j=true→JF l j:=fun j h=>JaL hc hd.lt 2 i j hi1 hi3 h
   have hnot:∀j,j<ops.size→YH ops 2 j i=true→¬JF l j:=fun j hj h hlj=>hi2 (JaL hc hd.lt 2 j i hj (hc j hj hlj) h)
   by_cases him:i<m
   ·have hord:∀j,j<m→i≠j→∀t∈wr.getD j [],(bads.getD i []).contains t=false→(j<i→JF l j)∧(i<j→¬JF l j):=by
     intro j hj hne t ht hb
     rcases hd.ord i him j hj hne with ⟨h1,h2⟩|⟨h1,h2⟩|h
     ·exact⟨fun _=>hbefore j h2,fun h=>by omega⟩
     ·exact⟨fun h=>by omega,fun _=>hnot j (by have:=hd.le;omega) h2⟩
     ·rw[h t ht] at hb;cases hb
    have hreads:∀t,(bads.getD i []).contains t=false→SameSlot ts (F i) t:=fun t ht =>
     hinv.2 t i (by omega) (fun j hj hw=>(hord j (by omega) (by omega) t hw ht).1 hj) fun j h1 h2 hw=>by
      by_cases hji:i=j
      ·subst hji;exact hi2
      ·exact(hord j h2 hji t hw ht).2 (by omega)
    refine SpecG.sound (hop i hi1 him ts hinv.1 hreads) (Array.getElem?_eq_getElem hi1) hr fun ts' G' a' w' hK hr'=>?_
    subst hK
    refine ih (l.setIfInBounds i true) (Jm (wr.getD i []) (F (i+1)) ts) G' a' w' (by simp[hs]) (by have:=Jc2 hs hi1 hi2;omega) ?_ ?_ ⟨hinv.1,fun t k hk h1 h2=>?_⟩ hr'
    ·intro q hq hlq e he
     rw[Yl (by omega)] at hlq ⊢
     rcases hlq with rfl|hlq
     ·exact .inr (hi3 e he)
     ·exact .inr (hc q hq hlq e he)
    ·intro j hj hmj hlj
     rw[Yl (by omega)] at hlj
     rcases hlj with rfl|hlj
     ·omega
     ·exact htl j hj hmj hlj
    ·by_cases htw:t∈wr.getD i []
     ·have hik:i<k:=by
       rcases Nat.lt_or_ge i k with h|h
       ·exact h
       ·exact absurd ((Yl (by omega)).2 (.inl rfl)) (h2 i h him htw)
      have a1:SameSlot (Jm (wr.getD i []) (F (i+1)) ts) (F (i+1)) t:=JaF (List.contains_iff_mem.2 htw)
      refine a1.trans (SameSlot.symm ?_)
      have:=Jds hF (t:=t) (k-(i+1)) (i+1) (by omega) fun j h3 h4 hw=>by
       have hlj:=(Yl (i:=i) (by omega)).1 (h1 j (by omega) hw)
       rcases hlj with h|h
       ·omega
       ·exact(hord j (by omega) (by omega) t hw (hd.own i him t htw)).2 (by omega) h
      rwa [show i+1+(k-(i+1))=k by omega] at this
     ·have a1:SameSlot (Jm (wr.getD i []) (F (i+1)) ts) ts t:=V9 (by
       cases h:(wr.getD i []).contains t with
       |false=>rfl
       |true=>exact absurd (List.contains_iff_mem.1 h) htw)
      refine a1.trans (hinv.2 t k hk (fun j hj hw=>?_) fun j h3 h4 hw hl=>h2 j h3 h4 hw ((Yl (by omega)).2 (.inr hl)))
      rcases(Yl (i:=i) (by omega)).1 (h1 j hj hw) with h|h
      ·subst h;exact absurd hw htw
      ·exact h
   ·have hmi:m≤i:=Nat.le_of_not_lt him
    have hall:∀j,j<i→JF l j:=fun j hj=>Jgu hc hd.lt i j hi1 hi3 (hd.tail i hmi hi1 j hj)
    have hmi2:m=i:=by
     rcases Nat.lt_or_ge m i with h|h
     ·exact absurd (hall m h) (htl m (by omega) (Nat.le_refl _))
     ·omega
    subst hmi2
    have heq:=sameF l ts (fun j hj=>hall j hj) hinv
    subst heq
    have hdrop:ops.toList.drop m=ops[m] :: ops.toList.drop (m+1):=by
     rw[List.drop_eq_getElem_cons (by simpa using hi1)];simp
    rw[hdrop] at htail
    refine SpecG.sound htail (Array.getElem?_eq_getElem hi1) hr fun ts' G' a' w' hK hr'=>?_
    refine JhY hd hQ fuel (l.setIfInBounds m true) (m+1) ts' G' a' w' (by simp[hs]) (by have:=Jc2 hs hi1 hi2;omega) (by omega) hi1 (fun j hj=>?_) hK hr'
    rw[Yl (by omega)]
    constructor
    ·rintro(rfl|hlj)
     ·omega
     ·rcases Nat.lt_or_ge j m with h|h
      ·omega
      ·exact absurd hlj (htl j hj h)
    ·intro hj2
     rcases Nat.lt_or_ge j m with h|h
     ·exact .inr (hall j h)
     ·exact .inl (by omega)
end Go.Proofs.YthjalhfmpffbjaaGreatDoor.Lg
namespace Go.Proofs.YthjalhfmpffbjaaGreatDoor.Lg
open Go
variable {P:Program}
def PreOk(P:Program)(ops:Array Oper)(wr bads:List (List Nat))(C:TS→Prop):Nat→List Oper→TS→Prop
 |_,[],F=>C F
 |i,o :: l,F=>∃F',F'.n=F.n∧(∀t,t ∉ wr.getD i []→SameSlot F' F t)∧(∀J,SpecG P ops o (Jm (bads.getD i []) J F) (fun ts'=>ts'=Jm (wr.getD i []) F' (Jm (bads.getD i []) J F)))∧PreOk P ops wr bads C (i+1) l F'
structure Loc(ws:List Nat)(g:TS→TS):Prop where
 n:∀A,(g A).n=A.n
 off:∀A t,t ∉ ws→SameSlot (g A) A t
 on:∀A B t,t∈ws→(∀s∈ws,SameSlot A B s)→SameSlot (g A) (g B) t
theorem Loc.put(d:Nat)(x:AV):Loc [d] (fun A=>A.put d x) where
 n _:=rfl
 off A t h:=by
  have h:t≠d:=by simpa using h
  simp[SameSlot,TS.put,Jp,h]
 on A B t h k:=by
  have h:t=d:=by simpa using h
  subst h
  have:=k t (by simp)
  exact⟨by simp[TS.put],this.2.1,this.2.2⟩
theorem Loc.new(d:Nat)(ob:Ob):Loc [d] (fun A=>A.new d ob) where
 n _:=rfl
 off A t h:=by
  have h:t≠d:=by simpa using h
  simp[SameSlot,TS.new,Jp,h]
 on A B t h k:=by
  have h:t=d:=by simpa using h
  subst h
  have:=k t (by simp)
  refine⟨this.1,?_,by simp[TS.new]⟩
  show(A.new t ob).gen t=(B.new t ob).gen t
  simp only[TS.new,Vc,this.2.1]
theorem Loc.setObj(d:Nat)(ob:Ob):Loc [d] (fun A=>A.setObj d ob) where
 n _:=rfl
 off A t h:=by
  have h:t≠d:=by simpa using h
  simp[SameSlot,TS.setObj,Jp,h]
 on A B t h k:=by
  have h:t=d:=by simpa using h
  subst h
  have:=k t (by simp)
  exact⟨this.1,this.2.1,by simp[TS.setObj]⟩
theorem Loc.kill(d:Nat):Loc [d] (fun A=>A.kill d) where
 n _:=rfl
 off A t h:=by
  have h:t≠d:=by simpa using h
  simp[SameSlot,TS.kill,TS.setObj,Jp,h]
 on A B t h k:=by
  have h:t=d:=by simpa using h
  subst h
  have:=k t (by simp)
  exact⟨this.1,this.2.1,by simp[TS.kill,TS.setObj]⟩
theorem Loc.comp{ws:List Nat}{g h:TS→TS}(hg:Loc ws g)(hh:Loc ws h):Loc ws (fun A=>h (g A)) where
 n A:=(hh.n _).trans (hg.n A)
 off A t ht:=(hh.off _ t ht).trans (hg.off A t ht)
 on A B t ht k:=hh.on _ _ t ht fun s hs=>hg.on A B s hs k
theorem Loc.wide{ws vs:List Nat}{g:TS→TS}(hg:Loc ws g)(h:∀t∈ws,t∈vs):Loc vs g where
 n:=hg.n
 off A t ht:=hg.off A t fun k=>ht (h t k)
 on A B t ht k:=by
  by_cases hw:t∈ws
  ·exact hg.on A B t hw fun s hs=>k s (h s hs)
  ·exact((hg.off A t hw).trans (k t ht)).trans (hg.off B t hw).symm
theorem Jek{ws bad:List Nat}{g:TS→TS}(hg:Loc ws g)(hb:ws.all (fun t=>!bad.contains t)=true)(J F:TS):g (Jm bad J F)=Jm ws (g F) (Jm bad J F):=by
 have hb:∀t∈ws,bad.contains t=false:=fun t ht=>by
  have:=List.all_eq_true.1 hb t ht
  simpa using this
 refine Jcy (hg.n _) fun t=>?_
 by_cases ht:t∈ws
 ·exact(hg.on _ F t ht fun s hs=>V9 (hb s hs)).trans (JaF (List.contains_iff_mem.2 ht)).symm
 ·refine(hg.off _ t ht).trans (V9 ?_).symm
  cases h:ws.contains t with
  |false=>rfl
  |true=>exact absurd (List.contains_iff_mem.1 h) ht
section
variable {ops:Array Oper} {wr bads:List (List Nat)} {C:TS→Prop} {i:Nat} {o:Oper} {l:List Oper} {F:TS}
theorem PreOk.nil(h:C F):PreOk P ops wr bads C i [] F:=h
theorem PreOk.loc{ws bad:List Nat}{g:TS→TS}(hw:wr.getD i []=ws)(hbd:bads.getD i []=bad)(hg:Loc ws g)(hb:ws.all (fun t=>!bad.contains t)=true)
  (h:∀J,SpecG P ops o (Jm bad J F) (fun ts'=>ts'=g (Jm bad J F))) (hl:PreOk P ops wr bads C (i+1) l (g F)):PreOk P ops wr bads C i (o :: l) F:=by
 subst hw hbd
 refine⟨g F,hg.n F,fun t ht=>hg.off F t ht,fun J=>?_,hl⟩
 rw[←Jek hg hb]
 exact h J
end
theorem Jjx{ops:Array Oper}{wr bads:List (List Nat)}{m:Nat}(hle:m≤ops.size){C:TS→Prop}:∀(k i:Nat) (F:TS),i+k=m→PreOk P ops wr bads C i ((ops.toList.take m).drop i) F →
  ∃Fs:Nat→TS,Fs i=F∧C (Fs m)∧∀q (hq:q<ops.size),i≤q→q<m→(Fs (q+1)).n=(Fs q).n∧(∀t,t ∉ wr.getD q []→SameSlot (Fs (q+1)) (Fs q) t) ∧
   ∀J,SpecG P ops ops[q] (Jm (bads.getD q []) J (Fs q)) (fun ts'=>ts'=Jm (wr.getD q []) (Fs (q+1)) (Jm (bads.getD q []) J (Fs q)))
 |0,i,F,hik,h=>by
  have:(ops.toList.take m).drop i=[]:=List.drop_eq_nil_of_le (by simp;omega)
  rw[this] at h
  exact⟨fun _=>F,rfl,h,fun q _ h1 h2=>by omega⟩
 |k+1,i,F,hik,h=>by
  have hi:i<ops.size:=by omega
  have hdrop:(ops.toList.take m).drop i=ops[i] :: (ops.toList.take m).drop (i+1):=by
   rw[List.drop_eq_getElem_cons (by simp;omega)]
   simp
  rw[hdrop] at h
  obtain⟨F',h1,h2,h3,h4⟩:=h
  obtain⟨Fs,g1,g2,g3⟩:=Jjx hle k (i+1) F' (by omega) h4
  refine⟨fun q=>if q≤i then F else Fs q,by simp,by simp only[show ¬m≤i by omega,if_false];exact g2,fun q hq hq1 hq2=>?_⟩
  by_cases hqi:q=i
  ·subst hqi
   simp only[Nat.le_refl,if_true,show ¬q+1≤q by omega,if_false,g1]
   exact⟨h1,h2,h3⟩
  ·simp only[show ¬q≤i by omega,show ¬q+1≤i by omega,if_false]
   exact g3 q hq (by omega) hq2
theorem SpecC.drawP(hmix:P.follows .mixedOrders=true)(id:Nat){ops:Array Oper}{ts:TS}{Q:Exit→TS→Prop}(m:Nat)(wr bads:List (List Nat))(hc:Ja4 ops m wr bads=true)
  (h:PreOk P ops wr bads (SpecOs P ops (Q .normal) (ops.toList.drop m)) 0 (ops.toList.take m) ts):SpecC P (.region id ops true) ts Q:=by
 have hd:=JhX hc
 obtain⟨Fs,g1,g2,g3⟩:=Jjx hd.le (C:=SpecOs P ops (Q .normal) (ops.toList.drop m)) m 0 ts (by omega) (by simpa using h)
 have hn:∀k,k≤m→(Fs k).n=(Fs 0).n:=by
  intro k
  induction k with
  |zero=>intro _;rfl
  |succ k ih=>intro hk;exact(g3 k (by have:=hd.le;omega) (Nat.zero_le _) (by omega)).1.trans (ih (by omega))
 intro E G a w hr
 refine wp_region_any hmix ?_
 have hlist:∀j,¬JF (Array.replicate ops.size false) j:=fun j=>by
  unfold JF
  by_cases h:j<ops.size<;>simp[h]
 refine JnB hd (E:=E) (K:=Q .normal) (Q:=fun ex a' w'=>∃ts' G',Q ex ts'∧Rel E ts' G' a' w') (fun ts' G' a' w' hK hr'=>⟨ts',G',hK,hr'⟩) hn
  (fun i hi t ht=>(g3 i (by have:=hd.le;omega) (Nat.zero_le _) hi).2.1 t ht) (fun i hi him ts1 hn1 hag=>?_) g2 ops.size _ ts G a { w with drawn:=w.drawn+1 } (by simp)
  (by unfold left;exact Nat.le_trans (List.length_filter_le _ _) (by simp)) (fun i _ hl=>absurd hl (hlist i)) (fun j _ _=>hlist j) ⟨by rw[g1],fun t k hk h1 h2=>?_⟩ hr.drew
 ·have:=(g3 i hi (Nat.zero_le _) him).2.2 ts1
  have he:Jm (bads.getD i []) ts1 (Fs i)=ts1:=by
   refine Jcy (by show(Fs i).n=ts1.n;rw[hn i (by omega),hn1]) fun t=>?_
   cases hb:(bads.getD i []).contains t with
   |true=>exact JaF hb
   |false=>exact(V9 hb).trans (hag t hb).symm
  rw[he] at this
  exact this
 ·have hF:∀i,i<m→∀t,t ∉ wr.getD i []→SameSlot (Fs (i+1)) (Fs i) t:=fun i hi t ht=>(g3 i (by have:=hd.le;omega) (Nat.zero_le _) hi).2.1 t ht
  have:=Jds hF (t:=t) k 0 (by omega) fun j _ h4 hw=>hlist j (h1 j (by omega) hw)
  rw[Nat.zero_add,g1] at this
  exact this.symm
section
variable (bad:List Nat) (J F:TS) (t:Nat)
@[go_sem] theorem Jz3:(Jm bad J F).n=F.n:=rfl
@[go_sem] theorem JGl:(Jm bad J F).tmp t=if bad.contains t then J.tmp t else F.tmp t:=rfl
@[go_sem] theorem Jxn:(Jm bad J F).gen t=if bad.contains t then J.gen t else F.gen t:=rfl
@[go_sem] theorem JAA:(Jm bad J F).obj t=if bad.contains t then J.obj t else F.obj t:=rfl
end
end Go.Proofs.YthjalhfmpffbjaaGreatDoor.Lg
namespace Go.Proofs.YthjalhfmpffbjaaGreatDoor.Lg
open Go
class Dat(α:Type) where
 av:α→AV
 sz:Nat
 len:∀x,(av x).cells.length=sz
 pure:∀x,(av x).pure=true
 nrm:∀x,(av x).nrm=av x
 one:∀x,(av x).cells.all AV.one=true
 known:∀x,(av x).known=true
def Ja{α:Type} [Dat α](l:List α):List AV:=l.map Dat.av
section
variable {α:Type} [Dat α] (l r:List α)
theorem Jaa:AV.pure.pureL (Ja l)=true:=by
 induction l with
 |nil=>rfl
 |cons x r ih=>simp only[Ja,List.map_cons,AV.pure.pureL,Dat.pure,Bool.true_and];exact ih
theorem Jf9:AV.nrm.nrmL (Ja l)=Ja l:=by
 induction l with
 |nil=>rfl
 |cons x r ih=>simp only[Ja,List.map_cons,AV.nrm.nrmL,Dat.nrm];exact congrArg _ ih
@[go_sem] theorem JpJ:AV.pure.pureL (Ja l)=true:=Jaa l
@[go_sem] theorem JAh:AV.nrm.nrmL (Ja l)=Ja l:=Jf9 l
@[go_sem] theorem JiS:(Ja l).length=l.length:=by simp[Ja]
theorem Vp:Ja ([]:List α)=[]:=rfl
theorem YM:Ja (l++r)=Ja l++Ja r:=by simp[Ja]
theorem JbN(x:α):Ja (x :: r)=Dat.av x :: Ja r:=rfl
@[go_sem] theorem Jug(n:Nat):(Ja l).take n=Ja (l.take n):=by simp[Ja]
@[go_sem] theorem Juf(n:Nat):(Ja l).drop n=Ja (l.drop n):=by simp[Ja]
theorem Y2(n:Nat)(x:α):(Ja l).set n (Dat.av x)=Ja (l.set n x):=by simp[Ja]
@[go_sem] theorem Jhr(n:Nat)(h:n<l.length):(Ja l).getD n .any=Dat.av l[n]:=by simp[Ja,h]
theorem Jhs(n:Nat)(x:α)(h:l[n]?=some x):(Ja l).getD n .any=Dat.av x:=by simp[Ja,h]
@[go_sem] theorem JuV(n:Nat)(h:Dat.sz α=n):(∀y∈Ja l,y.cells.length=n)↔True:=by
 simp only[iff_true]
 intro y hy
 obtain⟨x,_,rfl⟩:=List.mem_map.1 hy
 rw[Dat.len,h]
@[go_sem] theorem JAT:(∀y∈Ja l,y.cells.all AV.one=true)↔True:=by
 simp only[iff_true]
 intro y hy
 obtain⟨x,_,rfl⟩:=List.mem_map.1 hy
 exact Dat.one x
end
instance:Dat Int where
 av n:=.int .i64 n
 sz:=1
 len _:=rfl
 pure _:=rfl
 nrm _:=rfl
 one _:=rfl
 known _:=rfl
instance:Dat UInt8 where
 av n:=.int .u8 n.toNat
 sz:=1
 len _:=rfl
 pure _:=rfl
 nrm _:=rfl
 one _:=rfl
 known _:=rfl
instance:Dat Bool where
 av n:=.bool n
 sz:=1
 len _:=rfl
 pure _:=rfl
 nrm _:=rfl
 one _:=rfl
 known _:=rfl
instance:Dat (List UInt8) where
 av n:=.str n
 sz:=1
 len _:=rfl
 pure _:=rfl
 nrm _:=rfl
 one _:=rfl
 known _:=rfl
@[go_sem] theorem JfA(n:Int):Dat.av n=.int .i64 n:=rfl
@[go_sem] theorem Juc(b:Bool):Dat.av b=.bool b:=rfl
@[go_sem] theorem Jud(b:UInt8):Dat.av b=.int .u8 b.toNat:=rfl
@[go_sem] theorem Jm1(b:List UInt8):Dat.av b=.str b:=rfl
@[go_sem] theorem JEz(l:List Int)(n:Nat)(a:Int):(Ja l).set n (.int .i64 a)=Ja (l.set n a):=Y2 l n a
@[go_sem] theorem JEx(l:List Bool)(n:Nat)(a:Bool):(Ja l).set n (.bool a)=Ja (l.set n a):=Y2 l n a
@[go_sem] theorem JEF(l:List (List UInt8))(n:Nat)(a:List UInt8):(Ja l).set n (.str a)=Ja (l.set n a):=Y2 l n a
@[go_sem] theorem JEG(l:List UInt8)(n:Nat)(a:UInt8):(Ja l).set n (.int .u8 a.toNat)=Ja (l.set n a):=Y2 l n a
@[go_sem] theorem JEW(l:List Int)(a:Int):Ja l++[.int .i64 a]=Ja (l++[a]):=by rw[YM];rfl
@[go_sem] theorem JEU(l:List Bool)(a:Bool):Ja l++[.bool a]=Ja (l++[a]):=by rw[YM];rfl
@[go_sem] theorem JE2(l:List (List UInt8))(a:List UInt8):Ja l++[.str a]=Ja (l++[a]):=by rw[YM];rfl
@[go_sem] theorem JE3(l:List UInt8)(a:UInt8):Ja l++[.int .u8 a.toNat]=Ja (l++[a]):=by rw[YM];rfl
@[go_sem] theorem Jue{α:Type} [Dat α](l r:List α):Ja l++Ja r=Ja (l++r):=(YM l r).symm
@[go_sem] theorem JnU:∀l:List Int,AV.flat.flatL (Ja l)=true
 | []=>rfl
 |_ :: r=>by simp only[JbN,AV.flat.flatL,JnU r,JfA,AV.flat,Bool.and_self]
@[go_sem] theorem JnX:∀l:List (List UInt8),AV.flat.flatL (Ja l)=true
 | []=>rfl
 |_ :: r=>by simp only[JbN,AV.flat.flatL,JnX r,Jm1,AV.flat,Bool.and_self]
@[go_sem] theorem JFz:Dat.sz Int=1:=rfl
@[go_sem] theorem JFB:Dat.sz UInt8=1:=rfl
@[go_sem] theorem JFy:Dat.sz Bool=1:=rfl
@[go_sem] theorem JFA:Dat.sz (List UInt8)=1:=rfl
@[go_sem] theorem JuU:((0:Nat):Int)=0:=rfl
@[go_sem] theorem Ji5(k:Nat):((k:Int)<0)=False:=by simp only[eq_iff_iff,iff_false];omega
@[go_sem] theorem Jxs(l:List AV)(i:Nat)(x:AV)(h:i<l.length):(l.set i x).getD i .any=x:=by simp[h]
@[go_sem] theorem Jxt(l:List AV)(i j:Nat)(x:AV)(h:¬i=j):(l.set i x).getD j .any=l.getD j .any:=by simp[List.getElem?_set_ne h]
@[go_sem] theorem Jyj(l:List AV)(i:Nat)(x:AV):(l.set i x).length=l.length:=by simp
@[go_sem] theorem JGs(n:Nat):((n:Int)-1).toNat=n-1:=by omega
@[go_sem] theorem JCK(n:Nat):((n:Int)-1<0)=¬0<n:=by apply propext;omega
@[go_sem] theorem JCL(n:Nat):(0≤(n:Int)-1)=(0<n):=by apply propext;omega
@[go_sem] theorem JCG(n:Nat):((n:Int)-1<n)=True:=by simp only[eq_iff_iff,iff_true];omega
@[go_sem] theorem JCI(n:Nat)(h:0<n):(n-1<n)=True:=by simp only[eq_iff_iff,iff_true];omega
@[go_sem] theorem JCH(k n:Nat)(h:k≤n):((k:Int)-1<n)=True:=by simp only[eq_iff_iff,iff_true];omega
@[go_sem] theorem JCJ(k n:Nat)(h:k≤n)(h0:0<k):(k-1<n)=True:=by simp only[eq_iff_iff,iff_true];omega
theorem Jfh{k n:Nat}(h:k≤n)(h0:0<k)(hn:Jc n):IntKind.i64.wrap ((k:Int)-1-1)=((k-1:Nat):Int)-1:=by
 unfold Jc at hn
 rw[IntWalk.i64_in _ (by omega)]
 omega
theorem Yt(k n:Nat):((@OfNat.ofNat Int k instOfNat)<(n:Int))=((@OfNat.ofNat Nat k (instOfNatNat k))<n):=propext (show((k:Nat):Int)<n↔k<n from Int.ofNat_lt)
theorem Ys(k n:Nat):((@OfNat.ofNat Int k instOfNat)≤(n:Int))=((@OfNat.ofNat Nat k (instOfNatNat k))≤n):=propext (show((k:Nat):Int)≤n↔k≤n from Int.ofNat_le)
theorem Yu(k n:Nat):((n:Int)<(@OfNat.ofNat Int k instOfNat))=(n<(@OfNat.ofNat Nat k (instOfNatNat k))):=propext (show(n:Int)<((k:Nat):Int)↔n<k from Int.ofNat_lt)
theorem Yr(k n:Nat):((n:Int)≤(@OfNat.ofNat Int k instOfNat))=(n≤(@OfNat.ofNat Nat k (instOfNatNat k))):=propext (show(n:Int)≤((k:Nat):Int)↔n≤k from Int.ofNat_le)
theorem Yk(k n:Nat):((n:Int)=(@OfNat.ofNat Int k instOfNat))=(n=(@OfNat.ofNat Nat k (instOfNatNat k))):=propext (show(n:Int)=((k:Nat):Int)↔n=k from Int.ofNat_inj)
@[go_sem] theorem JyF(n:Nat):((1:Int)<n)=(1<n):=Yt 1 n
@[go_sem] theorem JyG(n:Nat):((1:Int)≤n)=(1≤n):=Ys 1 n
@[go_sem] theorem JyH(n:Nat):((n:Int)<1)=(n<1):=Yu 1 n
@[go_sem] theorem JyI(n:Nat):((n:Int)≤1)=(n≤1):=Yr 1 n
@[go_sem] theorem JyJ(n:Nat):((n:Int)=1)=(n=1):=Yk 1 n
@[go_sem] theorem JyP(n:Nat):((2:Int)<n)=(2<n):=Yt 2 n
@[go_sem] theorem JyQ(n:Nat):((2:Int)≤n)=(2≤n):=Ys 2 n
@[go_sem] theorem JyR(n:Nat):((n:Int)<2)=(n<2):=Yu 2 n
@[go_sem] theorem JyS(n:Nat):((n:Int)≤2)=(n≤2):=Yr 2 n
@[go_sem] theorem JyT(n:Nat):((n:Int)=2)=(n=2):=Yk 2 n
@[go_sem] theorem JyU(n:Nat):((3:Int)<n)=(3<n):=Yt 3 n
@[go_sem] theorem JyV(n:Nat):((3:Int)≤n)=(3≤n):=Ys 3 n
@[go_sem] theorem JyW(n:Nat):((n:Int)<3)=(n<3):=Yu 3 n
@[go_sem] theorem JyX(n:Nat):((n:Int)≤3)=(n≤3):=Yr 3 n
@[go_sem] theorem JyY(n:Nat):((n:Int)=3)=(n=3):=Yk 3 n
@[go_sem] theorem Jy9(n:Nat):((4:Int)<n)=(4<n):=Yt 4 n
@[go_sem] theorem Jza(n:Nat):((4:Int)≤n)=(4≤n):=Ys 4 n
@[go_sem] theorem Jzb(n:Nat):((n:Int)<4)=(n<4):=Yu 4 n
@[go_sem] theorem Jzc(n:Nat):((n:Int)≤4)=(n≤4):=Yr 4 n
@[go_sem] theorem Jzd(n:Nat):((n:Int)=4)=(n=4):=Yk 4 n
@[go_sem] theorem Jzt(n:Nat):((8:Int)<n)=(8<n):=Yt 8 n
@[go_sem] theorem Jzu(n:Nat):((8:Int)≤n)=(8≤n):=Ys 8 n
@[go_sem] theorem Jzv(n:Nat):((n:Int)<8)=(n<8):=Yu 8 n
@[go_sem] theorem Jzw(n:Nat):((n:Int)≤8)=(n≤8):=Yr 8 n
@[go_sem] theorem Jzx(n:Nat):((n:Int)=8)=(n=8):=Yk 8 n
@[go_sem] theorem Jyv(n:Nat):((12:Int)<n)=(12<n):=Yt 12 n
@[go_sem] theorem Jyw(n:Nat):((12:Int)≤n)=(12≤n):=Ys 12 n
@[go_sem] theorem Jyx(n:Nat):((n:Int)<12)=(n<12):=Yu 12 n
@[go_sem] theorem Jyy(n:Nat):((n:Int)≤12)=(n≤12):=Yr 12 n
@[go_sem] theorem Jyz(n:Nat):((n:Int)=12)=(n=12):=Yk 12 n
@[go_sem] theorem JyA(n:Nat):((16:Int)<n)=(16<n):=Yt 16 n
@[go_sem] theorem JyB(n:Nat):((16:Int)≤n)=(16≤n):=Ys 16 n
@[go_sem] theorem JyC(n:Nat):((n:Int)<16)=(n<16):=Yu 16 n
@[go_sem] theorem JyD(n:Nat):((n:Int)≤16)=(n≤16):=Yr 16 n
@[go_sem] theorem JyE(n:Nat):((n:Int)=16)=(n=16):=Yk 16 n
@[go_sem] theorem JyK(n:Nat):((20:Int)<n)=(20<n):=Yt 20 n
@[go_sem] theorem JyL(n:Nat):((20:Int)≤n)=(20≤n):=Ys 20 n
@[go_sem] theorem JyM(n:Nat):((n:Int)<20)=(n<20):=Yu 20 n
@[go_sem] theorem JyN(n:Nat):((n:Int)≤20)=(n≤20):=Yr 20 n
@[go_sem] theorem JyO(n:Nat):((n:Int)=20)=(n=20):=Yk 20 n
@[go_sem] theorem Jy4(n:Nat):((40:Int)<n)=(40<n):=Yt 40 n
@[go_sem] theorem Jy5(n:Nat):((40:Int)≤n)=(40≤n):=Ys 40 n
@[go_sem] theorem Jy6(n:Nat):((n:Int)<40)=(n<40):=Yu 40 n
@[go_sem] theorem Jy7(n:Nat):((n:Int)≤40)=(n≤40):=Yr 40 n
@[go_sem] theorem Jy8(n:Nat):((n:Int)=40)=(n=40):=Yk 40 n
@[go_sem] theorem Jze(n:Nat):((60:Int)<n)=(60<n):=Yt 60 n
@[go_sem] theorem Jzf(n:Nat):((60:Int)≤n)=(60≤n):=Ys 60 n
@[go_sem] theorem Jzg(n:Nat):((n:Int)<60)=(n<60):=Yu 60 n
@[go_sem] theorem Jzh(n:Nat):((n:Int)≤60)=(n≤60):=Yr 60 n
@[go_sem] theorem Jzi(n:Nat):((n:Int)=60)=(n=60):=Yk 60 n
@[go_sem] theorem Jzj(n:Nat):((64:Int)<n)=(64<n):=Yt 64 n
@[go_sem] theorem Jzk(n:Nat):((64:Int)≤n)=(64≤n):=Ys 64 n
@[go_sem] theorem Jzl(n:Nat):((n:Int)<64)=(n<64):=Yu 64 n
@[go_sem] theorem Jzm(n:Nat):((n:Int)≤64)=(n≤64):=Yr 64 n
@[go_sem] theorem Jzn(n:Nat):((n:Int)=64)=(n=64):=Yk 64 n
@[go_sem] theorem Jzo(n:Nat):((80:Int)<n)=(80<n):=Yt 80 n
@[go_sem] theorem Jzp(n:Nat):((80:Int)≤n)=(80≤n):=Ys 80 n
@[go_sem] theorem Jzq(n:Nat):((n:Int)<80)=(n<80):=Yu 80 n
@[go_sem] theorem Jzr(n:Nat):((n:Int)≤80)=(n≤80):=Yr 80 n
@[go_sem] theorem Jzs(n:Nat):((n:Int)=80)=(n=80):=Yk 80 n
@[go_sem] theorem Jyq(n:Nat):((100:Int)<n)=(100<n):=Yt 100 n
@[go_sem] theorem Jyr(n:Nat):((100:Int)≤n)=(100≤n):=Ys 100 n
@[go_sem] theorem Jys(n:Nat):((n:Int)<100)=(n<100):=Yu 100 n
@[go_sem] theorem Jyt(n:Nat):((n:Int)≤100)=(n≤100):=Yr 100 n
@[go_sem] theorem Jyu(n:Nat):((n:Int)=100)=(n=100):=Yk 100 n
@[go_sem] theorem JyZ(n:Nat):((400:Int)<n)=(400<n):=Yt 400 n
@[go_sem] theorem Jy0(n:Nat):((400:Int)≤n)=(400≤n):=Ys 400 n
@[go_sem] theorem Jy1(n:Nat):((n:Int)<400)=(n<400):=Yu 400 n
@[go_sem] theorem Jy2(n:Nat):((n:Int)≤400)=(n≤400):=Yr 400 n
@[go_sem] theorem Jy3(n:Nat):((n:Int)=400)=(n=400):=Yk 400 n
@[go_sem] theorem Jyl(n:Nat):((1000:Int)<n)=(1000<n):=Yt 1000 n
@[go_sem] theorem Jym(n:Nat):((1000:Int)≤n)=(1000≤n):=Ys 1000 n
@[go_sem] theorem Jyn(n:Nat):((n:Int)<1000)=(n<1000):=Yu 1000 n
@[go_sem] theorem Jyo(n:Nat):((n:Int)≤1000)=(n≤1000):=Yr 1000 n
@[go_sem] theorem Jyp(n:Nat):((n:Int)=1000)=(n=1000):=Yk 1000 n
@[go_sem] theorem Jyk(n:Nat):((n:Int)=0)=(n=0):=Yk 0 n
theorem Jop(a b:Int):(decide (a<b)=true)=(a<b):=by simp
theorem Joo(a b:Int):(decide (a<b)=false)=(¬a<b):=by simp
theorem Jon(a b:Int):(decide (a≤b)=true)=(a≤b):=by simp
theorem Jom(a b:Int):(decide (a≤b)=false)=(¬a≤b):=by simp
theorem Jpg(a b:Nat):(decide (a<b)=true)=(a<b):=by simp
theorem Jpf(a b:Nat):(decide (a<b)=false)=(¬a<b):=by simp
theorem Jpe(a b:Nat):(decide (a≤b)=true)=(a≤b):=by simp
theorem Jpd(a b:Nat):(decide (a≤b)=false)=(¬a≤b):=by simp
theorem nr:(∀(p:Prop) [Decidable p],decide (¬p)=!decide p)∧(∀a b:Int,(decide (a<b)=true)=(a<b))∧(∀a b:Int,(decide (a<b)=false)=(¬a<b))∧(∀a b:Int,(decide (a≤b)=true)=(a≤b))∧(∀a b:Int,(decide (a≤b)=false)=(¬a≤b)) ∧
  (∀a b:Nat,(decide (a<b)=true)=(a<b))∧(∀a b:Nat,(decide (a<b)=false)=(¬a<b))∧(∀a b:Nat,(decide (a≤b)=true)=(a≤b))∧(∀a b:Nat,(decide (a≤b)=false)=(¬a≤b)) ∧
  (∀b:Bool,((!b)=true)=(b=false))∧(∀b:Bool,((!b)=false)=(b=true))∧(∀a b:Nat,((a:Int)<(b:Int))=(a<b))∧(∀a b:Nat,((a:Int)≤(b:Int))=(a≤b)) :=
 ⟨fun p _=>by simp,Jop,Joo,Jon,Jom,Jpg,Jpf,Jpe,Jpd,fun b=>by cases b<;>simp,fun b=>by cases b<;>simp,fun a b=>propext Int.ofNat_lt,fun a b=>propext Int.ofNat_le⟩
theorem Jg{i n:Nat}(h:i<n)(hn:Jc n):IntKind.i64.wrap (i+1:Int)=((i+1:Nat):Int):=by
 unfold Jc at hn
 rw[IntWalk.i64_in _ (by omega)]
 omega
theorem Jg3{n:Nat}(hn:Jc n):IntKind.i64.wrap (n-1:Int)=(n:Int)-1:=by
 unfold Jc at hn
 rw[IntWalk.i64_in _ (by omega)]
def JaA(l:Nat)(J:TS→Prop)(Q:Exit→TS→Prop):Exit→TS→Prop
 | .goto l',ts=>l'=l∧J ts
 |e,ts=>Q e ts
section
variable {P:Program} {Q:Exit→TS→Prop} {ts:TS}
theorem SpecC.scope_jumps{c rest:Code}(l:Nat)(I:Nat→TS→Prop)(hf:findLabel c l=some rest)(first:SpecC P c ts (JaA l (fun ts'=>∃m,I m ts') Q))
  (pass:∀n ts,I n ts→SpecC P rest ts (JaA l (fun ts'=>∃m,m<n∧I m ts') Q)):SpecC P (.scope c) ts Q:=by
 intro E G a w hr
 let p:Act→World→Nat→Prop:=fun a w n=>∃ts G,I n ts∧Rel E ts G a w
 let μ:Act→World→Nat:=fun a w=>open Classical in if h:∃n,p a w n then Classical.choose (JbV _ h) else 0
 have hμ:∀a w,(∃n,p a w n)→p a w (μ a w):=fun a w h=>by
  simp only[μ,dif_pos h];exact(Classical.choose_spec (JbV _ h)).1
 have hμ':∀a w n,p a w n→μ a w≤n:=fun a w n h=>by
  simp only[μ,dif_pos (⟨n,h⟩:∃n,p a w n)];exact(Classical.choose_spec (JbV _ ⟨n,h⟩)).2 n h
 refine wp_scope_jumps l (fun a w=>∃n,p a w n) μ hf (wp_mono (first E G a w hr) ?_) ?_
 ·rintro e a' w' ⟨ts',G',hq,hr'⟩
  cases e with
  |goto l'=>exact⟨hq.1,hq.2.choose,ts',G',hq.2.choose_spec,hr'⟩
  |_=>exact⟨ts',G',hq,hr'⟩
 ·intro a w hI
  obtain⟨ts,G,hI,hr⟩:=hμ a w hI
  refine wp_mono (pass (μ a w) ts hI E G a w hr) ?_
  rintro e a' w' ⟨ts',G',hq,hr'⟩
  cases e with
  |goto l' =>
   obtain⟨hl,m,hm,hI'⟩:=hq
   exact⟨hl,⟨m,ts',G',hI',hr'⟩,Nat.lt_of_le_of_lt (hμ' a' w' m ⟨ts',G',hI',hr'⟩) hm⟩
  |_=>exact⟨ts',G',hq,hr'⟩
@[go_sem] theorem JxH(l:Nat)(J:TS→Prop):JaA l J Q .ret ts=Q .ret ts:=rfl
@[go_sem] theorem JxG(l:Nat)(J:TS→Prop):JaA l J Q .normal ts=Q .normal ts:=rfl
@[go_sem] theorem JxE(l id:Nat)(J:TS→Prop):JaA l J Q (.exit id) ts=Q (.exit id) ts:=rfl
@[go_sem] theorem JxF(l l':Nat)(J:TS→Prop):JaA l J Q (.goto l') ts=(l'=l∧J ts):=rfl
end
end Go.Proofs.YthjalhfmpffbjaaGreatDoor.Lg
namespace Go.Proofs.YthjalhfmpffbjaaGreatDoor.Lg
open Go
variable {P:Program}
theorem Rel.newVirt{E:Env}{ts:TS}{G:Ghost}{a:Act}{w:World}(h:Rel E ts G a w)(d sz:Nat)(hsz:0<sz):Rel E (ts.new d (.arr sz [])) (G.set d w.heap.size none) a w:=by
 have hle:=Jc1 E G ts w w d w.heap.size none (.arr sz []) (Nat.le_refl _) (fun _ _=>rfl)
 have live:∀e,e≠d→(Jj (ts.new d (.arr sz [])) (G.set d w.heap.size none) e↔Jj ts G e):=fun e he=>by
  simp[Jj,Ghost.set,TS.new,Jp,he]
 have hβ:∀e,e≠d→(G.set d w.heap.size none).β e=G.β e:=fun e he=>by simp[Ghost.set,Jp,he]
 have hdead:¬Jj (ts.new d (.arr sz [])) (G.set d w.heap.size none) d:=fun hl=>hl.2 (by simp[Ghost.set])
 constructor
 ·exact h.size
 ·exact h.defers
 ·exact fun t=>(h.tmp t).mono hle
 ·intro e
  show ObOk (Jb E (G.set d w.heap.size none) (ts.new d (.arr sz [])) w) e ((Jp ts.obj d (.arr sz [])) e)
  by_cases he:e=d
  ·subst he
   rw[Vc]
   exact⟨hsz,by simp,by simp[Jb,Ghost.set]⟩
  ·rw[Vo _ _ he]
   exact ObOk.mono hle (by simp[Jb,Ghost.set,Jp,he]) (by simp[Jb,Ghost.set,Jp,he]) (fun _ _=>rfl) (h.obj e)
 ·intro e e' h1 h2 h3
  by_cases he:e=d
  ·subst he;exact absurd h1 hdead
  ·by_cases he':e'=d
   ·subst he';exact absurd h2 hdead
   ·rw[hβ e he,hβ e' he'] at h3
    exact h.sep e e' ((live e he).1 h1) ((live e' he').1 h2) h3
 ·intro e h1
  by_cases he:e=d
  ·subst he;exact absurd h1 hdead
  ·rw[hβ e he]
   exact h.own e ((live e he).1 h1)
 ·exact h.inF
 ·exact h.bel
 ·intro j b' hj hg
  by_cases he:j=d
  ·subst he;simp[TS.new] at hg
  ·rw[hβ j he];exact h.pin j b' hj (by simpa[TS.new,Jp,he] using hg)
theorem Jf7{E:Env}{ts:TS}{G:Ghost}{w:World}{d sz:Nat}{v:Value}{c:Ctx}(h:Rep c v (.slice true [])):Rep (Jb E (G.set d w.heap.size none) (ts.new d (.arr sz [])) w) v (.os d (ts.gen d+1) 0):=by
 have hv:∃a,v=.slice a 0 0:=by
  cases h with
  |slice0 _ a cap h=>exact⟨a,by rw[h rfl]⟩
  |slice=>contradiction
 obtain⟨a,rfl⟩:=hv
 exact .os d _ _ _ rfl (by simp[Jb,TS.new]) fun _ _=>by unfold JO;simp[Jb,Ghost.set]
theorem SpecC.virt{c:Code}{ts:TS}{Q:Exit→TS→Prop}(t d sz:Nat)(hsz:0<sz)(ht:ts.tmp t=.slice true [])(h:SpecC P c ((ts.new d (.arr sz [])).put t (.os d (ts.gen d+1) 0)) Q):SpecC P c ts Q:=by
 intro E G a w hr
 have h0:=hr.tmp t
 rw[ht] at h0
 exact h E _ a w ((hr.newVirt d sz hsz).reput (Jf7 h0))
end Go.Proofs.YthjalhfmpffbjaaGreatDoor.Lg
namespace Go.Proofs.YthjalhfmpffbjaaGreatDoor.Lg
open Go
variable {P:Program}
def Zq(x:AV):TS:={ n:=1,tmp:=fun t=>if t=0 then x else .any,gen:=fun _=>0,obj:=fun _=>.dead }
theorem CallP.extn{f:FuncId}{args:List AV}{x:AV}(hp:x.pure=true)
  (h:∀(vals:Array Value) (w:World) (c:Ctx),vals.size=args.length→(∀i,Rep c (vals.getD i undef) (args.getD i .any))→∃v,(callFunc f vals).run P w=.ok (.value v) w∧Rep c v x):CallP P f args x:=by
 intro E G vals w hw hrel hpin
 have hobj:∀d,(Jk (args.map Arg.v) (args.map Arg.v).length).obj d=.dead:=fun d=>by
  simp only[Jk,List.getElem?_map]
  cases args[d]?<;>rfl
 have hdead:∀d,¬Jj (Jk (args.map Arg.v) (args.map Arg.v).length) G d:=fun d hl=>hl.1 (by rw[hobj];rfl)
 have hdead1:∀d,¬Jj (Zq x) G d:=fun d hl=>hl.1 rfl
 have hctx:Jb E G (Zq x) w=Jb E G (Jk (args.map Arg.v) (args.map Arg.v).length) w:=by
  unfold Jb
  have e1:(fun b=>E.F b∨∃d,Jj (Zq x) G d∧G.β d=b)=fun b=>E.F b∨∃d,Jj (Jk (args.map Arg.v) (args.map Arg.v).length) G d∧G.β d=b:=by
   funext b
   apply propext
   constructor
   ·rintro(h|⟨d,h,_⟩)
    ·exact .inl h
    ·exact absurd h (hdead1 d)
   ·rintro(h|⟨d,h,_⟩)
    ·exact .inl h
    ·exact absurd h (hdead d)
  have e2:(fun d=>((Zq x).obj d).kind)=fun d=>((Jk (args.map Arg.v) (args.map Arg.v).length).obj d).kind:=by
   funext d
   rw[hobj];rfl
  rw[e1,e2]
  rfl
 obtain⟨v,hv,hr⟩:=h vals w (Jb E G (Jk (args.map Arg.v) (args.map Arg.v).length) w) (by have:=hrel.size;simpa[Jk] using this) fun i=>by
  have:=hrel.tmp i
  have e:(Jk (args.map Arg.v) (args.map Arg.v).length).tmp i=args.getD i .any:=by
   simp only[Jk,List.getElem?_map,List.getD_eq_getElem?_getD]
   cases args[i]?<;>rfl
  rwa [e] at this
 rw[hv]
 refine⟨v,.val x,fun _=>[],Zq x,G,rfl,rfl,?_,fun j b hj=>?_,hp,rfl⟩
 ·refine⟨rfl,rfl,fun t=>?_,fun d=>trivial,fun d d' h1 _ _=>absurd h1 (hdead1 d),fun d h1=>absurd h1 (hdead1 d),hrel.inF,hrel.bel,fun j b hj _=>?_⟩
  ·rw[hctx]
   by_cases ht:t=0
   ·subst ht;simpa[Zq] using hr
   ·simp only[Zq,if_neg ht];exact .any _
  ·obtain⟨cs,hcs⟩:=(hpin j).2 ⟨b,hj⟩
   simp only[List.getElem?_map] at hcs
   cases hh:args[j]?<;>rw[hh] at hcs<;>simp at hcs
 ·obtain⟨cs,hcs⟩:=(hpin j).2 ⟨b,hj⟩
  simp only[List.getElem?_map] at hcs
  cases hh:args[j]?<;>rw[hh] at hcs<;>simp at hcs
end Go.Proofs.YthjalhfmpffbjaaGreatDoor.Lg
namespace Go.Proofs.YthjalhfmpffbjaaGreatDoor.Lg
open Go
variable {P:Program}
def vOk(bad:List Nat):AV→Bool
 | .os d _ _=>!bad.contains d
 | .ref d _ _=>!bad.contains d
 | .eref d _ _ _=>!bad.contains d
 | .ot d _ _ _=>!bad.contains d
 | .mref d _=>!bad.contains d
 | .agg cs=>vOkL cs
 | .tup cs=>vOkL cs
 | .clo _ a b=>vOkL a && vOkL b
 |_=>true
where vOkL:List AV→Bool
 | []=>true
 |x :: r=>vOk bad x && vOkL r
def Jw(bad:List Nat)(F:TS):Operand→Bool
 | .tmp t=>!bad.contains t && vOk bad (F.tmp t)
 |_=>true
section mix
variable {bad:List Nat} {J F:TS}
theorem JD{x:Operand}(h:Jw bad F x=true):(Jm bad J F).ev x=F.ev x:=by
 cases x with
 |tmp t =>
  simp only[Jw,Bool.and_eq_true,Bool.not_eq_true'] at h
  exact(V9 h.1).1
 |_=>rfl
theorem Ye{x:Operand}(h:Jw bad F x=true):vOk bad (F.ev x)=true:=by
 cases x with
 |tmp t=>simp only[Jw,Bool.and_eq_true] at h;exact h.2
 |const v=>simp only[TS.ev];unfold Y8;split<;>rfl
 |func f=>rfl
 |global g=>rfl
theorem Vm{d:Nat}(h:bad.contains d=false):(Jm bad J F).gen d=F.gen d:=(V9 h).2.1
theorem VN{d:Nat}(h:bad.contains d=false):(Jm bad J F).obj d=F.obj d:=(V9 h).2.2
theorem JpG{x:AV}(h:vOk bad x=true):(Jm bad J F).ptr x=F.ptr x:=by
 cases x with
 |ref d g off=>simp only[vOk,Bool.not_eq_true'] at h;simp only[TS.ptr,Vm h,VN h]
 |eref d g i o=>simp only[vOk,Bool.not_eq_true'] at h;simp only[TS.ptr,Vm h,VN h]
 |_=>rfl
theorem Jb9{d g:Nat}(h:bad.contains d=false):(Jm bad J F).live d g=F.live d g:=by simp only[TS.live,Vm h,VN h]
theorem Jrh{x:AV}(h:vOk bad x=true):(Jm bad J F).there x=F.there x:=by
 cases x with
 |ref d g off=>simp only[vOk,Bool.not_eq_true'] at h;simp only[TS.there,Jb9 h]
 |_=>rfl
theorem Jkf{x:AV}{o:Nat}(h:vOk bad x=true):(Jm bad J F).shift x o=F.shift x o:=by
 cases x with
 |ref d g off=>simp only[vOk,Bool.not_eq_true'] at h;simp only[TS.shift,Jb9 h]
 |eref d g i o=>simp only[vOk,Bool.not_eq_true'] at h;simp only[TS.shift,Jb9 h]
 |_=>rfl
theorem Jkj{x:AV}(h:vOk bad x=true):(Jm bad J F).sl x=F.sl x:=by
 cases x with
 |os d g len=>simp only[vOk,Bool.not_eq_true'] at h;simp only[TS.sl,Vm h,VN h]
 |ot d g o len=>simp only[vOk,Bool.not_eq_true'] at h;simp only[TS.sl,Vm h,VN h]
 |_=>rfl
theorem JoJ{x:AV}(h:vOk bad x=true):(Jm bad J F).len x=F.len x:=by
 cases x with
 |os d g len=>simp only[vOk,Bool.not_eq_true'] at h;simp only[TS.len,Jb9 h]
 |ot d g o len=>simp only[vOk,Bool.not_eq_true'] at h;simp only[TS.len,Jb9 h]
 |_=>rfl
theorem JmW{x:AV}{sz:Nat}{n:Int}(h:vOk bad x=true):(Jm bad J F).at x sz n=F.at x sz n:=by
 cases x with
 |os d g len=>simp only[vOk,Bool.not_eq_true'] at h;simp only[TS.at,Vm h,VN h]
 |ot d g o len=>simp only[vOk,Bool.not_eq_true'] at h;simp only[TS.at,Vm h,VN h]
 |_=>rfl
theorem Jpz{x:AV}{ys:List AV}(h:vOk bad x=true):(Jm bad J F).poke x ys=F.poke x ys:=by
 cases x with
 |ref d g off=>simp only[vOk,Bool.not_eq_true'] at h;simp only[TS.poke,Vm h,VN h]
 |eref d g i o=>simp only[vOk,Bool.not_eq_true'] at h;simp only[TS.poke,Vm h,VN h]
 |_=>rfl
theorem Jm5{x:AV}{sz:Nat}(h:vOk bad x=true):(Jm bad J F).base x sz=F.base x sz:=by
 cases x with
 |os d g n=>simp only[vOk,Bool.not_eq_true'] at h;simp only[TS.base,Vm h,VN h]
 |slice c xs=>cases c<;>cases xs<;>rfl
 |_=>rfl
theorem JoP{x:AV}(h:vOk bad x=true):(Jm bad J F).mapOf x=F.mapOf x:=by
 cases x with
 |mref d g=>simp only[vOk,Bool.not_eq_true'] at h;simp only[TS.mapOf,Vm h,VN h]
 |_=>rfl
theorem Zs{x:Option Operand}{d:Int}(h:∀y,x=some y→Jw bad F y=true):(Jm bad J F).optI x d=F.optI x d:=by
 cases x with
 |none=>rfl
 |some y=>simp only[TS.optI,JD (h y rfl)]
mutual
theorem JjT:∀(x:AV),vOk bad x=true→x.res (Jm bad J F)=x.res F
 | .os d g len,h=>by simp only[vOk,Bool.not_eq_true'] at h;simp only[AV.res,Vm h,VN h]
 | .mref d g,h=>by simp only[vOk,Bool.not_eq_true'] at h;simp only[AV.res,Vm h,VN h]
 | .mp _ _,_=>rfl
 | .agg cs,h=>by simp only[vOk] at h;simp only[AV.res,JgC cs h]
 | .tup cs,h=>by simp only[vOk] at h;simp only[AV.res,JgC cs h]
 | .any,_|.bool _,_|.int _ _,_|.str _,_|.slice _ _,_|.ro _,_|.nilp,_|.clo _ _ _,_|.nilf,_|.nilm,_|.niface,_|.iface _ _,_|.ref _ _ _,_|.eref _ _ _ _,_|.ot _ _ _ _,_=>rfl
theorem JgC:∀(l:List AV),vOk.vOkL bad l=true→AV.res.resL (Jm bad J F) l=AV.res.resL F l
 | [],_=>rfl
 |x :: r,h=>by
  simp only[vOk.vOkL,Bool.and_eq_true] at h
  simp only[AV.res.resL,JjT x h.1,JgC r h.2]
end
theorem JgY:∀(l:List AV),vOk.vOkL bad l=true→(Jm bad J F).toArgs l=F.toArgs l
 | [],_=>rfl
 |x :: r,h=>by
  simp only[vOk.vOkL,Bool.and_eq_true] at h
  simp only[TS.toArgs,JjT x h.1,JgY r h.2]
theorem Jg1:∀(l r:List AV),vOk.vOkL bad (l++r)=(vOk.vOkL bad l && vOk.vOkL bad r)
 | [],r=>by simp[vOk.vOkL]
 |x :: l,r=>by simp[vOk.vOkL,Jg1 l r,Bool.and_assoc]
theorem Ja7:∀(l:List Operand),(l.all fun x=>Jw bad F x)=true→l.map (Jm bad J F).ev=l.map F.ev∧vOk.vOkL bad (l.map F.ev)=true
 | [],_=>⟨rfl,rfl⟩
 |x :: r,h=>by
  simp only[List.all_cons,Bool.and_eq_true] at h
  obtain⟨h1,h2⟩:=Ja7 r h.2
  exact⟨by simp only[List.map_cons,JD h.1,h1],by simp only[List.map_cons,vOk.vOkL,Ye h.1,h2,Bool.and_self]⟩
end mix
theorem Loc.id(ws:List Nat):Loc ws (fun A=>A):=⟨fun _=>rfl,fun _ _ _=>.rfl',fun _ _ t ht k=>k t ht⟩
def Same(o:Oper)(bad:List Nat)(F:TS)(tgt:Nat→Prop)(K:TS→Prop)(sem:TS→(TS→Prop)→Prop):Prop :=
 ∃(g:TS→TS) (ws:List Nat),Loc ws g∧(∀t∈ws,o.dst=some t∨tgt t)∧K (g F)∧∀J (K':TS→Prop),K' (g (Jm bad J F))→sem (Jm bad J F) K'
section same
variable {o:Oper} {bad:List Nat} {F:TS} {tgt:Nat→Prop} {K:TS→Prop}
theorem Same.mono{s s':TS→(TS→Prop)→Prop}(h:Same o bad F tgt K s)(hs:∀J K',s (Jm bad J F) K'→s' (Jm bad J F) K'):Same o bad F tgt K s':=by
 obtain⟨g,ws,h1,h2,h3,h4⟩:=h
 exact⟨g,ws,h1,h2,h3,fun J K' hk=>hs J K' (h4 J K' hk)⟩
theorem Same.set{v:AV}(h:Jd F o.dst v K):Same o bad F tgt K fun A K'=>Jd A o.dst v K':=by
 cases hd:o.dst with
 |none=>rw[hd] at h;exact⟨fun A=>A,[],Loc.id [],by simp,h,fun J K' hk=>hk⟩
 |some d=>rw[hd] at h;exact⟨fun A=>A.put d v,[d],Loc.put d v,by simp[hd],h.2,fun J K' hk=>⟨h.1,hk⟩⟩
theorem Same.box{cs:List AV}(hd:∀d,o.dst=some d→bad.contains d=false)(h:ZK F o.dst cs K):Same o bad F tgt K fun A K'=>ZK A o.dst cs K':=by
 cases hdst:o.dst with
 |none=>rw[hdst] at h;exact h.elim
 |some d =>
  rw[hdst] at h
  refine⟨fun A=>(A.new d (.box cs)).put d (.ref d (F.gen d+1) 0),[d],(Loc.new d _).comp (Loc.put d _),by simp[hdst],h.2,fun J K' hk=>⟨h.1,?_⟩⟩
  rw[Vm (hd d hdst)];exact hk
theorem Same.arr{sz:Nat}{xs:List AV}(hd:∀d,o.dst=some d→bad.contains d=false)(h:VY F o.dst sz xs K):Same o bad F tgt K fun A K'=>VY A o.dst sz xs K':=by
 cases hdst:o.dst with
 |none=>rw[hdst] at h;exact h.elim
 |some d =>
  rw[hdst] at h
  refine⟨fun A=>(A.new d (.arr sz xs)).put d (.os d (F.gen d+1) xs.length),[d],(Loc.new d _).comp (Loc.put d _),by simp[hdst],h.2,fun J K' hk=>⟨h.1,?_⟩⟩
  rw[Vm (hd d hdst)];exact hk
theorem Same.arrK{b:Bool}{sz:Nat}{xs:List AV}(hd:∀d,o.dst=some d→bad.contains d=false)(h:Lg.arrK b F o.dst sz xs K):Same o bad F tgt K fun A K'=>Lg.arrK b A o.dst sz xs K':=by
 cases b with
 |false=>exact Same.arr hd h
 |true =>
  cases hdst:o.dst with
  |none=>rw[hdst] at h;exact h.elim
  |some d =>
   rw[hdst] at h
   exact⟨fun A=>(A.new d .dead).put d (.slice false xs),[d],(Loc.new d _).comp (Loc.put d _),by simp[hdst],h.2,fun J K' hk=>⟨h.1,hk⟩⟩
end same
def VG(F:TS)(o:Oper)(t:Nat):Prop :=
 match o.op with
 | .store _ p _=>match F.ev p with
  | .ref d _ _=>d=t
  | .eref d _ _ _=>d=t
  |_=>False
 | .mapUpdate _ m _ _=>match F.ev m with
  | .mref d _=>d=t
  |_=>False
 | .mapEntry _ m _=>match F.ev m with
  | .mref d _=>d=t
  |_=>False
 | .entryStore _ m _ _=>match F.ev m with
  | .mref d _=>d=t
  |_=>False
 | .call ⟨.builtin .append,xs,_⟩=>match F.ev (xs.toList.headD (.const (.bool false))) with
  | .os d _ _=>d=t
  |_=>False
 |_=>False
def opKp(T:Tys P)(o:Oper)(ts:TS)(K:TS→Prop):Prop :=
 match o.op with
 | .call ⟨.value f,xs,_⟩=>YB false P (ts.ev f) (xs.toList.map ts.ev) o.dst ts K
 | .makeFunc fn first caps=>T.fzD o.dst=true∧Jax true ts o.dst fn first.toList caps.toList K
 |_=>Js T o ts K
theorem callX.up{m:Bool}{f:FuncId}{vs:List AV}{q:Option (List AV×List Nat)}{dst:Option Nat}{ts:TS}{K:TS→Prop}(h:callX false P f vs q dst ts K):callX m P f vs q dst ts K:=by
 rcases h with h|⟨h,_⟩
 ·exact .inl h
 ·cases h
theorem opKp.up{T:Tys P}{o:Oper}{ts:TS}{K:TS→Prop}(h:opKp T o ts K):Js T o ts K:=by
 unfold opKp at h
 split at h
 ·rename_i f xs at_ ho
  obtain⟨dst,op,ty,pos,after,gd⟩:=o
  subst ho
  rw[Jgc]
  unfold YB at h ⊢
  split at h
  ·exact callX.up h
  ·exact h.elim
 ·rename_i fn first caps ho
  obtain⟨dst,op,ty,pos,after,gd⟩:=o
  subst ho
  obtain⟨h1,h2⟩:=h
  rw[Jgf,h1];exact h2
 ·exact h
def VJ(o:Oper):Bool :=
 match o.op with
 | .move _|.assign _|.pick ..|.alloc _|.box ..|.build ..|.buildSlice ..|.load ..|.field ..|.fieldAddr ..|.indexAddr ..|.index ..|.slice ..|.unOp ..|.extract ..|.nilCheck ..|.makeFunc ..=>true
 | .store ..=>o.dst.isNone
 | .binOp .eql _ _ (.const (.slice none 0 0)) _=>false
 | .binOp ..=>true
 | .call c=>match c.callee with
  | .value _=>true
  | .builtin .len=>c.args.size == 1 && c.argTypes.size == 1
  | .builtin .cap=>c.args.size == 1 && c.argTypes.size == 1
  | .builtin .append=>c.args.size == 2 && c.argTypes.size == 2
  | .builtin .max=>c.args.size == 2
  | .builtin .min=>c.args.size == 2
  |_=>false
 | .lookup ..=>true
 | .makeMap _ none=>true
 | .mapUpdate ..=>true
 | .mapEntry ..=>true
 | .entryStore ..=>true
 |_=>false
theorem Jnb(T:Tys P){op:BinOp}{t:TypeId}{a b:AV}{o:Oper}{bad:List Nat}{F:TS}{tgt:Nat→Prop}{K:TS→Prop}(h:Zh T op t a b F o.dst K) :
  Same o bad F tgt K fun A K'=>Zh T op t a b A o.dst K':=by
 unfold Zh at h ⊢
 cases hk:(T.ty t).k with
 |struct fs =>
  simp only[hk] at h ⊢
  obtain⟨h1,h2,h3⟩:=h
  obtain⟨r,h4,h5⟩:=Jv h3
  exact(Same.set h5).mono fun J K' hs=>⟨h1,h2,by rw[h4];exact hs⟩
 |array n e =>
  simp only[hk] at h ⊢
  obtain⟨h1,h3⟩:=h
  obtain⟨r,h4,h5⟩:=Jv h3
  exact(Same.set h5).mono fun J K' hs=>⟨h1,by rw[h4];exact hs⟩
 |_ =>
  simp only[hk] at h ⊢
  obtain⟨r,h4,h5⟩:=Jv h
  exact(Same.set h5).mono fun J K' hs=>by rw[h4];exact hs
theorem Jge(T:Tys P){o:Oper}{bad:List Nat}{F:TS}{K:TS→Prop}(hops:(o.op.operands.toList.all fun x=>Jw bad F x)=true)(hdr:VJ o=true)
  (hd:∀d,o.dst=some d→bad.contains d=false) (h:opKp T o F K):Same o bad F (VG F o) K fun A K'=>Js T o A K':=by
 obtain⟨dst,op,ty,pos,after,gd⟩:=o
 cases op with
 |move x =>
  have hx:Jw bad F x=true:=by simpa[Op.operands] using hops
  exact(Same.set (o:=⟨dst,_,ty,pos,after,gd⟩) h).mono fun J K' hs=>by rw[Jgg,JD hx];exact hs
 |assign x =>
  have hx:Jw bad F x=true:=by simpa[Op.operands] using hops
  exact(Same.set (o:=⟨dst,_,ty,pos,after,gd⟩) h).mono fun J K' hs=>by rw[Jpl,JD hx];exact hs
 |pick c x y =>
  have hx:Jw bad F c=true∧Jw bad F x=true∧Jw bad F y=true:=by simpa[Op.operands] using hops
  obtain⟨b,h1,h2⟩:=JdU h
  exact(Same.set (o:=⟨dst,_,ty,pos,after,gd⟩) h2).mono fun J K' hs=>by rw[Jpo,JD hx.1,JD hx.2.1,JD hx.2.2,h1];exact hs
 |alloc t=>exact(Same.box (o:=⟨dst,_,ty,pos,after,gd⟩) hd h.2).mono fun J K' hs=>⟨h.1,hs⟩
 |box t x =>
  have hx:Jw bad F x=true:=by simpa[Op.operands] using hops
  exact(Same.box (o:=⟨dst,_,ty,pos,after,gd⟩) hd h.2).mono fun J K' hs=>by rw[Jpm,JD hx];exact⟨h.1,hs⟩
 |build t parts =>
  have hx:((parts.toList.map (·.2)).all fun x=>Jw bad F x)=true:=by simpa[Op.operands] using hops
  have e:∀J,(parts.toList.map fun p=>(p.1,(Jm bad J F).ev p.2))=parts.toList.map fun p=>(p.1,F.ev p.2):=fun J=>by
   apply List.map_congr_left
   intro p hp
   rw[JD (List.all_eq_true.1 hx _ (List.mem_map_of_mem hp))]
  have h:=opKp.up h
  rw[Jgb] at h
  unfold JdV at h
  split at h
  ·rename_i fs hfs
   obtain⟨cs,h1,h2⟩:=Jv h.2
   exact(Same.set (o:=⟨dst,_,ty,pos,after,gd⟩) h2).mono fun J K' hs=>by rw[Jgb,e,hfs];exact⟨h.1,by rw[h1];exact hs⟩
  ·rename_i hfs
   exact(Same.set (o:=⟨dst,_,ty,pos,after,gd⟩) h.2.2).mono fun J K' hs=>by rw[Jgb,e,hfs];exact⟨h.1,h.2.1,hs⟩
  ·exact h.elim
 |buildSlice t n parts =>
  have hx:((parts.toList.map (·.2)).all fun x=>Jw bad F x)=true:=by simpa[Op.operands] using hops
  have e:∀J,(parts.toList.map fun p=>(p.1,(Jm bad J F).ev p.2))=parts.toList.map fun p=>(p.1,F.ev p.2):=fun J=>by
   apply List.map_congr_left
   intro p hp
   rw[JD (List.all_eq_true.1 hx _ (List.mem_map_of_mem hp))]
  have h:=opKp.up h
  rw[Jjd] at h
  unfold JcG at h
  split at h
  ·rename_i e' he
   obtain⟨h1,h2,h3,h4,h5,h6⟩:=h
   exact(Same.arrK (o:=⟨dst,_,ty,pos,after,gd⟩) hd h6).mono fun J K' hs=>by rw[Jjd,e,he];exact⟨h1,h2,h3,h4,h5,hs⟩
  ·exact h.elim
 |load t x =>
  have hx:Jw bad F x=true:=by simpa[Op.operands] using hops
  have h:=opKp.up h
  rw[Jjh] at h
  obtain⟨cs,h1,h2⟩:=Jv h
  unfold YE at h2
  split at h2
  ·exact h2.elim
  ·rename_i hne
   exact(Same.set (o:=⟨dst,_,ty,pos,after,gd⟩) h2.2).mono fun J K' hs=>by
    rw[Jjh,JD hx,JpG (Ye hx),h1]
    show YE T t cs (Jm bad J F) dst K'
    unfold YE
    split
    ·rename_i hu;exact absurd hu (by simpa using hne)
    ·exact⟨h2.1,hs⟩
 |store t p x =>
  have hx:Jw bad F p=true∧Jw bad F x=true:=by simpa[Op.operands] using hops
  have hdn:dst=none:=by simpa[VJ] using hdr
  subst hdn
  have h:=opKp.up h
  rw[Jjo] at h
  obtain⟨h1,h2,h3,h4,h5⟩:=h
  obtain⟨q,h6,h7,h8⟩:=Jv h5
  refine⟨fun A=>A.setObj q.1 q.2,[q.1],Loc.setObj q.1 q.2,fun t' ht'=>.inr ?_,h8,fun J K' hs=>?_⟩
  ·have:t'=q.1:=by simpa using ht'
   subst this
   show VG F _ q.1
   simp only[VG]
   generalize F.ev p=v at h6
   cases v with
   |ref d g off =>
    simp only[TS.poke] at h6
    split at h6
    ·split at h6
     ·split at h6
      ·cases h6;rfl
      ·cases h6
     ·cases h6
    ·cases h6
   |eref d g i off =>
    simp only[TS.poke] at h6
    split at h6
    ·split at h6
     ·split at h6
      ·cases h6;rfl
      ·cases h6
     ·cases h6
    ·cases h6
   |_=>simp[TS.poke] at h6
  ·show Js T _ (Jm bad J F) K'
   rw[Jjo,JD hx.1,JD hx.2,Jpz (Ye hx.1),h6]
   exact⟨h1,h2,h3,h4,h7,hs⟩
 |field s x f =>
  have hx:Jw bad F x=true:=by simpa[Op.operands] using hops
  have h:=opKp.up h
  rw[Jjf] at h
  unfold JfK at h
  split at h
  ·rename_i fs cs hfs hcs
   obtain⟨q,h1,h2⟩:=Jv h
   unfold YE at h2
   split at h2
   ·exact h2.elim
   all_goals
    rename_i hk
    refine(Same.set (o:=⟨dst,_,ty,pos,after,gd⟩) h2.2).mono fun J K' hs=>?_
    rw[Jjf,JD hx,hfs,hcs,JnP]
    show Ji fs[f]? _
    rw[h1]
    show YE T q.2.1 (cs.drop q.1) (Jm bad J F) dst K'
    unfold YE
    simp only[hk]
    exact⟨h2.1,hs⟩
  ·exact h.elim
 |fieldAddr s x f =>
  have hx:Jw bad F x=true:=by simpa[Op.operands] using hops
  have h:=opKp.up h
  rw[Jeu] at h
  unfold JcN at h
  split at h
  ·rename_i fs hfs
   obtain⟨q,h1,h2,h3,h4⟩:=Jv h
   obtain⟨y,h5,h6⟩:=Jv h4
   exact(Same.set (o:=⟨dst,_,ty,pos,after,gd⟩) h6).mono fun J K' hs=>by
    rw[Jeu,JD hx,hfs]
    show Ji fs[f]? _
    rw[h1]
    exact⟨h2,h3,by rw[Jkf (Ye hx),h5];exact hs⟩
  ·exact h.elim
 |indexAddr t x i =>
  have hx:Jw bad F x=true∧Jw bad F i=true:=by simpa[Op.operands] using hops
  have h:=opKp.up h
  rw[Jgd] at h
  unfold Jed at h
  split at h
  ·rename_i e he
   obtain⟨h1,h2,h3⟩:=h
   obtain⟨k,n,h4,h5⟩:=Jaz h3
   obtain⟨y,h6,h7⟩:=Jv h5
   exact(Same.set (o:=⟨dst,_,ty,pos,after,gd⟩) h7).mono fun J K' hs=>by
    rw[Jgd,JD hx.1,JD hx.2,he,h4]
    exact⟨h1,h2,by show Ji ((Jm bad J F).at _ _ n) _;rw[JmW (Ye hx.1),h6];exact hs⟩
  ·rename_i n e he
   obtain⟨h1,h3⟩:=h
   obtain⟨k,m,h4,q1,q2,h5⟩:=Jaz h3
   obtain⟨y,h6,h7⟩:=Jv h5
   exact(Same.set (o:=⟨dst,_,ty,pos,after,gd⟩) h7).mono fun J K' hs=>by
    rw[Jgd,JD hx.1,JD hx.2,he,h4]
    exact⟨h1,q1,q2,by show Ji ((Jm bad J F).shift _ _) _;rw[Jkf (Ye hx.1),h6];exact hs⟩
  ·exact h.elim
 |index t x i =>
  have hx:Jw bad F x=true∧Jw bad F i=true:=by simpa[Op.operands] using hops
  have h:=opKp.up h
  rw[Jjg] at h
  unfold JfT at h
  split at h
  ·rename_i s hs1 hs2
   obtain⟨k,n,h4,h5,h6,h7⟩:=Jaz h
   exact(Same.set (o:=⟨dst,_,ty,pos,after,gd⟩) h7).mono fun J K' hs=>by
    rw[Jjg,JD hx.1,JD hx.2,hs1,hs2,h4]
    exact⟨h5,h6,hs⟩
  ·exact h.elim
 |slice t x lo hi mx =>
  have hx:Jw bad F x=true∧(∀y,lo=some y→Jw bad F y=true)∧(∀y,hi=some y→Jw bad F y=true)∧(∀y,mx=some y→Jw bad F y=true):=by
   simp only[Op.operands,Array.toList_append,List.all_append,Bool.and_eq_true] at hops
   obtain⟨⟨⟨h1,h2⟩,h3⟩,h4⟩:=hops
   refine⟨by simpa using h1,?_,?_,?_⟩<;>· intro y hy;subst hy;first|simpa using h2|simpa using h3|simpa using h4
  obtain⟨hx,hlo,hhi,hmx⟩:=hx
  have h:=opKp.up h
  rw[Jcl] at h
  unfold Jdw at h
  split at h
  ·rename_i e clip xs he hxe
   obtain⟨h1,h2,h3⟩:=h
   obtain⟨l,h4,h5⟩:=Jv h3
   obtain⟨u,h6,h7⟩:=Jv h5
   cases mx with
   |none =>
    obtain⟨q1,q2,q3,q4⟩:=h7
    exact(Same.set (o:=⟨dst,_,ty,pos,after,gd⟩) q4).mono fun J K' hs=>by
     rw[Jcl,JD hx,Jdx,he,hxe,JqS]
     exact⟨h1,h2,by rw[Zs hlo,h4];show Ji ((Jm bad J F).optI hi _) _;rw[Zs hhi,h6];exact⟨q1,q2,q3,hs⟩⟩
   |some m =>
    obtain⟨q0,h8⟩:=h7
    obtain⟨m',h9,q1,q2,q3,q4,q5⟩:=Jv h8
    exact(Same.set (o:=⟨dst,_,ty,pos,after,gd⟩) q5).mono fun J K' hs=>by
     rw[Jcl,JD hx,Jdx,he,hxe,JqR]
     exact⟨h1,h2,by rw[Zs hlo,h4];show Ji ((Jm bad J F).optI hi _) _;rw[Zs hhi,h6];exact⟨q0,by rw[Zs hmx,h9];exact⟨q1,q2,q3,q4,hs⟩⟩⟩
  ·rename_i e d g len he hxe
   obtain⟨h1,h2⟩:=h
   have hv:=Ye hx
   rw[hxe] at hv
   simp only[vOk,Bool.not_eq_true'] at hv
   have main:Same ⟨dst,.slice t x lo hi mx,ty,pos,after,gd⟩ bad F (VG F ⟨dst,.slice t x lo hi mx,ty,pos,after,gd⟩) K fun A K'=>(match lo,mx with
     |none,none=>A.live d g=true∧Ji (A.optI hi len) fun u=>0≤u∧u≤len∧Jd A dst (.os d g u.toNat) K'
     |_,_=>sliceOtK T e d g len lo hi mx A dst K'):=by
    split at h2
    ·obtain⟨h3,h4⟩:=h2
     obtain⟨u,h6,h7,h8,h9⟩:=Jv h4
     exact(Same.set (o:=⟨dst,_,ty,pos,after,gd⟩) h9).mono fun J K' hs=>⟨by rw[Jb9 hv];exact h3,by rw[Zs hhi,h6];exact⟨h7,h8,hs⟩⟩
    ·rename_i hne
     obtain⟨hg,h⟩:=h2
     obtain⟨⟨sz,xs⟩,hob,hsz,h⟩:=Jv h
     obtain⟨l,q1,h⟩:=Jv h
     obtain⟨u,q2,q3,q4,q5,q6,q7⟩:=Jv h
     refine(Same.set (o:=⟨dst,_,ty,pos,after,gd⟩) q7).mono fun J K' hs=>?_
     have goal:sliceOtK T e d g len lo hi mx (Jm bad J F) dst K':=by
      refine⟨by rw[Vm hv];exact hg,?_⟩
      rw[VN hv,hob]
      refine⟨hsz,?_⟩
      rw[Zs hlo,q1]
      show Ji ((Jm bad J F).optI hi _) _
      rw[Zs hhi,q2]
      refine⟨q3,q4,q5,?_,hs⟩
      unfold Jc5 at q6 ⊢
      split at q6
      ·trivial
      ·obtain⟨p1,p2⟩:=q6
       exact⟨p1,by rw[Zs hmx];exact p2⟩
     cases lo with
     |none=>cases mx with
      |none=>exact(hne rfl rfl).elim
      |some m=>exact goal
     |some l=>cases mx<;>exact goal
   exact main.mono fun J K' hs=>by
    rw[Jcl,JD hx,Jdx,he,hxe]
    cases lo<;>cases mx<;>exact⟨h1,hs⟩
  ·rename_i s he hxe
   obtain⟨h1,h2⟩:=h
   obtain⟨l,h4,h5⟩:=Jv h2
   obtain⟨u,h6,q1,q2,q3,q4⟩:=Jv h5
   exact(Same.set (o:=⟨dst,_,ty,pos,after,gd⟩) q4).mono fun J K' hs=>by
    rw[Jcl,JD hx,Jdx,he,hxe,JqT]
    exact⟨h1,by rw[Zs hlo,h4];show Ji ((Jm bad J F).optI hi _) _;rw[Zs hhi,h6];exact⟨q1,q2,q3,hs⟩⟩
  ·rename_i n e cs he hxe
   obtain⟨h0,h1,h2,h3,h4,h5,h6⟩:=h
   exact(Same.set (o:=⟨dst,_,ty,pos,after,gd⟩) h6).mono fun J K' hs=>by
    rw[Jcl,JD hx,Jdx,he,hxe]
    exact⟨h0,h1,h2,h3,h4,h5,hs⟩
  ·exact h.elim
 |binOp op t x y u =>
  have hx:Jw bad F x=true∧Jw bad F y=true:=by simpa[Op.operands] using hops
  have h:=opKp.up h
  rw[Jjc] at h
  unfold Jap at h
  split at h
  ·simp[VJ] at hdr
  ·rename_i hne
   refine(Jnb T (o:=⟨dst,_,ty,pos,after,gd⟩) h).mono fun J K' hs=>?_
   rw[Jjc]
   unfold Jap
   split
   ·exact(hne rfl rfl).elim
   ·rw[JD hx.1,JD hx.2];exact hs
 |unOp op t x =>
  have hx:Jw bad F x=true:=by simpa[Op.operands] using hops
  cases op with
  |not =>
   have h:=opKp.up h
   rw[Jjn] at h
   obtain⟨b,h1,h2⟩:=JdU h
   exact(Same.set (o:=⟨dst,_,ty,pos,after,gd⟩) h2).mono fun J K' hs=>by rw[Jjn,JD hx,h1];exact hs
  |neg =>
   have h:=opKp.up h
   rw[Jjm] at h
   obtain⟨k,n,h1,h2⟩:=Jaz h
   exact(Same.set (o:=⟨dst,_,ty,pos,after,gd⟩) h2).mono fun J K' hs=>by rw[Jjm,JD hx,h1];exact hs
  |_=>exact h.elim
 |extract x i =>
  have hx:Jw bad F x=true:=by simpa[Op.operands] using hops
  have h:=opKp.up h
  rw[Jet] at h
  unfold Jd5 at h
  split at h
  ·rename_i vs hvs
   exact(Same.set (o:=⟨dst,_,ty,pos,after,gd⟩) h.2).mono fun J K' hs=>by rw[Jet,JD hx,hvs];exact⟨h.1,hs⟩
  ·exact h.elim
 |makeFunc fn first caps =>
  have hx:(first.toList.all fun x=>Jw bad F x)=true∧(caps.toList.all fun x=>Jw bad F x)=true:=by
   simpa[Op.operands] using hops
  obtain⟨h1,h2⟩:T.fzD dst=true∧Jax true F dst fn first.toList caps.toList K:=h
  rw[Jiu] at h2
  exact(Same.set (o:=⟨dst,_,ty,pos,after,gd⟩) h2).mono fun J K' hs=>by
   rw[Jgf,h1,Jiu,(Ja7 first.toList hx.1).1,(Ja7 caps.toList hx.2).1]
   exact hs
 |nilCheck x =>
  have hx:Jw bad F x=true:=by simpa[Op.operands] using hops
  have h:=opKp.up h
  rw[Jev] at h
  exact(Same.set (o:=⟨dst,_,ty,pos,after,gd⟩) h.2).mono fun J K' hs=>by
   rw[Jev,JD hx,Jrh (Ye hx)]
   exact⟨h.1,hs⟩
 |call c =>
  obtain⟨callee,args,ats⟩:=c
  cases callee with
  |value f =>
   have hx:Jw bad F f=true∧(args.toList.all fun x=>Jw bad F x)=true:=by simpa[Op.operands,Call.operands] using hops
   have h:YB false P (F.ev f) (args.toList.map F.ev) dst F K:=h
   unfold YB at h
   split at h
   ·rename_i f' caps hf
    rcases h with (⟨as,lent,r,h1,h2,h3,h4⟩|⟨d,g,cs,rest,as,x,q1,q2,q3,q4,q5,q6,q7⟩)|⟨h,_⟩
    ·have hv:=Ye hx.1
     rw[hf] at hv
     simp only[vOk,vOk.vOkL,Bool.true_and] at hv
     have key:Same ⟨dst,.call ⟨.value f,args,ats⟩,ty,pos,after,gd⟩ bad F (VG F ⟨dst,.call ⟨.value f,args,ats⟩,ty,pos,after,gd⟩) K fun A K'=>afterK A dst r K':=by
      cases r with
      |val x=>exact Same.set (o:=⟨dst,_,ty,pos,after,gd⟩) h4
      |own sz xs=>exact Same.arr (o:=⟨dst,_,ty,pos,after,gd⟩) hd h4
     refine key.mono fun J K' hs=>?_
     rw[Jgc,JD hx.1,hf,YB,(Ja7 args.toList hx.2).1,JgY _ (by rw[Jg1,(Ja7 (J:=F) args.toList hx.2).2,hv];rfl),h1]
     exact .inl (.inl ⟨as,lent,r,rfl,h2,h3,hs⟩)
    ·have hv:=Ye hx.1
     rw[hf] at hv
     simp only[vOk,vOk.vOkL,Bool.true_and] at hv
     have hva:=(Ja7 (J:=F) args.toList hx.2).2
     have hal:vOk.vOkL bad (.ref d g 0 :: rest)=true:=by rw[←q1,Jg1,hva,hv];rfl
     simp only[vOk,vOk.vOkL,Bool.and_eq_true,Bool.not_eq_true'] at hal
     refine(Same.set (o:=⟨dst,.call ⟨.value f,args,ats⟩,ty,pos,after,gd⟩) q7).mono fun J K' hs=>?_
     rw[Jgc,JD hx.1,hf,YB,(Ja7 args.toList hx.2).1,q1]
     exact .inl (.inr ⟨d,g,cs,rest,as,x,rfl,by rw[Vm hal.1];exact q2,by rw[VN hal.1];exact q3,q4,by rw[JgY _ hal.2];exact q5,q6,hs⟩)
    ·cases h
   ·exact h.elim
  |builtin b =>
   cases b with
   |len =>
    have hx:(args.toList.all fun x=>Jw bad F x)=true:=by simpa[Op.operands,Call.operands] using hops
    have hl:JdW T ⟨.builtin .len,args,ats⟩ ⟨dst,.call ⟨.builtin .len,args,ats⟩,ty,pos,after,gd⟩ F K:=h
    show Same _ _ _ _ _ fun A K'=>JdW T ⟨.builtin .len,args,ats⟩ ⟨dst,.call ⟨.builtin .len,args,ats⟩,ty,pos,after,gd⟩ A K'
    obtain⟨al⟩:=args
    obtain⟨tl⟩:=ats
    have hs:al.length=1∧tl.length=1:=by simpa[VJ] using hdr
    obtain⟨x,rfl⟩:=List.length_eq_one_iff.1 hs.1
    obtain⟨t,rfl⟩:=List.length_eq_one_iff.1 hs.2
    have hx:Jw bad F x=true:=by simpa using hx
    have h:Jc3 T t (F.ev x) F dst K:=hl
    obtain⟨h1,h2⟩:=h
    obtain⟨n,h3,h4⟩:=Jv h2
    refine(Same.set (o:=⟨dst,_,ty,pos,after,gd⟩) h4).mono fun J K' hs=>?_
    show Jc3 T t ((Jm bad J F).ev x) (Jm bad J F) dst K'
    rw[JD hx]
    exact⟨h1,by rw[JoJ (Ye hx),h3];exact hs⟩
   |cap =>
    have hx:(args.toList.all fun x=>Jw bad F x)=true:=by simpa[Op.operands,Call.operands] using hops
    obtain⟨al⟩:=args
    obtain⟨tl⟩:=ats
    have hs:al.length=1∧tl.length=1:=by simpa[VJ] using hdr
    obtain⟨x,rfl⟩:=List.length_eq_one_iff.1 hs.1
    obtain⟨t,rfl⟩:=List.length_eq_one_iff.1 hs.2
    have hx:Jw bad F x=true:=by simpa using hx
    have h:Zi T t (F.ev x) F dst K:=h
    show Same _ _ _ _ _ fun A K'=>Zi T t (A.ev x) A dst K'
    have hK:∀J,Zi T t ((Jm bad J F).ev x)=Zi T t (F.ev x):=fun J=>by rw[JD hx]
    unfold Zi at h
    split at h
    ·rename_i e xs he hxe
     refine(Same.set (o:=⟨dst,_,ty,pos,after,gd⟩) h).mono fun J K' hs=>?_
     rw[hK,hxe]
     unfold Zi
     simp only[he]
     exact hs
    ·exact h.elim
   |append =>
    have hx:(args.toList.all fun x=>Jw bad F x)=true:=by simpa[Op.operands,Call.operands] using hops
    obtain⟨al⟩:=args
    obtain⟨tl⟩:=ats
    have hs:al.length=2∧tl.length=2:=by simpa[VJ] using hdr
    obtain⟨s,x,rfl⟩:∃x y,al=[x,y]:=by
     match al,hs.1 with
     | [x,y],_=>exact⟨x,y,rfl⟩
    obtain⟨t,tx,rfl⟩:∃x y,tl=[x,y]:=by
     match tl,hs.2 with
     | [x,y],_=>exact⟨x,y,rfl⟩
    have hx:Jw bad F s=true∧Jw bad F x=true:=by simpa using hx
    have h:VS T t tx (F.ev s) (F.ev x) F dst K:=h
    have hK:∀J,VS T t tx ((Jm bad J F).ev s) ((Jm bad J F).ev x)=VS T t tx (F.ev s) (F.ev x):=fun J=>by rw[JD hx.1,JD hx.2]
    show Same _ _ _ _ _ fun A K'=>VS T t tx (A.ev s) (A.ev x) A dst K'
    have hvs:=Ye hx.1
    have hvx:=Ye hx.2
    unfold VS at h
    split at h
    ·rename_i k0 n0 hxe
     unfold appendMakeK at h
     split at h
     ·rename_i e k' he he' hse
      obtain⟨h1,h2,h3,h4,h5,h6⟩:=h
      refine(Same.arr (o:=⟨dst,_,ty,pos,after,gd⟩) hd h6).mono fun J K' hs=>?_
      rw[hK,hxe,hse]
      unfold VS appendMakeK
      simp only[he,he']
      exact⟨h1,h2,h3,h4,h5,hs⟩
     ·exact h.elim
    ·rename_i d0 g0 o0 n0 hxe
     unfold appendInK at h
     split at h
     ·rename_i e e' d g len d' he he' hse hd2
      obtain⟨h1,h2,h3,h4,h5⟩:=h
      obtain⟨q,h6,h7,h8⟩:=Jv h5
      obtain⟨ys,h9,h10,h11,h12,h13⟩:=Jv h8
      have hvd:bad.contains d=false:=by rw[hse] at hvs;simpa[vOk] using hvs
      refine⟨fun A=>(A.setObj d (.arr q.1 (q.2.take len++ys++q.2.drop (len+ys.length)))).put d' (.os d g (len+ys.length)),[d,d'],((Loc.setObj d _).wide (by simp)).comp ((Loc.put d' _).wide (by simp)),fun t' ht'=>?_,h13,fun J K' hs=>?_⟩
      ·have:t'=d∨t'=d':=by simpa using ht'
       rcases this with rfl|rfl
       ·right;show VG F _ t';simp only[VG,List.headD_cons,hse]
       ·exact .inl rfl
      ·show VS T t tx _ _ _ _ _
       rw[hK,hxe,hse]
       unfold VS appendInK
       simp only[he,he']
       refine⟨h1,h2,h3,by rw[Vm hvd];exact h4,?_⟩
       rw[VN hvd,h6]
       refine⟨h7,?_⟩
       have hsl:=Jkj (J:=J) (F:=F) hvx
       rw[hxe] at hsl h9
       show Ji ((Jm bad J F).sl _) _
       rw[hsl,h9]
       exact⟨h10,h11,h12,hs⟩
     ·exact h.elim
    ·rename_i hneI hne
     unfold Jan at h
     split at h
     ·rename_i e e' d' he he' hd2
      obtain⟨h1,h2,h3,h4⟩:=h
      obtain⟨b,h5,h6⟩:=Jv h4
      obtain⟨ys,h7,h8,h9,h10,h11⟩:=Jv h6
      have hd':bad.contains d'=false:=hd d' rfl
      have fin:∀J (K':TS→Prop),K' ((((Jm bad J F).unbase b.1).new d' (.arr (T.ty e).sz (b.2++AV.nrm.nrmL ys))).put d' (.os d' (F.gen d'+1) (b.2.length+ys.length)))→VS T t tx ((Jm bad J F).ev s) ((Jm bad J F).ev x) (Jm bad J F) (some d') K':=fun J K' hs=>by
       rw[hK]
       have hw:∀A K',VS T t tx (F.ev s) (F.ev x) A (some d') K'=Jan T t tx (F.ev s) (F.ev x) A (some d') K':=fun A K'=>by
        unfold VS
        split
        ·rename_i e1;exact absurd e1 (hneI _ _)
        ·rename_i e1;exact absurd e1 (hne _ _ _ _)
        ·rfl
       rw[hw]
       unfold Jan
       simp only[he,he']
       refine⟨h1,h2,h3,?_⟩
       rw[Jm5 hvs,h5]
       show Ji ((Jm bad J F).sl _) _
       rw[Jkj hvx,h7]
       refine⟨h8,h9,h10,?_⟩
       rw[Vm hd']
       exact hs
      obtain⟨b1,b2⟩:=b
      cases b1 with
      |none=>exact⟨fun A=>(A.new d' (.arr (T.ty e).sz (b2++AV.nrm.nrmL ys))).put d' (.os d' (F.gen d'+1) (b2.length+ys.length)),[d'],(Loc.new d' _).comp (Loc.put d' _),by simp,h11,fun J K' hs=>fin J K' hs⟩
      |own d =>
       have hse:∃g n,F.ev s=.os d g n:=by
        generalize F.ev s=v at h5
        unfold TS.base at h5
        split at h5
        ·cases h5
        ·split at h5
         ·split at h5
          ·split at h5
           ·cases h5;exact⟨_,_,rfl⟩
           ·cases h5
          ·cases h5
         ·cases h5
        ·cases h5
       obtain⟨g,n,hse⟩:=hse
       refine⟨fun A=>((A.kill d).new d' (.arr (T.ty e).sz (b2++AV.nrm.nrmL ys))).put d' (.os d' (F.gen d'+1) (b2.length+ys.length)),[d,d'],(((Loc.kill d).wide (by simp)).comp ((Loc.new d' _).wide (by simp))).comp ((Loc.put d' _).wide (by simp)),fun t' ht'=>?_,h11,fun J K' hs=>fin J K' hs⟩
       have:t'=d∨t'=d':=by simpa using ht'
       rcases this with rfl|rfl
       ·right;show VG F _ t';simp only[VG,List.headD_cons,hse]
       ·exact .inl rfl
     ·exact h.elim
   |max =>
    have hx:(args.toList.all fun x=>Jw bad F x)=true:=by simpa[Op.operands,Call.operands] using hops
    obtain⟨al⟩:=args
    have hs:al.length=2:=by simpa[VJ] using hdr
    obtain⟨x,y,rfl⟩:∃x y,al=[x,y]:=by
     match al,hs with
     | [x,y],_=>exact⟨x,y,rfl⟩
    have hx:Jw bad F x=true∧Jw bad F y=true:=by simpa using hx
    have h:minmaxK true (F.ev x) (F.ev y) F dst K:=h
    show Same _ _ _ _ _ fun A K'=>minmaxK true (A.ev x) (A.ev y) A dst K'
    unfold minmaxK at h
    split at h
    ·rename_i k n k' m e1 e2
     refine(Same.set (o:=⟨dst,_,ty,pos,after,gd⟩) h).mono fun J K' hs=>?_
     rw[JD hx.1,JD hx.2,e1,e2]
     exact hs
    ·exact h.elim
   |min =>
    have hx:(args.toList.all fun x=>Jw bad F x)=true:=by simpa[Op.operands,Call.operands] using hops
    obtain⟨al⟩:=args
    have hs:al.length=2:=by simpa[VJ] using hdr
    obtain⟨x,y,rfl⟩:∃x y,al=[x,y]:=by
     match al,hs with
     | [x,y],_=>exact⟨x,y,rfl⟩
    have hx:Jw bad F x=true∧Jw bad F y=true:=by simpa using hx
    have h:minmaxK false (F.ev x) (F.ev y) F dst K:=h
    show Same _ _ _ _ _ fun A K'=>minmaxK false (A.ev x) (A.ev y) A dst K'
    unfold minmaxK at h
    split at h
    ·rename_i k n k' m e1 e2
     refine(Same.set (o:=⟨dst,_,ty,pos,after,gd⟩) h).mono fun J K' hs=>?_
     rw[JD hx.1,JD hx.2,e1,e2]
     exact hs
    ·exact h.elim
   |_=>simp[VJ] at hdr
  |invoke r m=>simp[VJ] at hdr
 |lookup t x k ok =>
  have hx:Jw bad F x=true∧Jw bad F k=true:=by simpa[Op.operands] using hops
  have h:=opKp.up h
  rw[Jji] at h
  unfold Jcb at h
  split at h
  ·rename_i kt et ht
   obtain⟨h1,h2,h3,h4⟩:=h
   obtain⟨q,h5,h6⟩:=Jv h4
   obtain⟨r,h7,h8⟩:=Jv h6
   refine(Same.set (o:=⟨dst,_,ty,pos,after,gd⟩) h8).mono fun J K' hs=>?_
   rw[Jji,JD hx.1,JD hx.2]
   unfold Jcb
   rw[ht]
   exact⟨h1,h2,h3,by rw[JoP (Ye hx.1),h5];show Ji (J3 T kt _ q.1 0) _;rw[h7];exact hs⟩
  ·exact h.elim
 |makeMap t r =>
  cases r with
  |some r=>simp[VJ] at hdr
  |none =>
   have h:=opKp.up h
   rw[Jjj] at h
   unfold Jce at h
   cases dst with
   |none=>exact h.elim
   |some d =>
    refine⟨fun A=>(A.new d (.mp [] [])).put d (.mref d (F.gen d+1)),[d],(Loc.new d _).comp (Loc.put d _),by simp,h.2,fun J K' hk=>?_⟩
    show Js T _ _ _
    rw[Jjj]
    exact⟨h.1,by rw[Vm (hd d rfl)];exact hk⟩
 |mapEntry t m k =>
  have hx:Jw bad F m=true∧Jw bad F k=true:=by simpa[Op.operands] using hops
  have h:=opKp.up h
  rw[Jjk] at h
  have hx0:∃kt et d g e,(T.ty t).k=.map kt et∧F.ev m=.mref d g∧dst=some e:=by
   unfold entK at h
   split at h
   ·exact⟨_,_,_,_,_,by assumption,by assumption,rfl⟩
   ·exact h.elim
  obtain⟨kt,et,d,g,e,ht,hm,rfl⟩:=hx0
  ·unfold entK at h
   rw[ht,hm] at h
   obtain⟨h1,h2,h3,h4,h5,h6,q,h7,h8,r,h10,h11⟩:=h
   have hv:=Ye hx.1
   rw[hm] at hv
   simp only[vOk,Bool.not_eq_true'] at hv
   have fin:∀J (K':TS→Prop),entK.entKK d e (F.ev k) (JR (T.ty et).k (T.ty et).zero) q r (Jm bad J F) K'→Js T ⟨some e,.mapEntry t m k,ty,pos,after,gd⟩ (Jm bad J F) K':=fun J K' hs=>by
    rw[Jjk,JD hx.1,JD hx.2,hm]
    unfold entK
    simp only[ht]
    exact⟨by rw[Vm hv];exact h1,h2,h3,h4,h5,h6,q,by rw[VN hv];exact h7,h8,r,h10,hs⟩
   cases r with
   |none =>
    refine⟨fun A=>(A.setObj d (.mp (q.1++[F.ev k]) (q.2++[JR (T.ty et).k (T.ty et).zero]))).put e (.tup [JR (T.ty et).k (T.ty et).zero,.int .i64 q.1.length]),[d,e],((Loc.setObj d _).wide (by simp)).comp ((Loc.put e _).wide (by simp)),fun t' ht'=>?_,h11,fun J K' hs=>fin J K' hs⟩
    have:t'=d∨t'=e:=by simpa using ht'
    rcases this with rfl|rfl
    ·right;show VG F _ t';simp only[VG,hm]
    ·exact .inl rfl
   |some i =>
    refine⟨fun A=>(A.setObj d (.mp (q.1.set i (F.ev k)) q.2)).put e (.tup [q.2.getD i .any,.int .i64 i]),[d,e],((Loc.setObj d _).wide (by simp)).comp ((Loc.put e _).wide (by simp)),fun t' ht'=>?_,h11,fun J K' hs=>fin J K' hs⟩
    have:t'=d∨t'=e:=by simpa using ht'
    rcases this with rfl|rfl
    ·right;show VG F _ t';simp only[VG,hm]
    ·exact .inl rfl
 |entryStore t m s x =>
  have hx:Jw bad F m=true∧Jw bad F s=true∧Jw bad F x=true:=by simpa[Op.operands] using hops
  have h:=opKp.up h
  rw[Jje] at h
  unfold entPutK at h
  split at h
  ·rename_i d g n hm hse
   obtain⟨h1,h2,q,h3,h4,h5,h6⟩:=h
   have hv:=Ye hx.1
   rw[hm] at hv
   simp only[vOk,Bool.not_eq_true'] at hv
   refine⟨fun A=>A.setObj d (.mp q.1 (q.2.set n.toNat (F.ev x))),[d],Loc.setObj d _,fun t' ht'=>.inr ?_,h6,fun J K' hs=>?_⟩
   ·have:t'=d:=by simpa using ht'
    subst this
    show VG F _ t'
    simp only[VG,hm]
   ·show Js T _ (Jm bad J F) K'
    rw[Jje,JD hx.1,JD hx.2.1,JD hx.2.2,hm,hse]
    exact⟨by rw[Vm hv];exact h1,h2,q,by rw[VN hv];exact h3,h4,h5,hs⟩
  ·exact h.elim
 |mapUpdate t m k x =>
  have hx:Jw bad F m=true∧Jw bad F k=true∧Jw bad F x=true:=by simpa[Op.operands] using hops
  have h:=opKp.up h
  rw[Jjl] at h
  unfold Jcc at h
  split at h
  ·rename_i kt et d g ht hm
   obtain⟨h1,h2,h3,h4,h5,h6⟩:=h
   obtain⟨q,h7,h8,h9⟩:=Jv h6
   obtain⟨r,h10,h11⟩:=Jv h9
   have hv:=Ye hx.1
   rw[hm] at hv
   simp only[vOk,Bool.not_eq_true'] at hv
   refine⟨fun A=>A.setObj d (.mp (J2 q.1 (F.ev k) r) (J2 q.2 (F.ev x) r)),[d],Loc.setObj d _,fun t' ht'=>.inr ?_,h11,fun J K' hs=>?_⟩
   ·have:t'=d:=by simpa using ht'
    subst this
    show VG F _ t'
    simp only[VG,hm]
   ·show Js T _ (Jm bad J F) K'
    rw[Jjl,JD hx.1,JD hx.2.1,JD hx.2.2,hm]
    unfold Jcc
    rw[ht]
    refine⟨by rw[Vm hv];exact h1,h2,h3,h4,h5,?_⟩
    rw[VN hv,h7]
    refine⟨h8,?_⟩
    show Ji (J3 T kt _ q.1 0) _
    rw[h10]
    exact hs
  ·exact h.elim
 |_=>simp[VJ] at hdr
end Go.Proofs.YthjalhfmpffbjaaGreatDoor.Lg
namespace Go.Proofs.YthjalhfmpffbjaaGreatDoor.Lg
open Go
variable {P:Program}
mutual
theorem Jfg:∀v:AV,vOk [] v=true
 | .agg cs=>by simp only[vOk];exact JdC cs
 | .tup cs=>by simp only[vOk];exact JdC cs
 | .clo _ a b=>by simp only[vOk,JdC a,JdC b,Bool.and_self]
 | .any|.bool _|.int _ _|.str _|.slice _ _|.ro _|.nilp|.nilf|.nilm|.niface|.iface _ _=>rfl
 | .os _ _ _|.ref _ _ _|.eref _ _ _ _|.ot _ _ _ _|.mref _ _|.mp _ _=>rfl
theorem JdC:∀l:List AV,vOk.vOkL [] l=true
 | []=>rfl
 |x :: r=>by simp only[vOk.vOkL,Jfg x,JdC r,Bool.and_self]
end
def condK(v:AV)(A B:Prop):Prop :=
 match v with
 | .bool b=>(b=true→A)∧(b=false→B)
 |_=>False
theorem condK.split{b:Bool}{A B:Prop}(ht:b=true→A)(hf:b=false→B):condK (.bool b) A B:=⟨ht,hf⟩
def Vu(ts:TS):List Oper→Nat→AV
 | [],_=>.any
 |o :: _,0=>match o.dst with
  |some d=>ts.tmp d
  |none=>.any
 |_ :: l,j+1=>Vu ts l j
def gK(v:AV)(want:Bool)(A B:TS→Prop)(ts:TS):Prop :=
 match v with
 | .bool b=>(b=want→A ts)∧(b=!want→B ts)
 | .tup []=>B ts
 |_=>False
theorem gK.split_t{b:Bool}{A B:TS→Prop}{ts:TS}(ht:b=true→A ts)(hf:b=false→B ts):gK (.bool b) true A B ts:=⟨ht,hf⟩
theorem gK.split_f{b:Bool}{A B:TS→Prop}{ts:TS}(ht:b=true→B ts)(hf:b=false→A ts):gK (.bool b) false A B ts:=⟨hf,ht⟩
def VA(dst:Option Nat)(K:TS→Prop)(ts:TS):Prop :=
 match dst with
 |some d=>d<ts.n∧K (ts.put d (.tup []))
 |none=>K ts
def Jgj(T:Tys P)(o:Oper)(K:TS→Prop)(ts:TS):Prop:=Js T o ts K
def wG(T:Tys P)(all:List Oper)(o:Oper)(K:TS→Prop)(ts:TS):Prop :=
 match o.guard with
 |none=>Js T o ts K
 |some (j,want)=>gK (Vu ts all j) want (Jgj T o K) (VA o.dst K) ts
def Jgi(T:Tys P)(o:Oper)(K:TS→Prop)(ts:TS):Prop:=opKp T o ts K
def wGp(T:Tys P)(all:List Oper)(o:Oper)(K:TS→Prop)(ts:TS):Prop :=
 match o.guard with
 |none=>opKp T o ts K
 |some (j,want)=>gK (Vu ts all j) want (Jgi T o K) (VA o.dst K) ts
def wOps(T:Tys P)(all:List Oper):List Oper→(TS→Prop)→TS→Prop
 | [],K,ts=>K ts
 |o :: l,K,ts=>wG T all o (wOps T all l K) ts
theorem Jeb{ts:TS}:∀(l:List Oper) (j:Nat),Vu ts l j=match (l[j]?).bind (·.dst) with|some d=>ts.tmp d|none=>.any
 | [],j=>by simp[Vu]
 |o :: l,0=>by cases hd:o.dst<;>simp[Vu,hd]
 |o :: l,j+1=>by simp[Vu,Jeb l j]
theorem Jb3{all:List Oper}{ts:TS}{j:Nat}{b:Option Bool}(h:Vu ts all j=(match b with|some b=>.bool b|none=>.tup [])):YC (List.toArray all) ts j=some b:=by
 rw[Jeb] at h
 have e:(List.toArray all)[j]?=all[j]?:=by simp
 unfold YC
 rw[e]
 split
 ·rename_i d hd
  rw[hd] at h
  cases b with
  |none=>simp only at h;simp[h]
  |some b=>simp only at h;simp[h]
 ·rename_i hd
  rw[hd] at h
  cases b<;>simp at h
theorem wG.sound{T:Tys P}{all:List Oper}{o:Oper}{ts:TS}{K:TS→Prop}(h:wG T all o K ts):SpecG P (List.toArray all) o ts K:=by
 unfold wG at h
 unfold SpecG
 split at h
 ·rename_i hg;rw[hg];exact Z7 T h
 ·rename_i j want hg
  rw[hg]
  generalize hv:Vu ts all j=v at h
  unfold gK at h
  split at h
  ·rename_i b
   refine⟨some b,Jb3 hv,?_⟩
   by_cases e:b=want
   ·subst e;rw[if_pos (by simp)];exact Z7 T (h.1 rfl)
   ·rw[if_neg (by simpa using e)]
    have hs:=h.2 (by cases b<;>cases want<;>simp_all)
    unfold VA at hs
    cases hd:o.dst with
    |none=>rw[hd] at hs;exact⟨by simp,hs⟩
    |some d=>rw[hd] at hs;exact⟨fun d' e'=>by cases e';exact hs.1,hs.2⟩
  ·refine⟨none,Jb3 hv,?_⟩
   rw[if_neg (by simp)]
   unfold VA at h
   cases hd:o.dst with
   |none=>rw[hd] at h;exact⟨by simp,h⟩
   |some d=>rw[hd] at h;exact⟨fun d' e'=>by cases e';exact h.1,h.2⟩
  ·exact h.elim
theorem SpecG.mono{ops:Array Oper}{o:Oper}{ts:TS}{K K':TS→Prop}(h:SpecG P ops o ts K)(hk:∀ts,K ts→K' ts):SpecG P ops o ts K':=by
 unfold SpecG at h ⊢
 split
 ·rename_i hg;rw[hg] at h;exact SpecO.mono h hk
 ·rename_i j want hg
  rw[hg] at h
  obtain⟨b,h1,h2⟩:=h
  refine⟨b,h1,?_⟩
  split
  ·rename_i e;rw[if_pos e] at h2;exact SpecO.mono h2 hk
  ·rename_i e;rw[if_neg e] at h2;exact⟨h2.1,hk _ h2.2⟩
theorem wOps.sound{T:Tys P}{all:List Oper}:∀ {l:List Oper} {ts:TS} {K:TS→Prop},wOps T all l K ts→SpecOs P (List.toArray all) K l ts
 | [],_,_,h=>h
 |_ :: _,_,_,h=>SpecG.mono (wG.sound h) fun _ h=>wOps.sound h
structure NxK(next K:TS→Prop):Prop where
 out:∀ts,next ts→K ts
structure Nx(a b:Prop):Prop where
 out:a→b
theorem SpecC.regW(T:Tys P){id:Nat}{l:List Oper}{ts:TS}{Q:Exit→TS→Prop}(h:∀K,NxK (fun ts'=>Q .normal ts') K→wOps T l l K ts):SpecC P (.region id (List.toArray l) false) ts Q :=
 SpecC.region (wOps.sound (h _ ⟨fun _ h=>h⟩))
def gOk(bad:List Nat):List Oper→Nat→Bool
 | [],_=>false
 |o :: _,0=>match o.dst with
  |some d=>!bad.contains d
  |none=>false
 |_ :: l,j+1=>gOk bad l j
def JH(wr:List Nat)(F:TS)(o:Oper):Bool :=
 match o.op with
 | .store _ p _=>match F.ev p with
  | .ref d _ _=>wr.contains d
  | .eref d _ _ _=>wr.contains d
  |_=>true
 | .mapUpdate _ m _ _=>match F.ev m with
  | .mref d _=>wr.contains d
  |_=>true
 | .mapEntry _ m _=>match F.ev m with
  | .mref d _=>wr.contains d
  |_=>true
 | .entryStore _ m _ _=>match F.ev m with
  | .mref d _=>wr.contains d
  |_=>true
 | .call ⟨.builtin .append,xs,_⟩=>match F.ev (xs.toList.headD (.const (.bool false))) with
  | .os d _ _=>wr.contains d
  |_=>true
 |_=>true
def YP(all:List Oper)(wr bad:List Nat)(o:Oper):Bool :=
 VJ o && (match o.dst with|some d=>wr.contains d && !bad.contains d|none=>true) && wr.all (fun t=>!bad.contains t) &&
 (o.op.operands.toList.all fun x=>match x with|.tmp t=>!bad.contains t|_=>true) && (match o.guard with|some (j,_)=>gOk bad all j|none=>true)
def Ve(bad:List Nat)(F:TS):List Operand→Bool
 | []=>true
 | .tmp t :: l=>vOk bad (F.tmp t) && Ve bad F l
 |_ :: l=>Ve bad F l
def wDraw(T:Tys P)(all:List Oper):List (List Nat×List Nat)→List Oper→(TS→Prop)→TS→Prop
 | [],l,K,ts=>wOps T all l K ts
 |_ :: _,[],_,_=>False
 | (wr,bad) :: r,o :: l,K,ts=>wGp T all o (wDraw T all r l K) ts∧(Ve bad ts o.op.operands.toList=true∧JH wr ts o=true)
theorem JfQ{bad:List Nat}:∀ {l:List Oper} {j:Nat},gOk bad l j=true→∃d,(l[j]?).bind (·.dst)=some d∧bad.contains d=false
 | [],_,h=>by simp[gOk] at h
 |o :: l,0,h=>by
  unfold gOk at h
  split at h
  ·rename_i d hd;exact⟨d,by simp[hd],by simpa using h⟩
  ·cases h
 |o :: l,j+1,h=>by
  obtain⟨d,h1,h2⟩:=JfQ (l:=l) (j:=j) (by simpa[gOk] using h)
  exact⟨d,by simpa using h1,h2⟩
theorem Jbo{bad:List Nat}{F:TS}:∀(l:List Operand),(l.all fun x=>match x with|.tmp t=>!bad.contains t|_=>true)=true→Ve bad F l=true→(l.all fun x=>Jw bad F x)=true
 | [],_,_=>rfl
 |x :: r,h1,h2=>by
  simp only[List.all_cons,Bool.and_eq_true] at h1 ⊢
  cases x with
  |tmp t =>
   simp only[Ve,Bool.and_eq_true] at h2
   exact⟨by simp only[Jw,Bool.and_eq_true];exact⟨h1.1,h2.1⟩,Jbo r h1.2 h2.2⟩
  |_=>exact⟨rfl,Jbo r h1.2 (by simpa[Ve] using h2)⟩
theorem wDraw.step{T:Tys P}{all:List Oper}{wrs bads:List (List Nat)}{C:TS→Prop}{i:Nat}{o:Oper}{l:List Oper}{F:TS}{wr bad:List Nat}(hw:wrs.getD i []=wr)(hb:bads.getD i []=bad)
  (hs:YP all wr bad o=true) (ho:Ve bad F o.op.operands.toList=true) (ht:JH wr F o=true)
  (h:wGp T all o (fun F'=>PreOk P (List.toArray all) wrs bads C (i+1) l F') F):PreOk P (List.toArray all) wrs bads C i (o :: l) F:=by
 simp only[YP,Bool.and_eq_true] at hs
 obtain⟨⟨⟨⟨h1,h2⟩,h3⟩,h4⟩,h5⟩:=hs
 have hops:=Jbo _ h4 ho
 have hdst:∀d,o.dst=some d→wr.contains d=true∧bad.contains d=false:=fun d hd=>by
  rw[hd] at h2;simp only[Bool.and_eq_true,Bool.not_eq_true'] at h2;exact h2
 have hmem:∀d,wr.contains d=true→d∈wr:=fun d hd=>List.contains_iff_mem.1 hd
 have main:opKp T o F (fun F'=>PreOk P (List.toArray all) wrs bads C (i+1) l F')→∃g,Loc wr g∧PreOk P (List.toArray all) wrs bads C (i+1) l (g F)∧∀J (K':TS→Prop),K' (g (Jm bad J F))→SpecO P o (Jm bad J F) K':=fun h=>by
  obtain⟨g,ws,g1,g2,g3,g4⟩:=Jge T hops h1 (fun d hd=>(hdst d hd).2) h
  refine⟨g,g1.wide fun t htw=>?_,g3,fun J K' hk=>Z7 T (g4 J K' hk)⟩
  rcases g2 t htw with hd|htg
  ·exact hmem t (hdst t hd).1
  ·unfold VG at htg
   unfold JH at ht
   split at htg
   ·rename_i p x hop
    rw[hop] at ht
    simp only at ht
    split at htg
    ·rename_i hev;rw[hev] at ht;subst htg;exact hmem _ ht
    ·rename_i hev;rw[hev] at ht;subst htg;exact hmem _ ht
    ·exact htg.elim
   ·rename_i m _ _ hop
    rw[hop] at ht
    simp only at ht
    split at htg
    ·rename_i hev;rw[hev] at ht;subst htg;exact hmem _ ht
    ·exact htg.elim
   ·rename_i m _ hop
    rw[hop] at ht
    simp only at ht
    split at htg
    ·rename_i hev;rw[hev] at ht;subst htg;exact hmem _ ht
    ·exact htg.elim
   ·rename_i m _ _ hop
    rw[hop] at ht
    simp only at ht
    split at htg
    ·rename_i hev;rw[hev] at ht;subst htg;exact hmem _ ht
    ·exact htg.elim
   ·rename_i xs _ hop
    rw[hop] at ht
    simp only at ht
    split at htg
    ·rename_i hev;rw[hev] at ht;subst htg;exact hmem _ ht
    ·exact htg.elim
   ·exact htg.elim
 unfold wGp at h
 split at h
 ·rename_i hg
  obtain⟨g,g1,g2,g3⟩:=main h
  refine PreOk.loc hw hb g1 h3 (fun J=>?_) g2
  unfold SpecG
  rw[hg]
  exact g3 J _ rfl
 ·rename_i j want hg
  rw[hg] at h5
  obtain⟨d,hd1,hd2⟩:=JfQ h5
  have hd1':((List.toArray all)[j]?).bind (·.dst)=some d:=by simpa using hd1
  have hv:Vu F all j=F.tmp d:=by rw[Jeb,hd1]
  have hgd:∀J,YC (List.toArray all) (Jm bad J F) j=YC (List.toArray all) F j:=fun J=>by
   unfold YC
   rw[hd1']
   simp only[(V9 (J:=J) (F:=F) hd2).1]
  generalize hvv:Vu F all j=v at h
  have skip:∀b:Option Bool,YC (List.toArray all) F j=some b→b≠some want→VA o.dst (fun F'=>PreOk P (List.toArray all) wrs bads C (i+1) l F') F→PreOk P (List.toArray all) wrs bads C i (o :: l) F:=fun b hgb hne hs=>by
   unfold VA at hs
   cases hdo:o.dst with
   |none =>
    rw[hdo] at hs
    refine PreOk.loc hw hb (Loc.id wr) h3 (fun J=>?_) hs
    unfold SpecG
    rw[hg]
    refine⟨b,by rw[hgd];exact hgb,?_⟩
    rw[if_neg (by simpa using hne),hdo]
    exact⟨by simp,rfl⟩
   |some e =>
    rw[hdo] at hs
    refine PreOk.loc hw hb ((Loc.put e (.tup [])).wide fun t ht'=>by
     have:t=e:=by simpa using ht'
     subst this;exact hmem _ (hdst _ hdo).1) h3 (fun J=>?_) hs.2
    unfold SpecG
    rw[hg]
    refine⟨b,by rw[hgd];exact hgb,?_⟩
    rw[if_neg (by simpa using hne),hdo]
    exact⟨fun d' e'=>by cases e';exact hs.1,rfl⟩
  unfold gK at h
  split at h
  ·rename_i b
   have hgb:=Jb3 (b:=some b) hvv
   by_cases e:b=want
   ·subst e
    obtain⟨g,g1,g2,g3⟩:=main (h.1 rfl)
    refine PreOk.loc hw hb g1 h3 (fun J=>?_) g2
    unfold SpecG
    rw[hg]
    refine⟨some b,by rw[hgd];exact hgb,?_⟩
    rw[if_pos (by simp)]
    exact g3 J _ rfl
   ·exact skip (some b) hgb (by simpa using e) (h.2 (by cases b<;>cases want<;>simp_all))
  ·exact skip none (Jb3 (b:=none) hvv) (by simp) h
  ·exact h.elim
def Ja5(all:List Oper):List (List Nat×List Nat)→List Oper→Bool
 | [],_=>true
 |_ :: _,[]=>false
 | (wr,bad) :: r,o :: l=>YP all wr bad o && Ja5 all r l
theorem afterK.mono{ts:TS}{dst:Option Nat}{r:Ret}{K1 K2:TS→Prop}(hk:∀ts,K1 ts→K2 ts)(h:afterK ts dst r K1):afterK ts dst r K2:=by
 cases r<;>cases dst<;>simp only[afterK,Jd,VY] at h ⊢
 ·exact hk _ h
 ·exact⟨h.1,hk _ h.2⟩
 ·exact⟨h.1,hk _ h.2⟩
theorem Jgh{T:Tys P}{o:Oper}{F:TS}{K1 K2:TS→Prop}(hd:VJ o=true)(hops:(o.op.operands.toList.all fun x=>Jw [] F x)=true)(hk:∀F',K1 F'→K2 F')(h:opKp T o F K1):opKp T o F K2:=by
 have e:Jm [] F F=F:=Jcy rfl fun t=>V9 (by simp)
 have key:(∀f xs at_,o.op≠.call ⟨.value f,xs,at_⟩)→opKp T o F K2:=fun hne=>by
  obtain⟨g,_,_,_,g3,g4⟩:=Jge T (bad:=[]) hops hd (by simp) h
  have:=g4 F K2 (by rw[e];exact hk _ g3)
  rw[e] at this
  unfold opKp
  split
  ·rename_i f xs at_ ho;exact absurd ho (hne f xs at_)
  ·rename_i fn first caps ho
   obtain⟨dst,op,ty,pos,after,gd⟩:=o
   subst ho
   obtain⟨h1,h2⟩:=h
   refine⟨h1,?_⟩
   rw[Jgf,h1] at this
   exact this
  ·exact this
 by_cases hc:∃f xs at_,o.op=.call ⟨.value f,xs,at_⟩
 ·obtain⟨f,xs,at_,ho⟩:=hc
  obtain⟨dst,op,ty,pos,after,gd⟩:=o
  subst ho
  have h:YB false P (F.ev f) (xs.toList.map F.ev) dst F K1:=h
  show YB false P (F.ev f) (xs.toList.map F.ev) dst F K2
  unfold YB at h ⊢
  split at h
  ·rcases h with (⟨as,lent,r,h1,h2,h3,h4⟩|⟨d,g,cs,rest,as,x,q1,q2,q3,q4,q5,q6,q7⟩)|⟨h,_⟩
   ·exact .inl (.inl ⟨as,lent,r,h1,h2,h3,h4.mono hk⟩)
   ·exact .inl (.inr ⟨d,g,cs,rest,as,x,q1,q2,q3,q4,q5,q6,afterK.mono (r:=.val x) hk q7⟩)
   ·cases h
  ·exact h.elim
 ·exact key fun f xs at_ ho=>hc ⟨f,xs,at_,ho⟩
theorem wDraw.pre{T:Tys P}{all:List Oper}{wrs bads:List (List Nat)}{K:TS→Prop}:∀(q:List (List Nat×List Nat)) (l:List Oper) (i:Nat) (F:TS),(wrs.zip bads).drop i=q→wrs.length=bads.length→Ja5 all q l=true→all.drop i=l→wDraw T all q l K F →
  PreOk P (List.toArray all) wrs bads (SpecOs P (List.toArray all) K (all.drop (i+q.length))) i (l.take q.length) F
 | [],l,i,F,_,_,_,hl,h=>by
  rw[List.length_nil,Nat.add_zero,hl]
  exact wOps.sound h
 | (wr,bad) :: r,[],i,F,_,_,_,_,h=>h.elim
 | (wr,bad) :: r,o :: l,i,F,hq,hlen,hs,hl,h=>by
  obtain⟨h1,h2,h3⟩:=h
  simp only[Ja5,Bool.and_eq_true] at hs
  have hzi:(wrs.zip bads)[i]?=some (wr,bad):=by
   have:=congrArg (fun l=>l[0]?) hq
   simpa using this
  have hw:wrs.getD i []=wr:=by
   have:wrs[i]?=some wr:=(List.getElem?_zip_eq_some.1 hzi).1
   simp[this]
  have hb:bads.getD i []=bad:=by
   have:bads[i]?=some bad:=(List.getElem?_zip_eq_some.1 hzi).2
   simp[this]
  have hq':(wrs.zip bads).drop (i+1)=r:=by rw[←List.drop_drop,hq];rfl
  have hl':all.drop (i+1)=l:=by rw[←List.drop_drop,hl];rfl
  have e:i+((wr,bad) :: r).length=i+1+r.length:=by simp;omega
  rw[e]
  refine wDraw.step (T:=T) hw hb hs.1 h2 h3 ?_
  have mono:∀ {K1 K2:TS→Prop},(∀F',K1 F'→K2 F')→opKp T o F K1→opKp T o F K2:=fun {K1 K2} hk ho=>by
   exact Jgh (by
    have:=hs.1
    simp only[YP,Bool.and_eq_true] at this
    exact this.1.1.1.1) (by
    have:=hs.1
    simp only[YP,Bool.and_eq_true] at this
    refine Jbo _ (List.all_eq_true.2 fun x _=>by cases x<;>simp) ?_
    generalize o.op.operands.toList=xs
    induction xs with
    |nil=>rfl
    |cons x r ih=>cases x<;>simp[Ve,ih,Jfg]) hk ho
  have hk:=fun F' (h:wDraw T all r l K F')=>wDraw.pre (wrs:=wrs) (bads:=bads) r l (i+1) F' hq' hlen hs.2 hl' h
  unfold wGp at h1 ⊢
  split
  ·rename_i hg;rw[hg] at h1;exact mono hk h1
  ·rename_i j want hg
   rw[hg] at h1
   simp only at h1
   generalize Vu F all j=v at h1 ⊢
   unfold gK at h1 ⊢
   have skip:VA o.dst (wDraw T all r l K) F→VA o.dst (fun F'=>PreOk P (List.toArray all) wrs bads (SpecOs P (List.toArray all) K (all.drop (i+1+r.length))) (i+1) (l.take r.length) F') F:=fun h=>by
    unfold VA at h ⊢
    cases hd:o.dst with
    |none=>rw[hd] at h;exact hk _ h
    |some d=>rw[hd] at h;exact⟨h.1,hk _ h.2⟩
   split
   ·exact⟨fun e=>mono hk (h1.1 e),fun e=>skip (h1.2 e)⟩
   ·exact skip h1
   ·rename_i g1 g2
    split at h1
    ·exact(g1 _ rfl).elim
    ·exact(g2 rfl).elim
    ·exact h1
theorem Jfj{α β:Type}:∀q:List (α×β),(q.map (·.1)).zip (q.map (·.2))=q
 | []=>rfl
 |x :: r=>by simp only[List.map_cons,List.zip_cons_cons,Jfj r]
theorem SpecC.drawW(T:Tys P)(hmix:P.follows .mixedOrders=true)(q:List (List Nat×List Nat)){id:Nat}{l:List Oper}{ts:TS}{Q:Exit→TS→Prop}
  (hc:(Ja4 (List.toArray l) q.length (q.map (·.1)) (q.map (·.2)) && Ja5 l q l)=true) (h:∀K,NxK (fun ts'=>Q .normal ts') K→wDraw T l q l K ts):SpecC P (.region id (List.toArray l) true) ts Q:=by
 simp only[Bool.and_eq_true] at hc
 have hz:=Jfj q
 have:=wDraw.pre (wrs:=q.map (·.1)) (bads:=q.map (·.2)) q l 0 ts (by rw[hz];rfl) (by simp) hc.2 rfl (h _ ⟨fun _ h=>h⟩)
 exact SpecC.drawP hmix id q.length _ _ hc.1 (by simpa using this)
theorem SpecC.seqW{x y:Code}{ts:TS}{Q:Exit→TS→Prop}(h:∀K,NxK (fun ts'=>SpecC P y ts' Q) K→SpecC P x ts (Jah K Q)):SpecC P (.seq x y) ts Q:=SpecC.seq (h _ ⟨fun _ h=>h⟩)
theorem SpecC.condW{c:Operand}{x y:Code}{ts:TS}{Q:Exit→TS→Prop}(h:∀A B,Nx (SpecC P x ts Q) A→Nx (SpecC P y ts Q) B→condK (ts.ev c) A B):SpecC P (.cond c x y) ts Q:=by
 have:=h _ _ ⟨fun h=>h⟩ ⟨fun h=>h⟩
 unfold condK at this
 split at this
 ·rename_i b hb;exact SpecC.cond hb this.1 this.2
 ·exact this.elim
def CallR(P:Program)(f:FuncId)(args:List AV)(r:Ret):Prop:=CallV P f (args.map Arg.v) fun r' _=>r'=r
def CallM(P:Program)(f:FuncId)(sz:Nat)(xs args:List AV)(r:Ret):Prop:=CallV P f (.own sz xs :: args.map Arg.v) fun r' _=>r'=r
def CallI(P:Program)(f:FuncId)(cs args:List AV)(x:AV)(cs':List AV):Prop:=CallV P f (.io cs :: args.map Arg.v) fun r' io=>r'=.val x∧io 0=cs'
theorem callX.by{m:Bool}{f:FuncId}{vs as:List AV}{lent:List Nat}{dst:Option Nat}{ts:TS}{K:TS→Prop}{r:Ret}(h:CallR P f as r)(hk:(lent=[]∨r.flat=true)∧afterK ts dst r K):callX m P f vs (some (as,lent)) dst ts K :=
 .inl (.inl ⟨as,lent,r,rfl,h,hk.1,hk.2⟩)
theorem callX.mv{f:FuncId}{d g len sz:Nat}{xs rest as:List AV}{q:Option (List AV×List Nat)}{dst:Option Nat}{ts:TS}{K:TS→Prop}{r:Ret}
  (h1:((ts.obj d).arr?.map fun q=>(q.1,q.2.take len))=some (sz,xs)) (h3:ts.toArgs rest=some (as,[])) (hk:(g=ts.gen d∧Ji (ts.obj d).arr? fun q=>len≤q.2.length∧AV.pure.pureL q.2=true)∧afterK (ts.kill d) dst r K) (h:CallM P f sz xs as r):callX true P f (.os d g len :: rest) q dst ts K:=by
 obtain⟨⟨hg,ho⟩,hk⟩:=hk
 obtain⟨⟨sz',zs⟩,ho,hl,hp⟩:=Jv ho
 rw[ho] at h1
 simp only[Option.map_some,Option.some.injEq,Prod.mk.injEq] at h1
 obtain⟨rfl,rfl⟩:=h1
 exact .inr ⟨rfl,.inl ⟨d,g,len,sz',zs,rest,as,r,rfl,hg,ZD ho,hl,hp,h3,h,hk⟩⟩
def Ob.box?:Ob→Option (List AV)
 | .box cs=>some cs
 |_=>none
theorem Ja1{o:Ob}{cs:List AV}(h:o.box?=some cs):o=.box cs:=by
 cases o<;>simp[Ob.box?] at h
 subst h;rfl
theorem callX.io{f:FuncId}{d g:Nat}{cs cs' rest as:List AV}{q:Option (List AV×List Nat)}{dst:Option Nat}{ts:TS}{K:TS→Prop}{x:AV}
  (h1:(ts.obj d).box?=some cs) (h3:ts.toArgs rest=some (as,[])) (hk:(g=ts.gen d∧AV.pure.pureL cs=true)∧Jd (ts.setObj d (.box cs')) dst x K) (h:CallI P f cs as x cs'):callX true P f (.ref d g 0 :: rest) q dst ts K :=
 .inr ⟨rfl,.inr (.inl ⟨d,g,cs,cs',rest,as,x,rfl,hk.1.1,Ja1 h1,hk.1.2,h3,h,hk.2⟩)⟩
theorem callX.ior{m:Bool}{f:FuncId}{d g:Nat}{cs rest as:List AV}{q:Option (List AV×List Nat)}{dst:Option Nat}{ts:TS}{K:TS→Prop}{x:AV}
  (h1:(ts.obj d).box?=some cs) (h3:ts.toArgs rest=some (as,[])) (hk:(g=ts.gen d∧AV.pure.pureL cs=true)∧Jd ts dst x K) (h:CallI P f cs as x cs):callX m P f (.ref d g 0 :: rest) q dst ts K :=
 .inl (.inr ⟨d,g,cs,rest,as,x,rfl,hk.1.1,Ja1 h1,hk.1.2,h3,h,hk.2⟩)
theorem callX.ar{f fg:FuncId}{d g sz len:Nat}{zs zs':List AV}{q:Option (List AV×List Nat)}{dst:Option Nat}{ts:TS}{K:TS→Prop}
  (h1:(ts.obj d).arr?=some (sz,zs)) (hk:(g=ts.gen d∧len=zs.length)∧Jd (ts.setObj d (.arr sz zs')) dst (.tup []) K) (h:JdG P f fg sz zs zs'):callX true P f [.os d g len,.clo (.func fg) [] []] q dst ts K:=by
 obtain⟨⟨hg,rfl⟩,hk⟩:=hk
 exact .inr ⟨rfl,.inr (.inr (.inl ⟨d,g,fg,sz,zs,zs',rfl,hg,ZD h1,h,hk⟩))⟩
theorem callX.hm{f:FuncId}{H d g:Nat}{ks vl ks' vl' vs as:List AV}{q:Option (List AV×List Nat)}{dst:Option Nat}{ts:TS}{K:TS→Prop}{x:AV}
  (h1:(ts.obj d).mp?=some (ks,vl)) (ha:AV.renM.renML d g H vs=as) (h:CallH P f H as ks vl x ks' vl')
  (hk:(g=ts.gen d∧(AV.pure.pureL ks=true∧AV.pure.pureL vl=true)∧AV.pureH.pureHL d g vs=true)∧Jd (ts.setObj d (.mp ks' vl')) dst x K):callX true P f vs q dst ts K:=by
 subst ha
 exact .inr ⟨rfl,.inr (.inr (.inr (.inr (.inl ⟨d,g,H,ks,vl,ks',vl',x,hk.1.1,Jcd h1,hk.1.2.1,hk.1.2.2,h,hk.2⟩))))⟩
theorem callX.raw{f:FuncId}{vs:List AV}{q:Option (List AV×List Nat)}{dst:Option Nat}{ts:TS}{K:TS→Prop}{r:Ret}(h:CallR P f vs r)(hk:AV.pure.pureL vs=true∧afterK ts dst r K):callX true P f vs q dst ts K :=
 .inr ⟨rfl,.inr (.inr (.inr (.inr (.inr ⟨hk.1,r,h,hk.2⟩))))⟩
theorem callX.fz{f:FuncId}{vs as:List AV}{lent:List Nat}{dst:Option Nat}{ts:TS}{K:TS→Prop}{r:Ret}(h:CallR P f as r)(hk:afterK (ts.killL lent) dst r K):callX true P f vs (some (as,lent)) dst ts K :=
 .inr ⟨rfl,.inr (.inr (.inr (.inl ⟨as,lent,r,rfl,h,hk⟩)))⟩
def Vl(Q:TS→Prop)(ex:Exit)(ts:TS):Prop :=
 match ex with
 | .normal=>Q ts
 | .ret=>Q ts
 |_=>False
def Jdc(ts:TS)(x:AV)(sz:Nat)(zs:List AV):Prop :=
 match x with
 | .os d g len=>g=ts.gen d∧Ji (ts.obj d).arr? fun q=>q.1=sz∧len≤q.2.length∧AV.pure.pureL (q.2.take len)=true∧AV.nrm.nrmL (q.2.take len)=zs
 | .slice true []=>0<sz∧[]=zs
 |_=>False
theorem Rel.trunc{E:Env}{ts:TS}{G:Ghost}{a:Act}{w:World}(h:Rel E ts G a w){d sz:Nat}{xs:List AV}(ho:ts.obj d=.arr sz xs)(n:Nat):Rel E (ts.setObj d (.arr sz (xs.take n))) G a w:=by
 have hkind:(fun e=>((ts.setObj d (.arr sz (xs.take n))).obj e).kind)=fun e=>(ts.obj e).kind:=by
  funext e
  simp only[TS.setObj]
  by_cases he:e=d
  ·subst he;rw[Vc,ho];rfl
  ·rw[Vo _ _ he]
 have hlive:∀e,Jj (ts.setObj d (.arr sz (xs.take n))) G e↔Jj ts G e:=fun e=>by
  unfold Jj
  rw[congrFun hkind e]
 have hctx:Jb E G (ts.setObj d (.arr sz (xs.take n))) w=Jb E G ts w:=by
  unfold Jb
  have e1:(fun k=>E.F k∨∃e,Jj (ts.setObj d (.arr sz (xs.take n))) G e∧G.β e=k)=fun k=>E.F k∨∃e,Jj ts G e∧G.β e=k:=by
   funext k
   simp only[hlive]
  rw[e1,hkind]
  rfl
 refine⟨h.size,h.defers,fun t=>by rw[hctx];exact h.tmp t,fun e=>?_,fun e e' h1 h2 h3=>h.sep e e' ((hlive e).1 h1) ((hlive e').1 h2) h3,fun e h1=>h.own e ((hlive e).1 h1),h.inF,h.bel,h.pin⟩
 rw[hctx]
 show ObOk _ e ((Jp ts.obj d _) e)
 by_cases he:e=d
 ·subst he
  have:=h.obj e
  rw[ho] at this
  rw[Vc]
  exact Jkw this n
 ·rw[Vo _ _ he];exact h.obj e
def Jck(ts:TS)(rs:List ResultVar):Bool :=
 match rs with
 | [.tmp _]=>true
 | [.cell a _]=>(match ts.tmp a with|.ref ..=>true|_=>false)
 |_=>false
def V3(T:Tys P)(rs:List ResultVar)(r:Ret)(ts:TS):Prop :=
 match r with
 | .val z=>Ji (ts.result T rs) fun x=>Ji (x.res ts) fun y=>y.nrm=z
 | .own sz zs=>Jck ts rs=true∧Ji (ts.result T rs) fun x=>Jdc ts x sz zs
theorem JpH{ts:TS}{d sz sz':Nat}{xs ys:List AV}(ho:ts.obj d=.arr sz xs){x:AV}{cs:List AV}(h:ts.ptr x=some cs)(hx:∀g i o,x≠.eref d g i o):(ts.setObj d (.arr sz' ys)).ptr x=some cs:=by
 cases x with
 |ref e g off =>
  simp only[TS.ptr] at h ⊢
  by_cases he:e=d
  ·subst he
   rw[ho] at h
   split at h<;>simp at h
  ·simp only[TS.setObj,Vo _ _ he];exact h
 |eref e g i o =>
  by_cases he:e=d
  ·subst he;exact absurd rfl (hx g i o)
  ·simp only[TS.ptr,TS.setObj,Vo _ _ he] at h ⊢;exact h
 |_=>exact h
theorem Jqd{T:Tys P}{ts:TS}{d sz sz':Nat}{xs ys:List AV}(ho:ts.obj d=.arr sz xs){r:ResultVar}{x:AV}(h:ts.resV T r=some x)(hx:match r with|.tmp _=>True|.cell a _=>∀g i o,ts.tmp a≠.eref d g i o):(ts.setObj d (.arr sz' ys)).resV T r=some x:=by
 cases r with
 |tmp t=>exact h
 |cell a t =>
  simp only[TS.resV] at h ⊢
  split at h
  ·cases h
  ·split at h
   ·rename_i cs hp
    have:(ts.setObj d (.arr sz' ys)).ptr ((ts.setObj d (.arr sz' ys)).tmp a)=some cs:=JpH ho hp hx
    rw[this];exact h
   ·cases h
theorem JmE{T:Tys P}{ts:TS}{d sz sz':Nat}{xs ys:List AV}(ho:ts.obj d=.arr sz xs){rs:List ResultVar}(h1:Jck ts rs=true){x:AV}(h:ts.result T rs=some x):(ts.setObj d (.arr sz' ys)).result T rs=some x:=by
 unfold Jck at h1
 split at h1
 ·exact h
 ·rename_i a u
  rw[Jqe] at h ⊢
  refine Jqd ho h ?_
  split at h1
  ·rename_i hr
   intro g i o
   rw[hr];simp
  ·cases h1
 ·cases h1
theorem CallH.go5{T:Tys P}{f:FuncId}{fn:Func}{c:Code}{rs:List ResultVar}{H:Nat}{ks vs ks' vs':List AV}{x a b d e q:AV}(hcall:∀(vals:Array Value) (w:World),(callFunc f vals).run P w=.ok (.enter f vals) w)
  (hf:P.funcs[f]?=some fn) (hb:fn.body=some c) {n:Nat} (hnt:fn.ntmps=n) (hrs:fn.results.toList=rs) (hn:5≤n)
  (h:∀ts:TS,ts.n=n→ts.tmp 0=a→ts.tmp 1=b→ts.tmp 2=d→ts.tmp 3=e→ts.tmp 4=q→ts.gen H=0→ts.obj H=.mp ks vs→SpecC P c ts (Vl (EndH T rs H x ks' vs'))):CallH P f H [a,b,d,e,q] ks vs x ks' vs':=by
 subst hnt hrs
 refine CallH.of_body (T:=T) hcall hf hb hn ((h _ rfl rfl rfl rfl rfl rfl rfl (by simp[Yh])).mono fun ex ts hq=>?_)
 cases ex with
 |normal=>exact⟨.inl rfl,hq⟩
 |ret=>exact⟨.inr rfl,hq⟩
 |_=>exact hq.elim
theorem CallV.go{T:Tys P}{f:FuncId}{fn:Func}{c:Code}{args:List Arg}{rs:List ResultVar}{r:Ret}(hcall:∀(vals:Array Value) (w:World),(callFunc f vals).run P w=.ok (.enter f vals) w)
  (hf:P.funcs[f]?=some fn) (hb:fn.body=some c) {n:Nat} (hnt:fn.ntmps=n) (hrs:fn.results.toList=rs) (hn:args.length≤n) (hio:∀(j:Nat) (cs:List AV),args[j]?≠some (Arg.io cs))
  (h:∀ts:TS,ts.n=n→Jak ts 0 args→SpecC P c ts (Vl (V3 T rs r))):CallV P f args fun r' _=>r'=r:=by
 subst hnt
 refine CallV.fit hio ?_
 refine CallV.of_body (T:=T) hcall hf hb hn ?_
 have hs:=h (Jk args fn.ntmps) rfl (Z1 _ args args 0 fun i=>by simp)
 intro E G a w hr
 refine wp_mono (hs E G a w hr) ?_
 rintro e a' w' ⟨ts',G',he,hr'⟩
 have key:(e=.normal∨e=.ret)→V3 T rs r ts'→∃ts'' G'',(JcC T fn args (Ret.fits fun r' _=>r'=r) e ts''∨Jg5 T fn args (Ret.fits fun r' _=>r'=r) e ts'')∧Rel E ts'' G'' a' w':=fun hex hx=>by
  cases r with
  |val z =>
   obtain⟨x,h3,h4⟩:=Jv hx
   obtain⟨y,h5,h6⟩:=Jv h4
   exact⟨ts',G',.inl ⟨hex,x,y,fun _=>[],by rw[hrs];exact h3,h5,by refine .inl ?_;show Ret.val y.nrm=_;rw[h6],fun j cs h=>absurd h (hio j cs)⟩,hr'⟩
  |own sz zs =>
   obtain⟨h1r,hx⟩:=hx
   obtain⟨x,h3,h4⟩:=Jv hx
   unfold Jdc at h4
   split at h4
   ·rename_i d g len
    obtain⟨h5,h6⟩:=h4
    obtain⟨⟨sz',xs⟩,ho,rfl,h7,h8,h9⟩:=Jv h6
    have ho:=ZD ho
    refine⟨_,G',.inr ⟨hex,d,g,sz',xs.take len,fun _=>[],?_,?_,?_,h8,?_,fun j cs h=>absurd h (hio j cs)⟩,hr'.trunc ho len⟩
    ·have hl:(xs.take len).length=len:=by simp only at h7;simp;omega
     rw[hrs,hl]
     exact JmE ho h1r h3
    ·simp[TS.setObj];exact h5
    ·simp[TS.setObj]
    ·refine .inl ?_;show Ret.own sz' (AV.nrm.nrmL (xs.take len))=_;rw[h9]
   ·exact⟨ts',G',.inl ⟨hex,.slice true [],.slice true [],fun _=>[],by rw[hrs];exact h3,rfl,.inr ⟨rfl,sz,h4.1,by rw[h4.2]⟩,fun j cs h=>absurd h (hio j cs)⟩,hr'⟩
   ·exact h4.elim
 cases e with
 |normal=>exact key (.inl rfl) he
 |ret=>exact key (.inr rfl) he
 |_=>exact he.elim
theorem CallR.go{T:Tys P}{f:FuncId}{fn:Func}{c:Code}{args:List AV}{rs:List ResultVar}{r:Ret}(hcall:∀(vals:Array Value) (w:World),(callFunc f vals).run P w=.ok (.enter f vals) w)
  (hf:P.funcs[f]?=some fn) (hb:fn.body=some c) {n:Nat} (hnt:fn.ntmps=n) (hrs:fn.results.toList=rs) (hn:args.length≤n)
  (h:∀ts:TS,ts.n=n→Jak ts 0 (args.map Arg.v)→SpecC P c ts (Vl (V3 T rs r))):CallR P f args r :=
 CallV.go hcall hf hb hnt hrs (by simpa using hn) (fun j cs h=>by simp only[List.getElem?_map] at h;cases hh:args[j]?<;>rw[hh] at h<;>simp at h) h
section go
variable {T:Tys P} {f:FuncId} {fn:Func} {c:Code} {rs:List ResultVar} {r:Ret} (hcall:∀(vals:Array Value) (w:World),(callFunc f vals).run P w=.ok (.enter f vals) w)
  (hf:P.funcs[f]?=some fn) (hb:fn.body=some c) {n:Nat} (hnt:fn.ntmps=n) (hrs:fn.results.toList=rs)
include hcall hf hb hnt hrs
theorem CallR.go0(h:∀ts:TS,ts.n=n→SpecC P c ts (Vl (V3 T rs r))):CallR P f [] r:=CallR.go hcall hf hb hnt hrs (Nat.zero_le _) fun ts h1 _=>h ts h1
theorem CallR.go1{a:AV}(hn:1≤n)(h:∀ts:TS,ts.n=n→ts.tmp 0=a→SpecC P c ts (Vl (V3 T rs r))):CallR P f [a] r:=CallR.go hcall hf hb hnt hrs hn fun ts h1 h2=>h ts h1 h2.1
theorem CallR.go2{a b:AV}(hn:2≤n)(h:∀ts:TS,ts.n=n→ts.tmp 0=a→ts.tmp 1=b→SpecC P c ts (Vl (V3 T rs r))):CallR P f [a,b] r:=CallR.go hcall hf hb hnt hrs hn fun ts h1 h2=>h ts h1 h2.1 h2.2.1
theorem CallR.go3{a b d:AV}(hn:3≤n)(h:∀ts:TS,ts.n=n→ts.tmp 0=a→ts.tmp 1=b→ts.tmp 2=d→SpecC P c ts (Vl (V3 T rs r))):CallR P f [a,b,d] r:=CallR.go hcall hf hb hnt hrs hn fun ts h1 h2=>h ts h1 h2.1 h2.2.1 h2.2.2.1
theorem CallR.go5{a b d e g:AV}(hn:5≤n)(h:∀ts:TS,ts.n=n→ts.tmp 0=a→ts.tmp 1=b→ts.tmp 2=d→ts.tmp 3=e→ts.tmp 4=g→SpecC P c ts (Vl (V3 T rs r))):CallR P f [a,b,d,e,g] r :=
 CallR.go hcall hf hb hnt hrs hn fun ts h1 h2=>h ts h1 h2.1 h2.2.1 h2.2.2.1 h2.2.2.2.1 h2.2.2.2.2.1
theorem CallM.go0{sz:Nat}{xs:List AV}(hn:1≤n)(h:∀ts:TS,ts.n=n→ts.tmp 0=.os 0 0 xs.length→ts.gen 0=0→ts.obj 0=.arr sz xs→SpecC P c ts (Vl (V3 T rs r))):CallM P f sz xs [] r :=
 CallV.go hcall hf hb hnt hrs hn (fun j cs h=>by cases j<;>simp at h) fun ts h1 h2=>h ts h1 h2.1.1 h2.1.2.1 h2.1.2.2
theorem CallM.go1{sz:Nat}{xs:List AV}{a:AV}(hn:2≤n)(h:∀ts:TS,ts.n=n→ts.tmp 0=.os 0 0 xs.length→ts.gen 0=0→ts.obj 0=.arr sz xs→ts.tmp 1=a→SpecC P c ts (Vl (V3 T rs r))):CallM P f sz xs [a] r :=
 CallV.go hcall hf hb hnt hrs hn (fun j cs h=>by match j,h with|0,h=>simp at h|1,h=>simp at h|j+2,h=>simp at h) fun ts h1 h2=>h ts h1 h2.1.1 h2.1.2.1 h2.1.2.2 h2.2.1
theorem CallM.go2{sz:Nat}{xs:List AV}{a b:AV}(hn:3≤n)(h:∀ts:TS,ts.n=n→ts.tmp 0=.os 0 0 xs.length→ts.gen 0=0→ts.obj 0=.arr sz xs→ts.tmp 1=a→ts.tmp 2=b→SpecC P c ts (Vl (V3 T rs r))):CallM P f sz xs [a,b] r :=
 CallV.go hcall hf hb hnt hrs hn (fun j cs h=>by match j,h with|0,h=>simp at h|1,h=>simp at h|2,h=>simp at h|j+3,h=>simp at h) fun ts h1 h2=>h ts h1 h2.1.1 h2.1.2.1 h2.1.2.2 h2.2.1 h2.2.2.1
end go
end Go.Proofs.YthjalhfmpffbjaaGreatDoor.Lg
namespace Go.Proofs.YthjalhfmpffbjaaGreatDoor.Lg
open Go
variable {P:Program}
structure Again(I:Nat→TS→Prop)(n:Nat)(A:TS→Prop):Prop where
 on:∀(m:Nat) {ts:TS},m<n→I m ts→A ts
def keepL(a b:TS):List Nat→Prop
 | []=>True
 |t :: r=>a.tmp t=b.tmp t∧a.gen t=b.gen t∧a.obj t=b.obj t∧keepL a b r
def ZY(keep:List Nat)(a b:TS):Prop:=a.n=b.n∧keepL a b keep
theorem keepL.rfl'(a:TS):∀l:List Nat,keepL a a l
 | []=>trivial
 |_ :: r=>⟨rfl,rfl,rfl,keepL.rfl' a r⟩
def Ent(ts ts':TS):Prop:=∀E G a w,Rel E ts G a w→∃G',Rel E ts' G' a w
theorem Ent.rfl'(ts:TS):Ent ts ts:=fun _ G _ _ h=>⟨G,h⟩
theorem Ent.trans{a b c:TS}(h:Ent a b)(k:Ent b c):Ent a c:=fun E G x w hr=>by
 obtain⟨G',h'⟩:=h E G x w hr
 exact k E G' x w h'
theorem SpecC.ent{c:Code}{ts ts':TS}{Q:Exit→TS→Prop}(he:Ent ts ts')(h:SpecC P c ts' Q):SpecC P c ts Q:=fun E G a w hr=>by
 obtain⟨G',hr'⟩:=he E G a w hr
 exact h E G' a w hr'
def AV.reos(t g:Nat):AV→AV
 | .os _ _ len=>.os t g len
 |x=>x
def JdX(ts:TS)(d:Nat):AV→Bool
 | .os e g _=>e == d && g == ts.gen d && (ts.obj d).arr?.isSome
 |_=>false
theorem Ent.ren{ts:TS}(t d:Nat)(h:JdX ts d (ts.tmp t)=true)(hn:t<ts.n):Ent ts ((ts.ren d t).put t ((ts.tmp t).reos t (ts.gen t+1))):=fun E G a w hr=>by
 have hv:=hr.tmp t
 generalize ts.tmp t=x at h hv
 cases x with
 |os e g len =>
  simp only[JdX,Bool.and_eq_true,beq_iff_eq] at h
  obtain⟨⟨rfl,h2⟩,h3⟩:=h
  obtain⟨⟨sz,xs⟩,ho⟩:=Option.isSome_iff_exists.1 h3
  have ho:=ZD ho
  obtain⟨h1c,hgl,hos⟩:=Yn hv
  have hos:=hos h2 (by simp[Jb,ho,Ob.kind])
  have key:=hr.ren (d:=e) (d':=t) hn (v:=a.tmps.getD t undef) (x:=.os t (ts.gen t+1) len) (.os t _ _ _ h1c (by simp[Jb,TS.ren]) fun _ _=>by
   unfold JO at hos ⊢
   simpa[Jb,Ghost.set] using hos)
  have ha:a.put (some t) (a.tmps.getD t undef)=a:=by
   have hs:t<a.tmps.size:=by rw[hr.size];exact hn
   cases a with
   |mk tmps defers =>
    simp only[Act.put]
    congr 1
    simp only at hs
    rw[Array.getD_eq_getD_getElem?,Array.getElem?_eq_getElem hs]
    apply Array.ext
    ·simp
    ·intro i h1 h2
     by_cases e:t=i
     ·subst e;simp
     ·rw[Array.getElem_setIfInBounds (by simpa using h2)];simp[e]
  rw[ha] at key
  exact⟨_,key⟩
 |_=>simp[JdX] at h
theorem Ent.virt{ts:TS}(t sz:Nat)(h:ts.tmp t=.slice true [])(hsz:0<sz):Ent ts ((ts.new t (.arr sz [])).put t (.os t (ts.gen t+1) 0)):=fun E G a w hr=>by
 have h0:=hr.tmp t
 rw[h] at h0
 exact⟨_,(hr.newVirt t sz hsz).reput (Jf7 h0)⟩
theorem Ent.frz{ts:TS}(t:Nat){d g len:Nat}(h1:ts.tmp t=.os d g len)(h2:g=ts.gen d){sz:Nat}{xs:List AV}(h3:(ts.obj d).arr?=some (sz,xs))(h4:len≤xs.length):Ent ts ((ts.kill d).put t (.slice false (xs.take len))):=fun E G a w hr=>by
 have hv:=hr.tmp t
 rw[h1] at hv
 exact⟨G,(hr.kill d).reput (Rep.frozen hr hv h2 (ZD h3) h4)⟩
structure AgainF(keep:List Nat)(ts0:TS)(I:Nat→TS→Prop)(n:Nat)(A:TS→Prop):Prop where
 onE:∀(m:Nat) {ts ts':TS},Ent ts ts'→m<n→ZY keep ts' ts0→I m ts'→A ts
theorem AgainF.on{keep:List Nat}{ts0:TS}{I:Nat→TS→Prop}{n:Nat}{A:TS→Prop}(h:AgainF keep ts0 I n A)(m:Nat){ts:TS}(hm:m<n)(hk:ZY keep ts ts0)(hi:I m ts):A ts:=h.onE m (Ent.rfl' ts) hm hk hi
theorem SpecC.loopF{c:Code}{ts:TS}{Q:Exit→TS→Prop}(keep:List Nat)(I:Nat→TS→Prop)(n:Nat)(h0:I n ts)(round:∀n A,AgainF keep ts I n A→∀ts',ZY keep ts' ts→I n ts'→SpecC P c ts' (Jah A Q)):SpecC P (.loop c) ts Q :=
 SpecC.loop (fun n ts'=>∃ts2,Ent ts' ts2∧ZY keep ts2 ts∧I n ts2) n ⟨ts,Ent.rfl' ts,⟨rfl,keepL.rfl' ts keep⟩,h0⟩ fun n ts' h=>by
  obtain⟨ts2,h1,h2,h3⟩:=h
  exact SpecC.ent h1 (round n _ ⟨fun m _ ts4 he hm hk hi=>⟨m,hm,ts4,he,hk,hi⟩⟩ ts2 h2 h3)
theorem SpecC.scopeF{c rest:Code}{ts:TS}{Q:Exit→TS→Prop}(l:Nat)(keep:List Nat)(I:Nat→TS→Prop)(n0:Nat)(hf:findLabel c l=some rest)(first:∀J,AgainF keep ts I n0 J→SpecC P c ts (JaA l J Q))
  (pass:∀n J,AgainF keep ts I n J→∀ts',ZY keep ts' ts→I n ts'→SpecC P rest ts' (JaA l J Q)):SpecC P (.scope c) ts Q :=
 SpecC.scope_jumps l (fun n ts'=>∃ts2,Ent ts' ts2∧ZY keep ts2 ts∧I n ts2) hf (first _ ⟨fun m _ ts4 he _ hk hi=>⟨m,ts4,he,hk,hi⟩⟩) fun n ts' h=>by
  obtain⟨ts2,h1,h2,h3⟩:=h
  exact SpecC.ent h1 (pass n _ ⟨fun m _ ts4 he hm hk hi=>⟨m,hm,ts4,he,hk,hi⟩⟩ ts2 h2 h3)
@[congr] theorem JCe{α:Type}{x x':Option α}{K:α→Prop}(hx:x=x'):(Ji (α:=α) x K)=(Ji (α:=α) x' K):=by subst hx;rfl
@[congr] theorem JuL{x x':AV}{K:Bool→Prop}(hx:x=x'):(Jaq x K)=(Jaq x' K):=by subst hx;rfl
@[congr] theorem JxA{x x':AV}{K:IntKind→Int→Prop}(hx:x=x'):(Y5 x K)=(Y5 x' K):=by subst hx;rfl
def JN(o:Oper):List Operand:=o.op.operands.toList
def JgV(wr:List Nat)(v:AV):Bool :=
 match v with
 | .ref d _ _=>wr.contains d
 | .eref d _ _ _=>wr.contains d
 |_=>true
def JgU(wr:List Nat)(v:AV):Bool :=
 match v with
 | .os d _ _=>wr.contains d
 |_=>true
def Je9(wr:List Nat)(v:AV):Bool :=
 match v with
 | .mref d _=>wr.contains d
 |_=>true
section
variable (T:Tys P) (all l:List Oper) (o:Oper) (ts:TS) (K:TS→Prop) (Q:Exit→TS→Prop) (dst:Option Nat) (ty:TypeId) (pos:String) (after:Array Edge) (g:Option (Nat×Bool)) (wr bad:List Nat) (r:List (List Nat×List Nat))
@[go_sem] theorem JD4(t q d p len:Nat):(AV.os d p len).reos t q=.os t q len:=rfl
@[go_sem] theorem JuR(d e q len:Nat):JdX ts d (.os e q len)=(e == d && q == ts.gen d && (ts.obj d).arr?.isSome):=rfl
@[go_sem] theorem JGo(d d':Nat):(ts.ren d d').tmp=ts.tmp:=rfl
@[go_sem] theorem Jz6(d d':Nat):(ts.ren d d').n=ts.n:=rfl
@[go_sem] theorem Jxq(d d' u:Nat):(ts.ren d d').gen u=if u=d' then ts.gen d'+1 else ts.gen u:=rfl
@[go_sem] theorem JAD(d d' u:Nat):(ts.ren d d').obj u=if u=d' then ts.obj d else if u=d then .dead else ts.obj u:=rfl
@[go_sem] theorem JxJ(a b:TS):keepL a b []=True:=rfl
@[go_sem] theorem JxI(a b:TS)(t:Nat)(r:List Nat):keepL a b (t :: r)=(a.tmp t=b.tmp t∧a.gen t=b.gen t∧a.obj t=b.obj t∧keepL a b r):=rfl
@[go_sem] theorem JrJ(keep:List Nat)(a b:TS):ZY keep a b=(a.n=b.n∧keepL a b keep):=rfl
@[go_sem] theorem JG4:wOps T all [] K ts=K ts:=rfl
@[go_sem] theorem JG3:wOps T all (o :: l) K ts=wG T all o (wOps T all l K) ts:=rfl
@[go_sem] theorem JGZ(op:Op):wG T all ⟨dst,op,ty,pos,after,none⟩ K ts=Js T ⟨dst,op,ty,pos,after,none⟩ ts K:=rfl
@[go_sem] theorem JG0(op:Op)(j:Nat)(want:Bool):wG T all ⟨dst,op,ty,pos,after,some (j,want)⟩ K ts=gK (Vu ts all j) want (Jgj T ⟨dst,op,ty,pos,after,some (j,want)⟩ K) (VA dst K) ts:=rfl
@[go_sem] theorem JBw:Jgj T o K ts=Js T o ts K:=rfl
@[go_sem] theorem Jxv(d:Nat)(op:Op):Vu ts (⟨some d,op,ty,pos,after,g⟩ :: l) 0=ts.tmp d:=rfl
@[go_sem] theorem Jxu(j:Nat):Vu ts (o :: l) (j+1)=Vu ts l j:=rfl
@[go_sem] theorem Jxl(A B:TS→Prop):gK (.bool true) true A B ts=A ts:=by simp[gK]
@[go_sem] theorem Jxh(A B:TS→Prop):gK (.bool false) false A B ts=A ts:=by simp[gK]
@[go_sem] theorem Jxk(A B:TS→Prop):gK (.bool true) false A B ts=B ts:=by simp[gK]
@[go_sem] theorem Jxi(A B:TS→Prop):gK (.bool false) true A B ts=B ts:=by simp[gK]
@[go_sem] theorem Jxj(w:Bool)(A B:TS→Prop):gK (.tup []) w A B ts=B ts:=rfl
@[go_sem] theorem Jvf(A B:Prop):condK (.bool true) A B=A:=by simp[condK]
@[go_sem] theorem Jve(A B:Prop):condK (.bool false) A B=B:=by simp[condK]
@[go_sem] theorem JEM(d:Nat):VA (some d) K ts=(d<ts.n∧K (ts.put d (.tup []))):=rfl
@[go_sem] theorem JEL:VA none K ts=K ts:=rfl
@[go_sem] theorem JGY:wDraw T all [] l K ts=wOps T all l K ts:=rfl
@[go_sem] theorem JGX:wDraw T all ((wr,bad) :: r) (o :: l) K ts=(wGp T all o (wDraw T all r l K) ts∧(Ve bad ts (JN o)=true∧JH wr ts o=true)):=rfl
@[go_sem] theorem JBz:Ve bad ts []=true:=rfl
@[go_sem] theorem JBA(t:Nat)(xs:List Operand):Ve bad ts (.tmp t :: xs)=(vOk bad (ts.tmp t) && Ve bad ts xs):=rfl
@[go_sem] theorem JBx(v:Value)(xs:List Operand):Ve bad ts (.const v :: xs)=Ve bad ts xs:=rfl
@[go_sem] theorem JBy(f:Nat)(xs:List Operand):Ve bad ts (.func f :: xs)=Ve bad ts xs:=rfl
@[go_sem] theorem JBV(x:Operand):JN ⟨dst,.move x,ty,pos,after,g⟩=[x]:=rfl
@[go_sem] theorem JF4(x:Operand):JH wr ts ⟨dst,.move x,ty,pos,after,g⟩=true:=rfl
@[go_sem] theorem JBC(x:Operand):JN ⟨dst,.assign x,ty,pos,after,g⟩=[x]:=rfl
@[go_sem] theorem JFJ(x:Operand):JH wr ts ⟨dst,.assign x,ty,pos,after,g⟩=true:=rfl
@[go_sem] theorem JBX(c x y:Operand):JN ⟨dst,.pick c x y,ty,pos,after,g⟩=[c,x,y]:=rfl
@[go_sem] theorem JF6(c x y:Operand):JH wr ts ⟨dst,.pick c x y,ty,pos,after,g⟩=true:=rfl
@[go_sem] theorem JBB(t:TypeId):JN ⟨dst,.alloc t,ty,pos,after,g⟩=[]:=rfl
@[go_sem] theorem JFH(t:TypeId):JH wr ts ⟨dst,.alloc t,ty,pos,after,g⟩=true:=rfl
@[go_sem] theorem JBE(t:TypeId)(x:Operand):JN ⟨dst,.box t x,ty,pos,after,g⟩=[x]:=rfl
@[go_sem] theorem JFL(t:TypeId)(x:Operand):JH wr ts ⟨dst,.box t x,ty,pos,after,g⟩=true:=rfl
@[go_sem] theorem JBP(t:TypeId)(x:Operand):JN ⟨dst,.load t x,ty,pos,after,g⟩=[x]:=rfl
@[go_sem] theorem JFW(t:TypeId)(x:Operand):JH wr ts ⟨dst,.load t x,ty,pos,after,g⟩=true:=rfl
@[go_sem] theorem JBK(t:TypeId)(x:Operand)(f:Nat):JN ⟨dst,.field t x f,ty,pos,after,g⟩=[x]:=rfl
@[go_sem] theorem JFR(t:TypeId)(x:Operand)(f:Nat):JH wr ts ⟨dst,.field t x f,ty,pos,after,g⟩=true:=rfl
@[go_sem] theorem JBL(t:TypeId)(x:Operand)(f:Nat):JN ⟨dst,.fieldAddr t x f,ty,pos,after,g⟩=[x]:=rfl
@[go_sem] theorem JFS(t:TypeId)(x:Operand)(f:Nat):JH wr ts ⟨dst,.fieldAddr t x f,ty,pos,after,g⟩=true:=rfl
@[go_sem] theorem JBN(t:TypeId)(x y:Operand):JN ⟨dst,.indexAddr t x y,ty,pos,after,g⟩=[x,y]:=rfl
@[go_sem] theorem JFU(t:TypeId)(x y:Operand):JH wr ts ⟨dst,.indexAddr t x y,ty,pos,after,g⟩=true:=rfl
@[go_sem] theorem JBM(t:TypeId)(x y:Operand):JN ⟨dst,.index t x y,ty,pos,after,g⟩=[x,y]:=rfl
@[go_sem] theorem JFT(t:TypeId)(x y:Operand):JH wr ts ⟨dst,.index t x y,ty,pos,after,g⟩=true:=rfl
@[go_sem] theorem JBD(b:BinOp)(t u:TypeId)(x y:Operand):JN ⟨dst,.binOp b t x y u,ty,pos,after,g⟩=[x,y]:=rfl
@[go_sem] theorem JFK(b:BinOp)(t u:TypeId)(x y:Operand):JH wr ts ⟨dst,.binOp b t x y u,ty,pos,after,g⟩=true:=rfl
@[go_sem] theorem JB5(b:UnOp)(t:TypeId)(x:Operand):JN ⟨dst,.unOp b t x,ty,pos,after,g⟩=[x]:=rfl
@[go_sem] theorem JGe(b:UnOp)(t:TypeId)(x:Operand):JH wr ts ⟨dst,.unOp b t x,ty,pos,after,g⟩=true:=rfl
@[go_sem] theorem JBR(fn:Fn)(l r:List Operand):JN ⟨dst,.makeFunc fn (List.toArray l) (List.toArray r),ty,pos,after,g⟩=l++r:=by simp[JN,Op.operands]
@[go_sem] theorem JFY(fn:Fn)(l r:Array Operand):JH wr ts ⟨dst,.makeFunc fn l r,ty,pos,after,g⟩=true:=rfl
@[go_sem] theorem JBW(x:Operand):JN ⟨dst,.nilCheck x,ty,pos,after,g⟩=[x]:=rfl
@[go_sem] theorem JF5(x:Operand):JH wr ts ⟨dst,.nilCheck x,ty,pos,after,g⟩=true:=rfl
@[go_sem] theorem JBJ(x:Operand)(i:Nat):JN ⟨dst,.extract x i,ty,pos,after,g⟩=[x]:=rfl
@[go_sem] theorem JFQ(x:Operand)(i:Nat):JH wr ts ⟨dst,.extract x i,ty,pos,after,g⟩=true:=rfl
@[go_sem] theorem JBY(t:TypeId)(x:Operand):JN ⟨dst,.slice t x none none none,ty,pos,after,g⟩=[x]:=rfl
@[go_sem] theorem JF7(t:TypeId)(x:Operand):JH wr ts ⟨dst,.slice t x none none none,ty,pos,after,g⟩=true:=rfl
@[go_sem] theorem JBZ(t:TypeId)(x y:Operand):JN ⟨dst,.slice t x (some y) none none,ty,pos,after,g⟩=[x,y]:=rfl
@[go_sem] theorem JF8(t:TypeId)(x y:Operand):JH wr ts ⟨dst,.slice t x (some y) none none,ty,pos,after,g⟩=true:=rfl
@[go_sem] theorem JB0(t:TypeId)(x y:Operand):JN ⟨dst,.slice t x none (some y) none,ty,pos,after,g⟩=[x,y]:=rfl
@[go_sem] theorem JF9(t:TypeId)(x y:Operand):JH wr ts ⟨dst,.slice t x none (some y) none,ty,pos,after,g⟩=true:=rfl
@[go_sem] theorem JB1(t:TypeId)(x y z:Operand):JN ⟨dst,.slice t x (some y) (some z) none,ty,pos,after,g⟩=[x,y,z]:=rfl
@[go_sem] theorem JGa(t:TypeId)(x y z:Operand):JH wr ts ⟨dst,.slice t x (some y) (some z) none,ty,pos,after,g⟩=true:=rfl
@[go_sem] theorem JB2(t:TypeId)(x y z u:Operand):JN ⟨dst,.slice t x (some y) (some z) (some u),ty,pos,after,g⟩=[x,y,z,u]:=rfl
@[go_sem] theorem JGb(t:TypeId)(x y z u:Operand):JH wr ts ⟨dst,.slice t x (some y) (some z) (some u),ty,pos,after,g⟩=true:=rfl
@[go_sem] theorem JB3(t:TypeId)(x z u:Operand):JN ⟨dst,.slice t x none (some z) (some u),ty,pos,after,g⟩=[x,z,u]:=rfl
@[go_sem] theorem JGc(t:TypeId)(x z u:Operand):JH wr ts ⟨dst,.slice t x none (some z) (some u),ty,pos,after,g⟩=true:=rfl
@[go_sem] theorem JBH(f:Operand)(xs:List Operand)(ats:Array TypeId):JN ⟨dst,.call ⟨.value f,List.toArray xs,ats⟩,ty,pos,after,g⟩=(f :: xs):=by simp[JN,Op.operands,Call.operands]
@[go_sem] theorem JFO(f:Operand)(xs:List Operand)(ats:Array TypeId):JH wr ts ⟨dst,.call ⟨.value f,List.toArray xs,ats⟩,ty,pos,after,g⟩=true:=rfl
@[go_sem] theorem JBO(b:Builtin)(xs:List Operand)(ats:Array TypeId):JN ⟨dst,.call ⟨.builtin b,List.toArray xs,ats⟩,ty,pos,after,g⟩=xs:=by simp[JN,Op.operands,Call.operands]
@[go_sem] theorem JFV(xs:List Operand)(ats:Array TypeId):JH wr ts ⟨dst,.call ⟨.builtin .len,List.toArray xs,ats⟩,ty,pos,after,g⟩=true:=rfl
@[go_sem] theorem JF2(xs:List Operand)(ats:Array TypeId):JH wr ts ⟨dst,.call ⟨.builtin .max,List.toArray xs,ats⟩,ty,pos,after,g⟩=true:=rfl
@[go_sem] theorem JF3(xs:List Operand)(ats:Array TypeId):JH wr ts ⟨dst,.call ⟨.builtin .min,List.toArray xs,ats⟩,ty,pos,after,g⟩=true:=rfl
@[go_sem] theorem JFI(s x:Operand)(ats:Array TypeId):JH wr ts ⟨dst,.call ⟨.builtin .append,List.toArray [s,x],ats⟩,ty,pos,after,g⟩=JgU wr (ts.ev s):=rfl
@[go_sem] theorem JFF(d q n:Nat):JgU wr (.os d q n)=wr.contains d:=rfl
@[go_sem] theorem JFE(c:Bool)(xs:List AV):JgU wr (.slice c xs)=true:=rfl
@[go_sem] theorem JBF(t:TypeId)(ps:List (Nat×Operand)):JN ⟨dst,.build t (List.toArray ps),ty,pos,after,g⟩=(ps.map (·.2)):=by simp[JN,Op.operands,Call.operands]
@[go_sem] theorem JFM(t:TypeId)(ps:List (Nat×Operand)):JH wr ts ⟨dst,.build t (List.toArray ps),ty,pos,after,g⟩=true:=rfl
@[go_sem] theorem JBG(t:TypeId)(n:Nat)(ps:List (Nat×Operand)):JN ⟨dst,.buildSlice t n (List.toArray ps),ty,pos,after,g⟩=(ps.map (·.2)):=by simp[JN,Op.operands,Call.operands]
@[go_sem] theorem JFN(t:TypeId)(n:Nat)(ps:List (Nat×Operand)):JH wr ts ⟨dst,.buildSlice t n (List.toArray ps),ty,pos,after,g⟩=true:=rfl
@[go_sem] theorem JB4(t:TypeId)(x y:Operand):JN ⟨dst,.store t x y,ty,pos,after,g⟩=[x,y]:=rfl
@[go_sem] theorem JGd(t:TypeId)(x y:Operand):JH wr ts ⟨dst,.store t x y,ty,pos,after,g⟩=JgV wr (ts.ev x):=rfl
@[go_sem] theorem JBQ(t:TypeId)(x k:Operand)(ok:Bool):JN ⟨dst,.lookup t x k ok,ty,pos,after,g⟩=[x,k]:=rfl
@[go_sem] theorem JFX(t:TypeId)(x k:Operand)(ok:Bool):JH wr ts ⟨dst,.lookup t x k ok,ty,pos,after,g⟩=true:=rfl
@[go_sem] theorem JBS(t:TypeId):JN ⟨dst,.makeMap t none,ty,pos,after,g⟩=[]:=rfl
@[go_sem] theorem JFZ(t:TypeId):JH wr ts ⟨dst,.makeMap t none,ty,pos,after,g⟩=true:=rfl
@[go_sem] theorem JBU(t:TypeId)(m k x:Operand):JN ⟨dst,.mapUpdate t m k x,ty,pos,after,g⟩=[m,k,x]:=rfl
@[go_sem] theorem JF1(t:TypeId)(m k x:Operand):JH wr ts ⟨dst,.mapUpdate t m k x,ty,pos,after,g⟩=Je9 wr (ts.ev m):=rfl
@[go_sem] theorem JBT(t:TypeId)(m k:Operand):JN ⟨dst,.mapEntry t m k,ty,pos,after,g⟩=[m,k]:=rfl
@[go_sem] theorem JF0(t:TypeId)(m k:Operand):JH wr ts ⟨dst,.mapEntry t m k,ty,pos,after,g⟩=Je9 wr (ts.ev m):=rfl
@[go_sem] theorem JBn(t:TypeId)(m k:Operand):opKp T ⟨dst,.mapEntry t m k,ty,pos,after,g⟩ ts K=Js T ⟨dst,.mapEntry t m k,ty,pos,after,g⟩ ts K:=rfl
@[go_sem] theorem JBI(t:TypeId)(m s x:Operand):JN ⟨dst,.entryStore t m s x,ty,pos,after,g⟩=[m,s,x]:=rfl
@[go_sem] theorem JFP(t:TypeId)(m s x:Operand):JH wr ts ⟨dst,.entryStore t m s x,ty,pos,after,g⟩=Je9 wr (ts.ev m):=rfl
@[go_sem] theorem JBc(t:TypeId)(m s x:Operand):opKp T ⟨dst,.entryStore t m s x,ty,pos,after,g⟩ ts K=Js T ⟨dst,.entryStore t m s x,ty,pos,after,g⟩ ts K:=rfl
@[go_sem] theorem JFG(d q:Nat):Je9 wr (.mref d q)=wr.contains d:=rfl
@[go_sem] theorem JBk(t:TypeId)(x k:Operand)(ok:Bool):opKp T ⟨dst,.lookup t x k ok,ty,pos,after,g⟩ ts K=Js T ⟨dst,.lookup t x k ok,ty,pos,after,g⟩ ts K:=rfl
@[go_sem] theorem JBm(t:TypeId)(r:Option Operand):opKp T ⟨dst,.makeMap t r,ty,pos,after,g⟩ ts K=Js T ⟨dst,.makeMap t r,ty,pos,after,g⟩ ts K:=rfl
@[go_sem] theorem JBo(t:TypeId)(m k x:Operand):opKp T ⟨dst,.mapUpdate t m k x,ty,pos,after,g⟩ ts K=Js T ⟨dst,.mapUpdate t m k x,ty,pos,after,g⟩ ts K:=rfl
@[go_sem] theorem JuM(cs:List AV):(Ob.box cs).box?=some cs:=rfl
@[go_sem] theorem JGN(d q o n:Nat):vOk bad (.ot d q o n)=!bad.contains d:=rfl
@[go_sem] theorem JG1(op:Op):wGp T all ⟨dst,op,ty,pos,after,none⟩ K ts=opKp T ⟨dst,op,ty,pos,after,none⟩ ts K:=rfl
@[go_sem] theorem JG2(op:Op)(j:Nat)(want:Bool):wGp T all ⟨dst,op,ty,pos,after,some (j,want)⟩ K ts=gK (Vu ts all j) want (Jgi T ⟨dst,op,ty,pos,after,some (j,want)⟩ K) (VA dst K) ts:=rfl
@[go_sem] theorem JBv:Jgi T o K ts=opKp T o ts K:=rfl
@[go_sem] theorem JBb(f:Operand)(xs:Array Operand)(at_:Array TypeId):opKp T ⟨dst,.call ⟨.value f,xs,at_⟩,ty,pos,after,g⟩ ts K=YB false P (ts.ev f) (xs.toList.map ts.ev) dst ts K:=rfl
@[go_sem] theorem JBp(x:Operand):opKp T ⟨dst,.move x,ty,pos,after,g⟩ ts K=Js T ⟨dst,.move x,ty,pos,after,g⟩ ts K:=rfl
@[go_sem] theorem JA6(x:Operand):opKp T ⟨dst,.assign x,ty,pos,after,g⟩ ts K=Js T ⟨dst,.assign x,ty,pos,after,g⟩ ts K:=rfl
@[go_sem] theorem JBr(c x y:Operand):opKp T ⟨dst,.pick c x y,ty,pos,after,g⟩ ts K=Js T ⟨dst,.pick c x y,ty,pos,after,g⟩ ts K:=rfl
@[go_sem] theorem JA5(t:TypeId):opKp T ⟨dst,.alloc t,ty,pos,after,g⟩ ts K=Js T ⟨dst,.alloc t,ty,pos,after,g⟩ ts K:=rfl
@[go_sem] theorem JA8(t:TypeId)(x:Operand):opKp T ⟨dst,.box t x,ty,pos,after,g⟩ ts K=Js T ⟨dst,.box t x,ty,pos,after,g⟩ ts K:=rfl
@[go_sem] theorem JBj(t:TypeId)(x:Operand):opKp T ⟨dst,.load t x,ty,pos,after,g⟩ ts K=Js T ⟨dst,.load t x,ty,pos,after,g⟩ ts K:=rfl
@[go_sem] theorem JBt(t:TypeId)(x y:Operand):opKp T ⟨dst,.store t x y,ty,pos,after,g⟩ ts K=Js T ⟨dst,.store t x y,ty,pos,after,g⟩ ts K:=rfl
@[go_sem] theorem JBe(t:TypeId)(x:Operand)(f:Nat):opKp T ⟨dst,.field t x f,ty,pos,after,g⟩ ts K=Js T ⟨dst,.field t x f,ty,pos,after,g⟩ ts K:=rfl
@[go_sem] theorem JBf(t:TypeId)(x:Operand)(f:Nat):opKp T ⟨dst,.fieldAddr t x f,ty,pos,after,g⟩ ts K=Js T ⟨dst,.fieldAddr t x f,ty,pos,after,g⟩ ts K:=rfl
@[go_sem] theorem JBh(t:TypeId)(x y:Operand):opKp T ⟨dst,.indexAddr t x y,ty,pos,after,g⟩ ts K=Js T ⟨dst,.indexAddr t x y,ty,pos,after,g⟩ ts K:=rfl
@[go_sem] theorem JBg(t:TypeId)(x y:Operand):opKp T ⟨dst,.index t x y,ty,pos,after,g⟩ ts K=Js T ⟨dst,.index t x y,ty,pos,after,g⟩ ts K:=rfl
@[go_sem] theorem JA7(b:BinOp)(t u:TypeId)(x y:Operand):opKp T ⟨dst,.binOp b t x y u,ty,pos,after,g⟩ ts K=Js T ⟨dst,.binOp b t x y u,ty,pos,after,g⟩ ts K:=rfl
@[go_sem] theorem JBu(b:UnOp)(t:TypeId)(x:Operand):opKp T ⟨dst,.unOp b t x,ty,pos,after,g⟩ ts K=Js T ⟨dst,.unOp b t x,ty,pos,after,g⟩ ts K:=rfl
@[go_sem] theorem JBl(fn:Fn)(l r:Array Operand):opKp T ⟨dst,.makeFunc fn l r,ty,pos,after,g⟩ ts K=(T.fzD dst=true∧Jax true ts dst fn l.toList r.toList K):=rfl
@[go_sem] theorem JBq(x:Operand):opKp T ⟨dst,.nilCheck x,ty,pos,after,g⟩ ts K=Js T ⟨dst,.nilCheck x,ty,pos,after,g⟩ ts K:=rfl
@[go_sem] theorem JBd(x:Operand)(i:Nat):opKp T ⟨dst,.extract x i,ty,pos,after,g⟩ ts K=Js T ⟨dst,.extract x i,ty,pos,after,g⟩ ts K:=rfl
@[go_sem] theorem JBs(t:TypeId)(x:Operand)(lo hi mx:Option Operand):opKp T ⟨dst,.slice t x lo hi mx,ty,pos,after,g⟩ ts K=Js T ⟨dst,.slice t x lo hi mx,ty,pos,after,g⟩ ts K:=rfl
@[go_sem] theorem JBi(b:Builtin)(xs:Array Operand)(ats:Array TypeId):opKp T ⟨dst,.call ⟨.builtin b,xs,ats⟩,ty,pos,after,g⟩ ts K=Js T ⟨dst,.call ⟨.builtin b,xs,ats⟩,ty,pos,after,g⟩ ts K:=rfl
@[go_sem] theorem JA9(t:TypeId)(ps:Array (Nat×Operand)):opKp T ⟨dst,.build t ps,ty,pos,after,g⟩ ts K=Js T ⟨dst,.build t ps,ty,pos,after,g⟩ ts K:=rfl
@[go_sem] theorem JBa(t:TypeId)(n:Nat)(ps:Array (Nat×Operand)):opKp T ⟨dst,.buildSlice t n ps,ty,pos,after,g⟩ ts K=Js T ⟨dst,.buildSlice t n ps,ty,pos,after,g⟩ ts K:=rfl
@[go_sem] theorem JGg(d q off:Nat):JgV wr (.ref d q off)=wr.contains d:=rfl
@[go_sem] theorem JGf(d q i off:Nat):JgV wr (.eref d q i off)=wr.contains d:=rfl
@[go_sem] theorem JGH(d q:Nat):vOk bad (.mref d q)=!bad.contains d:=rfl
@[go_sem] theorem JGG(a b:List AV):vOk bad (.mp a b)=true:=rfl
@[go_sem] theorem JGM(d q n:Nat):vOk bad (.os d q n)=!bad.contains d:=rfl
@[go_sem] theorem JGO(d q n:Nat):vOk bad (.ref d q n)=!bad.contains d:=rfl
@[go_sem] theorem JGE(d q i n:Nat):vOk bad (.eref d q i n)=!bad.contains d:=rfl
@[go_sem] theorem JGB(cs:List AV):vOk bad (.agg cs)=vOk.vOkL bad cs:=rfl
@[go_sem] theorem JGS(cs:List AV):vOk bad (.tup cs)=vOk.vOkL bad cs:=rfl
@[go_sem] theorem JGD(fn:Fn)(a b:List AV):vOk bad (.clo fn a b)=(vOk.vOkL bad a && vOk.vOkL bad b):=rfl
@[go_sem] theorem JGF(k:IntKind)(n:Int):vOk bad (.int k n)=true:=rfl
@[go_sem] theorem JGC(b:Bool):vOk bad (.bool b)=true:=rfl
@[go_sem] theorem JGR(s:List UInt8):vOk bad (.str s)=true:=rfl
@[go_sem] theorem JGQ(c:Bool)(xs:List AV):vOk bad (.slice c xs)=true:=rfl
@[go_sem] theorem JGP(xs:List AV):vOk bad (.ro xs)=true:=rfl
@[go_sem] theorem JGL:vOk bad .nilp=true:=rfl
@[go_sem] theorem JGJ:vOk bad .nilf=true:=rfl
@[go_sem] theorem JGK:vOk bad .nilm=true:=rfl
@[go_sem] theorem JGI:vOk bad .niface=true:=rfl
@[go_sem] theorem JGA:vOk.vOkL bad []=true:=rfl
@[go_sem] theorem JGz(x:AV)(xs:List AV):vOk.vOkL bad (x :: xs)=(vOk bad x && vOk.vOkL bad xs):=rfl
@[go_sem] theorem Jvj(R:TS→Prop):Vl R .normal ts=R ts:=rfl
@[go_sem] theorem Jvk(R:TS→Prop):Vl R .ret ts=R ts:=rfl
@[go_sem] theorem JrI(rs:List ResultVar)(z:AV):V3 T rs (.val z) ts=Ji (ts.result T rs) fun x=>Ji (x.res ts) fun y=>y.nrm=z:=rfl
@[go_sem] theorem JrH(rs:List ResultVar)(sz:Nat)(zs:List AV):V3 T rs (.own sz zs) ts=(Jck ts rs=true∧Ji (ts.result T rs) fun x=>Jdc ts x sz zs):=rfl
@[go_sem] theorem JAG(t:Nat):Jck ts [.tmp t]=true:=rfl
@[go_sem] theorem JAF(a t:Nat):Jck ts [.cell a t]=(match ts.tmp a with|.ref ..=>true|_=>false):=rfl
@[go_sem] theorem JCj(d q len sz:Nat)(zs:List AV):Jdc ts (.os d q len) sz zs=(q=ts.gen d∧Ji (ts.obj d).arr? fun q=>q.1=sz∧len≤q.2.length∧AV.pure.pureL (q.2.take len)=true∧AV.nrm.nrmL (q.2.take len)=zs):=rfl
@[go_sem] theorem JCi(sz:Nat)(zs:List AV):Jdc ts (.slice true []) sz zs=(0<sz∧[]=zs):=rfl
@[go_sem] theorem JEt(x:AV):Ret.flat (.val x)=x.flat:=rfl
@[go_sem] theorem JEs(sz:Nat)(xs:List AV):Ret.flat (.own sz xs)=AV.flat.flatL xs:=rfl
end
section
variable (d g H:Nat)
@[go_sem] theorem JDR:AV.renM.renML d g H []=[]:=rfl
@[go_sem] theorem JDO(x:AV)(r:List AV):AV.renM.renML d g H (x :: r)=x.renM d g H :: AV.renM.renML d g H r:=rfl
@[go_sem] theorem JDS(cs:List AV):(AV.agg cs).renM d g H=.agg (AV.renM.renML d g H cs):=rfl
@[go_sem] theorem JDZ(cs:List AV):(AV.ro cs).renM d g H=.ro (AV.renM.renML d g H cs):=rfl
@[go_sem] theorem JD0(c:Bool)(cs:List AV):(AV.slice c cs).renM d g H=.slice c (AV.renM.renML d g H cs):=rfl
@[go_sem] theorem JDV(fn:Fn)(a b:List AV):(AV.clo fn a b).renM d g H=.clo fn (AV.renM.renML d g H a) (AV.renM.renML d g H b):=rfl
@[go_sem] theorem JDX(a b:List AV):(AV.mp a b).renM d g H=.mp (AV.renM.renML d g H a) (AV.renM.renML d g H b):=rfl
@[go_sem] theorem JDY(e q:Nat):(AV.mref e q).renM d g H=if e=d∧q=g then .mref H 0 else .mref e q:=rfl
@[go_sem] theorem JDW(k:IntKind)(n:Int):(AV.int k n).renM d g H=.int k n:=rfl
@[go_sem] theorem JDU(b:Bool):(AV.bool b).renM d g H=.bool b:=rfl
@[go_sem] theorem JD1(s:List UInt8):(AV.str s).renM d g H=.str s:=rfl
@[go_sem] theorem JDT:AV.any.renM d g H=.any:=rfl
@[go_sem] theorem JCT:AV.pureH.pureHL d g []=true:=rfl
@[go_sem] theorem JCQ(x:AV)(r:List AV):AV.pureH.pureHL d g (x :: r)=(x.pureH d g && AV.pureH.pureHL d g r):=rfl
@[go_sem] theorem JCU(cs:List AV):(AV.agg cs).pureH d g=AV.pureH.pureHL d g cs:=rfl
@[go_sem] theorem JC1(cs:List AV):(AV.ro cs).pureH d g=AV.pureH.pureHL d g cs:=rfl
@[go_sem] theorem JC2(c:Bool)(cs:List AV):(AV.slice c cs).pureH d g=AV.pureH.pureHL d g cs:=rfl
@[go_sem] theorem JCX(fn:Fn)(a b:List AV):(AV.clo fn a b).pureH d g=(AV.pureH.pureHL d g a && AV.pureH.pureHL d g b):=rfl
@[go_sem] theorem JCZ(a b:List AV):(AV.mp a b).pureH d g=(AV.pureH.pureHL d g a && AV.pureH.pureHL d g b):=rfl
@[go_sem] theorem JC0(e q:Nat):(AV.mref e q).pureH d g=(e == d && q == g):=rfl
@[go_sem] theorem JCY(k:IntKind)(n:Int):(AV.int k n).pureH d g=true:=rfl
@[go_sem] theorem JCW(b:Bool):(AV.bool b).pureH d g=true:=rfl
@[go_sem] theorem JC3(s:List UInt8):(AV.str s).pureH d g=true:=rfl
@[go_sem] theorem JCV:AV.any.pureH d g=true:=rfl
mutual
theorem JeK:∀x:AV,x.pure=true→x.renM d g H=x
 | .agg cs,h=>by simp only[AV.pure] at h;simp only[AV.renM,Zb cs h]
 | .tup cs,h=>by simp only[AV.pure] at h;simp only[AV.renM,Zb cs h]
 | .slice _ cs,h=>by simp only[AV.pure] at h;simp only[AV.renM,Zb cs h]
 | .ro cs,h=>by simp only[AV.pure] at h;simp only[AV.renM,Zb cs h]
 | .clo _ a b,h=>by simp only[AV.pure,Bool.and_eq_true] at h;simp only[AV.renM,Zb a h.1,Zb b h.2]
 | .mp a b,h=>by simp only[AV.pure,Bool.and_eq_true] at h;simp only[AV.renM,Zb a h.1,Zb b h.2]
 | .iface _ x,h=>by simp only[AV.pure] at h;simp only[AV.renM,JeK x h]
 | .mref _ _,h=>by simp[AV.pure] at h
 | .any,_|.bool _,_|.int _ _,_|.str _,_|.nilp,_|.nilf,_|.nilm,_|.niface,_|.ref _ _ _,_|.eref _ _ _ _,_|.ot _ _ _ _,_|.os _ _ _,_=>rfl
theorem Zb:∀l:List AV,AV.pure.pureL l=true→AV.renM.renML d g H l=l
 | [],_=>rfl
 |x :: r,h=>by
  simp only[AV.pure.pureL,Bool.and_eq_true] at h
  simp only[AV.renM.renML,JeK x h.1,Zb r h.2]
end
mutual
theorem JeD:∀x:AV,x.pure=true→x.pureH d g=true
 | .agg cs,h=>by simp only[AV.pure] at h;simp only[AV.pureH,Za cs h]
 | .tup cs,h=>by simp only[AV.pure] at h;simp only[AV.pureH,Za cs h]
 | .slice _ cs,h=>by simp only[AV.pure] at h;simp only[AV.pureH,Za cs h]
 | .ro cs,h=>by simp only[AV.pure] at h;simp only[AV.pureH,Za cs h]
 | .clo _ a b,h=>by simp only[AV.pure,Bool.and_eq_true] at h;simp only[AV.pureH,Za a h.1,Za b h.2,Bool.and_self]
 | .mp a b,h=>by simp only[AV.pure,Bool.and_eq_true] at h;simp only[AV.pureH,Za a h.1,Za b h.2,Bool.and_self]
 | .iface _ x,h=>by simp only[AV.pure] at h;simp only[AV.pureH,JeD x h]
 | .mref _ _,h|.ref _ _ _,h|.eref _ _ _ _,h|.ot _ _ _ _,h|.os _ _ _,h=>by simp[AV.pure] at h
 | .any,_|.bool _,_|.int _ _,_|.str _,_|.nilp,_|.nilf,_|.nilm,_|.niface,_=>rfl
theorem Za:∀l:List AV,AV.pure.pureL l=true→AV.pureH.pureHL d g l=true
 | [],_=>rfl
 |x :: r,h=>by
  simp only[AV.pure.pureL,Bool.and_eq_true] at h
  simp only[AV.pureH.pureHL,JeD x h.1,Za r h.2,Bool.and_self]
end
@[go_sem] theorem JDN{α:Type} [Dat α](l:List α):AV.renM.renML d g H (Ja l)=Ja l:=Zb d g H _ (Jaa l)
@[go_sem] theorem JCP{α:Type} [Dat α](l:List α):AV.pureH.pureHL d g (Ja l)=true:=Za d g _ (Jaa l)
variable {P:Program} (T:Tys P) (ts:TS)
@[go_sem] theorem JrF(rs:List ResultVar)(x:AV)(ks vs:List AV):EndH T rs H x ks vs ts=(Ji (ts.result T rs) (fun y=>y=x)∧x.pure=true∧ts.gen H=0∧ts.obj H=.mp ks vs∧AV.pure.pureL ks=true∧AV.pure.pureL vs=true):=by
 have e:EndH.optK0 (ts.result T rs) (fun y=>y=x)=Ji (ts.result T rs) (fun y=>y=x):=by
  unfold EndH.optK0 Ji
  cases ts.result T rs<;>simp
 unfold EndH;rw[e]
end
@[go_sem] theorem JFC{α:Type}(l:List α)(i:Nat)(x:α):(l.set i x).take l.length=l.set i x:=List.take_of_length_le (by simp)
theorem Jnv{xs:List AV}{off len:Nat}{z:AV}(h:off+len≤xs.length):(VU xs off len z).length=xs.length:=by
 simp only[VU,List.length_append,List.length_take,List.length_replicate,List.length_drop];omega
@[go_sem] theorem Jvd(xs:List AV)(off len:Nat)(z:AV)(h:off≤xs.length):(VU xs off len z).take off=xs.take off:=by
 simp only[VU,List.append_assoc]
 rw[List.take_append_of_le_length (by rw[List.length_take];omega),List.take_take,Nat.min_self]
@[go_sem] theorem Jvc(xs:List AV)(off len n:Nat)(z:AV)(h:off+len≤xs.length):(n≤(VU xs off len z).length)=(n≤xs.length):=by rw[Jnv h]
mutual
theorem Jjr:∀x:AV,x.pure=true→x.owns=[]
 | .agg cs,h=>by simp only[AV.pure] at h;simp only[AV.owns];exact Jgk cs h
 | .tup cs,h=>by simp only[AV.pure] at h;simp only[AV.owns];exact Jgk cs h
 | .os _ _ _,h=>by simp[AV.pure] at h
 | .mref _ _,h=>by simp[AV.pure] at h
 | .mp _ _,_=>rfl
 | .any,_|.bool _,_|.int _ _,_|.str _,_|.slice _ _,_|.ro _,_|.nilp,_|.clo _ _ _,_|.nilf,_|.nilm,_|.niface,_|.iface _ _,_|.ref _ _ _,_|.eref _ _ _ _,_|.ot _ _ _ _,_=>rfl
theorem Jgk:∀l:List AV,AV.pure.pureL l=true→AV.owns.ownsL l=[]
 | [],_=>rfl
 |x :: r,h=>by
  simp only[AV.pure.pureL,Bool.and_eq_true] at h
  simp only[AV.owns.ownsL,Jjr x h.1,Jgk r h.2,List.append_nil]
end
structure Caps(caps:List AV):Prop where
 pure:AV.pure.pureL caps=true
 nrm:AV.nrm.nrmL caps=caps
theorem Caps.args{caps:List AV}(h:Caps caps)(ts:TS):ts.toArgs caps=some (caps,[]):=by
 obtain⟨h1,h2⟩:=h
 induction caps with
 |nil=>rfl
 |cons x r ih =>
  simp only[AV.pure.pureL,Bool.and_eq_true] at h1
  simp only[AV.nrm.nrmL,List.cons.injEq] at h2
  simp only[TS.toArgs,JjU ts x h1.1,ih h1.2 h2.2,h2.1,Jjr x h1.1,List.append_nil]
theorem Caps.nil:Caps []:=⟨rfl,rfl⟩
attribute [go_sem] Jrf Jrg Jrd Jre Jor Jos JiG Joq
attribute [go_sem] AV.bool.injEq AV.int.injEq AV.str.injEq AV.agg.injEq AV.tup.injEq AV.slice.injEq List.cons.injEq
attribute [go_sem] Nat.lt_add_one true_and and_true ne_eq not_false_eq_true not_true_eq_false and_self List.map_cons List.map_nil List.length_cons List.length_nil List.drop_zero List.drop_succ_cons List.drop_nil List.take_succ_cons List.take_zero List.take_nil
attribute [go_sem] List.getD_cons_zero List.getD_cons_succ List.getElem?_cons_zero List.getElem?_cons_succ List.nil_append List.cons_append List.append_nil List.all_cons List.all_nil Bool.and_self Bool.and_true Bool.true_and Bool.not_true Bool.not_false Bool.and_false Bool.false_and Bool.false_eq_true
attribute [go_sem] Option.map_some Option.isSome_some Option.isSome_none Option.isNone_none Option.isNone_some BEq.rfl beq_self_eq_true List.mem_cons List.not_mem_nil or_false or_self forall_eq_or_imp forall_eq implies_true false_implies Nat.zero_add Nat.add_zero Nat.zero_le Nat.zero_lt_succ Nat.le_refl
attribute [go_sem] List.isEmpty Int.toNat_natCast Int.ofNat_lt Int.ofNat_le Int.natCast_nonneg List.toList_toArray List.take_length Nat.sub_zero List.set_cons_zero List.set_cons_succ Option.some.injEq forall_eq' List.range List.range.loop List.set_nil List.length_set List.length_map List.contains_cons List.contains_nil
attribute [go_sem] List.length_drop List.length_append List.getElem_set_self
theorem JnA(p:Prop) [Decidable p]:(decide p=true)=(p=True):=by simp
theorem Jnz(p:Prop) [Decidable p]:(decide p=false)=(p=False):=by simp
@[go_sem] theorem JFD{α:Type}(l:List α)(x:α):(l++[x]).take (l.length+1)=l++[x]:=List.take_of_length_le (by simp)
attribute [go_sem] Bool.or_false Bool.false_or Bool.or_true Bool.true_or decide_true decide_false true_or or_true
end Go.Proofs.YthjalhfmpffbjaaGreatDoor.Lg
