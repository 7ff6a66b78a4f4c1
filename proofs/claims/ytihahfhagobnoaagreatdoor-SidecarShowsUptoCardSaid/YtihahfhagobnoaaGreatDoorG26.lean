/- Parts of the proof, one behind the other. -/
import Derived.Test.YtihahfhagobnoaaGreatDoorG25
namespace Go.Proofs.YtihahfhagobnoaaGreatDoor.Lg
set_option maxRecDepth 100000
set_option linter.unusedVariables false
set_option linter.unusedSimpArgs false
open Go
variable {P:Program} {T:Tys P} {ts:TS} {dst:Option Nat} {K:TS→Prop}
def Jfh(b:Prop)(kd:TyK)(v:AV)(ts:TS)(dst:Option Nat)(K:TS→Prop):Prop :=
 match kd,v with
 | .int k',.int _ n=>b∧Je ts dst (.int k' (k'.wrap n)) K
 |_,_=>False
def Jgq(a b:AV)(ts:TS)(dst:Option Nat)(K:TS→Prop):Prop :=
 match a,b with
 | .int k x,.int _ y=>(0≤y∧y≤k.bits)∧Je ts dst (.int k (x / 2 ^ y.toNat)) K
 |_,_=>False
@[go_sem] theorem JwW(b:Prop)(k' k:IntKind)(n:Int):Jfh b (.int k') (.int k n) ts dst K=(b∧Je ts dst (.int k' (k'.wrap n)) K):=rfl
@[go_sem] theorem JH8(k q:IntKind)(x y:Int):Jgq (.int k x) (.int q y) ts dst K=((0≤y∧y≤k.bits)∧Je ts dst (.int k (x / 2 ^ y.toNat)) K):=rfl
theorem SpecO.conv(T:Tys P){o:Oper}{s d:TypeId}{x:Operand}(ho:o.op=.convert s d x)(h:Jfh ((T.ty s).k≠.unk) (T.ty d).k (ts.ev x) ts o.dst K):SpecO P o ts K:=by
 unfold Jfh at h
 split at h
 ·rename_i k' k n e1 e2
  refine SpecO.val h.2 fun E G a w hr=>?_
  have hv:=hr.ev x
  rw[e2] at hv
  obtain⟨_,_,_,_,_,ds,hs,_⟩:=Tys.get h.1
  obtain⟨_,_,_,_,_,dd,h1,h2⟩:=Tys.get (T:=T) (t:=d) (by rw[e1];simp)
  rw[e1] at h2
  cases dd<;>simp[Vz] at h2
  subst h2
  rename_i q
  exact⟨.int q (q.wrap n),by simp[execOp,ho,Va hv,convert,run_underlying hs,run_underlying h1,Conv.intToInt],.int _ _⟩
 ·exact h.elim
theorem SpecO.shr{o:Oper}{t u:TypeId}{x y:Operand}(ho:o.op=.binOp .shr t x y u)(h:Jgq (ts.ev x) (ts.ev y) ts o.dst K):SpecO P o ts K:=by
 unfold Jgq at h
 split at h
 ·rename_i k n q m e1 e2
  obtain⟨⟨h0,h1⟩,h2⟩:=h
  refine SpecO.val h2 fun E G a w hr=>?_
  have hx:=hr.ev x
  have hy:=hr.ev y
  rw[e1] at hx
  rw[e2] at hy
  exact⟨.int k (n / 2 ^ m.toNat),by simp[execOp,ho,Va hx,Va hy,eqGuard,binOp,shift_shr _ _ _ _ h0 h1],.int _ _⟩
 ·exact h.elim
@[go_sem] theorem JD7(s d:TypeId)(x:Operand)(ty:TypeId)(pos:String)(after:Array Edge)(g:Option (Nat×Bool)):Jq T ⟨dst,.convert s d x,ty,pos,after,g⟩ ts K=SpecO P ⟨dst,.convert s d x,ty,pos,after,g⟩ ts K:=rfl
end Go.Proofs.YtihahfhagobnoaaGreatDoor.Lg
