/- Parts of the proof, one behind the other. -/
import Derived.Test.YthjalhfmpffbjaaGreatDoorG25
set_option linter.unusedVariables false
set_option linter.unusedSimpArgs false
set_option maxRecDepth 100000
set_option maxHeartbeats 64000000
namespace Go.Proofs.YthjalhfmpffbjaaGreatDoor.Lg
open Go
variable {P:Program}
theorem Rel.nrmBox{E:Env}{ts:TS}{G:Ghost}{a:Act}{w:World}(h:Rel E ts G a w){d:Nat}{cs:List AV}(ho:ts.obj d=.box cs):Rel E (ts.setObj d (.box (AV.nrm.nrmL cs))) G a w:=by
 have hkind:(fun e=>((ts.setObj d (.box (AV.nrm.nrmL cs))).obj e).kind)=fun e=>(ts.obj e).kind:=by
  funext e
  simp only[TS.setObj]
  by_cases he:e=d
  ·subst he;rw[Vc,ho];rfl
  ·rw[Vo _ _ he]
 have hlive:∀e,Jj (ts.setObj d (.box (AV.nrm.nrmL cs))) G e↔Jj ts G e:=fun e=>by
  unfold Jj
  rw[congrFun hkind e]
 have hctx:Jb E G (ts.setObj d (.box (AV.nrm.nrmL cs))) w=Jb E G ts w:=by
  unfold Jb
  have e1:(fun b=>E.F b∨∃e,Jj (ts.setObj d (.box (AV.nrm.nrmL cs))) G e∧G.β e=b)=fun b=>E.F b∨∃e,Jj ts G e∧G.β e=b:=by
   funext b
   simp only[hlive]
  rw[e1,hkind]
  rfl
 refine⟨h.size,h.defers,fun t=>by rw[hctx];exact h.tmp t,fun e=>?_,fun e e' h1 h2 h3=>h.sep e e' ((hlive e).1 h1) ((hlive e').1 h2) h3,fun e h1=>h.own e ((hlive e).1 h1),h.inF,h.bel,h.pin⟩
 rw[hctx]
 by_cases he:e=d
 ·subst he
  have:=h.obj e
  rw[ho] at this
  show ObOk _ e (Jp ts.obj e _ e)
  rw[Vc]
  obtain⟨h1,vs,T,h2,h3,h4⟩:=this
  refine⟨h1,vs,T,h2,by rw[Yb];exact h3,fun i=>?_⟩
  rw[Y6]
  exact(h4 i).nrm
 ·show ObOk _ e (Jp ts.obj d _ e)
  rw[Vo _ _ he]
  exact h.obj e
def Jer(o:Ob)(ts:TS)(d:Nat):TS :=
 match o with
 | .box cs=>ts.setObj d (.box (AV.nrm.nrmL cs))
 |_=>ts
def TS.nrmB(ts:TS)(d:Nat):TS:=Jer (ts.obj d) ts d
@[go_sem] theorem JAf(ts:TS)(d:Nat):ts.nrmB d=Jer (ts.obj d) ts d:=rfl
@[go_sem] theorem JAe(cs:List AV)(ts:TS)(d:Nat):Jer (.box cs) ts d=ts.setObj d (.box (AV.nrm.nrmL cs)):=rfl
theorem Ent.nrmB(ts:TS)(d:Nat):Ent ts (ts.nrmB d):=fun E G a w hr=>by
 unfold TS.nrmB Jer
 split
 ·rename_i cs ho;exact⟨G,hr.nrmBox ho⟩
 ·exact⟨G,hr⟩
def JbF(T:Tys P)(rs:List ResultVar)(x:AV)(cs:List AV)(ts:TS):Prop:=(Ji (ts.result T rs) fun y=>Ji (y.res ts) fun z=>z=x)∧ZX 0 cs ts
@[go_sem] theorem JrG{T:Tys P}(rs:List ResultVar)(x:AV)(cs:List AV)(ts:TS):JbF T rs x cs ts=((Ji (ts.result T rs) fun y=>Ji (y.res ts) fun z=>z=x)∧ZX 0 cs ts):=rfl
section go
variable {f:FuncId} {fn:Func} {c:Code} {rs:List ResultVar} {x:AV} {cs cs':List AV} (hcall:∀(vals:Array Value) (w:World),(callFunc f vals).run P w=.ok (.enter f vals) w)
  (hf:P.funcs[f]?=some fn) (hb:fn.body=some c) {n:Nat} (hnt:fn.ntmps=n)
include hcall hf hb hnt
theorem CallI.goR(T:Tys P)(hrs:fn.results.toList=rs)(args:List AV)(hn:args.length+1≤n)(h:∀ts:TS,ts.n=n→Jak ts 0 (.io cs :: args.map Arg.v)→SpecC P c ts (Vl (JbF T rs x cs'))) :
  CallI P f cs args x cs':=by
 subst hnt
 refine CallV.of_body (T:=T) hcall hf hb (by simpa using hn) ?_
 refine(h (Jk (.io cs :: args.map Arg.v) fn.ntmps) rfl (Z1 _ _ _ 0 fun i=>by simp)).mono fun ex ts' hq=>?_
 have key:JbF T rs x cs' ts'→ex=.normal∨ex=.ret→JcC T fn (.io cs :: args.map Arg.v) (fun r' io=>r'=.val x∧io 0=cs') ex ts':=fun⟨h1,h2⟩ hex=>by
  obtain⟨y,h3,h4⟩:=Jv h1
  obtain⟨z,h5,rfl⟩:=Jv h4
  refine⟨hex,y,z,fun _=>cs',by rw[hrs];exact h3,h5,⟨rfl,rfl⟩,fun j q hj=>?_⟩
  cases j with
  |zero=>exact h2
  |succ j=>rw[List.getElem?_cons_succ] at hj;exact absurd hj Jfy
 cases ex<;>first|exact hq.elim|skip
 ·exact .inl (key hq (.inl rfl))
 ·exact .inl (key hq (.inr rfl))
theorem CallI.goR0(T:Tys P)(hrs:fn.results.toList=rs)(hn:1≤n)(h:∀ts:TS,ts.n=n→ts.tmp 0=.ref 0 0 0→ts.gen 0=0→ts.obj 0=.box cs→SpecC P c ts (Vl (JbF T rs x cs'))):CallI P f cs [] x cs' :=
 CallI.goR hcall hf hb hnt T hrs [] hn fun ts h1 ha=>h ts h1 ha.1.1 ha.1.2.1 ha.1.2.2
theorem CallI.goR1(T:Tys P)(hrs:fn.results.toList=rs){a:AV}(hn:2≤n)(h:∀ts:TS,ts.n=n→ts.tmp 0=.ref 0 0 0→ts.gen 0=0→ts.obj 0=.box cs→ts.tmp 1=a→SpecC P c ts (Vl (JbF T rs x cs'))):CallI P f cs [a] x cs' :=
 CallI.goR hcall hf hb hnt T hrs [a] hn fun ts h1 ha=>h ts h1 ha.1.1 ha.1.2.1 ha.1.2.2 ha.2.1
theorem CallI.goR2(T:Tys P)(hrs:fn.results.toList=rs){a b:AV}(hn:3≤n)(h:∀ts:TS,ts.n=n→ts.tmp 0=.ref 0 0 0→ts.gen 0=0→ts.obj 0=.box cs→ts.tmp 1=a→ts.tmp 2=b→SpecC P c ts (Vl (JbF T rs x cs'))):CallI P f cs [a,b] x cs' :=
 CallI.goR hcall hf hb hnt T hrs [a,b] hn fun ts h1 ha=>h ts h1 ha.1.1 ha.1.2.1 ha.1.2.2 ha.2.1 ha.2.2.1
end go
end Go.Proofs.YthjalhfmpffbjaaGreatDoor.Lg
