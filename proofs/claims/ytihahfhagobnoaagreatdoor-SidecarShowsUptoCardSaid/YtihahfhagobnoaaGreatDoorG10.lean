/- Parts of the proof, one behind the other. -/
import Derived.Test.YtihahfhagobnoaaGreatDoorG09
namespace Go.Proofs.YtihahfhagobnoaaGreatDoor.Lg
set_option maxRecDepth 100000
set_option linter.unusedVariables false
set_option linter.unusedSimpArgs false
open Go
set_option linter.unusedSectionVars false
section
variable {α β:Type}
def Js [Dat α](M:List (α×β)):List AV:=Ja (M.map Prod.fst)
def Jy [Dat β](M:List (α×β)):List AV:=Ja (M.map Prod.snd)
def JJ [DecidableEq α](x:α)(M:List (α×β)):Option Nat:=(M.map Prod.fst).findIdx? fun y=>decide (x=y)
def JB [DecidableEq α](M:List (α×β))(x:α):Option β:=(M.find? fun p=>decide (x=p.1)).map Prod.snd
def JV [DecidableEq α](M:List (α×β))(x:α)(v:β):List (α×β) :=
 match JJ x M with
 |some i=>M.set i (x,v)
 |none=>M++[(x,v)]
section
variable [Dat α] [Dat β] (M:List (α×β))
@[go_sem] theorem JGf:AV.pure.pureL (Js M)=true:=Jah _
@[go_sem] theorem JGg:AV.pure.pureL (Jy M)=true:=Jah _
@[go_sem] theorem JDs:AV.nrm.nrmL (Js M)=Js M:=JfQ _
@[go_sem] theorem JDt:AV.nrm.nrmL (Jy M)=Jy M:=JfQ _
@[go_sem] theorem JBp:(Js M).length=M.length:=by simp[Js,Ja]
@[go_sem] theorem JBq:(Jy M).length=M.length:=by simp[Jy,Ja]
@[go_sem] theorem JDc:Js ([]:List (α×β))=[]:=rfl
@[go_sem] theorem JDe:Jy ([]:List (α×β))=[]:=rfl
@[go_sem] theorem JGZ(d g H:Nat):AV.renM.renML d g H (Js M)=Js M:=Y7 d g H _ (Jah _)
@[go_sem] theorem JG0(d g H:Nat):AV.renM.renML d g H (Jy M)=Jy M:=Y7 d g H _ (Jah _)
@[go_sem] theorem JF1(d g:Nat):AV.pureH.pureHL d g (Js M)=true:=Y6 d g _ (Jah _)
@[go_sem] theorem JF2(d g:Nat):AV.pureH.pureHL d g (Jy M)=true:=Y6 d g _ (Jah _)
@[go_sem] theorem JwC(n:Nat)(h:Dat.sz α=n):(∀y∈Js M,y.cells.length=n)↔True :=
 iff_true_intro fun y hy=>by
  obtain⟨x,_,rfl⟩:=List.mem_map.1 hy
  rw[←h];exact Dat.len x
end
section
variable [DecidableEq α]
theorem Jif{x:α}{M:List (α×β)}{i:Nat}(h:JJ x M=some i):∃h:i<M.length,(M[i]).1=x:=by
 unfold JJ at h
 rw[List.findIdx?_eq_some_iff_getElem] at h
 obtain⟨h1,h2,_⟩:=h
 have h1':i<M.length:=by simpa using h1
 exact⟨h1',by simpa using(of_decide_eq_true h2).symm⟩
theorem JcP{x:α}:∀ {M:List (α×β)} {i:Nat},JJ x M=some i→∃h:i<M.length,JB M x=some (M[i]).2
 | [],i,h=>by simp[JJ] at h
 |p :: M,i,h=>by
  by_cases hp:x=p.1
  ·have:i=0:=by simpa[JJ,List.findIdx?_cons,hp] using h.symm
   subst this
   exact⟨by simp,by simp[JB,List.find?_cons,hp]⟩
  ·have h':∃j,JJ x M=some j∧i=j+1:=by
    simp only[JJ,List.map_cons,List.findIdx?_cons,decide_eq_true_eq,hp,decide_false,Bool.false_eq_true,if_false,Option.map_eq_some_iff] at h
    obtain⟨j,h1,h2⟩:=h
    exact⟨j,h1,h2.symm⟩
   obtain⟨j,h1,rfl⟩:=h'
   obtain⟨h2,h3⟩:=JcP h1
   exact⟨by simp;omega,by simpa[JB,List.find?_cons,hp] using h3⟩
theorem JbW{x:α}{M:List (α×β)}(h:JJ x M=none):JB M x=none:=by
 unfold JJ at h
 rw[List.findIdx?_eq_none_iff] at h
 unfold JB
 rw[Option.map_eq_none_iff,List.find?_eq_none]
 intro p hp
 have:=h p.1 (List.mem_map_of_mem hp)
 simpa using this
@[go_sem] theorem Jzj(x:α)(M:List (α×β)):(JJ x M).isSome=(JB M x).isSome:=by
 cases h:JJ x M with
 |none=>rw[JbW h];rfl
 |some i=>obtain⟨_,h2⟩:=JcP h;rw[h2];rfl
theorem ixOf_none_iff{x:α}{M:List (α×β)}:JJ x M=none↔∀p∈M,p.1≠x:=by
 unfold JJ
 rw[List.findIdx?_eq_none_iff]
 constructor
 ·intro h p hp e;have:=h p.1 (List.mem_map_of_mem hp);simp[e] at this
 ·intro h y hy
  obtain⟨p,hp,rfl⟩:=List.mem_map.1 hy
  have:=h p hp
  simpa using fun e=>this e.symm
theorem mget_none_iff{x:α}{M:List (α×β)}:JB M x=none↔∀p∈M,p.1≠x:=by
 unfold JB
 rw[Option.map_eq_none_iff,List.find?_eq_none]
 constructor
 ·intro h p hp e;have:=h p hp;simp[e] at this
 ·intro h p hp;have:=h p hp;simpa using fun e=>this e.symm
theorem Jmo{x:α}{M:List (α×β)}(h:JB M x=none):JJ x M=none:=ixOf_none_iff.2 (mget_none_iff.1 h)
theorem Jmw{x:α}{M:List (α×β)}(v:β)(h:JB M x=none):JV M x v=M++[(x,v)]:=by
 unfold JV;rw[Jmo h]
theorem Jmn(M N:List (α×β))(x:α):JB (M++N) x=(JB M x).or (JB N x):=by
 unfold JB
 rw[List.find?_append]
 cases List.find? (fun p=>decide (x=p.1)) M<;>rfl
theorem JfK(p:α×β)(M:List (α×β))(x:α):JB (p :: M) x=if x=p.1 then some p.2 else JB M x:=by
 unfold JB
 rw[List.find?_cons]
 by_cases h:x=p.1<;>simp[h]
@[simp] theorem Jmq(x:α):JB ([]:List (α×β)) x=none:=rfl
theorem Jiw:∀(M:List (α×β)) (i:Nat) (x y:α) (v:β),(h:i<M.length)→(M[i]).1=x→JB (M.set i (x,v)) y=if y=x∧JJ x M=some i then some v else JB M y
 | [],i,x,y,v,h,_=>by simp at h
 |p :: M,0,x,y,v,h,he=>by
  simp only[List.getElem_cons_zero] at he
  subst he
  simp only[List.set_cons_zero,JfK]
  have:JJ p.1 (p :: M)=some 0:=by simp[JJ,List.findIdx?_cons]
  by_cases hy:y=p.1<;>simp[hy,this]
 |p :: M,i+1,x,y,v,h,he=>by
  simp only[List.getElem_cons_succ] at he
  have h':i<M.length:=by simpa using h
  have ih:=Jiw M i x y v h' he
  simp only[List.set_cons_succ,JfK]
  by_cases hp:y=p.1
  ·simp only[hp,if_true]
   by_cases hx:p.1=x
   ·have:JJ x (p :: M)=some 0:=by simp[JJ,List.findIdx?_cons,hx]
    simp[this]
   ·simp[hx]
  ·simp only[hp,if_false,ih]
   have e:JJ x (p :: M)=some (i+1)↔(x≠p.1∧JJ x M=some i):=by
    unfold JJ
    simp only[List.map_cons,List.findIdx?_cons,decide_eq_true_eq]
    by_cases hx:x=p.1<;>simp[hx]
   by_cases hyx:y=x
   ·subst hyx;simp[e,hp]
   ·simp[hyx]
theorem Jiv(M:List (α×β))(x y:α)(v:β):JB (JV M x v) y=if y=x then some v else JB M y:=by
 unfold JV
 cases h:JJ x M with
 |none =>
  simp only[Jmn,JfK,Jmq]
  by_cases hy:y=x
  ·subst hy;rw[JbW h];simp
  ·simp[hy]
 |some i =>
  obtain⟨h1,h2⟩:=Jif h
  simp only[Jiw M i x y v h1 h2,h,and_true]
theorem Jjh [Dat α](M:List (α×β))(x:α)(v:β):J5 (Js M) (Dat.av x) (JJ x M)=Js (JV M x v):=by
 unfold JV
 cases h:JJ x M with
 |none=>simp[J5,Js,Ja]
 |some i=>simp[J5,Js,Ja,List.map_set]
theorem Jng [Dat β](M:List (α×β))(x:α)(v:β):J5 (Jy M) (Dat.av v) (JJ x M)=Jy (JV M x v):=by
 unfold JV
 cases h:JJ x M with
 |none=>simp[J5,Jy,Ja]
 |some i=>simp[J5,Jy,Ja,List.map_set]
theorem Jmh [Dat β](M:List (α×β))(x:α)(z:β):YO false (Dat.av z) (Jy M) (JJ x M)=Dat.av ((JB M x).getD z):=by
 cases h:JJ x M with
 |none=>rw[JbW h];rfl
 |some i =>
  obtain⟨h1,h2⟩:=JcP h
  rw[h2]
  show(Jy M).getD i .any=_
  unfold Jy
  rw[JgX _ i (by simpa using h1)]
  simp
theorem JhJ [Dat α]{P:Program}{T:Tys P}{kt:Nat}{x:α}(hq:∀y:α,J3 T kt (Dat.av x) (Dat.av y)=some (decide (x=y)))(M:List (α×β)):J8 T kt (Dat.av x) (Js M) 0=some (JJ x M):=by
 have:∀(l:List α) (i:Nat),J8 T kt (Dat.av x) (Ja l) i=some ((l.findIdx? fun y=>decide (x=y)).map (·+i)):=by
  intro l
  induction l with
  |nil=>intro i;rfl
  |cons y l ih =>
   intro i
   rw[Yx]
   simp only[J8,hq]
   by_cases h:x=y
   ·simp[h,List.findIdx?_cons]
   ·simp only[h,decide_false,ih,List.findIdx?_cons,Option.some.injEq,Bool.false_eq_true,if_false,Option.map_map]
    congr 1
    funext j
    simp;omega
 have e:=this (M.map Prod.fst) 0
 unfold Js JJ
 rw[e]
 cases (M.map Prod.fst).findIdx? (fun y=>decide (x=y))<;>simp
end
end
theorem Jl9(a:Int)(b:List UInt8)(y:Key):J3 T 90 (.agg [.int .i64 a,.str b]) (Dat.av y)=some (decide ((⟨a,b⟩:Key)=y)):=by
 rw[Jfb]
 simp only[go_sem,List.getD_cons_zero,List.getD_cons_succ,Bool.and_true,↓reduceIte,String.reduceEq]
 congr 1
 rw[Bool.eq_iff_iff]
 simp[Jax]
@[go_sem] theorem Jyd{β:Type}(a:Int)(b:List UInt8)(M:List (Key×β)):J8 T 90 (.agg [.int .i64 a,.str b]) (Js M) 0=some (JJ ⟨a,b⟩ M):=JhJ (x:=(⟨a,b⟩:Key)) (fun y=>Jl9 a b y) M
@[go_sem] theorem Jyc{β:Type}(a:Int)(M:List (Int×β)):J8 T 3 (.int .i64 a) (Js M) 0=some (JJ a M):=JhJ (x:=a) (fun y=>by rw[Jfc];simp only[go_sem]) M
section
variable {α:Type} [DecidableEq α]
@[go_sem] theorem JCZ(M:List (α×Bool))(x:α):YO false (.bool false) (Jy M) (JJ x M)=.bool ((JB M x).getD false):=Jmh M x false
@[go_sem] theorem JGu(M:List (α×Bool))(x:α)(b:Bool):J5 (Jy M) (.bool b) (JJ x M)=Jy (JV M x b):=Jng M x b
@[go_sem] theorem JGz(M:List (Key×Bool))(a:Int)(b:List UInt8):J5 (Js M) (.agg [.int .i64 a,.str b]) (JJ ⟨a,b⟩ M)=Js (JV M ⟨a,b⟩ true):=Jjh M (⟨a,b⟩:Key) true
@[go_sem] theorem JGx(M:List (Int×Bool))(a:Int):J5 (Js M) (.int .i64 a) (JJ a M)=Js (JV M a true):=Jjh M a true
end
end Go.Proofs.YtihahfhagobnoaaGreatDoor.Lg
