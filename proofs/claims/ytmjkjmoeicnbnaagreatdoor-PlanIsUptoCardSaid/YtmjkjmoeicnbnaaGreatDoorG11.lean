/- Parts of the proof, one behind the other. -/
import Derived.Test.YtmjkjmoeicnbnaaGreatDoorG10
namespace Go.Proofs.YtmjkjmoeicnbnaaGreatDoor.Lg
set_option maxRecDepth 100000
set_option linter.unusedVariables false
set_option linter.unusedSimpArgs false
open Go
set_option linter.unusedSectionVars false
section
variable {α β:Type}
def Jo [Dat α](M:List (α×β)):List AV:=Ja (M.map Prod.fst)
def Js [Dat β](M:List (α×β)):List AV:=Ja (M.map Prod.snd)
def JB [DecidableEq α](x:α)(M:List (α×β)):Option Nat:=(M.map Prod.fst).findIdx? fun y=>decide (x=y)
def Jy [DecidableEq α](M:List (α×β))(x:α):Option β:=(M.find? fun p=>decide (x=p.1)).map Prod.snd
def JQ [DecidableEq α](M:List (α×β))(x:α)(v:β):List (α×β) :=
 match JB x M with
 |some i=>M.set i (x,v)
 |none=>M++[(x,v)]
section
variable [Dat α] [Dat β] (M:List (α×β))
@[go_sem] theorem JB4:AV.pure.pureL (Jo M)=true:=Z6 _
@[go_sem] theorem JB5:AV.pure.pureL (Js M)=true:=Z6 _
@[go_sem] theorem Jzi:AV.nrm.nrmL (Jo M)=Jo M:=JeL _
@[go_sem] theorem Jzj:AV.nrm.nrmL (Js M)=Js M:=JeL _
@[go_sem] theorem Jxe:(Jo M).length=M.length:=by simp[Jo,Ja]
@[go_sem] theorem Jxf:(Js M).length=M.length:=by simp[Js,Ja]
@[go_sem] theorem Jy0:Jo ([]:List (α×β))=[]:=rfl
@[go_sem] theorem Jy2:Js ([]:List (α×β))=[]:=rfl
@[go_sem] theorem JCM(d g H:Nat):AV.renM.renML d g H (Jo M)=Jo M:=Y6 d g H _ (Z6 _)
@[go_sem] theorem JCN(d g H:Nat):AV.renM.renML d g H (Js M)=Js M:=Y6 d g H _ (Z6 _)
@[go_sem] theorem JBQ(d g:Nat):AV.pureH.pureHL d g (Jo M)=true:=Y3 d g _ (Z6 _)
@[go_sem] theorem JBR(d g:Nat):AV.pureH.pureHL d g (Js M)=true:=Y3 d g _ (Z6 _)
@[go_sem] theorem Jtf(n:Nat)(h:Dat.sz α=n):(∀y∈Jo M,y.cells.length=n)↔True :=
 iff_true_intro fun y hy=>by
  obtain⟨x,_,rfl⟩:=List.mem_map.1 hy
  rw[←h];exact Dat.len x
end
section
variable [DecidableEq α]
theorem JgJ{x:α}{M:List (α×β)}{i:Nat}(h:JB x M=some i):∃h:i<M.length,(M[i]).1=x:=by
 unfold JB at h
 rw[List.findIdx?_eq_some_iff_getElem] at h
 obtain⟨h1,h2,_⟩:=h
 have h1':i<M.length:=by simpa using h1
 exact⟨h1',by simpa using(of_decide_eq_true h2).symm⟩
theorem Ja0{x:α}:∀ {M:List (α×β)} {i:Nat},JB x M=some i→∃h:i<M.length,Jy M x=some (M[i]).2
 | [],i,h=>by simp[JB] at h
 |p :: M,i,h=>by
  by_cases hp:x=p.1
  ·have:i=0:=by simpa[JB,List.findIdx?_cons,hp] using h.symm
   subst this
   exact⟨by simp,by simp[Jy,List.find?_cons,hp]⟩
  ·have h':∃j,JB x M=some j∧i=j+1:=by
    simp only[JB,List.map_cons,List.findIdx?_cons,decide_eq_true_eq,hp,decide_false,Bool.false_eq_true,if_false,Option.map_eq_some_iff] at h
    obtain⟨j,h1,h2⟩:=h
    exact⟨j,h1,h2.symm⟩
   obtain⟨j,h1,rfl⟩:=h'
   obtain⟨h2,h3⟩:=Ja0 h1
   exact⟨by simp;omega,by simpa[Jy,List.find?_cons,hp] using h3⟩
theorem Ja1{x:α}{M:List (α×β)}(h:JB x M=none):Jy M x=none:=by
 unfold JB at h
 rw[List.findIdx?_eq_none_iff] at h
 unfold Jy
 rw[Option.map_eq_none_iff,List.find?_eq_none]
 intro p hp
 have:=h p.1 (List.mem_map_of_mem hp)
 simpa using this
@[go_sem] theorem Jks(x:α)(M:List (α×β)):(JB x M).isSome=(Jy M x).isSome:=by
 cases h:JB x M with
 |none=>rw[Ja1 h];rfl
 |some i=>obtain⟨_,h2⟩:=Ja0 h;rw[h2];rfl
theorem ixOf_none_iff{x:α}{M:List (α×β)}:JB x M=none↔∀p∈M,p.1≠x:=by
 unfold JB
 rw[List.findIdx?_eq_none_iff]
 constructor
 ·intro h p hp e;have:=h p.1 (List.mem_map_of_mem hp);simp[e] at this
 ·intro h y hy
  obtain⟨p,hp,rfl⟩:=List.mem_map.1 hy
  have:=h p hp
  simpa using fun e=>this e.symm
theorem mget_none_iff{x:α}{M:List (α×β)}:Jy M x=none↔∀p∈M,p.1≠x:=by
 unfold Jy
 rw[Option.map_eq_none_iff,List.find?_eq_none]
 constructor
 ·intro h p hp e;have:=h p hp;simp[e] at this
 ·intro h p hp;have:=h p hp;simpa using fun e=>this e.symm
theorem JkX{x:α}{M:List (α×β)}(h:Jy M x=none):JB x M=none:=ixOf_none_iff.2 (mget_none_iff.1 h)
theorem Jk3{x:α}{M:List (α×β)}(v:β)(h:Jy M x=none):JQ M x v=M++[(x,v)]:=by
 unfold JQ;rw[JkX h]
theorem JkW(M N:List (α×β))(x:α):Jy (M++N) x=(Jy M x).or (Jy N x):=by
 unfold Jy
 rw[List.find?_append]
 cases List.find? (fun p=>decide (x=p.1)) M<;>rfl
theorem JeI(p:α×β)(M:List (α×β))(x:α):Jy (p :: M) x=if x=p.1 then some p.2 else Jy M x:=by
 unfold Jy
 rw[List.find?_cons]
 by_cases h:x=p.1<;>simp[h]
@[simp] theorem JkZ(x:α):Jy ([]:List (α×β)) x=none:=rfl
theorem Jg1:∀(M:List (α×β)) (i:Nat) (x y:α) (v:β),(h:i<M.length)→(M[i]).1=x→Jy (M.set i (x,v)) y=if y=x∧JB x M=some i then some v else Jy M y
 | [],i,x,y,v,h,_=>by simp at h
 |p :: M,0,x,y,v,h,he=>by
  simp only[List.getElem_cons_zero] at he
  subst he
  simp only[List.set_cons_zero,JeI]
  have:JB p.1 (p :: M)=some 0:=by simp[JB,List.findIdx?_cons]
  by_cases hy:y=p.1<;>simp[hy,this]
 |p :: M,i+1,x,y,v,h,he=>by
  simp only[List.getElem_cons_succ] at he
  have h':i<M.length:=by simpa using h
  have ih:=Jg1 M i x y v h' he
  simp only[List.set_cons_succ,JeI]
  by_cases hp:y=p.1
  ·simp only[hp,if_true]
   by_cases hx:p.1=x
   ·have:JB x (p :: M)=some 0:=by simp[JB,List.findIdx?_cons,hx]
    simp[this]
   ·simp[hx]
  ·simp only[hp,if_false,ih]
   have e:JB x (p :: M)=some (i+1)↔(x≠p.1∧JB x M=some i):=by
    unfold JB
    simp only[List.map_cons,List.findIdx?_cons,decide_eq_true_eq]
    by_cases hx:x=p.1<;>simp[hx]
   by_cases hyx:y=x
   ·subst hyx;simp[e,hp]
   ·simp[hyx]
theorem JeJ(M:List (α×β))(x y:α)(v:β):Jy (JQ M x v) y=if y=x then some v else Jy M y:=by
 unfold JQ
 cases h:JB x M with
 |none =>
  simp only[JkW,JeI,JkZ]
  by_cases hy:y=x
  ·subst hy;rw[Ja1 h];simp
  ·simp[hy]
 |some i =>
  obtain⟨h1,h2⟩:=JgJ h
  simp only[Jg1 M i x y v h1 h2,h,and_true]
theorem JhG [Dat α](M:List (α×β))(x:α)(v:β):J3 (Jo M) (Dat.av x) (JB x M)=Jo (JQ M x v):=by
 unfold JQ
 cases h:JB x M with
 |none=>simp[J3,Jo,Ja]
 |some i=>simp[J3,Jo,Ja,List.map_set]
theorem JlD [Dat β](M:List (α×β))(x:α)(v:β):J3 (Js M) (Dat.av v) (JB x M)=Js (JQ M x v):=by
 unfold JQ
 cases h:JB x M with
 |none=>simp[J3,Js,Ja]
 |some i=>simp[J3,Js,Ja,List.map_set]
theorem JkM [Dat β](M:List (α×β))(x:α)(z:β):Yh false (Dat.av z) (Js M) (JB x M)=Dat.av ((Jy M x).getD z):=by
 cases h:JB x M with
 |none=>rw[Ja1 h];rfl
 |some i =>
  obtain⟨h1,h2⟩:=Ja0 h
  rw[h2]
  show(Js M).getD i .any=_
  unfold Js
  rw[JcR _ i (by simpa using h1)]
  simp
theorem Jgn [Dat α]{P:Program}{T:Tys P}{kt:Nat}{x:α}(hq:∀y:α,J6 T kt (Dat.av x) (Dat.av y)=some (decide (x=y)))(M:List (α×β)):Va T kt (Dat.av x) (Jo M) 0=some (JB x M):=by
 have:∀(l:List α) (i:Nat),Va T kt (Dat.av x) (Ja l) i=some ((l.findIdx? fun y=>decide (x=y)).map (·+i)):=by
  intro l
  induction l with
  |nil=>intro i;rfl
  |cons y l ih =>
   intro i
   rw[ZN]
   simp only[Va,hq]
   by_cases h:x=y
   ·simp[h,List.findIdx?_cons]
   ·simp only[h,decide_false,ih,List.findIdx?_cons,Option.some.injEq,Bool.false_eq_true,if_false,Option.map_map]
    congr 1
    funext j
    simp;omega
 have e:=this (M.map Prod.fst) 0
 unfold Jo JB
 rw[e]
 cases (M.map Prod.fst).findIdx? (fun y=>decide (x=y))<;>simp
end
end
theorem Jkz(a:Int)(b:List UInt8)(y:Key):J6 T 24 (.agg [.int .i64 a,.str b]) (Dat.av y)=some (decide ((⟨a,b⟩:Key)=y)):=by
 rw[Jeb]
 simp only[go_sem,List.getD_cons_zero,List.getD_cons_succ,Bool.and_true,↓reduceIte,String.reduceEq]
 congr 1
 rw[Bool.eq_iff_iff]
 simp[Zd]
@[go_sem] theorem Juo{β:Type}(a:Int)(b:List UInt8)(M:List (Key×β)):Va T 24 (.agg [.int .i64 a,.str b]) (Jo M) 0=some (JB ⟨a,b⟩ M):=Jgn (x:=(⟨a,b⟩:Key)) (fun y=>Jkz a b y) M
@[go_sem] theorem Jun{β:Type}(a:Int)(M:List (Int×β)):Va T 3 (.int .i64 a) (Jo M) 0=some (JB a M):=Jgn (x:=a) (fun y=>by rw[Jec];simp only[go_sem]) M
section
variable {α:Type} [DecidableEq α]
@[go_sem] theorem JyO(M:List (α×Bool))(x:α):Yh false (.bool false) (Js M) (JB x M)=.bool ((Jy M x).getD false):=JkM M x false
@[go_sem] theorem JCj(M:List (α×Bool))(x:α)(b:Bool):J3 (Js M) (.bool b) (JB x M)=Js (JQ M x b):=JlD M x b
@[go_sem] theorem JCo(M:List (Key×Bool))(a:Int)(b:List UInt8):J3 (Jo M) (.agg [.int .i64 a,.str b]) (JB ⟨a,b⟩ M)=Jo (JQ M ⟨a,b⟩ true):=JhG M (⟨a,b⟩:Key) true
@[go_sem] theorem JCm(M:List (Int×Bool))(a:Int):J3 (Jo M) (.int .i64 a) (JB a M)=Jo (JQ M a true):=JhG M a true
end
end Go.Proofs.YtmjkjmoeicnbnaaGreatDoor.Lg
