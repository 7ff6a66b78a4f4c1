/- Parts of the proof, one behind the other. -/
import Derived.Test.YthjalhfmpffbjaaGreatDoorG09
namespace Go.Proofs.YthjalhfmpffbjaaGreatDoor.Lg
set_option maxRecDepth 100000
set_option maxHeartbeats 64000000
set_option linter.unusedVariables false
set_option linter.unusedSimpArgs false
open Go
set_option linter.unusedSectionVars false
section
variable {α β:Type}
def Ju [Dat α](M:List (α×β)):List AV:=Ja (M.map Prod.fst)
def Jz [Dat β](M:List (α×β)):List AV:=Ja (M.map Prod.snd)
def JH [DecidableEq α](x:α)(M:List (α×β)):Option Nat:=(M.map Prod.fst).findIdx? fun y=>decide (x=y)
def JE [DecidableEq α](M:List (α×β))(x:α):Option β:=(M.find? fun p=>decide (x=p.1)).map Prod.snd
def JU [DecidableEq α](M:List (α×β))(x:α)(v:β):List (α×β) :=
 match JH x M with
 |some i=>M.set i (x,v)
 |none=>M++[(x,v)]
section
variable [Dat α] [Dat β] (M:List (α×β))
@[go_sem] theorem JCY:AV.pure.pureL (Ju M)=true:=Jad _
@[go_sem] theorem JCZ:AV.pure.pureL (Jz M)=true:=Jad _
@[go_sem] theorem JAc:AV.nrm.nrmL (Ju M)=Ju M:=JfX _
@[go_sem] theorem JAd:AV.nrm.nrmL (Jz M)=Jz M:=JfX _
@[go_sem] theorem Jx5:(Ju M).length=M.length:=by simp[Ju,Ja]
@[go_sem] theorem Jx6:(Jz M).length=M.length:=by simp[Jz,Ja]
@[go_sem] theorem JzS:Ju ([]:List (α×β))=[]:=rfl
@[go_sem] theorem JzU:Jz ([]:List (α×β))=[]:=rfl
@[go_sem] theorem JDI(d g H:Nat):AV.renM.renML d g H (Ju M)=Ju M:=Ze d g H _ (Jad _)
@[go_sem] theorem JDJ(d g H:Nat):AV.renM.renML d g H (Jz M)=Jz M:=Ze d g H _ (Jad _)
@[go_sem] theorem JCK(d g:Nat):AV.pureH.pureHL d g (Ju M)=true:=Zd d g _ (Jad _)
@[go_sem] theorem JCL(d g:Nat):AV.pureH.pureHL d g (Jz M)=true:=Zd d g _ (Jad _)
@[go_sem] theorem JuP(n:Nat)(h:Dat.sz α=n):(∀y∈Ju M,y.cells.length=n)↔True :=
 iff_true_intro fun y hy=>by
  obtain⟨x,_,rfl⟩:=List.mem_map.1 hy
  rw[←h];exact Dat.len x
end
section
variable [DecidableEq α]
theorem JiA{x:α}{M:List (α×β)}{i:Nat}(h:JH x M=some i):∃h:i<M.length,(M[i]).1=x:=by
 unfold JH at h
 rw[List.findIdx?_eq_some_iff_getElem] at h
 obtain⟨h1,h2,_⟩:=h
 have h1':i<M.length:=by simpa using h1
 exact⟨h1',by simpa using(of_decide_eq_true h2).symm⟩
theorem Jc0{x:α}:∀ {M:List (α×β)} {i:Nat},JH x M=some i→∃h:i<M.length,JE M x=some (M[i]).2
 | [],i,h=>by simp[JH] at h
 |p :: M,i,h=>by
  by_cases hp:x=p.1
  ·have:i=0:=by simpa[JH,List.findIdx?_cons,hp] using h.symm
   subst this
   exact⟨by simp,by simp[JE,List.find?_cons,hp]⟩
  ·have h':∃j,JH x M=some j∧i=j+1:=by
    simp only[JH,List.map_cons,List.findIdx?_cons,decide_eq_true_eq,hp,decide_false,Bool.false_eq_true,if_false,Option.map_eq_some_iff] at h
    obtain⟨j,h1,h2⟩:=h
    exact⟨j,h1,h2.symm⟩
   obtain⟨j,h1,rfl⟩:=h'
   obtain⟨h2,h3⟩:=Jc0 h1
   exact⟨by simp;omega,by simpa[JE,List.find?_cons,hp] using h3⟩
theorem Jb9{x:α}{M:List (α×β)}(h:JH x M=none):JE M x=none:=by
 unfold JH at h
 rw[List.findIdx?_eq_none_iff] at h
 unfold JE
 rw[Option.map_eq_none_iff,List.find?_eq_none]
 intro p hp
 have:=h p.1 (List.mem_map_of_mem hp)
 simpa using this
@[go_sem] theorem Jxw(x:α)(M:List (α×β)):(JH x M).isSome=(JE M x).isSome:=by
 cases h:JH x M with
 |none=>rw[Jb9 h];rfl
 |some i=>obtain⟨_,h2⟩:=Jc0 h;rw[h2];rfl
theorem ixOf_none_iff{x:α}{M:List (α×β)}:JH x M=none↔∀p∈M,p.1≠x:=by
 unfold JH
 rw[List.findIdx?_eq_none_iff]
 constructor
 ·intro h p hp e;have:=h p.1 (List.mem_map_of_mem hp);simp[e] at this
 ·intro h y hy
  obtain⟨p,hp,rfl⟩:=List.mem_map.1 hy
  have:=h p hp
  simpa using fun e=>this e.symm
theorem mget_none_iff{x:α}{M:List (α×β)}:JE M x=none↔∀p∈M,p.1≠x:=by
 unfold JE
 rw[Option.map_eq_none_iff,List.find?_eq_none]
 constructor
 ·intro h p hp e;have:=h p hp;simp[e] at this
 ·intro h p hp;have:=h p hp;simpa using fun e=>this e.symm
theorem JoP{x:α}{M:List (α×β)}(h:JE M x=none):JH x M=none:=ixOf_none_iff.2 (mget_none_iff.1 h)
theorem JoV{x:α}{M:List (α×β)}(v:β)(h:JE M x=none):JU M x v=M++[(x,v)]:=by
 unfold JU;rw[JoP h]
theorem JoO(M N:List (α×β))(x:α):JE (M++N) x=(JE M x).or (JE N x):=by
 unfold JE
 rw[List.find?_append]
 cases List.find? (fun p=>decide (x=p.1)) M<;>rfl
theorem JfO(p:α×β)(M:List (α×β))(x:α):JE (p :: M) x=if x=p.1 then some p.2 else JE M x:=by
 unfold JE
 rw[List.find?_cons]
 by_cases h:x=p.1<;>simp[h]
@[simp] theorem JoR(x:α):JE ([]:List (α×β)) x=none:=rfl
theorem JiO:∀(M:List (α×β)) (i:Nat) (x y:α) (v:β),(h:i<M.length)→(M[i]).1=x→JE (M.set i (x,v)) y=if y=x∧JH x M=some i then some v else JE M y
 | [],i,x,y,v,h,_=>by simp at h
 |p :: M,0,x,y,v,h,he=>by
  simp only[List.getElem_cons_zero] at he
  subst he
  simp only[List.set_cons_zero,JfO]
  have:JH p.1 (p :: M)=some 0:=by simp[JH,List.findIdx?_cons]
  by_cases hy:y=p.1<;>simp[hy,this]
 |p :: M,i+1,x,y,v,h,he=>by
  simp only[List.getElem_cons_succ] at he
  have h':i<M.length:=by simpa using h
  have ih:=JiO M i x y v h' he
  simp only[List.set_cons_succ,JfO]
  by_cases hp:y=p.1
  ·simp only[hp,if_true]
   by_cases hx:p.1=x
   ·have:JH x (p :: M)=some 0:=by simp[JH,List.findIdx?_cons,hx]
    simp[this]
   ·simp[hx]
  ·simp only[hp,if_false,ih]
   have e:JH x (p :: M)=some (i+1)↔(x≠p.1∧JH x M=some i):=by
    unfold JH
    simp only[List.map_cons,List.findIdx?_cons,decide_eq_true_eq]
    by_cases hx:x=p.1<;>simp[hx]
   by_cases hyx:y=x
   ·subst hyx;simp[e,hp]
   ·simp[hyx]
theorem JiN(M:List (α×β))(x y:α)(v:β):JE (JU M x v) y=if y=x then some v else JE M y:=by
 unfold JU
 cases h:JH x M with
 |none =>
  simp only[JoO,JfO,JoR]
  by_cases hy:y=x
  ·subst hy;rw[Jb9 h];simp
  ·simp[hy]
 |some i =>
  obtain⟨h1,h2⟩:=JiA h
  simp only[JiO M i x y v h1 h2,h,and_true]
theorem Jjx [Dat α](M:List (α×β))(x:α)(v:β):J3 (Ju M) (Dat.av x) (JH x M)=Ju (JU M x v):=by
 unfold JU
 cases h:JH x M with
 |none=>simp[J3,Ju,Ja]
 |some i=>simp[J3,Ju,Ja,List.map_set]
theorem JpB [Dat β](M:List (α×β))(x:α)(v:β):J3 (Jz M) (Dat.av v) (JH x M)=Jz (JU M x v):=by
 unfold JU
 cases h:JH x M with
 |none=>simp[J3,Jz,Ja]
 |some i=>simp[J3,Jz,Ja,List.map_set]
theorem JoH [Dat β](M:List (α×β))(x:α)(z:β):YW false (Dat.av z) (Jz M) (JH x M)=Dat.av ((JE M x).getD z):=by
 cases h:JH x M with
 |none=>rw[Jb9 h];rfl
 |some i =>
  obtain⟨h1,h2⟩:=Jc0 h
  rw[h2]
  show(Jz M).getD i .any=_
  unfold Jz
  rw[Jhj _ i (by simpa using h1)]
  simp
theorem Jh5 [Dat α]{P:Program}{T:Tys P}{kt:Nat}{x:α}(hq:∀y:α,J2 T kt (Dat.av x) (Dat.av y)=some (decide (x=y)))(M:List (α×β)):J4 T kt (Dat.av x) (Ju M) 0=some (JH x M):=by
 have:∀(l:List α) (i:Nat),J4 T kt (Dat.av x) (Ja l) i=some ((l.findIdx? fun y=>decide (x=y)).map (·+i)):=by
  intro l
  induction l with
  |nil=>intro i;rfl
  |cons y l ih =>
   intro i
   rw[JbR]
   simp only[J4,hq]
   by_cases h:x=y
   ·simp[h,List.findIdx?_cons]
   ·simp only[h,decide_false,ih,List.findIdx?_cons,Option.some.injEq,Bool.false_eq_true,if_false,Option.map_map]
    congr 1
    funext j
    simp;omega
 have e:=this (M.map Prod.fst) 0
 unfold Ju JH
 rw[e]
 cases (M.map Prod.fst).findIdx? (fun y=>decide (x=y))<;>simp
end
end
theorem Jow(a:Int)(b:List UInt8)(y:Key):J2 T 134 (.agg [.int .i64 a,.str b]) (Dat.av y)=some (decide ((⟨a,b⟩:Key)=y)):=by
 rw[Jfp]
 simp only[go_sem,List.getD_cons_zero,List.getD_cons_succ,Bool.and_true,↓reduceIte,String.reduceEq]
 congr 1
 rw[Bool.eq_iff_iff]
 simp[Jaw]
@[go_sem] theorem Jwq{β:Type}(a:Int)(b:List UInt8)(M:List (Key×β)):J4 T 134 (.agg [.int .i64 a,.str b]) (Ju M) 0=some (JH ⟨a,b⟩ M):=Jh5 (x:=(⟨a,b⟩:Key)) (fun y=>Jow a b y) M
@[go_sem] theorem Jwp{β:Type}(a:Int)(M:List (Int×β)):J4 T 3 (.int .i64 a) (Ju M) 0=some (JH a M):=Jh5 (x:=a) (fun y=>by rw[Jfq];simp only[go_sem]) M
section
variable {α:Type} [DecidableEq α]
@[go_sem] theorem JzF(M:List (α×Bool))(x:α):YW false (.bool false) (Jz M) (JH x M)=.bool ((JE M x).getD false):=JoH M x false
@[go_sem] theorem JDd(M:List (α×Bool))(x:α)(b:Bool):J3 (Jz M) (.bool b) (JH x M)=Jz (JU M x b):=JpB M x b
@[go_sem] theorem JDi(M:List (Key×Bool))(a:Int)(b:List UInt8):J3 (Ju M) (.agg [.int .i64 a,.str b]) (JH ⟨a,b⟩ M)=Ju (JU M ⟨a,b⟩ true):=Jjx M (⟨a,b⟩:Key) true
@[go_sem] theorem JDg(M:List (Int×Bool))(a:Int):J3 (Ju M) (.int .i64 a) (JH a M)=Ju (JU M a true):=Jjx M a true
end
end Go.Proofs.YthjalhfmpffbjaaGreatDoor.Lg
