/- Parts of the proof, one behind the other. -/
import Derived.Test.YtihahfhagobnoaaGreatDoorG09
namespace Go.Proofs.YtihahfhagobnoaaGreatDoor.Lg
set_option maxRecDepth 100000
set_option linter.unusedVariables false
set_option linter.unusedSimpArgs false
open Go
set_option linter.unusedSectionVars false
section
variable {α β:Type}
def Jq [Dat α](M:List (α×β)):List AV:=Ja (M.map Prod.fst)
def Jw [Dat β](M:List (α×β)):List AV:=Ja (M.map Prod.snd)
def JF [DecidableEq α](x:α)(M:List (α×β)):Option Nat:=(M.map Prod.fst).findIdx? fun y=>decide (x=y)
def JB [DecidableEq α](M:List (α×β))(x:α):Option β:=(M.find? fun p=>decide (x=p.1)).map Prod.snd
def JS [DecidableEq α](M:List (α×β))(x:α)(v:β):List (α×β) :=
 match JF x M with
 |some i=>M.set i (x,v)
 |none=>M++[(x,v)]
section
variable [Dat α] [Dat β] (M:List (α×β))
@[go_sem] theorem JFI:AV.pure.pureL (Jq M)=true:=ZV _
@[go_sem] theorem JFJ:AV.pure.pureL (Jw M)=true:=ZV _
@[go_sem] theorem JCV:AV.nrm.nrmL (Jq M)=Jq M:=Jfo _
@[go_sem] theorem JCW:AV.nrm.nrmL (Jw M)=Jw M:=Jfo _
@[go_sem] theorem JAQ:(Jq M).length=M.length:=by simp[Jq,Ja]
@[go_sem] theorem JAR:(Jw M).length=M.length:=by simp[Jw,Ja]
@[go_sem] theorem JCD:Jq ([]:List (α×β))=[]:=rfl
@[go_sem] theorem JCF:Jw ([]:List (α×β))=[]:=rfl
@[go_sem] theorem JGs(d g H:Nat):AV.renM.renML d g H (Jq M)=Jq M:=Y0 d g H _ (ZV _)
@[go_sem] theorem JGt(d g H:Nat):AV.renM.renML d g H (Jw M)=Jw M:=Y0 d g H _ (ZV _)
@[go_sem] theorem JFt(d g:Nat):AV.pureH.pureHL d g (Jq M)=true:=YZ d g _ (ZV _)
@[go_sem] theorem JFu(d g:Nat):AV.pureH.pureHL d g (Jw M)=true:=YZ d g _ (ZV _)
@[go_sem] theorem Jv7(n:Nat)(h:Dat.sz α=n):(∀y∈Jq M,y.cells.length=n)↔True :=
 iff_true_intro fun y hy=>by
  obtain⟨x,_,rfl⟩:=List.mem_map.1 hy
  rw[←h];exact Dat.len x
end
section
variable [DecidableEq α]
theorem JhT{x:α}{M:List (α×β)}{i:Nat}(h:JF x M=some i):∃h:i<M.length,(M[i]).1=x:=by
 unfold JF at h
 rw[List.findIdx?_eq_some_iff_getElem] at h
 obtain⟨h1,h2,_⟩:=h
 have h1':i<M.length:=by simpa using h1
 exact⟨h1',by simpa using(of_decide_eq_true h2).symm⟩
theorem Jct{x:α}:∀ {M:List (α×β)} {i:Nat},JF x M=some i→∃h:i<M.length,JB M x=some (M[i]).2
 | [],i,h=>by simp[JF] at h
 |p :: M,i,h=>by
  by_cases hp:x=p.1
  ·have:i=0:=by simpa[JF,List.findIdx?_cons,hp] using h.symm
   subst this
   exact⟨by simp,by simp[JB,List.find?_cons,hp]⟩
  ·have h':∃j,JF x M=some j∧i=j+1:=by
    simp only[JF,List.map_cons,List.findIdx?_cons,decide_eq_true_eq,hp,decide_false,Bool.false_eq_true,if_false,Option.map_eq_some_iff] at h
    obtain⟨j,h1,h2⟩:=h
    exact⟨j,h1,h2.symm⟩
   obtain⟨j,h1,rfl⟩:=h'
   obtain⟨h2,h3⟩:=Jct h1
   exact⟨by simp;omega,by simpa[JB,List.find?_cons,hp] using h3⟩
theorem Jby{x:α}{M:List (α×β)}(h:JF x M=none):JB M x=none:=by
 unfold JF at h
 rw[List.findIdx?_eq_none_iff] at h
 unfold JB
 rw[Option.map_eq_none_iff,List.find?_eq_none]
 intro p hp
 have:=h p.1 (List.mem_map_of_mem hp)
 simpa using this
@[go_sem] theorem JyN(x:α)(M:List (α×β)):(JF x M).isSome=(JB M x).isSome:=by
 cases h:JF x M with
 |none=>rw[Jby h];rfl
 |some i=>obtain⟨_,h2⟩:=Jct h;rw[h2];rfl
theorem ixOf_none_iff{x:α}{M:List (α×β)}:JF x M=none↔∀p∈M,p.1≠x:=by
 unfold JF
 rw[List.findIdx?_eq_none_iff]
 constructor
 ·intro h p hp e;have:=h p.1 (List.mem_map_of_mem hp);simp[e] at this
 ·intro h y hy
  obtain⟨p,hp,rfl⟩:=List.mem_map.1 hy
  have:=h p hp
  simpa using fun e=>this e.symm
theorem mget_none_iff{x:α}{M:List (α×β)}:JB M x=none↔∀p∈M,p.1≠x:=by
 unfold JB
 rw[Option.map_eq_none_iff,List.find?_eq_none]
 constructor
 ·intro h p hp e;have:=h p hp;simp[e] at this
 ·intro h p hp;have:=h p hp;simpa using fun e=>this e.symm
theorem Jmc{x:α}{M:List (α×β)}(h:JB M x=none):JF x M=none:=ixOf_none_iff.2 (mget_none_iff.1 h)
theorem Jmi{x:α}{M:List (α×β)}(v:β)(h:JB M x=none):JS M x v=M++[(x,v)]:=by
 unfold JS;rw[Jmc h]
theorem Jmb(M N:List (α×β))(x:α):JB (M++N) x=(JB M x).or (JB N x):=by
 unfold JB
 rw[List.find?_append]
 cases List.find? (fun p=>decide (x=p.1)) M<;>rfl
theorem Jfk(p:α×β)(M:List (α×β))(x:α):JB (p :: M) x=if x=p.1 then some p.2 else JB M x:=by
 unfold JB
 rw[List.find?_cons]
 by_cases h:x=p.1<;>simp[h]
@[simp] theorem Jme(x:α):JB ([]:List (α×β)) x=none:=rfl
theorem Jib:∀(M:List (α×β)) (i:Nat) (x y:α) (v:β),(h:i<M.length)→(M[i]).1=x→JB (M.set i (x,v)) y=if y=x∧JF x M=some i then some v else JB M y
 | [],i,x,y,v,h,_=>by simp at h
 |p :: M,0,x,y,v,h,he=>by
  simp only[List.getElem_cons_zero] at he
  subst he
  simp only[List.set_cons_zero,Jfk]
  have:JF p.1 (p :: M)=some 0:=by simp[JF,List.findIdx?_cons]
  by_cases hy:y=p.1<;>simp[hy,this]
 |p :: M,i+1,x,y,v,h,he=>by
  simp only[List.getElem_cons_succ] at he
  have h':i<M.length:=by simpa using h
  have ih:=Jib M i x y v h' he
  simp only[List.set_cons_succ,Jfk]
  by_cases hp:y=p.1
  ·simp only[hp,if_true]
   by_cases hx:p.1=x
   ·have:JF x (p :: M)=some 0:=by simp[JF,List.findIdx?_cons,hx]
    simp[this]
   ·simp[hx]
  ·simp only[hp,if_false,ih]
   have e:JF x (p :: M)=some (i+1)↔(x≠p.1∧JF x M=some i):=by
    unfold JF
    simp only[List.map_cons,List.findIdx?_cons,decide_eq_true_eq]
    by_cases hx:x=p.1<;>simp[hx]
   by_cases hyx:y=x
   ·subst hyx;simp[e,hp]
   ·simp[hyx]
theorem Jia(M:List (α×β))(x y:α)(v:β):JB (JS M x v) y=if y=x then some v else JB M y:=by
 unfold JS
 cases h:JF x M with
 |none =>
  simp only[Jmb,Jfk,Jme]
  by_cases hy:y=x
  ·subst hy;rw[Jby h];simp
  ·simp[hy]
 |some i =>
  obtain⟨h1,h2⟩:=JhT h
  simp only[Jib M i x y v h1 h2,h,and_true]
theorem JiU [Dat α](M:List (α×β))(x:α)(v:β):JZ (Jq M) (Dat.av x) (JF x M)=Jq (JS M x v):=by
 unfold JS
 cases h:JF x M with
 |none=>simp[JZ,Jq,Ja]
 |some i=>simp[JZ,Jq,Ja,List.map_set]
theorem JmY [Dat β](M:List (α×β))(x:α)(v:β):JZ (Jw M) (Dat.av v) (JF x M)=Jw (JS M x v):=by
 unfold JS
 cases h:JF x M with
 |none=>simp[JZ,Jw,Ja]
 |some i=>simp[JZ,Jw,Ja,List.map_set]
theorem Jl5 [Dat β](M:List (α×β))(x:α)(z:β):YJ false (Dat.av z) (Jw M) (JF x M)=Dat.av ((JB M x).getD z):=by
 cases h:JF x M with
 |none=>rw[Jby h];rfl
 |some i =>
  obtain⟨h1,h2⟩:=Jct h
  rw[h2]
  show(Jw M).getD i .any=_
  unfold Jw
  rw[JgB _ i (by simpa using h1)]
  simp
theorem Jho [Dat α]{P:Program}{T:Tys P}{kt:Nat}{x:α}(hq:∀y:α,JX T kt (Dat.av x) (Dat.av y)=some (decide (x=y)))(M:List (α×β)):J3 T kt (Dat.av x) (Jq M) 0=some (JF x M):=by
 have:∀(l:List α) (i:Nat),J3 T kt (Dat.av x) (Ja l) i=some ((l.findIdx? fun y=>decide (x=y)).map (·+i)):=by
  intro l
  induction l with
  |nil=>intro i;rfl
  |cons y l ih =>
   intro i
   rw[Yr]
   simp only[J3,hq]
   by_cases h:x=y
   ·simp[h,List.findIdx?_cons]
   ·simp only[h,decide_false,ih,List.findIdx?_cons,Option.some.injEq,Bool.false_eq_true,if_false,Option.map_map]
    congr 1
    funext j
    simp;omega
 have e:=this (M.map Prod.fst) 0
 unfold Jq JF
 rw[e]
 cases (M.map Prod.fst).findIdx? (fun y=>decide (x=y))<;>simp
end
end
theorem JlX(a:Int)(b:List UInt8)(y:Key):JX T 90 (.agg [.int .i64 a,.str b]) (Dat.av y)=some (decide ((⟨a,b⟩:Key)=y)):=by
 rw[JeR]
 simp only[go_sem,List.getD_cons_zero,List.getD_cons_succ,Bool.and_true,↓reduceIte,String.reduceEq]
 congr 1
 rw[Bool.eq_iff_iff]
 simp[Jaa]
@[go_sem] theorem JxH{β:Type}(a:Int)(b:List UInt8)(M:List (Key×β)):J3 T 90 (.agg [.int .i64 a,.str b]) (Jq M) 0=some (JF ⟨a,b⟩ M):=Jho (x:=(⟨a,b⟩:Key)) (fun y=>JlX a b y) M
@[go_sem] theorem JxG{β:Type}(a:Int)(M:List (Int×β)):J3 T 3 (.int .i64 a) (Jq M) 0=some (JF a M):=Jho (x:=a) (fun y=>by rw[JeS];simp only[go_sem]) M
section
variable {α:Type} [DecidableEq α]
@[go_sem] theorem JCq(M:List (α×Bool))(x:α):YJ false (.bool false) (Jw M) (JF x M)=.bool ((JB M x).getD false):=Jl5 M x false
@[go_sem] theorem JFX(M:List (α×Bool))(x:α)(b:Bool):JZ (Jw M) (.bool b) (JF x M)=Jw (JS M x b):=JmY M x b
@[go_sem] theorem JF2(M:List (Key×Bool))(a:Int)(b:List UInt8):JZ (Jq M) (.agg [.int .i64 a,.str b]) (JF ⟨a,b⟩ M)=Jq (JS M ⟨a,b⟩ true):=JiU M (⟨a,b⟩:Key) true
@[go_sem] theorem JF0(M:List (Int×Bool))(a:Int):JZ (Jq M) (.int .i64 a) (JF a M)=Jq (JS M a true):=JiU M a true
end
end Go.Proofs.YtihahfhagobnoaaGreatDoor.Lg
