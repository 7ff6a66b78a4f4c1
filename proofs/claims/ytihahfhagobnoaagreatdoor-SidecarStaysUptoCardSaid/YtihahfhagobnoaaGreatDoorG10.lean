/- Parts of the proof, one behind the other. -/
import Derived.Test.YtihahfhagobnoaaGreatDoorG09
namespace Go.Proofs.YtihahfhagobnoaaGreatDoor.Lg
set_option maxRecDepth 100000
set_option linter.unusedVariables false
set_option linter.unusedSimpArgs false
open Go
set_option linter.unusedSectionVars false
section
variable {α β:Type}
def Jq [Dat α](M:List (α×β)):List AV:=Ja (M.map Prod.fst)
def Jv [Dat β](M:List (α×β)):List AV:=Ja (M.map Prod.snd)
def JF [DecidableEq α](x:α)(M:List (α×β)):Option Nat:=(M.map Prod.fst).findIdx? fun y=>decide (x=y)
def JB [DecidableEq α](M:List (α×β))(x:α):Option β:=(M.find? fun p=>decide (x=p.1)).map Prod.snd
def JQ [DecidableEq α](M:List (α×β))(x:α)(v:β):List (α×β) :=
 match JF x M with
 |some i=>M.set i (x,v)
 |none=>M++[(x,v)]
section
variable [Dat α] [Dat β] (M:List (α×β))
@[go_sem] theorem JE3:AV.pure.pureL (Jq M)=true:=ZP _
@[go_sem] theorem JE4:AV.pure.pureL (Jv M)=true:=ZP _
@[go_sem] theorem JCg:AV.nrm.nrmL (Jq M)=Jq M:=Jfa _
@[go_sem] theorem JCh:AV.nrm.nrmL (Jv M)=Jv M:=Jfa _
@[go_sem] theorem JAb:(Jq M).length=M.length:=by simp[Jq,Ja]
@[go_sem] theorem JAc:(Jv M).length=M.length:=by simp[Jv,Ja]
@[go_sem] theorem JBY:Jq ([]:List (α×β))=[]:=rfl
@[go_sem] theorem JB0:Jv ([]:List (α×β))=[]:=rfl
@[go_sem] theorem JFN(d g H:Nat):AV.renM.renML d g H (Jq M)=Jq M:=YU d g H _ (ZP _)
@[go_sem] theorem JFO(d g H:Nat):AV.renM.renML d g H (Jv M)=Jv M:=YU d g H _ (ZP _)
@[go_sem] theorem JEO(d g:Nat):AV.pureH.pureHL d g (Jq M)=true:=YT d g _ (ZP _)
@[go_sem] theorem JEP(d g:Nat):AV.pureH.pureHL d g (Jv M)=true:=YT d g _ (ZP _)
@[go_sem] theorem Jvt(n:Nat)(h:Dat.sz α=n):(∀y∈Jq M,y.cells.length=n)↔True :=
 iff_true_intro fun y hy=>by
  obtain⟨x,_,rfl⟩:=List.mem_map.1 hy
  rw[←h];exact Dat.len x
end
section
variable [DecidableEq α]
theorem JhE{x:α}{M:List (α×β)}{i:Nat}(h:JF x M=some i):∃h:i<M.length,(M[i]).1=x:=by
 unfold JF at h
 rw[List.findIdx?_eq_some_iff_getElem] at h
 obtain⟨h1,h2,_⟩:=h
 have h1':i<M.length:=by simpa using h1
 exact⟨h1',by simpa using(of_decide_eq_true h2).symm⟩
theorem Jcq{x:α}:∀ {M:List (α×β)} {i:Nat},JF x M=some i→∃h:i<M.length,JB M x=some (M[i]).2
 | [],i,h=>by simp[JF] at h
 |p :: M,i,h=>by
  by_cases hp:x=p.1
  ·have:i=0:=by simpa[JF,List.findIdx?_cons,hp] using h.symm
   subst this
   exact⟨by simp,by simp[JB,List.find?_cons,hp]⟩
  ·have h':∃j,JF x M=some j∧i=j+1:=by
    simp only[JF,List.map_cons,List.findIdx?_cons,decide_eq_true_eq,hp,decide_false,Bool.false_eq_true,if_false,Option.map_eq_some_iff] at h
    obtain⟨j,h1,h2⟩:=h
    exact⟨j,h1,h2.symm⟩
   obtain⟨j,h1,rfl⟩:=h'
   obtain⟨h2,h3⟩:=Jcq h1
   exact⟨by simp;omega,by simpa[JB,List.find?_cons,hp] using h3⟩
theorem Jbz{x:α}{M:List (α×β)}(h:JF x M=none):JB M x=none:=by
 unfold JF at h
 rw[List.findIdx?_eq_none_iff] at h
 unfold JB
 rw[Option.map_eq_none_iff,List.find?_eq_none]
 intro p hp
 have:=h p.1 (List.mem_map_of_mem hp)
 simpa using this
@[go_sem] theorem Jx9(x:α)(M:List (α×β)):(JF x M).isSome=(JB M x).isSome:=by
 cases h:JF x M with
 |none=>rw[Jbz h];rfl
 |some i=>obtain⟨_,h2⟩:=Jcq h;rw[h2];rfl
theorem ixOf_none_iff{x:α}{M:List (α×β)}:JF x M=none↔∀p∈M,p.1≠x:=by
 unfold JF
 rw[List.findIdx?_eq_none_iff]
 constructor
 ·intro h p hp e;have:=h p.1 (List.mem_map_of_mem hp);simp[e] at this
 ·intro h y hy
  obtain⟨p,hp,rfl⟩:=List.mem_map.1 hy
  have:=h p hp
  simpa using fun e=>this e.symm
theorem mget_none_iff{x:α}{M:List (α×β)}:JB M x=none↔∀p∈M,p.1≠x:=by
 unfold JB
 rw[Option.map_eq_none_iff,List.find?_eq_none]
 constructor
 ·intro h p hp e;have:=h p hp;simp[e] at this
 ·intro h p hp;have:=h p hp;simpa using fun e=>this e.symm
theorem JlN{x:α}{M:List (α×β)}(h:JB M x=none):JF x M=none:=ixOf_none_iff.2 (mget_none_iff.1 h)
theorem JlT{x:α}{M:List (α×β)}(v:β)(h:JB M x=none):JQ M x v=M++[(x,v)]:=by
 unfold JQ;rw[JlN h]
theorem JlM(M N:List (α×β))(x:α):JB (M++N) x=(JB M x).or (JB N x):=by
 unfold JB
 rw[List.find?_append]
 cases List.find? (fun p=>decide (x=p.1)) M<;>rfl
theorem Je6(p:α×β)(M:List (α×β))(x:α):JB (p :: M) x=if x=p.1 then some p.2 else JB M x:=by
 unfold JB
 rw[List.find?_cons]
 by_cases h:x=p.1<;>simp[h]
@[simp] theorem JlP(x:α):JB ([]:List (α×β)) x=none:=rfl
theorem JhW:∀(M:List (α×β)) (i:Nat) (x y:α) (v:β),(h:i<M.length)→(M[i]).1=x→JB (M.set i (x,v)) y=if y=x∧JF x M=some i then some v else JB M y
 | [],i,x,y,v,h,_=>by simp at h
 |p :: M,0,x,y,v,h,he=>by
  simp only[List.getElem_cons_zero] at he
  subst he
  simp only[List.set_cons_zero,Je6]
  have:JF p.1 (p :: M)=some 0:=by simp[JF,List.findIdx?_cons]
  by_cases hy:y=p.1<;>simp[hy,this]
 |p :: M,i+1,x,y,v,h,he=>by
  simp only[List.getElem_cons_succ] at he
  have h':i<M.length:=by simpa using h
  have ih:=JhW M i x y v h' he
  simp only[List.set_cons_succ,Je6]
  by_cases hp:y=p.1
  ·simp only[hp,if_true]
   by_cases hx:p.1=x
   ·have:JF x (p :: M)=some 0:=by simp[JF,List.findIdx?_cons,hx]
    simp[this]
   ·simp[hx]
  ·simp only[hp,if_false,ih]
   have e:JF x (p :: M)=some (i+1)↔(x≠p.1∧JF x M=some i):=by
    unfold JF
    simp only[List.map_cons,List.findIdx?_cons,decide_eq_true_eq]
    by_cases hx:x=p.1<;>simp[hx]
   by_cases hyx:y=x
   ·subst hyx;simp[e,hp]
   ·simp[hyx]
theorem JhV(M:List (α×β))(x y:α)(v:β):JB (JQ M x v) y=if y=x then some v else JB M y:=by
 unfold JQ
 cases h:JF x M with
 |none =>
  simp only[JlM,Je6,JlP]
  by_cases hy:y=x
  ·subst hy;rw[Jbz h];simp
  ·simp[hy]
 |some i =>
  obtain⟨h1,h2⟩:=JhE h
  simp only[JhW M i x y v h1 h2,h,and_true]
theorem JiE [Dat α](M:List (α×β))(x:α)(v:β):J0 (Jq M) (Dat.av x) (JF x M)=Jq (JQ M x v):=by
 unfold JQ
 cases h:JF x M with
 |none=>simp[J0,Jq,Ja]
 |some i=>simp[J0,Jq,Ja,List.map_set]
theorem Jmw [Dat β](M:List (α×β))(x:α)(v:β):J0 (Jv M) (Dat.av v) (JF x M)=Jv (JQ M x v):=by
 unfold JQ
 cases h:JF x M with
 |none=>simp[J0,Jv,Ja]
 |some i=>simp[J0,Jv,Ja,List.map_set]
theorem JlG [Dat β](M:List (α×β))(x:α)(z:β):YC false (Dat.av z) (Jv M) (JF x M)=Dat.av ((JB M x).getD z):=by
 cases h:JF x M with
 |none=>rw[Jbz h];rfl
 |some i =>
  obtain⟨h1,h2⟩:=Jcq h
  rw[h2]
  show(Jv M).getD i .any=_
  unfold Jv
  rw[Jgk _ i (by simpa using h1)]
  simp
theorem Jg8 [Dat α]{P:Program}{T:Tys P}{kt:Nat}{x:α}(hq:∀y:α,JY T kt (Dat.av x) (Dat.av y)=some (decide (x=y)))(M:List (α×β)):J3 T kt (Dat.av x) (Jq M) 0=some (JF x M):=by
 have:∀(l:List α) (i:Nat),J3 T kt (Dat.av x) (Ja l) i=some ((l.findIdx? fun y=>decide (x=y)).map (·+i)):=by
  intro l
  induction l with
  |nil=>intro i;rfl
  |cons y l ih =>
   intro i
   rw[Yj]
   simp only[J3,hq]
   by_cases h:x=y
   ·simp[h,List.findIdx?_cons]
   ·simp only[h,decide_false,ih,List.findIdx?_cons,Option.some.injEq,Bool.false_eq_true,if_false,Option.map_map]
    congr 1
    funext j
    simp;omega
 have e:=this (M.map Prod.fst) 0
 unfold Jq JF
 rw[e]
 cases (M.map Prod.fst).findIdx? (fun y=>decide (x=y))<;>simp
end
end
theorem Jly(a:Int)(b:List UInt8)(y:Key):JY T 90 (.agg [.int .i64 a,.str b]) (Dat.av y)=some (decide ((⟨a,b⟩:Key)=y)):=by
 rw[JeF]
 simp only[go_sem,List.getD_cons_zero,List.getD_cons_succ,Bool.and_true,↓reduceIte,String.reduceEq]
 congr 1
 rw[Bool.eq_iff_iff]
 simp[Z5]
@[go_sem] theorem Jw3{β:Type}(a:Int)(b:List UInt8)(M:List (Key×β)):J3 T 90 (.agg [.int .i64 a,.str b]) (Jq M) 0=some (JF ⟨a,b⟩ M):=Jg8 (x:=(⟨a,b⟩:Key)) (fun y=>Jly a b y) M
@[go_sem] theorem Jw2{β:Type}(a:Int)(M:List (Int×β)):J3 T 3 (.int .i64 a) (Jq M) 0=some (JF a M):=Jg8 (x:=a) (fun y=>by rw[JeG];simp only[go_sem]) M
section
variable {α:Type} [DecidableEq α]
@[go_sem] theorem JBL(M:List (α×Bool))(x:α):YC false (.bool false) (Jv M) (JF x M)=.bool ((JB M x).getD false):=JlG M x false
@[go_sem] theorem JFi(M:List (α×Bool))(x:α)(b:Bool):J0 (Jv M) (.bool b) (JF x M)=Jv (JQ M x b):=Jmw M x b
@[go_sem] theorem JFn(M:List (Key×Bool))(a:Int)(b:List UInt8):J0 (Jq M) (.agg [.int .i64 a,.str b]) (JF ⟨a,b⟩ M)=Jq (JQ M ⟨a,b⟩ true):=JiE M (⟨a,b⟩:Key) true
@[go_sem] theorem JFl(M:List (Int×Bool))(a:Int):J0 (Jq M) (.int .i64 a) (JF a M)=Jq (JQ M a true):=JiE M a true
end
end Go.Proofs.YtihahfhagobnoaaGreatDoor.Lg
