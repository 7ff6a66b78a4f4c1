/- Parts of the proof, one behind the other. -/
import Derived.Test.YthjalhfmpffbjaaGreatDoorG10
set_option linter.unusedVariables false
set_option linter.unusedSimpArgs false
set_option maxRecDepth 100000
set_option maxHeartbeats 64000000
namespace Go.Proofs.YthjalhfmpffbjaaGreatDoor.Lg
open Go
set_option linter.unusedSectionVars false
section
variable {α β:Type}
def Ju [Dat α](M:List (α×β)):List AV:=Ja (M.map Prod.fst)
def JA [Dat β](M:List (α×β)):List AV:=Ja (M.map Prod.snd)
def JI [DecidableEq α](x:α)(M:List (α×β)):Option Nat:=(M.map Prod.fst).findIdx? fun y=>decide (x=y)
def JE [DecidableEq α](M:List (α×β))(x:α):Option β:=(M.find? fun p=>decide (x=p.1)).map Prod.snd
def JT [DecidableEq α](M:List (α×β))(x:α)(v:β):List (α×β) :=
 match JI x M with
 |some i=>M.set i (x,v)
 |none=>M++[(x,v)]
section
variable [Dat α] [Dat β] (M:List (α×β))
@[go_sem] theorem JC5:AV.pure.pureL (Ju M)=true:=Jaa _
@[go_sem] theorem JC6:AV.pure.pureL (JA M)=true:=Jaa _
@[go_sem] theorem JAj:AV.nrm.nrmL (Ju M)=Ju M:=Jf9 _
@[go_sem] theorem JAk:AV.nrm.nrmL (JA M)=JA M:=Jf9 _
@[go_sem] theorem Jyc:(Ju M).length=M.length:=by simp[Ju,Ja]
@[go_sem] theorem Jyd:(JA M).length=M.length:=by simp[JA,Ja]
@[go_sem] theorem JzZ:Ju ([]:List (α×β))=[]:=rfl
@[go_sem] theorem Jz1:JA ([]:List (α×β))=[]:=rfl
@[go_sem] theorem JDP(d g H:Nat):AV.renM.renML d g H (Ju M)=Ju M:=Zb d g H _ (Jaa _)
@[go_sem] theorem JDQ(d g H:Nat):AV.renM.renML d g H (JA M)=JA M:=Zb d g H _ (Jaa _)
@[go_sem] theorem JCR(d g:Nat):AV.pureH.pureHL d g (Ju M)=true:=Za d g _ (Jaa _)
@[go_sem] theorem JCS(d g:Nat):AV.pureH.pureHL d g (JA M)=true:=Za d g _ (Jaa _)
@[go_sem] theorem JuW(n:Nat)(h:Dat.sz α=n):(∀y∈Ju M,y.cells.length=n)↔True :=
 iff_true_intro fun y hy=>by
  obtain⟨x,_,rfl⟩:=List.mem_map.1 hy
  rw[←h];exact Dat.len x
end
section
variable [DecidableEq α]
theorem JiJ{x:α}{M:List (α×β)}{i:Nat}(h:JI x M=some i):∃h:i<M.length,(M[i]).1=x:=by
 unfold JI at h
 rw[List.findIdx?_eq_some_iff_getElem] at h
 obtain⟨h1,h2,_⟩:=h
 have h1':i<M.length:=by simpa using h1
 exact⟨h1',by simpa using(of_decide_eq_true h2).symm⟩
theorem JcU{x:α}:∀ {M:List (α×β)} {i:Nat},JI x M=some i→∃h:i<M.length,JE M x=some (M[i]).2
 | [],i,h=>by simp[JI] at h
 |p :: M,i,h=>by
  by_cases hp:x=p.1
  ·have:i=0:=by simpa[JI,List.findIdx?_cons,hp] using h.symm
   subst this
   exact⟨by simp,by simp[JE,List.find?_cons,hp]⟩
  ·have h':∃j,JI x M=some j∧i=j+1:=by
    simp only[JI,List.map_cons,List.findIdx?_cons,decide_eq_true_eq,hp,decide_false,Bool.false_eq_true,if_false,Option.map_eq_some_iff] at h
    obtain⟨j,h1,h2⟩:=h
    exact⟨j,h1,h2.symm⟩
   obtain⟨j,h1,rfl⟩:=h'
   obtain⟨h2,h3⟩:=JcU h1
   exact⟨by simp;omega,by simpa[JE,List.find?_cons,hp] using h3⟩
theorem Jb6{x:α}{M:List (α×β)}(h:JI x M=none):JE M x=none:=by
 unfold JI at h
 rw[List.findIdx?_eq_none_iff] at h
 unfold JE
 rw[Option.map_eq_none_iff,List.find?_eq_none]
 intro p hp
 have:=h p.1 (List.mem_map_of_mem hp)
 simpa using this
@[go_sem] theorem JxD(x:α)(M:List (α×β)):(JI x M).isSome=(JE M x).isSome:=by
 cases h:JI x M with
 |none=>rw[Jb6 h];rfl
 |some i=>obtain⟨_,h2⟩:=JcU h;rw[h2];rfl
theorem ixOf_none_iff{x:α}{M:List (α×β)}:JI x M=none↔∀p∈M,p.1≠x:=by
 unfold JI
 rw[List.findIdx?_eq_none_iff]
 constructor
 ·intro h p hp e;have:=h p.1 (List.mem_map_of_mem hp);simp[e] at this
 ·intro h y hy
  obtain⟨p,hp,rfl⟩:=List.mem_map.1 hy
  have:=h p hp
  simpa using fun e=>this e.symm
theorem mget_none_iff{x:α}{M:List (α×β)}:JE M x=none↔∀p∈M,p.1≠x:=by
 unfold JE
 rw[Option.map_eq_none_iff,List.find?_eq_none]
 constructor
 ·intro h p hp e;have:=h p hp;simp[e] at this
 ·intro h p hp;have:=h p hp;simpa using fun e=>this e.symm
theorem JoV{x:α}{M:List (α×β)}(h:JE M x=none):JI x M=none:=ixOf_none_iff.2 (mget_none_iff.1 h)
theorem Jo1{x:α}{M:List (α×β)}(v:β)(h:JE M x=none):JT M x v=M++[(x,v)]:=by
 unfold JT;rw[JoV h]
theorem JoU(M N:List (α×β))(x:α):JE (M++N) x=(JE M x).or (JE N x):=by
 unfold JE
 rw[List.find?_append]
 cases List.find? (fun p=>decide (x=p.1)) M<;>rfl
theorem Jf0(p:α×β)(M:List (α×β))(x:α):JE (p :: M) x=if x=p.1 then some p.2 else JE M x:=by
 unfold JE
 rw[List.find?_cons]
 by_cases h:x=p.1<;>simp[h]
@[simp] theorem JoX(x:α):JE ([]:List (α×β)) x=none:=rfl
theorem JiX:∀(M:List (α×β)) (i:Nat) (x y:α) (v:β),(h:i<M.length)→(M[i]).1=x→JE (M.set i (x,v)) y=if y=x∧JI x M=some i then some v else JE M y
 | [],i,x,y,v,h,_=>by simp at h
 |p :: M,0,x,y,v,h,he=>by
  simp only[List.getElem_cons_zero] at he
  subst he
  simp only[List.set_cons_zero,Jf0]
  have:JI p.1 (p :: M)=some 0:=by simp[JI,List.findIdx?_cons]
  by_cases hy:y=p.1<;>simp[hy,this]
 |p :: M,i+1,x,y,v,h,he=>by
  simp only[List.getElem_cons_succ] at he
  have h':i<M.length:=by simpa using h
  have ih:=JiX M i x y v h' he
  simp only[List.set_cons_succ,Jf0]
  by_cases hp:y=p.1
  ·simp only[hp,if_true]
   by_cases hx:p.1=x
   ·have:JI x (p :: M)=some 0:=by simp[JI,List.findIdx?_cons,hx]
    simp[this]
   ·simp[hx]
  ·simp only[hp,if_false,ih]
   have e:JI x (p :: M)=some (i+1)↔(x≠p.1∧JI x M=some i):=by
    unfold JI
    simp only[List.map_cons,List.findIdx?_cons,decide_eq_true_eq]
    by_cases hx:x=p.1<;>simp[hx]
   by_cases hyx:y=x
   ·subst hyx;simp[e,hp]
   ·simp[hyx]
theorem JiW(M:List (α×β))(x y:α)(v:β):JE (JT M x v) y=if y=x then some v else JE M y:=by
 unfold JT
 cases h:JI x M with
 |none =>
  simp only[JoU,Jf0,JoX]
  by_cases hy:y=x
  ·subst hy;rw[Jb6 h];simp
  ·simp[hy]
 |some i =>
  obtain⟨h1,h2⟩:=JiJ h
  simp only[JiX M i x y v h1 h2,h,and_true]
theorem JjE [Dat α](M:List (α×β))(x:α)(v:β):J2 (Ju M) (Dat.av x) (JI x M)=Ju (JT M x v):=by
 unfold JT
 cases h:JI x M with
 |none=>simp[J2,Ju,Ja]
 |some i=>simp[J2,Ju,Ja,List.map_set]
theorem JpK [Dat β](M:List (α×β))(x:α)(v:β):J2 (JA M) (Dat.av v) (JI x M)=JA (JT M x v):=by
 unfold JT
 cases h:JI x M with
 |none=>simp[J2,JA,Ja]
 |some i=>simp[J2,JA,Ja,List.map_set]
theorem JoN [Dat β](M:List (α×β))(x:α)(z:β):YS false (Dat.av z) (JA M) (JI x M)=Dat.av ((JE M x).getD z):=by
 cases h:JI x M with
 |none=>rw[Jb6 h];rfl
 |some i =>
  obtain⟨h1,h2⟩:=JcU h
  rw[h2]
  show(JA M).getD i .any=_
  unfold JA
  rw[Jhr _ i (by simpa using h1)]
  simp
theorem Jid [Dat α]{P:Program}{T:Tys P}{kt:Nat}{x:α}(hq:∀y:α,J1 T kt (Dat.av x) (Dat.av y)=some (decide (x=y)))(M:List (α×β)):J3 T kt (Dat.av x) (Ju M) 0=some (JI x M):=by
 have:∀(l:List α) (i:Nat),J3 T kt (Dat.av x) (Ja l) i=some ((l.findIdx? fun y=>decide (x=y)).map (·+i)):=by
  intro l
  induction l with
  |nil=>intro i;rfl
  |cons y l ih =>
   intro i
   rw[JbN]
   simp only[J3,hq]
   by_cases h:x=y
   ·simp[h,List.findIdx?_cons]
   ·simp only[h,decide_false,ih,List.findIdx?_cons,Option.some.injEq,Bool.false_eq_true,if_false,Option.map_map]
    congr 1
    funext j
    simp;omega
 have e:=this (M.map Prod.fst) 0
 unfold Ju JI
 rw[e]
 cases (M.map Prod.fst).findIdx? (fun y=>decide (x=y))<;>simp
end
end
theorem JoB(a:Int)(b:List UInt8)(y:Key):J1 T 134 (.agg [.int .i64 a,.str b]) (Dat.av y)=some (decide ((⟨a,b⟩:Key)=y)):=by
 rw[Jfz]
 simp only[go_sem,List.getD_cons_zero,List.getD_cons_succ,Bool.and_true,↓reduceIte,String.reduceEq]
 congr 1
 rw[Bool.eq_iff_iff]
 simp[Jaw]
@[go_sem] theorem Jwx{β:Type}(a:Int)(b:List UInt8)(M:List (Key×β)):J3 T 134 (.agg [.int .i64 a,.str b]) (Ju M) 0=some (JI ⟨a,b⟩ M):=Jid (x:=(⟨a,b⟩:Key)) (fun y=>JoB a b y) M
@[go_sem] theorem Jww{β:Type}(a:Int)(M:List (Int×β)):J3 T 3 (.int .i64 a) (Ju M) 0=some (JI a M):=Jid (x:=a) (fun y=>by rw[JfA];simp only[go_sem]) M
section
variable {α:Type} [DecidableEq α]
@[go_sem] theorem JzM(M:List (α×Bool))(x:α):YS false (.bool false) (JA M) (JI x M)=.bool ((JE M x).getD false):=JoN M x false
@[go_sem] theorem JDk(M:List (α×Bool))(x:α)(b:Bool):J2 (JA M) (.bool b) (JI x M)=JA (JT M x b):=JpK M x b
@[go_sem] theorem JDp(M:List (Key×Bool))(a:Int)(b:List UInt8):J2 (Ju M) (.agg [.int .i64 a,.str b]) (JI ⟨a,b⟩ M)=Ju (JT M ⟨a,b⟩ true):=JjE M (⟨a,b⟩:Key) true
@[go_sem] theorem JDn(M:List (Int×Bool))(a:Int):J2 (Ju M) (.int .i64 a) (JI a M)=Ju (JT M a true):=JjE M a true
end
end Go.Proofs.YthjalhfmpffbjaaGreatDoor.Lg
