/- Parts of the proof, one behind the other. -/
import Derived.Test.YthjalhfmpffbjaaGreatDoorG09
namespace Go.Proofs.YthjalhfmpffbjaaGreatDoor.Lg
set_option maxRecDepth 100000
set_option linter.unusedVariables false
set_option linter.unusedSimpArgs false
open Go
set_option linter.unusedSectionVars false
section
variable {α β:Type}
def Ju [Dat α](M:List (α×β)):List AV:=Ja (M.map Prod.fst)
def Jz [Dat β](M:List (α×β)):List AV:=Ja (M.map Prod.snd)
def JG [DecidableEq α](x:α)(M:List (α×β)):Option Nat:=(M.map Prod.fst).findIdx? fun y=>decide (x=y)
def JB [DecidableEq α](M:List (α×β))(x:α):Option β:=(M.find? fun p=>decide (x=p.1)).map Prod.snd
def JO [DecidableEq α](M:List (α×β))(x:α)(v:β):List (α×β) :=
 match JG x M with
 |some i=>M.set i (x,v)
 |none=>M++[(x,v)]
section
variable [Dat α] [Dat β] (M:List (α×β))
@[go_sem] theorem JFW:AV.pure.pureL (Ju M)=true:=ZN _
@[go_sem] theorem JFX:AV.pure.pureL (Jz M)=true:=ZN _
@[go_sem] theorem JDa:AV.nrm.nrmL (Ju M)=Ju M:=Jfc _
@[go_sem] theorem JDb:AV.nrm.nrmL (Jz M)=Jz M:=Jfc _
@[go_sem] theorem JA3:(Ju M).length=M.length:=by simp[Ju,Ja]
@[go_sem] theorem JA4:(Jz M).length=M.length:=by simp[Jz,Ja]
@[go_sem] theorem JCQ:Ju ([]:List (α×β))=[]:=rfl
@[go_sem] theorem JCS:Jz ([]:List (α×β))=[]:=rfl
@[go_sem] theorem JGG(d g H:Nat):AV.renM.renML d g H (Ju M)=Ju M:=YJ d g H _ (ZN _)
@[go_sem] theorem JGH(d g H:Nat):AV.renM.renML d g H (Jz M)=Jz M:=YJ d g H _ (ZN _)
@[go_sem] theorem JFI(d g:Nat):AV.pureH.pureHL d g (Ju M)=true:=YI d g _ (ZN _)
@[go_sem] theorem JFJ(d g:Nat):AV.pureH.pureHL d g (Jz M)=true:=YI d g _ (ZN _)
@[go_sem] theorem Jv9(n:Nat)(h:Dat.sz α=n):(∀y∈Ju M,y.cells.length=n)↔True :=
 iff_true_intro fun y hy=>by
  obtain⟨x,_,rfl⟩:=List.mem_map.1 hy
  rw[←h];exact Dat.len x
end
section
variable [DecidableEq α]
theorem Jhu{x:α}{M:List (α×β)}{i:Nat}(h:JG x M=some i):∃h:i<M.length,(M[i]).1=x:=by
 unfold JG at h
 rw[List.findIdx?_eq_some_iff_getElem] at h
 obtain⟨h1,h2,_⟩:=h
 have h1':i<M.length:=by simpa using h1
 exact⟨h1',by simpa using(of_decide_eq_true h2).symm⟩
theorem Jce{x:α}:∀ {M:List (α×β)} {i:Nat},JG x M=some i→∃h:i<M.length,JB M x=some (M[i]).2
 | [],i,h=>by simp[JG] at h
 |p :: M,i,h=>by
  by_cases hp:x=p.1
  ·have:i=0:=by simpa[JG,List.findIdx?_cons,hp] using h.symm
   subst this
   exact⟨by simp,by simp[JB,List.find?_cons,hp]⟩
  ·have h':∃j,JG x M=some j∧i=j+1:=by
    simp only[JG,List.map_cons,List.findIdx?_cons,decide_eq_true_eq,hp,decide_false,Bool.false_eq_true,if_false,Option.map_eq_some_iff] at h
    obtain⟨j,h1,h2⟩:=h
    exact⟨j,h1,h2.symm⟩
   obtain⟨j,h1,rfl⟩:=h'
   obtain⟨h2,h3⟩:=Jce h1
   exact⟨by simp;omega,by simpa[JB,List.find?_cons,hp] using h3⟩
theorem Jbq{x:α}{M:List (α×β)}(h:JG x M=none):JB M x=none:=by
 unfold JG at h
 rw[List.findIdx?_eq_none_iff] at h
 unfold JB
 rw[Option.map_eq_none_iff,List.find?_eq_none]
 intro p hp
 have:=h p.1 (List.mem_map_of_mem hp)
 simpa using this
@[go_sem] theorem JyW(x:α)(M:List (α×β)):(JG x M).isSome=(JB M x).isSome:=by
 cases h:JG x M with
 |none=>rw[Jbq h];rfl
 |some i=>obtain⟨_,h2⟩:=Jce h;rw[h2];rfl
theorem ixOf_none_iff{x:α}{M:List (α×β)}:JG x M=none↔∀p∈M,p.1≠x:=by
 unfold JG
 rw[List.findIdx?_eq_none_iff]
 constructor
 ·intro h p hp e;have:=h p.1 (List.mem_map_of_mem hp);simp[e] at this
 ·intro h y hy
  obtain⟨p,hp,rfl⟩:=List.mem_map.1 hy
  have:=h p hp
  simpa using fun e=>this e.symm
theorem mget_none_iff{x:α}{M:List (α×β)}:JB M x=none↔∀p∈M,p.1≠x:=by
 unfold JB
 rw[Option.map_eq_none_iff,List.find?_eq_none]
 constructor
 ·intro h p hp e;have:=h p hp;simp[e] at this
 ·intro h p hp;have:=h p hp;simpa using fun e=>this e.symm
theorem JlS{x:α}{M:List (α×β)}(h:JB M x=none):JG x M=none:=ixOf_none_iff.2 (mget_none_iff.1 h)
theorem JlY{x:α}{M:List (α×β)}(v:β)(h:JB M x=none):JO M x v=M++[(x,v)]:=by
 unfold JO;rw[JlS h]
theorem JlR(M N:List (α×β))(x:α):JB (M++N) x=(JB M x).or (JB N x):=by
 unfold JB
 rw[List.find?_append]
 cases List.find? (fun p=>decide (x=p.1)) M<;>rfl
theorem Je6(p:α×β)(M:List (α×β))(x:α):JB (p :: M) x=if x=p.1 then some p.2 else JB M x:=by
 unfold JB
 rw[List.find?_cons]
 by_cases h:x=p.1<;>simp[h]
@[simp] theorem JlU(x:α):JB ([]:List (α×β)) x=none:=rfl
theorem JhI:∀(M:List (α×β)) (i:Nat) (x y:α) (v:β),(h:i<M.length)→(M[i]).1=x→JB (M.set i (x,v)) y=if y=x∧JG x M=some i then some v else JB M y
 | [],i,x,y,v,h,_=>by simp at h
 |p :: M,0,x,y,v,h,he=>by
  simp only[List.getElem_cons_zero] at he
  subst he
  simp only[List.set_cons_zero,Je6]
  have:JG p.1 (p :: M)=some 0:=by simp[JG,List.findIdx?_cons]
  by_cases hy:y=p.1<;>simp[hy,this]
 |p :: M,i+1,x,y,v,h,he=>by
  simp only[List.getElem_cons_succ] at he
  have h':i<M.length:=by simpa using h
  have ih:=JhI M i x y v h' he
  simp only[List.set_cons_succ,Je6]
  by_cases hp:y=p.1
  ·simp only[hp,if_true]
   by_cases hx:p.1=x
   ·have:JG x (p :: M)=some 0:=by simp[JG,List.findIdx?_cons,hx]
    simp[this]
   ·simp[hx]
  ·simp only[hp,if_false,ih]
   have e:JG x (p :: M)=some (i+1)↔(x≠p.1∧JG x M=some i):=by
    unfold JG
    simp only[List.map_cons,List.findIdx?_cons,decide_eq_true_eq]
    by_cases hx:x=p.1<;>simp[hx]
   by_cases hyx:y=x
   ·subst hyx;simp[e,hp]
   ·simp[hyx]
theorem JhH(M:List (α×β))(x y:α)(v:β):JB (JO M x v) y=if y=x then some v else JB M y:=by
 unfold JO
 cases h:JG x M with
 |none =>
  simp only[JlR,Je6,JlU]
  by_cases hy:y=x
  ·subst hy;rw[Jbq h];simp
  ·simp[hy]
 |some i =>
  obtain⟨h1,h2⟩:=Jhu h
  simp only[JhI M i x y v h1 h2,h,and_true]
theorem Jik [Dat α](M:List (α×β))(x:α)(v:β):JY (Ju M) (Dat.av x) (JG x M)=Ju (JO M x v):=by
 unfold JO
 cases h:JG x M with
 |none=>simp[JY,Ju,Ja]
 |some i=>simp[JY,Ju,Ja,List.map_set]
theorem JmB [Dat β](M:List (α×β))(x:α)(v:β):JY (Jz M) (Dat.av v) (JG x M)=Jz (JO M x v):=by
 unfold JO
 cases h:JG x M with
 |none=>simp[JY,Jz,Ja]
 |some i=>simp[JY,Jz,Ja,List.map_set]
theorem JlK [Dat β](M:List (α×β))(x:α)(z:β):Yx false (Dat.av z) (Jz M) (JG x M)=Dat.av ((JB M x).getD z):=by
 cases h:JG x M with
 |none=>rw[Jbq h];rfl
 |some i =>
  obtain⟨h1,h2⟩:=Jce h
  rw[h2]
  show(Jz M).getD i .any=_
  unfold Jz
  rw[Jgl _ i (by simpa using h1)]
  simp
theorem JgZ [Dat α]{P:Program}{T:Tys P}{kt:Nat}{x:α}(hq:∀y:α,JX T kt (Dat.av x) (Dat.av y)=some (decide (x=y)))(M:List (α×β)):J0 T kt (Dat.av x) (Ju M) 0=some (JG x M):=by
 have:∀(l:List α) (i:Nat),J0 T kt (Dat.av x) (Ja l) i=some ((l.findIdx? fun y=>decide (x=y)).map (·+i)):=by
  intro l
  induction l with
  |nil=>intro i;rfl
  |cons y l ih =>
   intro i
   rw[VN]
   simp only[J0,hq]
   by_cases h:x=y
   ·simp[h,List.findIdx?_cons]
   ·simp only[h,decide_false,ih,List.findIdx?_cons,Option.some.injEq,Bool.false_eq_true,if_false,Option.map_map]
    congr 1
    funext j
    simp;omega
 have e:=this (M.map Prod.fst) 0
 unfold Ju JG
 rw[e]
 cases (M.map Prod.fst).findIdx? (fun y=>decide (x=y))<;>simp
end
end
theorem Jly(a:Int)(b:List UInt8)(y:Key):JX T 134 (.agg [.int .i64 a,.str b]) (Dat.av y)=some (decide ((⟨a,b⟩:Key)=y)):=by
 rw[JeE]
 simp only[go_sem,List.getD_cons_zero,List.getD_cons_succ,Bool.and_true,↓reduceIte,String.reduceEq]
 congr 1
 rw[Bool.eq_iff_iff]
 simp[Z4]
@[go_sem] theorem JxQ{β:Type}(a:Int)(b:List UInt8)(M:List (Key×β)):J0 T 134 (.agg [.int .i64 a,.str b]) (Ju M) 0=some (JG ⟨a,b⟩ M):=JgZ (x:=(⟨a,b⟩:Key)) (fun y=>Jly a b y) M
@[go_sem] theorem JxP{β:Type}(a:Int)(M:List (Int×β)):J0 T 3 (.int .i64 a) (Ju M) 0=some (JG a M):=JgZ (x:=a) (fun y=>by rw[JeF];simp only[go_sem]) M
section
variable {α:Type} [DecidableEq α]
@[go_sem] theorem JCD(M:List (α×Bool))(x:α):Yx false (.bool false) (Jz M) (JG x M)=.bool ((JB M x).getD false):=JlK M x false
@[go_sem] theorem JGb(M:List (α×Bool))(x:α)(b:Bool):JY (Jz M) (.bool b) (JG x M)=Jz (JO M x b):=JmB M x b
@[go_sem] theorem JGg(M:List (Key×Bool))(a:Int)(b:List UInt8):JY (Ju M) (.agg [.int .i64 a,.str b]) (JG ⟨a,b⟩ M)=Ju (JO M ⟨a,b⟩ true):=Jik M (⟨a,b⟩:Key) true
@[go_sem] theorem JGe(M:List (Int×Bool))(a:Int):JY (Ju M) (.int .i64 a) (JG a M)=Ju (JO M a true):=Jik M a true
end
end Go.Proofs.YthjalhfmpffbjaaGreatDoor.Lg
