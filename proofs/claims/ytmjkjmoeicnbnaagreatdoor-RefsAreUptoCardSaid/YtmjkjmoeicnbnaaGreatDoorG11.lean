/- Parts of the proof, one behind the other. -/
import Derived.Test.YtmjkjmoeicnbnaaGreatDoorG10
namespace Go.Proofs.YtmjkjmoeicnbnaaGreatDoor.Lg
set_option maxRecDepth 100000
set_option linter.unusedVariables false
set_option linter.unusedSimpArgs false
open Go
set_option linter.unusedSectionVars false
section
variable {α β:Type}
def mks [Dat α] (M:List (α × β)):List AV:=avs (M.map Prod.fst)
def mvs [Dat β] (M:List (α × β)):List AV:=avs (M.map Prod.snd)
def ixOf [DecidableEq α] (x:α) (M:List (α × β)):Option Nat:=(M.map Prod.fst).findIdx? fun y=>decide (x=y)
def mget [DecidableEq α] (M:List (α × β)) (x:α):Option β:=(M.find? fun p=>decide (x=p.1)).map Prod.snd
def mput [DecidableEq α] (M:List (α × β)) (x:α) (v:β):List (α × β) :=
 match ixOf x M with
 | some i=>M.set i (x,v)
 | none=>M++[(x,v)]
section
variable [Dat α] [Dat β] (M:List (α × β))
@[go_sem] theorem pureL_mks:AV.pure.pureL (mks M)=true:=pureL_map _
@[go_sem] theorem pureL_mvs:AV.pure.pureL (mvs M)=true:=pureL_map _
@[go_sem] theorem nrmL_mks:AV.nrm.nrmL (mks M)=mks M:=nrmL_map _
@[go_sem] theorem nrmL_mvs:AV.nrm.nrmL (mvs M)=mvs M:=nrmL_map _
@[go_sem] theorem len_mks:(mks M).length=M.length:=by simp [mks,avs]
@[go_sem] theorem len_mvs:(mvs M).length=M.length:=by simp [mvs,avs]
@[go_sem] theorem mks_nil:mks ([]:List (α × β))=[]:=rfl
@[go_sem] theorem mvs_nil:mvs ([]:List (α × β))=[]:=rfl
@[go_sem] theorem renML_mks (d g H:Nat):AV.renM.renML d g H (mks M)=mks M:=renML_of_pure d g H _ (pureL_map _)
@[go_sem] theorem renML_mvs (d g H:Nat):AV.renM.renML d g H (mvs M)=mvs M:=renML_of_pure d g H _ (pureL_map _)
@[go_sem] theorem pureHL_mks (d g:Nat):AV.pureH.pureHL d g (mks M)=true:=pureHL_of_pure d g _ (pureL_map _)
@[go_sem] theorem pureHL_mvs (d g:Nat):AV.pureH.pureHL d g (mvs M)=true:=pureHL_of_pure d g _ (pureL_map _)
@[go_sem] theorem cellsLen_mks (n:Nat) (h:Dat.sz α=n):(∀ y∈mks M,y.cells.length=n)↔True :=
 iff_true_intro fun y hy=>by
  obtain ⟨x,_,rfl⟩:=List.mem_map.1 hy
  rw [← h]; exact Dat.len x
end
section
variable [DecidableEq α]
theorem ix_lt {x:α} {M:List (α × β)} {i:Nat} (h:ixOf x M=some i):∃ h:i < M.length,(M[i]).1=x:=by
 unfold ixOf at h
 rw [List.findIdx?_eq_some_iff_getElem] at h
 obtain ⟨h1,h2,_⟩:=h
 have h1':i < M.length:=by simpa using h1
 exact ⟨h1',by simpa using (of_decide_eq_true h2).symm⟩
theorem ix_get {x:α}:∀ {M:List (α × β)} {i:Nat},ixOf x M=some i→∃ h:i < M.length,mget M x=some (M[i]).2
 | [],i,h=>by simp [ixOf] at h
 | p :: M,i,h=>by
  by_cases hp:x=p.1
  ·have:i=0:=by simpa [ixOf,List.findIdx?_cons,hp] using h.symm
   subst this
   exact ⟨by simp,by simp [mget,List.find?_cons,hp]⟩
  ·have h':∃ j,ixOf x M=some j∧i=j+1:=by
    simp only [ixOf,List.map_cons,List.findIdx?_cons,decide_eq_true_eq,hp,decide_false,Bool.false_eq_true,if_false,Option.map_eq_some_iff] at h
    obtain ⟨j,h1,h2⟩:=h
    exact ⟨j,h1,h2.symm⟩
   obtain ⟨j,h1,rfl⟩:=h'
   obtain ⟨h2,h3⟩:=ix_get h1
   exact ⟨by simp; omega,by simpa [mget,List.find?_cons,hp] using h3⟩
theorem ix_none {x:α} {M:List (α × β)} (h:ixOf x M=none):mget M x=none:=by
 unfold ixOf at h
 rw [List.findIdx?_eq_none_iff] at h
 unfold mget
 rw [Option.map_eq_none_iff,List.find?_eq_none]
 intro p hp
 have:=h p.1 (List.mem_map_of_mem hp)
 simpa using this
@[go_sem] theorem ix_isSome (x:α) (M:List (α × β)):(ixOf x M).isSome=(mget M x).isSome:=by
 cases h:ixOf x M with
 | none=>rw [ix_none h]; rfl
 | some i=>obtain ⟨_,h2⟩:=ix_get h; rw [h2]; rfl
theorem ixOf_none_iff {x:α} {M:List (α × β)}:ixOf x M=none↔∀ p∈M,p.1≠x:=by
 unfold ixOf
 rw [List.findIdx?_eq_none_iff]
 constructor
 ·intro h p hp e; have:=h p.1 (List.mem_map_of_mem hp); simp [e] at this
 ·intro h y hy
  obtain ⟨p,hp,rfl⟩:=List.mem_map.1 hy
  have:=h p hp
  simpa using fun e=>this e.symm
theorem mget_none_iff {x:α} {M:List (α × β)}:mget M x=none↔∀ p∈M,p.1≠x:=by
 unfold mget
 rw [Option.map_eq_none_iff,List.find?_eq_none]
 constructor
 ·intro h p hp e; have:=h p hp; simp [e] at this
 ·intro h p hp; have:=h p hp; simpa using fun e=>this e.symm
theorem mget_ix_none {x:α} {M:List (α × β)} (h:mget M x=none):ixOf x M=none:=ixOf_none_iff.2 (mget_none_iff.1 h)
theorem mput_none {x:α} {M:List (α × β)} (v:β) (h:mget M x=none):mput M x v=M++[(x,v)]:=by
 unfold mput; rw [mget_ix_none h]
theorem mget_append (M N:List (α × β)) (x:α):mget (M++N) x=(mget M x).or (mget N x):=by
 unfold mget
 rw [List.find?_append]
 cases List.find? (fun p=>decide (x=p.1)) M<;>rfl
theorem mget_cons (p:α × β) (M:List (α × β)) (x:α):mget (p :: M) x=if x=p.1 then some p.2 else mget M x:=by
 unfold mget
 rw [List.find?_cons]
 by_cases h:x=p.1<;>simp [h]
@[simp] theorem mget_nil (x:α):mget ([]:List (α × β)) x=none:=rfl
theorem mget_set:∀ (M:List (α × β)) (i:Nat) (x y:α) (v:β),(h:i < M.length)→(M[i]).1=x→mget (M.set i (x,v)) y=if y=x∧ixOf x M=some i then some v else mget M y
 | [],i,x,y,v,h,_=>by simp at h
 | p :: M,0,x,y,v,h,he=>by
  simp only [List.getElem_cons_zero] at he
  subst he
  simp only [List.set_cons_zero,mget_cons]
  have:ixOf p.1 (p :: M)=some 0:=by simp [ixOf,List.findIdx?_cons]
  by_cases hy:y=p.1<;>simp [hy,this]
 | p :: M,i+1,x,y,v,h,he=>by
  simp only [List.getElem_cons_succ] at he
  have h':i < M.length:=by simpa using h
  have ih:=mget_set M i x y v h' he
  simp only [List.set_cons_succ,mget_cons]
  by_cases hp:y=p.1
  ·simp only [hp,if_true]
   by_cases hx:p.1=x
   ·have:ixOf x (p :: M)=some 0:=by simp [ixOf,List.findIdx?_cons,hx]
    simp [this]
   ·simp [hx]
  ·simp only [hp,if_false,ih]
   have e:ixOf x (p :: M)=some (i+1)↔(x≠p.1∧ixOf x M=some i):=by
    unfold ixOf
    simp only [List.map_cons,List.findIdx?_cons,decide_eq_true_eq]
    by_cases hx:x=p.1<;>simp [hx]
   by_cases hyx:y=x
   ·subst hyx; simp [e,hp]
   ·simp [hyx]
theorem mget_mput (M:List (α × β)) (x y:α) (v:β):mget (mput M x v) y=if y=x then some v else mget M y:=by
 unfold mput
 cases h:ixOf x M with
 | none =>
  simp only [mget_append,mget_cons,mget_nil]
  by_cases hy:y=x
  ·subst hy; rw [ix_none h]; simp
  ·simp [hy]
 | some i =>
  obtain ⟨h1,h2⟩:=ix_lt h
  simp only [mget_set M i x y v h1 h2,h,and_true]
theorem putK_mks [Dat α] (M:List (α × β)) (x:α) (v:β):putK (mks M) (Dat.av x) (ixOf x M)=mks (mput M x v):=by
 unfold mput
 cases h:ixOf x M with
 | none=>simp [putK,mks,avs]
 | some i=>simp [putK,mks,avs,List.map_set]
theorem putK_mvs [Dat β] (M:List (α × β)) (x:α) (v:β):putK (mvs M) (Dat.av v) (ixOf x M)=mvs (mput M x v):=by
 unfold mput
 cases h:ixOf x M with
 | none=>simp [putK,mvs,avs]
 | some i=>simp [putK,mvs,avs,List.map_set]
theorem lookA_mvs [Dat β] (M:List (α × β)) (x:α) (z:β):lookA false (Dat.av z) (mvs M) (ixOf x M)=Dat.av ((mget M x).getD z):=by
 cases h:ixOf x M with
 | none=>rw [ix_none h]; rfl
 | some i =>
  obtain ⟨h1,h2⟩:=ix_get h
  rw [h2]
  show (mvs M).getD i .any=_
  unfold mvs
  rw [avs_get _ i (by simpa using h1)]
  simp
theorem findA_mks [Dat α] {P:Program} {T:Tys P} {kt:Nat} {x:α} (hq:∀ y:α,keyQ T kt (Dat.av x) (Dat.av y)=some (decide (x=y))) (M:List (α × β)):findA T kt (Dat.av x) (mks M) 0=some (ixOf x M):=by
 have:∀ (l:List α) (i:Nat),findA T kt (Dat.av x) (avs l) i=some ((l.findIdx? fun y=>decide (x=y)).map (·+i)):=by
  intro l
  induction l with
  | nil=>intro i; rfl
  | cons y l ih =>
   intro i
   rw [avs_cons]
   simp only [findA,hq]
   by_cases h:x=y
   ·simp [h,List.findIdx?_cons]
   ·simp only [h,decide_false,ih,List.findIdx?_cons,Option.some.injEq,Bool.false_eq_true,if_false,Option.map_map]
    congr 1
    funext j
    simp; omega
 have e:=this (M.map Prod.fst) 0
 unfold mks ixOf
 rw [e]
 cases (M.map Prod.fst).findIdx? (fun y=>decide (x=y))<;>simp
end
end
theorem keyQ_Key (a:Int) (b:List UInt8) (y:Key):keyQ T 24 (.agg [.int .i64 a,.str b]) (Dat.av y)=some (decide ((⟨a,b⟩:Key)=y)):=by
 rw [av_Key]
 simp only [go_sem,List.getD_cons_zero,List.getD_cons_succ,Bool.and_true,↓reduceIte,String.reduceEq]
 congr 1
 rw [Bool.eq_iff_iff]
 simp [ext_Key]
@[go_sem] theorem find_Key {β:Type} (a:Int) (b:List UInt8) (M:List (Key × β)):findA T 24 (.agg [.int .i64 a,.str b]) (mks M) 0=some (ixOf ⟨a,b⟩ M):=findA_mks (x:=(⟨a,b⟩:Key)) (fun y=>keyQ_Key a b y) M
@[go_sem] theorem find_Int {β:Type} (a:Int) (M:List (Int × β)):findA T 3 (.int .i64 a) (mks M) 0=some (ixOf a M):=findA_mks (x:=a) (fun y=>by rw [av_int]; simp only [go_sem]) M
section
variable {α:Type} [DecidableEq α]
@[go_sem] theorem lookBool (M:List (α × Bool)) (x:α):lookA false (.bool false) (mvs M) (ixOf x M)=.bool ((mget M x).getD false):=lookA_mvs M x false
@[go_sem] theorem putBool (M:List (α × Bool)) (x:α) (b:Bool):putK (mvs M) (.bool b) (ixOf x M)=mvs (mput M x b):=putK_mvs M x b
@[go_sem] theorem putKey (M:List (Key × Bool)) (a:Int) (b:List UInt8):putK (mks M) (.agg [.int .i64 a,.str b]) (ixOf ⟨a,b⟩ M)=mks (mput M ⟨a,b⟩ true):=putK_mks M (⟨a,b⟩:Key) true
@[go_sem] theorem putInt (M:List (Int × Bool)) (a:Int):putK (mks M) (.int .i64 a) (ixOf a M)=mks (mput M a true):=putK_mks M a true
end
end Go.Proofs.YtmjkjmoeicnbnaaGreatDoor.Lg
