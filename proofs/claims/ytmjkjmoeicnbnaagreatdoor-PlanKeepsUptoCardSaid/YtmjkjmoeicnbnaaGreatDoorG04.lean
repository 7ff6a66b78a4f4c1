/- Parts of the proof, one behind the other. -/
import Derived.RangeFuncNested
import Derived.RangeFuncBound
import Derived.RangeFuncCalls
import Derived.RangeFuncLeaves
import Derived.RangeFuncKeeps
import Derived.Shelf.Abstract
import Derived.Shelf.RegionOpen
import Derived.WalkKit
import Derived.OwnWalkIn
import Derived.TacticsInMore
import Derived.LoopNIn
import Derived.LoopIn
import Derived.Test.YtmjkjmoeicnbnaaGreatDoorProg
import Derived.Test.YtmjkjmoeicnbnaaGreatDoorG03
namespace Go.Proofs.YtmjkjmoeicnbnaaGreatDoor.Nm
set_option maxRecDepth 100000
set_option linter.unusedVariables false
set_option linter.unusedSimpArgs false
open Go Go.RowKit Go.Shelf
set_option linter.unusedVariables false
set_option linter.unusedSimpArgs false
attribute [local go_sem] Oper.semAt_some
structure Gr (W W':World):Prop where
 below:Below W.heap.size W W'
 drawn:W.drawn≤W'.drawn
theorem Gr.refl (W:World):Gr W W:=⟨Below.refl _ _,Nat.le_refl _⟩
theorem Gr.trans {A B C:World} (h:Gr A B) (k:Gr B C):Gr A C:=⟨h.below.trans (k.below.mono h.below.size),Nat.le_trans h.drawn k.drawn⟩
theorem Gr.grownBy {W W':World} (h:Gr W W'):W.grownBy W' none:=⟨h.below.os,h.below.tape,h.below.output,h.below.size,fun k hk _=>h.below.block k hk⟩
def Iter {α:Type} (P:Program) (g:Nat) (lb:Array Value) (encs:α→Array Value) (Kp:World→World→Prop) (Bs:Nat) (S Sp:List α→Prop) (W:World):Prop :=
 ∀ (l:Nat) (J Jx:List α→World→Prop),(∀ pre A B,Gr A B→J pre A→J pre B)→(∀ pre A B,Gr A B→Jx pre A→Jx pre B)→(∀ pre A v,J pre A→J pre (A.setCell ⟨Bs,0,none⟩ v)) →
  (∀ pre x A,J pre A→YieldAt Fence.wide 1 P l (encs x) A fun e B=>(e=.returned (.bool true)∧J (pre++[x]) B∧Kp A B)∨(e=.returned (.bool false)∧Jx (pre++[x]) B))→J [] W →
  CallsIn Fence.wide 2 P g (#[.func (.yield l) #[] #[]]++lb) W fun e B=>(∃ v,e=.returned v)∧((∃ xs,S xs∧J xs B)∨∃ pre,Sp pre∧Jx pre B)
section
variable {P:Program} {fn:FuncId} {tmps:Array Value} {ps:Array Tmp} {assign body:Code} {D:Nat}
def rcd (fn:FuncId) (tmps:Array Value) (ps:Array Tmp) (assign body:Code) (D:Nat) (st:LoopState) (pe:Option Code):Obj :=
 .loop { state:=st,pending:=pe,fn:=fn,tmps:=tmps,params:=ps,assign:=assign,body:=body,defers:=D }
structure Book (r:LoopState→Option Code→Obj) (D:Nat) (st:LoopState) (pe:Option Code) (W:World):Prop where
 own:W.heap[D+1]?=some (r st pe)
 def':W.heap[D]?=some (.deferred (some []))
theorem Book.put {r:LoopState→Option Code→Obj} {st st':LoopState} {pe pe':Option Code} {W:World} (h:Book r D st pe W):Book r D st' pe' (W.putObj (D+1) (r st' pe')) :=
 ⟨World.putObj_heap_same (Array.getElem?_eq_some_iff.1 h.own).1,(World.putObj_heap_other (by omega)).trans h.def'⟩
theorem Book.keep {st:LoopState} {pe:Option Code} {W W':World} (h:Book (rcd fn tmps ps assign body D) D st pe W) (k:KeepsOthers W W'):Book (rcd fn tmps ps assign body D) D st pe W' :=
 ⟨k.same _ _ h.own rfl,k.same _ _ h.def' rfl⟩
structure Mine {β:Type} (base:Nat) (I:β→World→Prop):Prop where
 gr:∀ s A B,Gr A B→I s A→I s B
 put:∀ s A l o o',base≤l→I s A→A.heap[l]?=some o→o.isCells=false→I s (A.putObj l o')
theorem Gr.alloc (W:World) (o:Obj):Gr W (W.alloc o):=⟨(Below.refl _ W).alloc (Nat.le_refl _) _,Nat.le_refl _⟩
def goOrRet {α:Type} (Kp:World→World→Prop) (I Ix:List α→World→Prop) (xs:List α) (W:World):Exit→Act→World→Prop
 | .normal,_,W'=>KeepsOthers W W'∧Kp W W'∧I xs W'
 | .ret,_,W'=>KeepsOthers W W'∧Ix xs W'
 | _,_,_=>False
theorem wp_range {α:Type} {g:Operand} {Q:Exit→Act→World→Prop} {a:Act} {w:World} {gf:Nat} {lb:Array Value} (hg:a.eval g=.func (.func gf) #[] lb)
  (eg:∀ args w,(callFunc gf args).run P w=.ok (.enter gf args) w) {encs:α→Array Value} {Kp:World→World→Prop} {Bs:Nat} {S Sp:List α→Prop} (hps:∀ x,(encs x).size=ps.size)
  (hseq:∀ W,Below w.heap.size w W→Iter P gf lb encs Kp Bs S Sp W)
  (hKt:∀ {A B C:World},Kp A B→Kp B C→Kp A C) (hKb:∀ (W:World) (l:Nat) (o o':Obj),w.heap.size≤l→W.heap[l]?=some o→o.isCells=false→o.isWalk=false→Kp W (W.putObj l o'))
  (I Ix:List α→World→Prop) (hI:Mine w.heap.size I) (hIx:Mine w.heap.size Ix) (hIs:∀ pre W1 v,I pre W1→I pre (W1.setCell ⟨Bs,0,none⟩ v)) (h0:I [] w) (a₁:α→Act)
  (hassign:∀ (l:Nat) (x:α) (W:World) (K:Act→World→Prop),K (a₁ x) W →
   assign.wpIn (Fence.wide.inRound l) 1 P (Exit.then K (fun _ _ _=>False)) { tmps:=(ps.zip (encs x)).foldl (fun t (p,v)=>t.setIfInBounds p v) a.tmps,defers:=[] } W)
  (hbody:∀ (l:Nat) (pre:List α) (x:α) (W:World),I pre W→body.wpIn (Fence.wide.inRound l) 1 P (goOrRet Kp I Ix (pre++[x]) W) (a₁ x) W)
  (hdone:∀ (D:Nat) (xs:List α) (W:World),S xs→I xs W→W.heap[D]?=some (.deferred (some []))→w.heap.size≤D→Q .normal { a with defers:={ target:=.collected D,args:=#[] } :: a.defers } W)
  (hstop:∀ (D:Nat) (pre:List α) (W:World),Sp pre→Ix pre W→W.heap[D]?=some (.deferred (some []))→w.heap.size≤D→Code.ret.wpIn Fence.wide 3 P Q { a with defers:={ target:=.collected D,args:=#[] } :: a.defers } W) :
  (Code.rangeFunc g ps assign body).wpIn Fence.wide 3 P Q a w:=by
 refine wpIn_rangeFunc fun fn hfn=>?_
 let r:=rcd fn a.tmps ps assign body w.heap.size
 let W1:=(w.alloc (.deferred (some []))).alloc (r .ready none)
 have hb1:Below w.heap.size w W1:=((Below.refl _ w).alloc (Nat.le_refl _) _).alloc (by simp) _
 have hbk:Book r w.heap.size .ready none W1:=by
  constructor
  ·have:=World.alloc_heap_new (w.alloc (.deferred (some []))) (r .ready none)
   rwa [World.size_alloc] at this
  ·exact (Below.heap_alloc _ _ _ (by simp)).trans (World.alloc_heap_new w _)
 have hbkg:∀ {st:LoopState} {pe:Option Code} {A B:World},Gr A B→Book r w.heap.size st pe A→Book r w.heap.size st pe B:=fun hg hb =>
  ⟨(hg.below.block _ (Array.getElem?_eq_some_iff.1 hb.own).1).trans hb.own,(hg.below.block _ (Array.getElem?_eq_some_iff.1 hb.def').1).trans hb.def'⟩
 refine ⟨w.heap.size+1,[{ target:=.collected w.heap.size,args:=#[] }],W1,{ target:=.fn (.func gf) lb,args:=#[.func (.yield (w.heap.size+1)) #[] #[]] },W1,gf,
  #[.func (.yield (w.heap.size+1)) #[] #[]]++lb,W1,run_enterLoop_outer _ _ _ _ _,?_,fun _ _=>trivial,?_,fun h=>(by cases h),?_⟩
 ·simp only [resolve,hg]
  simp [go_sem]
 ·simp [invoke,go_sem,eg]
 refine (hseq W1 hb1 (w.heap.size+1) (fun pre W=>I pre W∧Book r w.heap.size .ready none W) (fun pre W=>Ix pre W∧Book r w.heap.size .done (some .ret) W)
  (fun pre A B hg h=>⟨hI.gr pre A B hg h.1,hbkg hg h.2⟩) (fun pre A B hg h=>⟨hIx.gr pre A B hg h.1,hbkg hg h.2⟩) (fun pre A v h=>⟨hIs pre A v h.1,h.2.keep (KeepsOthers.setCell A _ v)⟩) ?_
  ⟨hI.gr _ _ _ (Gr.alloc _ _) (hI.gr _ _ _ (Gr.alloc _ _) h0),hbk⟩).mono ?_
 ·rintro pre x W ⟨hi,hb⟩
  refine ⟨fn,_,assign,body,run_yield (P:=P) (args:=encs x) hb.own (hps x),roundIn_of_wpIn hfn (hassign _ x W _ ⟨_,run_beginRound hb.own rfl,?_⟩)⟩
  have hb2:Book r w.heap.size .busy none (W.putObj (w.heap.size+1) (r .busy none)):=hb.put
  have hk2:Kp W (W.putObj (w.heap.size+1) (r .busy none)):=hKb _ _ _ _ (by omega) hb.own rfl rfl
  refine wpIn_mono (hbody _ pre x _ (hI.put _ _ _ _ _ (by omega) hi hb.own rfl)) ?_
  rintro e a3 W3 hp
  cases e with
  | normal =>
   obtain ⟨hk3,hkp3,hi3⟩:=hp
   have hb3:=hb2.keep hk3
   exact ⟨_,_,run_endRound (P:=P) none hb3.own,.inl ⟨rfl,⟨hI.put _ _ _ _ _ (by omega) hi3 hb3.own rfl,hb3.put⟩,hKt (hKt hk2 hkp3) (hKb _ _ _ _ (by omega) hb3.own rfl rfl)⟩⟩
  | ret =>
   obtain ⟨hk3,hi3⟩:=hp
   have hb3:=hb2.keep hk3
   exact ⟨_,_,run_endRound (P:=P) (some .ret) hb3.own,.inr ⟨rfl,hIx.put _ _ _ _ _ (by omega) hi3 hb3.own rfl,hb3.put⟩⟩
  | exit _=>exact hp.elim
  | goto _=>exact hp.elim
  | panic _=>exact hp.elim
  | outgrown=>exact hp.elim
 ·rintro e W2 ⟨⟨v,rfl⟩,(⟨xs,hS,hi,hb⟩|⟨pre,hsp,hi,hb⟩)⟩
  ·exact ⟨none,_,run_endLoop (P:=P) hb.own (by simp),hdone _ xs _ hS (hI.put _ _ _ _ _ (by omega) hi hb.own rfl) ((World.putObj_heap_other (by omega)).trans hb.def') (Nat.le_refl _)⟩
  ·exact ⟨some .ret,_,run_endLoop (P:=P) hb.own (by simp),hstop _ pre _ hsp (hIx.put _ _ _ _ _ (by omega) hi hb.own rfl) ((World.putObj_heap_other (by omega)).trans hb.def') (Nat.le_refl _)⟩
end
end Go.Proofs.YtmjkjmoeicnbnaaGreatDoor.Nm
