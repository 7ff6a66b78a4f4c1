/- Parts of the proof, one behind the other. -/
import Derived.RangeFuncNested
import Derived.RangeFuncBound
import Derived.RangeFuncCalls
import Derived.RangeFuncLeaves
import Derived.RangeFuncKeeps
import Derived.Shelf.Abstract
import Derived.Shelf.RegionOpen
import Derived.WalkKit
import Derived.OwnWalkIn
import Derived.TacticsInMore
import Derived.LoopNIn
import Derived.LoopIn
import Derived.Test.YthjalhfmpffbjaaGreatDoorProg
import Derived.Laws.RangeAny
import Derived.Test.YthjalhfmpffbjaaGreatDoorG07
set_option linter.unusedVariables false
set_option linter.unusedSimpArgs false
set_option maxRecDepth 100000
set_option maxHeartbeats 64000000
namespace Go.Proofs.YthjalhfmpffbjaaGreatDoor.Nm
open Go Go.RowKit Go.Shelf
attribute [local go_sem] Oper.semAt_some
structure Gr(W W':World):Prop where
 below:Below W.heap.size W W'
 drawn:W.drawn≤W'.drawn
theorem Gr.refl(W:World):Gr W W:=⟨Below.refl _ _,Nat.le_refl _⟩
theorem Gr.trans{A B C:World}(h:Gr A B)(k:Gr B C):Gr A C:=⟨h.below.trans (k.below.mono h.below.size),Nat.le_trans h.drawn k.drawn⟩
theorem Gr.grownBy{W W':World}(h:Gr W W'):W.grownBy W' none:=⟨h.below.os,h.below.tape,h.below.output,h.below.size,fun k hk _=>h.below.block k hk⟩
def Jg6{α:Type}(P:Program)(g:Nat)(lb:Array Value)(encs:α→Array Value)(Kp:World→World→Prop)(Bs:Nat)(S Sp:List α→Prop)(W:World):Prop :=
 ∀(l:Nat) (J Jx:List α→World→Prop),(∀pre A B,Gr A B→J pre A→J pre B)→(∀pre A B,Gr A B→Jx pre A→Jx pre B)→(∀pre A v,J pre A→J pre (A.setCell ⟨Bs,0,none⟩ v)) →
  (∀pre x A,J pre A→YieldAt Fence.wide 1 P l (encs x) A fun e B=>(e=.returned (.bool true)∧J (pre++[x]) B∧Kp A B)∨(e=.returned (.bool false)∧Jx (pre++[x]) B))→J [] W →
  CallsIn Fence.wide 2 P g (#[.func (.yield l) #[] #[]]++lb) W fun e B=>(∃v,e=.returned v)∧((∃xs,S xs∧J xs B)∨∃pre,Sp pre∧Jx pre B)
section
variable {P:Program} {fn:FuncId} {tmps:Array Value} {ps:Array Tmp} {assign body:Code} {D:Nat}
def rcd(fn:FuncId)(tmps:Array Value)(ps:Array Tmp)(assign body:Code)(D:Nat)(st:LoopState)(pe:Option Code):Obj :=
 .loop { state:=st,pending:=pe,fn:=fn,tmps:=tmps,params:=ps,assign:=assign,body:=body,defers:=D }
structure Book(r:LoopState→Option Code→Obj)(D:Nat)(st:LoopState)(pe:Option Code)(W:World):Prop where
 own:W.heap[D+1]?=some (r st pe)
 def':W.heap[D]?=some (.deferred (some []))
theorem Book.put{r:LoopState→Option Code→Obj}{st st':LoopState}{pe pe':Option Code}{W:World}(h:Book r D st pe W):Book r D st' pe' (W.putObj (D+1) (r st' pe')) :=
 ⟨World.putObj_heap_same (Array.getElem?_eq_some_iff.1 h.own).1,(World.putObj_heap_other (by omega)).trans h.def'⟩
theorem Book.keep{st:LoopState}{pe:Option Code}{W W':World}(h:Book (rcd fn tmps ps assign body D) D st pe W)(k:KeepsOthers W W'):Book (rcd fn tmps ps assign body D) D st pe W' :=
 ⟨k.same _ _ h.own rfl,k.same _ _ h.def' rfl⟩
structure Mine{β:Type}(base:Nat)(I:β→World→Prop):Prop where
 gr:∀s A B,Gr A B→I s A→I s B
 put:∀s A l o o',base≤l→I s A→A.heap[l]?=some o→o.isCells=false→I s (A.putObj l o')
theorem Gr.alloc(W:World)(o:Obj):Gr W (W.alloc o):=⟨(Below.refl _ W).alloc (Nat.le_refl _) _,Nat.le_refl _⟩
def Jn4{α:Type}(Kp:World→World→Prop)(I Ix:List α→World→Prop)(xs:List α)(W:World):Exit→Act→World→Prop
 | .normal,_,W'=>KeepsOthers W W'∧Kp W W'∧I xs W'
 | .ret,_,W'=>KeepsOthers W W'∧Ix xs W'
 |_,_,_=>False
theorem JrB{α:Type}{g:Operand}{Q:Exit→Act→World→Prop}{a:Act}{w:World}{gf:Nat}{lb:Array Value}(hg:a.eval g=.func (.func gf) #[] lb)
  (eg:∀args w,(callFunc gf args).run P w=.ok (.enter gf args) w) {encs:α→Array Value} {Kp:World→World→Prop} {Bs:Nat} {S Sp:List α→Prop} (hps:∀x,(encs x).size=ps.size)
  (hseq:∀W,Below w.heap.size w W→Jg6 P gf lb encs Kp Bs S Sp W)
  (hKt:∀ {A B C:World},Kp A B→Kp B C→Kp A C) (hKb:∀(W:World) (l:Nat) (o o':Obj),w.heap.size≤l→W.heap[l]?=some o→o.isCells=false→o.isWalk=false→Kp W (W.putObj l o'))
  (I Ix:List α→World→Prop) (hI:Mine w.heap.size I) (hIx:Mine w.heap.size Ix) (hIs:∀pre W1 v,I pre W1→I pre (W1.setCell ⟨Bs,0,none⟩ v)) (h0:I [] w) (a₁:α→Act)
  (hassign:∀(l:Nat) (x:α) (W:World) (K:Act→World→Prop),K (a₁ x) W →
   assign.wpIn (Fence.wide.inRound l) 1 P (Exit.then K (fun _ _ _=>False)) { tmps:=(ps.zip (encs x)).foldl (fun t (p,v)=>t.setIfInBounds p v) a.tmps,defers:=[] } W)
  (hbody:∀(l:Nat) (pre:List α) (x:α) (W:World),I pre W→body.wpIn (Fence.wide.inRound l) 1 P (Jn4 Kp I Ix (pre++[x]) W) (a₁ x) W)
  (hdone:∀(D:Nat) (xs:List α) (W:World),S xs→I xs W→W.heap[D]?=some (.deferred (some []))→w.heap.size≤D→Q .normal { a with defers:={ target:=.collected D,args:=#[] } :: a.defers } W)
  (hstop:∀(D:Nat) (pre:List α) (W:World),Sp pre→Ix pre W→W.heap[D]?=some (.deferred (some []))→w.heap.size≤D→Code.ret.wpIn Fence.wide 3 P Q { a with defers:={ target:=.collected D,args:=#[] } :: a.defers } W) :
  (Code.rangeFunc g ps assign body).wpIn Fence.wide 3 P Q a w:=by
 refine wpIn_rangeFunc fun fn hfn=>?_
 let r:=rcd fn a.tmps ps assign body w.heap.size
 let W1:=(w.alloc (.deferred (some []))).alloc (r .ready none)
 have hb1:Below w.heap.size w W1:=((Below.refl _ w).alloc (Nat.le_refl _) _).alloc (by simp) _
 have hbk:Book r w.heap.size .ready none W1:=by
  constructor
  ·have:=World.alloc_heap_new (w.alloc (.deferred (some []))) (r .ready none)
   rwa [World.size_alloc] at this
  ·exact(Below.heap_alloc _ _ _ (by simp)).trans (World.alloc_heap_new w _)
 have hbkg:∀ {st:LoopState} {pe:Option Code} {A B:World},Gr A B→Book r w.heap.size st pe A→Book r w.heap.size st pe B:=fun hg hb =>
  ⟨(hg.below.block _ (Array.getElem?_eq_some_iff.1 hb.own).1).trans hb.own,(hg.below.block _ (Array.getElem?_eq_some_iff.1 hb.def').1).trans hb.def'⟩
 refine⟨w.heap.size+1,[{ target:=.collected w.heap.size,args:=#[] }],W1,{ target:=.fn (.func gf) lb,args:=#[.func (.yield (w.heap.size+1)) #[] #[]] },W1,gf,
  #[.func (.yield (w.heap.size+1)) #[] #[]]++lb,W1,run_enterLoop_outer _ _ _ _ _,?_,fun _ _=>trivial,?_,fun h=>(by cases h),?_⟩
 ·simp only[resolve,hg]
  simp[go_sem]
 ·simp[invoke,go_sem,eg]
 refine(hseq W1 hb1 (w.heap.size+1) (fun pre W=>I pre W∧Book r w.heap.size .ready none W) (fun pre W=>Ix pre W∧Book r w.heap.size .done (some .ret) W)
  (fun pre A B hg h=>⟨hI.gr pre A B hg h.1,hbkg hg h.2⟩) (fun pre A B hg h=>⟨hIx.gr pre A B hg h.1,hbkg hg h.2⟩) (fun pre A v h=>⟨hIs pre A v h.1,h.2.keep (KeepsOthers.setCell A _ v)⟩) ?_
  ⟨hI.gr _ _ _ (Gr.alloc _ _) (hI.gr _ _ _ (Gr.alloc _ _) h0),hbk⟩).mono ?_
 ·rintro pre x W ⟨hi,hb⟩
  refine⟨fn,_,assign,body,run_yield (P:=P) (args:=encs x) hb.own (hps x),roundIn_of_wpIn hfn (hassign _ x W _ ⟨_,run_beginRound hb.own rfl,?_⟩)⟩
  have hb2:Book r w.heap.size .busy none (W.putObj (w.heap.size+1) (r .busy none)):=hb.put
  have hk2:Kp W (W.putObj (w.heap.size+1) (r .busy none)):=hKb _ _ _ _ (by omega) hb.own rfl rfl
  refine wpIn_mono (hbody _ pre x _ (hI.put _ _ _ _ _ (by omega) hi hb.own rfl)) ?_
  rintro e a3 W3 hp
  cases e with
  |normal =>
   obtain⟨hk3,hkp3,hi3⟩:=hp
   have hb3:=hb2.keep hk3
   exact⟨_,_,run_endRound (P:=P) none hb3.own,.inl ⟨rfl,⟨hI.put _ _ _ _ _ (by omega) hi3 hb3.own rfl,hb3.put⟩,hKt (hKt hk2 hkp3) (hKb _ _ _ _ (by omega) hb3.own rfl rfl)⟩⟩
  |ret =>
   obtain⟨hk3,hi3⟩:=hp
   have hb3:=hb2.keep hk3
   exact⟨_,_,run_endRound (P:=P) (some .ret) hb3.own,.inr ⟨rfl,hIx.put _ _ _ _ _ (by omega) hi3 hb3.own rfl,hb3.put⟩⟩
  |exit _=>exact hp.elim
  |goto _=>exact hp.elim
  |panic _=>exact hp.elim
  |outgrown=>exact hp.elim
 ·rintro e W2 ⟨⟨v,rfl⟩,(⟨xs,hS,hi,hb⟩|⟨pre,hsp,hi,hb⟩)⟩
  ·exact⟨none,_,run_endLoop (P:=P) hb.own (by simp),hdone _ xs _ hS (hI.put _ _ _ _ _ (by omega) hi hb.own rfl) ((World.putObj_heap_other (by omega)).trans hb.def') (Nat.le_refl _)⟩
  ·exact⟨some .ret,_,run_endLoop (P:=P) hb.own (by simp),hstop _ pre _ hsp (hIx.put _ _ _ _ _ (by omega) hi hb.own rfl) ((World.putObj_heap_other (by omega)).trans hb.def') (Nat.le_refl _)⟩
end
end Go.Proofs.YthjalhfmpffbjaaGreatDoor.Nm
namespace Go.Proofs.YthjalhfmpffbjaaGreatDoor.Nm
open Go Go.RowKit Go.Shelf
attribute [local go_sem] Oper.semAt_some
def splitB:List UInt8→List (List UInt8)
 | []=>[[]]
 |c :: r=>if c=46 then [] :: splitB r else (match splitB r with|[]=>[[c]]|p :: q=>(c :: p) :: q)
theorem Jkq:∀ {l:List UInt8},(∀c∈l,c≠46)→splitB l=[l]
 | [],_=>rfl
 |c :: r,h=>by rw[splitB,if_neg (h c (by simp)),Jkq fun d hd=>h d (by simp[hd])]
theorem Jkp:∀ {a b:List UInt8},(∀c∈a,c≠46)→splitB (a++46 :: b)=a :: splitB b
 | [],b,_=>by simp[splitB]
 |c :: a,b,h=>by rw[List.cons_append,splitB,if_neg (h c (by simp)),Jkp fun d hd=>h d (by simp[hd])]
def dot:ByteArray:=⟨#[46]⟩
def IdxOk(P:Program)(f:FuncId):Prop:=∀(r:ByteArray) (W:World),Calls P f #[.string r,.string dot] W fun e W' =>
 (∃k:Int,e=.returned (.int .i64 k)∧((k=-1∧∀c∈r.data.toList,c≠46)∨(∃a b,k=(a.length:Nat)∧r.data.toList=a++46 :: b∧∀c∈a,c≠46)))∧Gr W W'
theorem JqZ(s:ByteArray)(w:World):Calls Tryz.prog 249 #[.string s,.string dot,.int .i64 0] w fun e w' =>
  e=.returned (.func (.func 251) #[] #[.pointer (some ⟨w.heap.size+1,0,none⟩),.pointer (some ⟨w.heap.size,0,none⟩),.pointer (some ⟨w.heap.size+1+1,0,none⟩)]) ∧
  w'=((w.alloc (.cells #[.string s] 9)).alloc (.cells #[.string dot] 9)).alloc (.cells #[.int .i64 0] 3):=by
 go_enter Tryz.func249,Tryz.ntmps249
 go_wp2
 all_goals go_ret
 all_goals exact⟨rfl,rfl⟩
theorem JqY(s:ByteArray)(w:World):Calls Tryz.prog 238 #[.string s,.string dot] w fun e w' =>
  e=.returned (.func (.func 251) #[] #[.pointer (some ⟨w.heap.size+1,0,none⟩),.pointer (some ⟨w.heap.size,0,none⟩),.pointer (some ⟨w.heap.size+1+1,0,none⟩)]) ∧
  w'=((w.alloc (.cells #[.string s] 9)).alloc (.cells #[.string dot] 9)).alloc (.cells #[.int .i64 0] 3):=by
 refine callsIn_wide.1 (?_:CallsIn Fence.wide 3 _ _ _ _ _)
 refine callsIn_of_wp Tryz.func238 rfl trivial ?_ rfl
 simp only[Tryz.ntmps238,List.size_toArray,List.length_cons,List.length_nil,Nat.reduceAdd,Nat.reduceSub,Array.replicate_succ,Array.replicate_zero,List.push_toArray,List.append_toArray,List.nil_append,List.cons_append]
 gi_wp2_with (refine⟨trivial,?_⟩;gi_at_call 249;refine(callsIn_wide.2 (JqZ s w)).mono ?_;rintro e w' ⟨rfl,rfl⟩)
 go_ret
 exact⟨rfl,rfl⟩
theorem JdY{w:World}{b:Nat}{v:Value}(h:w.cell? ⟨b,0,none⟩=some v):b<w.heap.size:=by
 obtain⟨o,ho,_⟩:=cells_of_cell h
 exact(Array.getElem?_eq_some_iff.1 ho).1
def JjL(Bs:Nat)(w:World):Nat:=match w.cell? ⟨Bs,0,none⟩ with|some (.string r)=>r.size|_=>0
set_option maxRecDepth 100000 in
theorem Jq0(hix:IdxOk Tryz.prog 253)(s0:ByteArray)(hs0:s0.size≤4294967296)(Bs Bp Bv n₀:Nat)(h1:Bs≠Bp)(h2:Bs≠Bv)(hBp:Bp<n₀)(hBv:Bv<n₀)(hBs:Bs<n₀)(W:World)
  (c1:W.cell? ⟨Bs,0,none⟩=some (.string s0)) (c2:W.frozen? ⟨Bs,0,none⟩=false) (c3:W.cell? ⟨Bp,0,none⟩=some (.string dot)) (c4:W.cell? ⟨Bv,0,none⟩=some (.int .i64 0)) :
  Jg6 Tryz.prog 251 #[.pointer (some ⟨Bp,0,none⟩),.pointer (some ⟨Bs,0,none⟩),.pointer (some ⟨Bv,0,none⟩)] (fun x:ByteArray=>#[.string x]) (Below n₀) Bs
   (fun xs=>xs.map (fun x=>x.data.toList)=splitB s0.data.toList) (fun pre=>pre.map (fun x=>x.data.toList) <+: splitB s0.data.toList) W:=by
 intro l J Jx hJ hJx hJs hY h0
 refine callsIn_of_wp Tryz.func251 rfl trivial ?_ rfl
 simp only[Tryz.ntmps251,List.size_toArray,List.length_cons,List.length_nil,Nat.reduceAdd,Nat.reduceSub,Array.replicate_succ,Array.replicate_zero,List.push_toArray,List.append_toArray,List.nil_append,List.cons_append]
 have hdl:dot.size=1:=rfl
 gi_wp2
 gi_loopw [] (fun wr=>∃(pre:List ByteArray) (r:ByteArray),pre.map (fun x=>x.data.toList)++splitB r.data.toList=splitB s0.data.toList∧r.size≤4294967296∧J pre wr ∧
   wr.cell? ⟨Bs,0,none⟩=some (.string r)∧wr.frozen? ⟨Bs,0,none⟩=false∧wr.cell? ⟨Bp,0,none⟩=some (.string dot)∧wr.cell? ⟨Bv,0,none⟩=some (.int .i64 0)) (fun wr=>JjL Bs wr)
 case atStart=>exact⟨[],s0,by simp,hs0,h0,c1,c2,c3,c4⟩
 case round =>
  obtain⟨pre,r,hsp,hrs,hJ1,d1,d2,d3,d4⟩:=hrel
  have hI:=hix r wr
  gi_wp2_with (refine⟨trivial,?_⟩;gi_at_call 253;refine(callsIn_wide.2 hI).mono ?_;rintro e w' ⟨⟨k,rfl,hk⟩,hg⟩;refine Hid.out ?_)
  unfold Hid
  have hJ2:=hJ pre _ _ hg hJ1
  have hin:∀ {b:Nat} {v:Value},wr.cell? ⟨b,0,none⟩=some v→w'.cell? ⟨b,0,none⟩=some v:=fun h=>(hg.below.cell (p:=⟨_,0,none⟩) (JdY h)).trans h
  have e1:=hin d1
  have e2:w'.frozen? ⟨Bs,0,none⟩=false:=(hg.below.frozen (p:=⟨Bs,0,none⟩) (JdY d1)).trans d2
  have e3:=hin d3
  have e4:=hin d4
  rcases hk with ⟨rfl,hno⟩|⟨a,b,rfl,hab,hno⟩
  ·rw[Jkq hno] at hsp
   obtain⟨fn,tmps,assign,body,hy,hR⟩:=hY pre r w' hJ2
   gi_wp2
   refine hR.mono ?_
   rintro e W3 (⟨rfl,hJ3,hk3⟩|⟨rfl,hJx3⟩)
   ·gi_wp2
    go_end0
    exact⟨⟨_,rfl⟩,.inl ⟨_,by simpa using hsp,hJ3⟩⟩
   ·gi_wp2
    go_end0
    exact⟨⟨_,rfl⟩,.inr ⟨_,by rw[←hsp];simp,hJx3⟩⟩
  ·rw[hab,Jkp hno] at hsp
   have hrl:r.data.size=a.length+(b.length+1):=by
    rw[←Array.length_toList,hab];simp
   have hlen:a.length+1≤r.size:=by show a.length+1≤r.data.size;omega
   have hx1:(r.extract 0 a.length).data.toList=a:=by
    rw[ByteArray.data_extract,Array.toList_extract,hab];simp
   have hx2:(r.extract (a.length+1) r.size).data.toList=b:=by
    have:r.size=a.length+(b.length+1):=hrl
    rw[ByteArray.data_extract,Array.toList_extract,hab,this];simp[List.extract,show a.length+(b.length+1)-(a.length+1)=b.length by omega]
   obtain⟨fn,tmps,assign,body,hy,hR⟩:=hY pre (r.extract 0 a.length) w' hJ2
   gi_wp2
   refine hR.mono ?_
   rintro e W3 (⟨rfl,hJ3,hk3⟩|⟨rfl,hJx3⟩)
   ·have q1:=(hk3.cell (p:=⟨Bs,0,none⟩) hBs).trans e1
    have q2:W3.frozen? ⟨Bs,0,none⟩=false:=(hk3.frozen (p:=⟨Bs,0,none⟩) hBs).trans e2
    have q3:=(hk3.cell (p:=⟨Bp,0,none⟩) hBp).trans e3
    have q4:=(hk3.cell (p:=⟨Bv,0,none⟩) hBv).trans e4
    gi_wp2
    go_roundw
    case rel =>
     refine⟨pre++[r.extract 0 a.length],r.extract (a.length+1) r.size,?_,?_,hJs _ _ _ hJ3,World.cell?_setCell_same' _ _ _ (by rw[q1];rfl),by rw[World.frozen?_setCell];exact q2,
      (World.cell?_setCell_other _ _ _ _ (by simp[h1])).trans q3,(World.cell?_setCell_other _ _ _ _ (by simp[h2])).trans q4⟩
     ·rw[List.map_append,List.map_cons,hx1,hx2,List.map_nil,List.append_assoc];exact hsp
     ·rw[ByteArray.size_extract];omega
    case measure =>
     have m1:(W3.setCell ⟨Bs,0,none⟩ (.string (r.extract (a.length+1) r.size))).cell? ⟨Bs,0,none⟩=some (.string (r.extract (a.length+1) r.size)):=World.cell?_setCell_same' _ _ _ (by rw[q1];rfl)
     simp only[JjL,m1,d1,ByteArray.size_extract]
     omega
   ·gi_wp2
    refine bodyPost_ret (results_none rfl _ _ _) rfl ?_
    exact⟨⟨_,rfl⟩,.inr ⟨_,by rw[←hsp,List.map_append,List.map_cons,hx1,List.map_nil];exact⟨splitB b,by simp⟩,hJx3⟩⟩
def NameOk(P:Program)(f:FuncId)(ok:List UInt8→Bool):Prop:=∀(x:ByteArray) (W:World),Calls P f #[.string x] W fun e W'=>e=.returned (.bool (ok x.data.toList))∧Gr W W'
structure InvN(w:World)(ok:List UInt8→Bool)(pre:List ByteArray)(W:World):Prop where
 all:∀x∈pre,ok x.data.toList=true
 cell:W.cell? ⟨w.heap.size,0,none⟩=some (.bool false)
 fro:W.frozen? ⟨w.heap.size,0,none⟩=false
 gr:Gr w W
 sz:w.heap.size+4≤W.heap.size
structure InvX(w:World)(ok:List UInt8→Bool)(pre:List ByteArray)(W:World):Prop where
 bad:∃x∈pre,ok x.data.toList=false
 cell:W.cell? ⟨w.heap.size,0,none⟩=some (.bool false)
 fro:W.frozen? ⟨w.heap.size,0,none⟩=false
 gr:Gr w W
theorem JbQ{A B:World}{b:Nat}{v:Value}(hg:Gr A B)(h:A.cell? ⟨b,0,none⟩=some v):B.cell? ⟨b,0,none⟩=some v:=(hg.below.cell (p:=⟨b,0,none⟩) (JdY h)).trans h
theorem JcO{A B:World}{b:Nat}{v:Value}(hg:Gr A B)(h:A.cell? ⟨b,0,none⟩=some v)(hf:A.frozen? ⟨b,0,none⟩=false):B.frozen? ⟨b,0,none⟩=false:=(hg.below.frozen (p:=⟨b,0,none⟩) (JdY h)).trans hf
theorem JhJ{A:World}{b l:Nat}{v:Value}{o o':Obj}(h:A.cell? ⟨b,0,none⟩=some v)(hl:A.heap[l]?=some o)(ho:o.isCells=false):(A.putObj l o').cell? ⟨b,0,none⟩=some v :=
 cell_kept h (grownBy_putObj' A l o') (fun r e=>by cases e;exact⟨o,hl,ho⟩)
theorem Jiq{A:World}{b l:Nat}{v:Value}{o o':Obj}(h:A.cell? ⟨b,0,none⟩=some v)(hf:A.frozen? ⟨b,0,none⟩=false)(hl:A.heap[l]?=some o)(ho:o.isCells=false):(A.putObj l o').frozen? ⟨b,0,none⟩=false :=
 (frozen_kept h (grownBy_putObj' A l o') (fun r e=>by cases e;exact⟨o,hl,ho⟩)).trans hf
theorem Jea{w A:World}{l:Nat}{o:Obj}(hg:Gr w A)(hl:w.heap.size≤l)(o':Obj)(h:A.heap[l]?=some o):Gr w (A.putObj l o') :=
 ⟨hg.below.trans ((Below.refl _ A).grown (grownBy_putObj' A l o') (by have:=(Array.getElem?_eq_some_iff.1 h).1;omega) (fun k e=>by cases e;exact hl)),hg.drawn⟩
open Go Go.RowKit Go.Shelf
attribute [local go_sem] Oper.semAt_some
theorem JoY{w:World}{ok:List UInt8→Bool}{base:Nat}(hb:w.heap.size≤base):Mine base (InvN w ok) where
 gr s A B hg h:=⟨h.all,JbQ hg h.cell,JcO hg h.cell h.fro,h.gr.trans hg,Nat.le_trans h.sz hg.below.size⟩
 put s A l o o' hl h ho hc:=⟨h.all,JhJ h.cell ho hc,Jiq h.cell h.fro ho hc,Jea h.gr (by omega) o' ho,by rw[World.putObj_size];exact h.sz⟩
theorem JoZ{w:World}{ok:List UInt8→Bool}{base:Nat}(hb:w.heap.size≤base):Mine base (InvX w ok) where
 gr s A B hg h:=⟨h.bad,JbQ hg h.cell,JcO hg h.cell h.fro,h.gr.trans hg⟩
 put s A l o o' hl h ho hc:=⟨h.bad,JhJ h.cell ho hc,Jiq h.cell h.fro ho hc,Jea h.gr (by omega) o' ho⟩
theorem JqG{w:World}{ok:List UInt8→Bool}{b:Nat}(hb:w.heap.size<b)(pre:List ByteArray)(A:World)(v:Value)(h:InvN w ok pre A):InvN w ok pre (A.setCell ⟨b,0,none⟩ v) :=
 ⟨h.all,(World.cell?_setCell_other _ _ _ _ (by intro e;injection e;omega)).trans h.cell,by rw[World.frozen?_setCell];exact h.fro,⟨h.gr.below.setCell (p:=⟨b,0,none⟩) (Nat.le_of_lt hb) v,h.gr.drawn⟩,by simp[World.setCell];exact h.sz⟩
theorem JhI(w:World)(v:Value)(t:TypeId):(w.alloc (.cells #[v] t)).cell? ⟨w.heap.size,0,none⟩=some v∧(w.alloc (.cells #[v] t)).frozen? ⟨w.heap.size,0,none⟩=false:=by
 have h:=World.alloc_heap_new w (.cells #[v] t)
 constructor
 ·simp only[World.cell?];rw[h];rfl
 ·simp only[World.frozen?];rw[h];rfl
theorem JfD(w:World)(v:Value)(t:TypeId){n:Nat}(hn:w.heap.size=n):(w.alloc (.cells #[v] t)).cell? ⟨n,0,none⟩=some v∧(w.alloc (.cells #[v] t)).frozen? ⟨n,0,none⟩=false:=by
 subst hn;exact JhI w v t
theorem JjV{P:Program}{fn:Func}{p:Tmp}{ty:TypeId}(h:fn.results=#[.cell p ty])(hu:P.underlying ty=some .bool){tmps:Array Value}{b:Nat}{v:Value}{w:World}(ht:tmps.getD p undef=.pointer (some ⟨b,0,none⟩))
  (hc:w.cell? ⟨b,0,none⟩=some v):(results fn tmps).run P w=.ok v w:=by
 have ht':tmps[p]?.getD undef=.pointer (some ⟨b,0,none⟩):=by simpa using ht
 have ha:=run_isAgg_plain (P:=P) hu rfl w
 simp[results,h,ht',asAddr,loadVar,Sem.run_bind,ha,Result.andThen,hc]
set_option maxRecDepth 100000 in
theorem names_calls(ok:List UInt8→Bool)(hix:IdxOk Tryz.prog 253)(hnm:NameOk Tryz.prog 193 ok)(s:ByteArray)(hs:s.size≤4294967296)(w:World) :
  Calls Tryz.prog 211 #[.string s] w fun e W'=>e=.returned (.bool ((splitB s.data.toList).all ok))∧Gr w W':=by
 refine callsIn_wide.1 (?_:CallsIn Fence.wide 3 _ _ _ _ _)
 refine callsIn_of_wp_marks Tryz.func211 rfl trivial ?_ rfl
 simp only[Tryz.ntmps211,List.size_toArray,List.length_cons,List.length_nil,Nat.reduceAdd,Nat.reduceSub,Array.replicate_succ,Array.replicate_zero,List.push_toArray,List.append_toArray,List.nil_append,List.cons_append]
 gi_wp2_with (refine⟨trivial,?_⟩;gi_at_call 238;refine(callsIn_wide.2 (JqY s _)).mono ?_;rintro e w' ⟨rfl,rfl⟩)
 obtain⟨p1,p2⟩:=JhI w (.bool false) 4
 obtain⟨wl,hwl⟩:∃wl,(((w.alloc (.cells #[.bool false] 4)).alloc (.cells #[.string s] 9)).alloc (.cells #[.string dot] 9)).alloc (.cells #[.int .i64 0] 3)=wl:=⟨_,rfl⟩
 have hsz:wl.heap.size=w.heap.size+4:=by rw[←hwl];simp
 have hgr:Gr w wl:=by rw[←hwl];exact(((Gr.alloc _ _).trans (Gr.alloc _ _)).trans (Gr.alloc _ _)).trans (Gr.alloc _ _)
 have q0:wl.cell? ⟨w.heap.size,0,none⟩=some (.bool false):=by rw[←hwl];exact JbQ (((Gr.alloc _ _).trans (Gr.alloc _ _)).trans (Gr.alloc _ _)) p1
 have q0f:wl.frozen? ⟨w.heap.size,0,none⟩=false:=by rw[←hwl];exact JcO (((Gr.alloc _ _).trans (Gr.alloc _ _)).trans (Gr.alloc _ _)) p1 p2
 obtain⟨r1,r2⟩:=JfD (w.alloc (.cells #[.bool false] 4)) (.string s) 9 (n:=w.heap.size+1) (by simp)
 have q1:wl.cell? ⟨w.heap.size+1,0,none⟩=some (.string s):=by rw[←hwl];exact JbQ ((Gr.alloc _ _).trans (Gr.alloc _ _)) r1
 have q1f:wl.frozen? ⟨w.heap.size+1,0,none⟩=false:=by rw[←hwl];exact JcO ((Gr.alloc _ _).trans (Gr.alloc _ _)) r1 r2
 obtain⟨s1,s2⟩:=JfD ((w.alloc (.cells #[.bool false] 4)).alloc (.cells #[.string s] 9)) (.string dot) 9 (n:=w.heap.size+1+1) (by simp)
 have q2:wl.cell? ⟨w.heap.size+1+1,0,none⟩=some (.string dot):=by rw[←hwl];exact JbQ (Gr.alloc _ _) s1
 obtain⟨u1,u2⟩:=JfD (((w.alloc (.cells #[.bool false] 4)).alloc (.cells #[.string s] 9)).alloc (.cells #[.string dot] 9)) (.int .i64 0) 3 (n:=w.heap.size+1+1+1) (by simp)
 have q3:wl.cell? ⟨w.heap.size+1+1+1,0,none⟩=some (.int .i64 0):=by rw[←hwl];exact u1
 rw[hwl]
 refine JrB (gf:=251) (lb:=#[.pointer (some ⟨w.heap.size+1+1,0,none⟩),.pointer (some ⟨w.heap.size+1,0,none⟩),.pointer (some ⟨w.heap.size+1+1+1,0,none⟩)]) rfl
  (enters_of Tryz.func251 (by kernel_rfl) rfl) (encs:=fun x:ByteArray=>#[.string x]) (Kp:=Below (w.heap.size+4)) (Bs:=w.heap.size+1) (fun _=>rfl)
  (fun W hb=>Jq0 hix s hs (w.heap.size+1) (w.heap.size+1+1) (w.heap.size+1+1+1) (w.heap.size+4) (by omega) (by omega) (by omega) (by omega) (by omega) W
   ((hb.cell (p:=⟨_,0,none⟩) (by simp;omega)).trans q1) ((hb.frozen (p:=⟨_,0,none⟩) (by simp;omega)).trans q1f) ((hb.cell (p:=⟨_,0,none⟩) (by simp;omega)).trans q2) ((hb.cell (p:=⟨_,0,none⟩) (by simp;omega)).trans q3))
  belowK_t (belowK_b (by omega)) (InvN w ok) (InvX w ok) (JoY (by omega)) (JoZ (by omega)) (JqG (by omega)) ⟨by simp,q0,q0f,hgr,by omega⟩
  (fun x=>{ tmps:=#[.string s,undef,.pointer (some ⟨w.heap.size,0,none⟩),.string x,.string s,.func (.func 251) #[] #[.pointer (some ⟨w.heap.size+1+1,0,none⟩),.pointer (some ⟨w.heap.size+1,0,none⟩),.pointer (some ⟨w.heap.size+1+1+1,0,none⟩)],.string x,undef,undef,undef],defers:=[] }) ?assign ?body ?done ?stop
 case assign =>
  intro l x W K hK
  gi_wp2
  exact hK
 case body =>
  intro l pre x W hI
  have hKO:∀ {W':World},Gr W W'→KeepsOthers W W':=fun hg=>KeepsOthers.of_grownBy hg.grownBy (fun j o e=>by cases e)
  gi_wp2_with (refine⟨trivial,?_⟩;gi_at_call 193;refine(CallsIn.inRound l (callsIn_wide.2 (hnm x W))).mono ?_;rintro e w' ⟨rfl,hg⟩;refine Hid.out ?_)
  unfold Hid
  have d1:=JbQ hg hI.cell
  have d2:=JcO hg hI.cell hI.fro
  by_cases hx:ok x.data.toList=true
  ·gi_wp2
   refine⟨hKO hg,hg.below.mono hI.sz,?_,d1,d2,hI.gr.trans hg,Nat.le_trans hI.sz hg.below.size⟩
   intro y hy
   rcases List.mem_append.1 hy with h|h
   ·exact hI.all y h
   ·simp only[List.mem_singleton] at h;rw[h];exact hx
  ·have hx':ok x.data.toList=false:=by simpa using hx
   gi_wp2
   have d3:w'.cell? ⟨w.heap.size,0,none⟩≠none:=by rw[d1];simp
   refine⟨(hKO hg).trans (KeepsOthers.setCell _ _ _),⟨x,by simp,hx'⟩,World.cell?_setCell_same' _ _ _ (by rw[d1];rfl),by rw[World.frozen?_setCell];exact d2,⟨(hI.gr.trans hg).below.setCell (p:=⟨w.heap.size,0,none⟩) (Nat.le_refl _) _,(hI.gr.trans hg).drawn⟩⟩
 case done =>
  intro D xs W hS hI hK hD
  have d1:=hI.cell
  have d2:=hI.fro
  gi_wp2
  have hK':=(KeepsOthers.setCell W ⟨w.heap.size,0,none⟩ (.bool true)).same D _ hK rfl
  have e1:(W.setCell ⟨w.heap.size,0,none⟩ (.bool true)).cell? ⟨w.heap.size,0,none⟩=some (.bool true):=World.cell?_setCell_same' _ _ _ (by rw[d1];rfl)
  refine⟨by simp,.inl ⟨_,_,rfl,run_takeDeferred hK',?_⟩⟩
  have e2:=cell_kept e1 (grownBy_putObj' _ D (.deferred none)) (fun r e=>by cases e;exact⟨_,hK',rfl⟩)
  refine⟨_,JjV rfl Tryz.underlying4 rfl e2,?_,Jea ⟨hI.gr.below.setCell (p:=⟨w.heap.size,0,none⟩) (Nat.le_refl _) _,hI.gr.drawn⟩ (by omega) _ hK'⟩
  have:(splitB s.data.toList).all ok=true:=by
   rw[←hS,List.all_eq_true]
   intro y hy
   obtain⟨x,hx,rfl⟩:=List.mem_map.1 hy
   exact hI.all x hx
  rw[this]
 case stop =>
  intro D pre W hS hI hK hD
  have d1:=hI.cell
  gi_wp2
  refine⟨by simp,.inl ⟨_,_,rfl,run_takeDeferred hK,?_⟩⟩
  have e2:=cell_kept d1 (grownBy_putObj' _ D (.deferred none)) (fun r e=>by cases e;exact⟨_,hK,rfl⟩)
  refine⟨_,JjV rfl Tryz.underlying4 rfl e2,?_,Jea hI.gr (by omega) _ hK⟩
  have:(splitB s.data.toList).all ok=false:=by
   obtain⟨x,hx,hb⟩:=hI.bad
   cases h:(splitB s.data.toList).all ok with
   |false=>rfl
   |true =>
    have:=List.all_eq_true.1 h x.data.toList (hS.subset (List.mem_map.2 ⟨x,hx,rfl⟩))
    rw[hb] at this;cases this
  rw[this]
end Go.Proofs.YthjalhfmpffbjaaGreatDoor.Nm
namespace Go.Proofs.YthjalhfmpffbjaaGreatDoor.Lg
open Go
open Nat renaming reduceEqDiff → Qa, reduceLT → Qb, reduceLeDiff → Qc, reduceAdd → Qd, reduceMul → Qe, reduceSub → Qf, reduceBEq → Qg
open String renaming reduceEq → Qh
open SpecC renaming seqW → Qi, regW → Qj, condW → Ql, block → Qm, skip → Qn, exit → Qp, ret → Qr, loopF → Qs
open NxK renaming out → Qw
open Nx renaming out → Qx
open condK renaming split → Qy
open gK renaming split_t → Qz, split_f → QA
def Jc4(c:Int):Bool:=decide (97≤c) && decide (c≤122)
def Jcn(c:Int):Bool:=Jc4 c || (decide (48≤c) && decide (c≤57)) || decide (c=45)
theorem Jca(c:Int):CallR Tryz.prog 222 [.int .i32 c] (.val (.bool (Jc4 c))):=by
 refine Jl Tryz.call222 Tryz.func222 rfl Tryz.ntmps222 Tryz.results222 fun ts hn h0=>?_
 (repeat' (first
 | (with_reducible first|assumption|(refine Qw hK _ ?_;clear hK K)|refine Qw ‹_› _ ?_|refine Qx ‹_› ?_|refine Qi fun K hK=>?_|refine Qj T fun K hK=>?_|refine Ql fun A B hA hB=>?_|refine Qn ?_|refine Qr ?_)
 |(with_reducible first|apply Qy|apply Qz|apply QA)<;>intro hb<;>try simp only[nr] at hb
 |simp only[go_sem,↓reduceIte,Qa,Qh,Qb,Qc,Qd,Qe,Qf,Qg,reduceCtorEq, *]
 |intro(bn:Bool) hbn))
 all_goals ((repeat clear hK);(repeat clear hA);(repeat clear hB))
 all_goals (simp only[Jc4];rw[Bool.eq_iff_iff];simp only[Bool.and_eq_true,Bool.or_eq_true,Bool.not_eq_true',Bool.false_eq_true,decide_eq_true_eq,decide_eq_false_iff_not,true_and,and_true,true_iff,false_iff,iff_true,iff_false,true_or,or_true,false_or,or_false] at *;omega)
theorem Z9(c:Int):CallR Tryz.prog 216 [.int .i32 c] (.val (.bool (Jcn c))):=by
 refine Jl Tryz.call216 Tryz.func216 rfl Tryz.ntmps216 Tryz.results216 fun ts hn h0=>?_
 (repeat' (first
 | (with_reducible first|refine callX.by (Jca _) ?_|assumption|(refine Qw hK _ ?_;clear hK K)|refine Qw ‹_› _ ?_|refine Qx ‹_› ?_|refine Qi fun K hK=>?_|refine Qj T fun K hK=>?_|refine Ql fun A B hA hB=>?_|refine Qn ?_|refine Qr ?_)
 |(with_reducible first|apply Qy|apply Qz|apply QA)<;>intro hb<;>try simp only[nr] at hb
 |simp only[go_sem,↓reduceIte,Qa,Qh,Qb,Qc,Qd,Qe,Qf,Qg,reduceCtorEq, *]
 |intro(bn:Bool) hbn))
 all_goals ((repeat clear hK);(repeat clear hA);(repeat clear hB))
 all_goals (simp only[Jcn];simp_all)
 all_goals (intros;omega)
theorem JhT{s:List UInt8}{i:Nat}(h:i<s.length)(ha:s[i].toNat<128):VV s i=(s[i].toNat,1):=by
 have h':i<(⟨s.toArray⟩:ByteArray).size:=by show i<s.toArray.size;simpa using h
 have:=decode_ascii ⟨s.toArray⟩ i h' (by show(s.toArray[i]'(by simpa using h)).toNat<128;simpa using ha)
 rw[VV,this]
 show((s.toArray[i]'(by simpa using h)).toNat,1)=_
 simp
theorem JhS{s:List UInt8}{i:Nat}(h:i<s.length)(ha:¬s[i].toNat<128):128≤(VV s i).1:=by
 have h':i<(⟨s.toArray⟩:ByteArray).size:=by show i<s.toArray.size;simpa using h
 exact(decode_high ⟨s.toArray⟩ i h' (by show 128≤(s.toArray[i]'(by simpa using h)).toNat;simp;omega)).1
theorem JeA{c:Int}(h:128≤c):Jcn c=false:=by
 simp only[Jcn,Jc4,Bool.or_eq_false_iff,Bool.and_eq_false_iff,decide_eq_false_iff_not];omega
def nmL:List UInt8→Bool→Bool
 | [],_=>true
 |b :: r,f=>Jcn b.toNat && (!f || Jc4 b.toNat) && nmL r false
def Yv(s:List UInt8):Bool:=decide (s.length≤12) && (nmL s true && decide (s≠[]))
theorem Jcg(s:List UInt8):CallR Tryz.prog 193 [.str s] (.val (.bool (Yv s))):=by
 by_cases h12:12<s.length
 ·refine Jl Tryz.call193 Tryz.func193 rfl Tryz.ntmps193 Tryz.results193 fun ts hn h0=>?_
  (repeat' (first
 | (with_reducible first|refine callX.by (Z9 _) ?_|refine callX.by (Jca _) ?_|assumption|(refine Qw hK _ ?_;clear hK K)|refine Qw ‹_› _ ?_|refine Qx ‹_› ?_|refine Qi fun K hK=>?_|refine Qj T fun K hK=>?_|refine Ql fun A B hA hB=>?_|refine Qm ?_|refine Qn ?_|refine Qp ?_|refine Qr ?_)
 |(with_reducible first|apply Qy|apply Qz|apply QA)<;>intro hb<;>try simp only[nr] at hb
 |simp only[go_sem,↓reduceIte,Qa,Qh,Qb,Qc,Qd,Qe,Qf,Qg,reduceCtorEq, *]
 |intro(bn:Bool) hbn))
  all_goals (simp only[Yv];simp;omega)
 have h12i:¬(12:Int)<(s.length:Int):=by omega
 have hsm:Jc s.length:=by unfold Jc;omega
 refine Jl Tryz.call193 Tryz.func193 rfl Tryz.ntmps193 Tryz.results193 fun ts hn h0=>?_
 (repeat' (first
 | (with_reducible first|refine callX.by (Z9 _) ?_|refine callX.by (Jca _) ?_|assumption|(refine Qw hK _ ?_;clear hK K)|refine Qw ‹_› _ ?_|refine Qx ‹_› ?_|refine Qi fun K hK=>?_|refine Qj T fun K hK=>?_|refine Ql fun A B hA hB=>?_|refine Qm ?_|refine Qn ?_|refine Qp ?_|refine Qr ?_)
 |(with_reducible first|apply Qy|apply Qz|apply QA)<;>intro hb<;>try simp only[nr] at hb
 |simp only[go_sem,↓reduceIte,Qa,Qh,Qb,Qc,Qd,Qe,Qf,Qg,reduceCtorEq, *]
 |intro(bn:Bool) hbn))
 refine Qs [0] (fun m ts'=>∃(i:Nat),∃(u:Nat),m=s.length-i∧i≤s.length∧nmL s true=nmL (s.drop i) (decide (i=0))∧ts'.tmp 9=.ref 9 u 0∧ts'.gen 9=u∧ts'.obj 9=.iter s i) s.length ?_ ?_
 ·refine⟨0,ts.gen 9+1,?_⟩
  simp only[go_sem,↓reduceIte,Qa,Qh,Qb,Qc,Qd,Qe,Qf,Qg,reduceCtorEq, *]
 ·rintro m A hM ts' hk ⟨i,u,hm,f1,f2,s1,s2,s3⟩
  simp only[go_sem,↓reduceIte,Qa,Qh,Qb,Qc,Qd,Qe,Qf,Qg,reduceCtorEq, *] at hk
  by_cases hlt:i<s.length
  ·rw[List.drop_eq_getElem_cons hlt,nmL] at f2
   by_cases ha:s[i].toNat<128
   ·have hd:=JhT hlt ha
    (repeat' (first
 | (with_reducible first|refine callX.by (Z9 _) ?_|refine callX.by (Jca _) ?_|assumption|(refine Qw hK _ ?_;clear hK K)|refine Qw ‹_› _ ?_|refine Qx ‹_› ?_|refine Qi fun K hK=>?_|refine Qj T fun K hK=>?_|refine Ql fun A B hA hB=>?_|refine Qm ?_|refine Qn ?_|refine Qp ?_|refine Qr ?_)
 |(with_reducible first|apply Qy|apply Qz|apply QA)<;>intro hb<;>try simp only[nr] at hb
 |simp only[go_sem,↓reduceIte,Qa,Qh,Qb,Qc,Qd,Qe,Qf,Qg,reduceCtorEq, *,-f2]
 |intro(bn:Bool) hbn))
    all_goals ((repeat clear hK);(repeat clear hA);(repeat clear hB))
    all_goals first
     | (refine hM.on (s.length-(i+1)) (by omega) (by simp only[go_sem,↓reduceIte,Qa,Qh,Qb,Qc,Qd,Qe,Qf,Qg,reduceCtorEq, *,-f2]) ⟨i+1,u,rfl,by omega,by clear hM;rw[f2];simp_all,?_⟩;simp only[go_sem,↓reduceIte,Qa,Qh,Qb,Qc,Qd,Qe,Qf,Qg,reduceCtorEq, *,-f2];done)
     | (clear hM;simp_all[Yv];done)
     | (clear hM;grind [Yv])
   ·have hd:=JhS hlt ha
    have hp:=JeA (c:=((VV s i).1:Int)) (by omega)
    have hp2:=JeA (c:=(s[i].toNat:Int)) (by omega)
    rw[hp2] at f2
    (repeat' (first
 | (with_reducible first|refine callX.by (Z9 _) ?_|refine callX.by (Jca _) ?_|assumption|(refine Qw hK _ ?_;clear hK K)|refine Qw ‹_› _ ?_|refine Qx ‹_› ?_|refine Qi fun K hK=>?_|refine Qj T fun K hK=>?_|refine Ql fun A B hA hB=>?_|refine Qm ?_|refine Qn ?_|refine Qp ?_|refine Qr ?_)
 |(with_reducible first|apply Qy|apply Qz|apply QA)<;>intro hb<;>try simp only[nr] at hb
 |simp only[go_sem,↓reduceIte,Qa,Qh,Qb,Qc,Qd,Qe,Qf,Qg,reduceCtorEq, *,-f2]
 |intro(bn:Bool) hbn))
    all_goals ((repeat clear hK);(repeat clear hA);(repeat clear hB))
    all_goals (clear hM;simp_all[Yv];done)
  ·rw[List.drop_eq_nil_of_le (by omega),nmL] at f2
   (repeat' (first
 | (with_reducible first|refine callX.by (Z9 _) ?_|refine callX.by (Jca _) ?_|assumption|(refine Qw hK _ ?_;clear hK K)|refine Qw ‹_› _ ?_|refine Qx ‹_› ?_|refine Qi fun K hK=>?_|refine Qj T fun K hK=>?_|refine Ql fun A B hA hB=>?_|refine Qm ?_|refine Qn ?_|refine Qp ?_|refine Qr ?_)
 |(with_reducible first|apply Qy|apply Qz|apply QA)<;>intro hb<;>try simp only[nr] at hb
 |simp only[go_sem,↓reduceIte,Qa,Qh,Qb,Qc,Qd,Qe,Qf,Qg,reduceCtorEq, *,-f2]
 |intro(bn:Bool) hbn))
   all_goals ((repeat clear hK);(repeat clear hA);(repeat clear hB))
   all_goals (clear hM;rw[Yv,f2];simp;omega)
def VL(s p:List UInt8):Bool:=decide (p.length≤s.length) && decide (s.take p.length=p)
theorem JcP(s p:List UInt8):CallR Tryz.prog 213 [.str s,.str p] (.val (.bool (VL s p))):=by
 by_cases hle:p.length≤s.length
 ·refine Jn Tryz.call213 Tryz.func213 rfl Tryz.ntmps213 Tryz.results213 fun ts hn h0 h1=>?_
  (repeat' (first
 | (with_reducible first|assumption|(refine Qw hK _ ?_;clear hK K)|refine Qw ‹_› _ ?_|refine Qx ‹_› ?_|refine Qi fun K hK=>?_|refine Qj T fun K hK=>?_|refine Ql fun A B hA hB=>?_|refine Qn ?_|refine Qr ?_)
 |(with_reducible first|apply Qy|apply Qz|apply QA)<;>intro hb<;>try simp only[nr] at hb
 |simp only[go_sem,↓reduceIte,Qa,Qh,Qb,Qc,Qd,Qe,Qf,Qg,reduceCtorEq, *,Int.le_refl,Int.toNat_zero,List.drop_zero]
 |intro(bn:Bool) hbn))
  all_goals ((repeat clear hK);(repeat clear hA);(repeat clear hB))
  all_goals simp[VL,hle]
 ·refine Jn Tryz.call213 Tryz.func213 rfl Tryz.ntmps213 Tryz.results213 fun ts hn h0 h1=>?_
  (repeat' (first
 | (with_reducible first|assumption|(refine Qw hK _ ?_;clear hK K)|refine Qw ‹_› _ ?_|refine Qx ‹_› ?_|refine Qi fun K hK=>?_|refine Qj T fun K hK=>?_|refine Ql fun A B hA hB=>?_|refine Qn ?_|refine Qr ?_)
 |(with_reducible first|apply Qy|apply Qz|apply QA)<;>intro hb<;>try simp only[nr] at hb
 |simp only[go_sem,↓reduceIte,Qa,Qh,Qb,Qc,Qd,Qe,Qf,Qg,reduceCtorEq, *]
 |intro(bn:Bool) hbn))
  all_goals ((repeat clear hK);(repeat clear hA);(repeat clear hB))
  all_goals simp[VL,hle]
theorem Jbf(s p:List UInt8):CallR Tryz.prog 168 [.str s,.str p] (.val (.bool (VL s p))):=by
 refine Jn Tryz.call168 Tryz.func168 rfl Tryz.ntmps168 Tryz.results168 fun ts hn h0 h1=>?_
 (repeat' (first
 | (with_reducible first|refine callX.by (JcP _ _) ?_|assumption|(refine Qw hK _ ?_;clear hK K)|refine Qw ‹_› _ ?_|refine Qx ‹_› ?_|refine Qi fun K hK=>?_|refine Qj T fun K hK=>?_|refine Ql fun A B hA hB=>?_|refine Qn ?_|refine Qr ?_)
 |(with_reducible first|apply Qy|apply Qz|apply QA)<;>intro hb<;>try simp only[nr] at hb
 |simp only[go_sem,↓reduceIte,Qa,Qh,Qb,Qc,Qd,Qe,Qf,Qg,reduceCtorEq, *]
 |intro(bn:Bool) hbn))
def YA(s p:List UInt8):List UInt8:=if VL s p=true then s.drop p.length else s
theorem Jrk(s p:List UInt8):CallR Tryz.prog 239 [.str s,.str p] (.val (.str (YA s p))):=by
 by_cases hp:VL s p=true
 ·have hle:p.length≤s.length:=by
   have:=hp
   simp only[VL,Bool.and_eq_true,decide_eq_true_eq] at this
   exact this.1
  have ht:(s.drop p.length).take (s.length-p.length)=s.drop p.length:=List.take_of_length_le (by simp)
  refine Jn Tryz.call239 Tryz.func239 rfl Tryz.ntmps239 Tryz.results239 fun ts hn h0 h1=>?_
  (repeat' (first
 | (with_reducible first|refine callX.by (JcP _ _) ?_|assumption|(refine Qw hK _ ?_;clear hK K)|refine Qw ‹_› _ ?_|refine Qx ‹_› ?_|refine Qi fun K hK=>?_|refine Qj T fun K hK=>?_|refine Ql fun A B hA hB=>?_|refine Qn ?_|refine Qr ?_)
 |(with_reducible first|apply Qy|apply Qz|apply QA)<;>intro hb<;>try simp only[nr] at hb
 |simp only[go_sem,↓reduceIte,Qa,Qh,Qb,Qc,Qd,Qe,Qf,Qg,reduceCtorEq, *]
 |intro(bn:Bool) hbn))
  all_goals ((repeat clear hK);(repeat clear hA);(repeat clear hB))
  all_goals simp[YA,hp]
 ·have hp':VL s p=false:=by simpa using hp
  refine Jn Tryz.call239 Tryz.func239 rfl Tryz.ntmps239 Tryz.results239 fun ts hn h0 h1=>?_
  (repeat' (first
 | (with_reducible first|refine callX.by (JcP _ _) ?_|assumption|(refine Qw hK _ ?_;clear hK K)|refine Qw ‹_› _ ?_|refine Qx ‹_› ?_|refine Qi fun K hK=>?_|refine Qj T fun K hK=>?_|refine Ql fun A B hA hB=>?_|refine Qn ?_|refine Qr ?_)
 |(with_reducible first|apply Qy|apply Qz|apply QA)<;>intro hb<;>try simp only[nr] at hb
 |simp only[go_sem,↓reduceIte,Qa,Qh,Qb,Qc,Qd,Qe,Qf,Qg,reduceCtorEq, *]
 |intro(bn:Bool) hbn))
  all_goals ((repeat clear hK);(repeat clear hA);(repeat clear hB))
  all_goals simp[YA,hp']
theorem Jrl(s p:List UInt8):CallR Tryz.prog 212 [.str s,.str p] (.val (.str (YA s p))):=by
 refine Jn Tryz.call212 Tryz.func212 rfl Tryz.ntmps212 Tryz.results212 fun ts hn h0 h1=>?_
 (repeat' (first
 | (with_reducible first|refine callX.by (Jrk _ _) ?_|assumption|(refine Qw hK _ ?_;clear hK K)|refine Qw ‹_› _ ?_|refine Qx ‹_› ?_|refine Qi fun K hK=>?_|refine Qj T fun K hK=>?_|refine Ql fun A B hA hB=>?_|refine Qn ?_|refine Qr ?_)
 |(with_reducible first|apply Qy|apply Qz|apply QA)<;>intro hb<;>try simp only[nr] at hb
 |simp only[go_sem,↓reduceIte,Qa,Qh,Qb,Qc,Qd,Qe,Qf,Qg,reduceCtorEq, *]
 |intro(bn:Bool) hbn))
def Jcp:List UInt8→Bool
 | []=>true
 |b :: r=>(Jcn b.toNat || decide ((b.toNat:Int)=47)) && Jcp r
def JaK(s:List UInt8):Bool:=Jcp s && (decide (s.length≤40) && VL s [47])
theorem Jjz(s:List UInt8):CallR Tryz.prog 171 [.str s] (.val (.bool (JaK s))):=by
 refine Jl Tryz.call171 Tryz.func171 rfl Tryz.ntmps171 Tryz.results171 fun ts hn h0=>?_
 (repeat' (first
 | (with_reducible first|refine callX.by (Z9 _) ?_|refine callX.by (Jbf _ _) ?_|assumption|(refine Qw hK _ ?_;clear hK K)|refine Qw ‹_› _ ?_|refine Qx ‹_› ?_|refine Qi fun K hK=>?_|refine Qj T fun K hK=>?_|refine Ql fun A B hA hB=>?_|refine Qm ?_|refine Qn ?_|refine Qp ?_|refine Qr ?_)
 |(with_reducible first|apply Qy|apply Qz|apply QA)<;>intro hb<;>try simp only[nr] at hb
 |simp only[go_sem,↓reduceIte,Qa,Qh,Qb,Qc,Qd,Qe,Qf,Qg,reduceCtorEq, *]
 |intro(bn:Bool) hbn))
 refine Qs [0] (fun m ts'=>∃(i:Nat),∃(u:Nat),m=s.length-i∧i≤s.length∧Jcp s=Jcp (s.drop i)∧ts'.tmp 6=.ref 6 u 0∧ts'.gen 6=u∧ts'.obj 6=.iter s i) s.length ?_ ?_
 ·refine⟨0,ts.gen 6+1,?_⟩
  simp only[go_sem,↓reduceIte,Qa,Qh,Qb,Qc,Qd,Qe,Qf,Qg,reduceCtorEq, *]
 ·rintro m A hM ts' hk ⟨i,u,hm,f1,f2,s1,s2,s3⟩
  simp only[go_sem,↓reduceIte,Qa,Qh,Qb,Qc,Qd,Qe,Qf,Qg,reduceCtorEq, *] at hk
  by_cases hlt:i<s.length
  ·rw[List.drop_eq_getElem_cons hlt,Jcp] at f2
   by_cases ha:s[i].toNat<128
   ·have hd:=JhT hlt ha
    (repeat' (first
 | (with_reducible first|refine callX.by (Z9 _) ?_|refine callX.by (Jbf _ _) ?_|assumption|(refine Qw hK _ ?_;clear hK K)|refine Qw ‹_› _ ?_|refine Qx ‹_› ?_|refine Qi fun K hK=>?_|refine Qj T fun K hK=>?_|refine Ql fun A B hA hB=>?_|refine Qm ?_|refine Qn ?_|refine Qp ?_|refine Qr ?_)
 |(with_reducible first|apply Qy|apply Qz|apply QA)<;>intro hb<;>try simp only[nr] at hb
 |simp only[go_sem,↓reduceIte,Qa,Qh,Qb,Qc,Qd,Qe,Qf,Qg,reduceCtorEq, *,-f2]
 |intro(bn:Bool) hbn))
    all_goals ((repeat clear hK);(repeat clear hA);(repeat clear hB))
    all_goals first
     | (refine hM.on (s.length-(i+1)) (by omega) (by simp only[go_sem,↓reduceIte,Qa,Qh,Qb,Qc,Qd,Qe,Qf,Qg,reduceCtorEq, *,-f2]) ⟨i+1,u,rfl,by omega,by clear hM;rw[f2];simp_all,?_⟩;simp only[go_sem,↓reduceIte,Qa,Qh,Qb,Qc,Qd,Qe,Qf,Qg,reduceCtorEq, *,-f2];done)
     | (clear hM;simp_all[JaK];done)
     | (clear hM;grind [JaK])
   ·have hd:=JhS hlt ha
    have hp:=JeA (c:=((VV s i).1:Int)) (by omega)
    have hp2:=JeA (c:=(s[i].toNat:Int)) (by omega)
    have hp3:¬((VV s i).1:Int)=47:=by omega
    have hp4:¬(s[i].toNat:Int)=47:=by omega
    rw[hp2,decide_eq_false hp4] at f2
    (repeat' (first
 | (with_reducible first|refine callX.by (Z9 _) ?_|refine callX.by (Jbf _ _) ?_|assumption|(refine Qw hK _ ?_;clear hK K)|refine Qw ‹_› _ ?_|refine Qx ‹_› ?_|refine Qi fun K hK=>?_|refine Qj T fun K hK=>?_|refine Ql fun A B hA hB=>?_|refine Qm ?_|refine Qn ?_|refine Qp ?_|refine Qr ?_)
 |(with_reducible first|apply Qy|apply Qz|apply QA)<;>intro hb<;>try simp only[nr] at hb
 |simp only[go_sem,↓reduceIte,Qa,Qh,Qb,Qc,Qd,Qe,Qf,Qg,reduceCtorEq, *,-f2]
 |intro(bn:Bool) hbn))
    all_goals ((repeat clear hK);(repeat clear hA);(repeat clear hB))
    all_goals (clear hM;simp_all[JaK];done)
  ·rw[List.drop_eq_nil_of_le (by omega),Jcp] at f2
   (repeat' (first
 | (with_reducible first|refine callX.by (Z9 _) ?_|refine callX.by (Jbf _ _) ?_|assumption|(refine Qw hK _ ?_;clear hK K)|refine Qw ‹_› _ ?_|refine Qx ‹_› ?_|refine Qi fun K hK=>?_|refine Qj T fun K hK=>?_|refine Ql fun A B hA hB=>?_|refine Qm ?_|refine Qn ?_|refine Qp ?_|refine Qr ?_)
 |(with_reducible first|apply Qy|apply Qz|apply QA)<;>intro hb<;>try simp only[nr] at hb
 |simp only[go_sem,↓reduceIte,Qa,Qh,Qb,Qc,Qd,Qe,Qf,Qg,reduceCtorEq, *,-f2]
 |intro(bn:Bool) hbn))
   all_goals ((repeat clear hK);(repeat clear hA);(repeat clear hB))
   all_goals (clear hM;simp_all[JaK])
   all_goals (intros;omega)
def Zm(s:List UInt8)(c:UInt8):Int:=Lib.indexByte s c
theorem Job(s:List UInt8)(c:UInt8):CallR Tryz.prog 260 [.str s,.int .u8 c.toNat] (.val (.int .i64 (Zm s c))):=by
 refine CallP.extn rfl fun vals w c1 hs hv=>?_
 have h0:=hv 0
 have h1:=hv 1
 obtain⟨s1,e0,hs0⟩:=Yo h0
 have e1:=Vh h1
 have hvals:vals=#[.string s1,.int .u8 c.toNat]:=by
  apply Array.ext
  ·simpa using hs
  ·intro i h1 h2
   have hi:i<2:=by rw[hs] at h1;simpa using h1
   match i,hi with
   |0,_=>rw[Array.getD_eq_getD_getElem?,Array.getElem?_eq_getElem h1] at e0;simpa using e0
   |1,_=>rw[Array.getD_eq_getD_getElem?,Array.getElem?_eq_getElem h1] at e1;simpa using e1
 refine⟨_,?_,.int _ _⟩
 rw[hvals,run_callFunc_extern Tryz.func260 (by kernel_rfl) (by kernel_rfl) (by kernel_rfl) (e:=Extern.BytealgIndexByte.indexByte) (by kernel_rfl),Lib.run_indexByteString]
 simp[Result.andThen,Zm,hs0]
theorem Joc(s:List UInt8)(c:UInt8):CallR Tryz.prog 256 [.str s,.int .u8 c.toNat] (.val (.int .i64 (Zm s c))):=by
 refine Jn Tryz.call256 Tryz.func256 rfl Tryz.ntmps256 Tryz.results256 fun ts hn h0 h1=>?_
 (repeat' (first
 | (with_reducible first|refine callX.by (Job _ _) ?_|assumption|(refine Qw hK _ ?_;clear hK K)|refine Qw ‹_› _ ?_|refine Qx ‹_› ?_|refine Qi fun K hK=>?_|refine Qj T fun K hK=>?_|refine Ql fun A B hA hB=>?_|refine Qn ?_|refine Qr ?_)
 |(with_reducible first|apply Qy|apply Qz|apply QA)<;>intro hb<;>try simp only[nr] at hb
 |simp only[go_sem,↓reduceIte,Qa,Qh,Qb,Qc,Qd,Qe,Qf,Qg,reduceCtorEq, *]
 |intro(bn:Bool) hbn))
theorem Jod(s:List UInt8):CallR Tryz.prog 255 [.str s,.str [46]] (.val (.int .i64 (Zm s 46))):=by
 have h:=Joc s 46
 refine Jn Tryz.call255 Tryz.func255 rfl Tryz.ntmps255 Tryz.results255 fun ts hn h0 h1=>?_
 (repeat' (first
 | (with_reducible first|refine callX.by (h) ?_|assumption|(refine Qw hK _ ?_;clear hK K)|refine Qw ‹_› _ ?_|refine Qx ‹_› ?_|refine Qi fun K hK=>?_|refine Qj T fun K hK=>?_|refine Ql fun A B hA hB=>?_|refine Qm ?_|refine Qn ?_|refine Qp ?_|refine Qr ?_)
 |(with_reducible first|apply Qy|apply Qz|apply QA)<;>intro hb<;>try simp only[nr] at hb
 |simp only[go_sem,↓reduceIte,Qa,Qh,Qb,Qc,Qd,Qe,Qf,Qg,reduceCtorEq, *,Int.reduceEq,Int.le_refl,Int.toNat_zero,Int.cast_ofNat_Int,Int.reduceLT]
 |intro(bn:Bool) hbn))
 ·have:s=[46]:=(of_decide_eq_true hb).symm
  subst this
  simp[Zm,Lib.indexByte]
 all_goals trace_state
theorem Joe(s:List UInt8):CallR Tryz.prog 253 [.str s,.str [46]] (.val (.int .i64 (Zm s 46))):=by
 refine Jn Tryz.call253 Tryz.func253 rfl Tryz.ntmps253 Tryz.results253 fun ts hn h0 h1=>?_
 (repeat' (first
 | (with_reducible first|refine callX.by (Jod _) ?_|assumption|(refine Qw hK _ ?_;clear hK K)|refine Qw ‹_› _ ?_|refine Qx ‹_› ?_|refine Qi fun K hK=>?_|refine Qj T fun K hK=>?_|refine Ql fun A B hA hB=>?_|refine Qn ?_|refine Qr ?_)
 |(with_reducible first|apply Qy|apply Qz|apply QA)<;>intro hb<;>try simp only[nr] at hb
 |simp only[go_sem,↓reduceIte,Qa,Qh,Qb,Qc,Qd,Qe,Qf,Qg,reduceCtorEq, *]
 |intro(bn:Bool) hbn))
theorem JiE:∀(s:List UInt8) (c:UInt8),(Zm s c=-1∧∀x∈s,x≠c)∨∃a b,Zm s c=(a.length:Nat)∧s=a++c :: b∧∀x∈a,x≠c
 | [],c=>.inl ⟨rfl,by simp⟩
 |x :: r,c=>by
  unfold Zm
  rw[Lib.indexByte]
  by_cases h:x=c
  ·subst h
   exact .inr ⟨[],r,by simp,by simp,by simp⟩
  ·rcases JiE r c with ⟨h1,h2⟩|⟨a,b,h1,h2,h3⟩
   ·unfold Zm at h1
    left
    refine⟨by simp[h,h1],?_⟩
    intro y hy
    rcases List.mem_cons.1 hy with rfl|hy
    ·exact h
    ·exact h2 y hy
   ·unfold Zm at h1
    right
    refine⟨x :: a,b,?_,by rw[h2];simp,?_⟩
    ·simp only[List.length_cons]
     simp[h,h1]
    ·intro y hy
     rcases List.mem_cons.1 hy with rfl|hy
     ·exact h
     ·exact h3 y hy
theorem Bel.gr{w w':World}(h:Bel (fun _=>False) w w'):Nm.Gr w w':=⟨⟨h.os,h.tape,h.output,h.size,fun k hk=>h.block k hk (fun h=>h)⟩,h.drawn⟩
theorem Jn5{w w':World}(h:Nm.Gr w w'):Bel (fun _=>False) w w':=⟨h.below.os,h.below.tape,h.below.output,h.below.size,fun k hk _=>h.below.block k hk,h.drawn⟩
theorem Jp7{c:Ctx}{s:ByteArray}(i:Nat):Rep c ((#[Value.string s]:Array Value).getD i undef) (([.str s.data.toList]:List AV).getD i .any):=by
 match i with
 |0=>exact .str _ _ rfl
 |i+1=>exact .any _
theorem Jol:Nm.IdxOk Tryz.prog 253:=by
 intro r W
 have h:=(Joe r.data.toList).top #[.string r,.string Nm.dot] W rfl fun i=>by
  match i with
  |0=>exact .str _ _ rfl
  |1=>exact .str _ _ rfl
  |i+2=>exact .any _
 rw[Tryz.call253 _ _] at h
 refine Calls.mono h ?_
 rintro e w' ⟨v,rfl,hv,hb⟩
 cases hv
 refine⟨⟨_,rfl,?_⟩,hb.gr⟩
 exact JiE _ _
theorem Jo5:Nm.NameOk Tryz.prog 193 Yv:=by
 intro x W
 have h:=(Jcg x.data.toList).top #[.string x] W rfl Jp7
 rw[Tryz.call193 _ _] at h
 refine Calls.mono h ?_
 rintro e w' ⟨v,rfl,hv,hb⟩
 cases hv
 exact⟨rfl,hb.gr⟩
def Ji4(s:List UInt8):Bool:=(Nm.splitB s).all Yv
theorem Jo7(s:List UInt8)(hs:Jc s.length):CallR Tryz.prog 211 [.str s] (.val (.bool (Ji4 s))):=by
 refine CallR.calls rfl Tryz.call211 fun vals w c hsz hv=>?_
 obtain⟨s0,e0,hs0⟩:=Yo (hv 0)
 have hvals:vals=#[.string s0]:=by
  apply Array.ext
  ·simpa using hsz
  ·intro i h1 h2
   have hi:i<1:=by rw[hsz] at h1;simpa using h1
   match i,hi with
   |0,_=>rw[Array.getD_eq_getD_getElem?,Array.getElem?_eq_getElem h1] at e0;simpa using e0
 rw[hvals]
 have hlen:s0.size=s.length:=by rw[←hs0];exact Array.length_toList.symm
 refine Calls.mono (Nm.names_calls Yv Jol Jo5 s0 (by rw[hlen];exact hs) w) ?_
 rintro e w' ⟨rfl,hg⟩
 exact⟨_,rfl,fun c'=>by rw[hs0];exact .bool _,Jn5 hg⟩
def JcR(s:List UInt8):Bool:=decide (s.length≤40) && (decide (s=[42]) || Ji4 (YA s [42,46]))
theorem JiC(s:List UInt8)(hs:Jc s.length):CallR Tryz.prog 167 [.str s] (.val (.bool (JcR s))):=by
 have ht:Jc (YA s [42,46]).length:=by
  unfold YA Jc at *
  split
  ·simp;omega
  ·exact hs
 refine Jl Tryz.call167 Tryz.func167 rfl Tryz.ntmps167 Tryz.results167 fun ts hn h0=>?_
 (repeat' (first
 | (with_reducible first|refine callX.by (Jrl _ _) ?_|refine callX.by (Jo7 _ ?_) ?_|assumption|(refine Qw hK _ ?_;clear hK K)|refine Qw ‹_› _ ?_|refine Qx ‹_› ?_|refine Qi fun K hK=>?_|refine Qj T fun K hK=>?_|refine Ql fun A B hA hB=>?_|refine Qn ?_|refine Qr ?_)
 |(with_reducible first|apply Qy|apply Qz|apply QA)<;>intro hb<;>try simp only[nr] at hb
 |simp only[go_sem,↓reduceIte,Qa,Qh,Qb,Qc,Qd,Qe,Qf,Qg,reduceCtorEq, *]
 |intro(bn:Bool) hbn))
 all_goals ((repeat clear hK);(repeat clear hA);(repeat clear hB))
 all_goals simp_all[JcR]
 all_goals (intros;omega)
end Go.Proofs.YthjalhfmpffbjaaGreatDoor.Lg
