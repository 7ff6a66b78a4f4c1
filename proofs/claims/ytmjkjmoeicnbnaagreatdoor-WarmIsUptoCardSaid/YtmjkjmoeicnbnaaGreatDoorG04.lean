/- Parts of the proof, one behind the other. -/
import Derived.Tactics
import Derived.Tactics2
import Derived.Defers
import Derived.Recover
import Derived.Laws.Pointers
import Derived.Test.YtmjkjmoeicnbnaaGreatDoorG03
namespace Go.Proofs.YtmjkjmoeicnbnaaGreatDoor.Lg
set_option maxRecDepth 100000
set_option linter.unusedVariables false
set_option linter.unusedSimpArgs false
open Go
def upV (x:Int):Value:=.iface 165 (.agg #[.int .i64 x])
def upE (x:Int):List PanicEntry:=[{ v:=upV x,recovered:=false }]
theorem caught1_up (p:Addr) (x y:Int) (w:World) (hc:w.cell? p=some (.int .i64 y)) (hz:w.frozen? p=false) :
  CallsD Tryz.prog 151 #[.pointer (some p)] (.panicking (upE x)) w fun e u' w' =>
   e=.returned (.tuple #[])∧u'=.panicking [{ v:=upV x,recovered:=true }]∧w'=w.setCell p (.int .i64 x):=by
 have hta:∀ (v:Value) (w:World),(Instr.typeAssert (.iface 165 v) 20 165 false).run Tryz.prog w=.ok v w:=fun _ _=>by kernel_rfl
 have hfi:∀ (x:Int) (w:World),(Instr.field 165 (.agg #[.int .i64 x]) 0).run Tryz.prog w=.ok (.int .i64 x) w:=fun _ _=>by kernel_rfl
 have hne:∀ (t:TypeId) (v:Value) (w:World),(binOp BinOp.neq 20 (.iface t v) .nilIface).run Tryz.prog w=.ok (.bool true) w:=fun _ _ _=>by kernel_rfl
 have hnn:∀ (w:World),(binOp BinOp.neq 20 .nilIface .nilIface).run Tryz.prog w=.ok (.bool false) w:=fun _=>by kernel_rfl
 refine callsD_of_wpS Tryz.func151 rfl fun c₀ cs hu=>?_
 apply wpS_seq
 apply wpS_region
 simp [wpOpsS,hta,hfi,hne,hnn,go_sem,recoverD,hu,upE,Tryz.ntmps151,Exit.thenS]
 apply wpS_seq
 apply wpS_region
 simp [wpOpsS,hta,hfi,hne,hnn,go_sem,upV,Exit.thenS]
 refine wpS_cond (t:=true) (by simp [Act.eval,Array.replicate]) ?_
 simp only [if_true]
 apply wpS_region
 simp [wpOpsS,hta,hfi,hne,hnn,go_sem,hc,hz,bodyPostS,results,Tryz.results151]
theorem caught1_idle (p:Addr) (w:World) :
  CallsD Tryz.prog 151 #[.pointer (some p)] .returning w fun e u' w'=>e=.returned (.tuple #[])∧u'=.returning∧w'=w:=by
 have hta:∀ (v:Value) (w:World),(Instr.typeAssert (.iface 165 v) 20 165 false).run Tryz.prog w=.ok v w:=fun _ _=>by kernel_rfl
 have hfi:∀ (x:Int) (w:World),(Instr.field 165 (.agg #[.int .i64 x]) 0).run Tryz.prog w=.ok (.int .i64 x) w:=fun _ _=>by kernel_rfl
 have hne:∀ (t:TypeId) (v:Value) (w:World),(binOp BinOp.neq 20 (.iface t v) .nilIface).run Tryz.prog w=.ok (.bool true) w:=fun _ _ _=>by kernel_rfl
 have hnn:∀ (w:World),(binOp BinOp.neq 20 .nilIface .nilIface).run Tryz.prog w=.ok (.bool false) w:=fun _=>by kernel_rfl
 refine callsD_of_wpS Tryz.func151 rfl fun c₀ cs hu=>?_
 apply wpS_seq
 apply wpS_region
 simp [wpOpsS,hta,hfi,hne,hnn,go_sem,recoverD,hu,Tryz.ntmps151,Exit.thenS]
 apply wpS_seq
 apply wpS_region
 simp [wpOpsS,hta,hfi,hne,hnn,go_sem,Exit.thenS]
 refine wpS_cond (t:=false) (by simp [Act.eval,Array.replicate]) ?_
 simp only [Bool.false_eq_true,if_false]
 refine wpS_of_wp (wp_skip ?_)
 cases c₀
 simp_all [bodyPostS,results,Tryz.results151]
def eBox (w:World):World:=w.alloc (.cells #[.int .i64 0] 33)
def eAt (w:World):Addr:=⟨w.heap.size,0,none⟩
theorem cell_set_self {w:World} {p:Addr} {v y:Value} (h:w.cell? p=some y):(w.setCell p v).cell? p=some v:=by
 unfold World.cell? at h ⊢
 unfold World.setCell
 simp only [Array.getElem?_modify,if_true]
 cases hh:w.heap[p.block]? with
 | none=>rw [hh] at h; simp at h
 | some o =>
  rw [hh] at h
  cases o with
  | cells c el fr =>
   simp only [Option.map_some] at h ⊢
   by_cases hs:p.spot.isSome
   ·simp [hs] at h
   ·simp only [hs] at h ⊢
    simp only [Bool.false_eq_true,if_false] at h ⊢
    obtain ⟨hlt,_⟩:=Array.getElem?_eq_some_iff.1 h
    simp [hlt]
  | _=>simp at h
theorem caught_raw (g:FuncId) (caps:Array Value) (w:World) (R:Ending→World→Prop)
  (hg:∀ w,(callFunc g caps).run Tryz.prog w=.ok (.enter g caps) w) (h:Calls Tryz.prog g caps (eBox w) R)
  (hR:∀ e w',R e w'→w'.cell? (eAt w)=some (.int .i64 0)∧w'.frozen? (eAt w)=false∧((e=.returned (.tuple #[]))∨∃ x,e=.panicked (upE x))) :
  Calls Tryz.prog 113 #[.func (.func g) #[] caps] w fun e w''=>∃ e1 w1,R e1 w1 ∧
   ((e1=.returned (.tuple #[])∧e=.returned (.int .i64 0)∧w''=w1.setCell (eAt w) (.int .i64 0))∨∃ x,e1=.panicked (upE x)∧e=.returned (.int .i64 x)∧w''=w1.setCell (eAt w) (.int .i64 x)):=by
 have hmf:∀ (fn:Fn) (first cap:Array Value) (w:World),(Instr.makeFunc fn first cap).run Tryz.prog w=.ok (.func fn first cap) w:=fun _ _ _ _=>rfl
 go_enter_defers Tryz.func113,Tryz.ntmps113
 go_wp2
 rename_i K1 hK1 K0 hK0
 refine Calls.mono h ?_
 intro e1 w1 hr
 obtain ⟨hc,hz,hcase⟩:=hR e1 w1 hr
 have hc':w1.cell? ⟨w.heap.size,0,none⟩=some (.int .i64 0):=hc
 have hz':w1.frozen? ⟨w.heap.size,0,none⟩=false:=hz
 rcases hcase with rfl|⟨x,rfl⟩
 ·apply hK0
  simp only [wpList]
  apply hK1
  go_wp2
  simp only [bodyPostD]
  refine leaves_cons (f:=151) (args:=#[.pointer (some ⟨w.heap.size,0,none⟩)]) (by simp) (by simp [go_sem]) ?_
  refine (caught1_idle ⟨w.heap.size,0,none⟩ _).mono ?_
  rintro e u' w'' ⟨rfl,rfl,rfl⟩
  have hcc:=cell_set_self (v:=.int .i64 0) hc'
  simp [Leaves,settle,results,Tryz.results113,go_sem,hcc]
  exact ⟨_,w1,hr,.inl ⟨rfl,rfl⟩⟩
 ·show bodyPostD _ _ _ _ _ _
  simp only [bodyPostD]
  refine leaves_cons (f:=151) (args:=#[.pointer (some ⟨w.heap.size,0,none⟩)]) (by simp) (by simp [go_sem]) ?_
  refine (caught1_up ⟨w.heap.size,0,none⟩ x 0 _ hc' hz').mono ?_
  rintro e u' w'' ⟨rfl,rfl,rfl⟩
  have hcc:=cell_set_self (v:=.int .i64 x) hc'
  simp [Leaves,settle,results,Tryz.results113,go_sem,hcc]
  exact ⟨_,w1,hr,.inr ⟨x,rfl,rfl,rfl⟩⟩
end Go.Proofs.YtmjkjmoeicnbnaaGreatDoor.Lg
