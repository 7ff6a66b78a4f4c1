/- Parts of the proof, one behind the other. -/
import Derived.Orders
import Derived.Laws.AppendOwn
import Derived.Laws.CopyRow
import Derived.Deep.MidRow
import Derived.Laws.Strings
import Derived.Laws.RangeString
import Derived.Deep.AppendSrc
import Derived.Lib.SliceRun
set_option linter.unusedVariables false
set_option linter.unusedSimpArgs false
set_option maxRecDepth 100000
set_option maxHeartbeats 64000000
namespace Go.Proofs.YthjalhfmpffbjaaGreatDoor.Lg
open Go
inductive AV where
 |any
 |bool (b:Bool)
 |int (k:IntKind) (n:Int)
 |str (s:List UInt8)
 |agg (cs:List AV)
 |tup (vs:List AV)
 |slice (clip:Bool) (xs:List AV)
 |ro (cs:List AV)
 |nilp
 |clo (fn:Fn) (first caps:List AV)
 |nilf
 |nilm
 |niface
 |iface (t:TypeId) (v:AV)
 |os (d g len:Nat)
 |ref (d g off:Nat)
 |eref (d g i o:Nat)
 |ot (d g off len:Nat)
 |mp (ks vs:List AV)
 |mref (d g:Nat)
 deriving Inhabited
def AV.cells:AV→List AV
 | .agg cs=>cs
 |v=>[v]
structure Ctx where
 w:World
 M:Nat→Prop
 gen:Nat→Nat
 kind:Nat→Option Nat
 β:Nat→Nat
 κ:Nat→Option Nat
def JO(c:Ctx)(d len:Nat)(v:Value):Prop :=
 match c.κ d with
 |some cap=>v=.slice (some ⟨c.β d,0,none⟩) len cap∧len≤cap
 |none=>len=0∧∃a,v=.slice a 0 0
def Jfl(c:Ctx)(d sz off len:Nat)(v:Value):Prop :=
 ∃a cap',v=.slice a len cap'∧len≤cap'∧(0<len→a=some ⟨c.β d,off*sz,none⟩∧∃cap,c.κ d=some cap∧off+len≤cap)
inductive Rep(c:Ctx):Value→AV→Prop
 |any (v:Value):Rep c v .any
 |bool (b:Bool):Rep c (.bool b) (.bool b)
 |int (k:IntKind) (n:Int):Rep c (.int k n) (.int k n)
 |str (s:ByteArray) (l:List UInt8) (h:s.data.toList=l):Rep c (.string s) (.str l)
 |agg (cs:Array Value) (as:List AV) (hl:cs.size=as.length) (h:∀i,Rep c (cs.getD i undef) (as.getD i .any)):Rep c (.agg cs) (.agg as)
 |tup (cs:Array Value) (as:List AV) (hl:cs.size=as.length) (h:∀i,Rep c (cs.getD i undef) (as.getD i .any)):Rep c (.tuple cs) (.tup as)
 |slice0 (clip:Bool) (a:Option Addr) (cap:Nat) (h:clip=true→cap=0):Rep c (.slice a 0 cap) (.slice clip [])
 |slice (clip:Bool) (b off cap sz:Nat) (xs:List AV) (f:Nat→Nat→Value) (h0:xs≠[]) (hs:0<sz) (hM:¬c.M b) (hcap:xs.length≤cap)
   (hclip:clip=true→cap=xs.length) (hsz:∀x∈xs,x.cells.length=sz)
   (hc:∀i j,i<xs.length→j<sz→c.w.cell? ⟨b,off+i*sz+j,none⟩=some (f i j))
   (hr:∀i j,Rep c (f i j) ((xs.getD i .any).cells.getD j .any)):Rep c (.slice (some ⟨b,off,none⟩) xs.length cap) (.slice clip xs)
 |ro (b off:Nat) (cs:List AV) (f:Nat→Value) (h0:cs≠[]) (hM:¬c.M b) (hc:∀j,j<cs.length→c.w.cell? ⟨b,off+j,none⟩=some (f j))
   (hr:∀j,Rep c (f j) (cs.getD j .any)):Rep c (.pointer (some ⟨b,off,none⟩)) (.ro cs)
 |nilp:Rep c (.pointer none) .nilp
 |clo (fn:Fn) (f1 c1:Array Value) (f2 c2:List AV) (hf:f1.size=f2.length) (hc:c1.size=c2.length)
   (h1:∀i,Rep c (f1.getD i undef) (f2.getD i .any)) (h2:∀i,Rep c (c1.getD i undef) (c2.getD i .any)):Rep c (.func fn f1 c1) (.clo fn f2 c2)
 |nilf:Rep c .nilFunc .nilf
 |nilm:Rep c (.map none) .nilm
 |niface:Rep c .nilIface .niface
 |iface (t:TypeId) (v:Value) (x:AV) (h:Rep c v x):Rep c (.iface t v) (.iface t x)
 |os (d g len:Nat) (v:Value) (h1:v.oneCell'=true) (hg:g≤c.gen d) (h:g=c.gen d→c.kind d≠none→JO c d len v):Rep c v (.os d g len)
 |ref (d g off:Nat) (v:Value) (h1:v.oneCell'=true) (hg:g≤c.gen d) (h:g=c.gen d→c.kind d≠none→v=.pointer (some ⟨c.β d,off,none⟩)):Rep c v (.ref d g off)
 |eref (d g i o:Nat) (v:Value) (h1:v.oneCell'=true) (hg:g≤c.gen d) (h:∀sz,g=c.gen d→c.kind d=some sz→v=.pointer (some ⟨c.β d,i*sz+o,none⟩)):Rep c v (.eref d g i o)
 |ot (d g off len:Nat) (v:Value) (h1:v.oneCell'=true) (hg:g≤c.gen d) (h:∀sz,g=c.gen d→c.kind d=some sz→Jfl c d sz off len v):Rep c v (.ot d g off len)
 |mp (b:Nat) (es:Array MapEntry) (cl:Nat) (ks vs:List AV) (hM:¬c.M b) (hb:c.w.heap[b]?=some (.map es cl)) (hk:es.size=ks.length) (hv:es.size=vs.length)
   (h1:∀i,Rep c ((es[i]?).elim undef (·.key)) (ks.getD i .any)) (h2:∀i,Rep c ((es[i]?).elim undef (·.val)) (vs.getD i .any)):Rep c (.map (some b)) (.mp ks vs)
 |mref (d g:Nat) (v:Value) (h1:v.oneCell'=true) (hg:g≤c.gen d) (h:g=c.gen d→c.kind d≠none→v=.map (some (c.β d))):Rep c v (.mref d g)
theorem World.cell_lt{w:World}{a:Addr}{u:Value}(h:w.cell? a=some u):a.block<w.heap.size:=by
 unfold World.cell? at h
 split at h
 ·rename_i heq;exact(Array.getElem?_eq_some_iff.1 heq).1
 ·simp at h
theorem World.cell_of_heap{w w':World}{a:Addr}(h:w'.heap[a.block]?=w.heap[a.block]?):w'.cell? a=w.cell? a:=by simp[World.cell?,h]
theorem JcQ{w:World}{b:Nat}{o:Obj}(h:w.heap[b]?=some o):b<w.heap.size:=(Array.getElem?_eq_some_iff.1 h).1
structure Ctx.Le(c c':Ctx):Prop where
 blk:∀b,¬c.M b→b<c.w.heap.size→c'.w.heap[b]?=c.w.heap[b]?∧¬c'.M b
 gen:∀d,c.gen d≤c'.gen d
 kind:∀d k,c.gen d=c'.gen d→c'.kind d=some k→c.kind d=some k∧c'.β d=c.β d∧c'.κ d=c.κ d
theorem Ctx.Le.cell{c c':Ctx}(h:c.Le c')(a:Addr)(u:Value)(hM:¬c.M a.block)(hc:c.w.cell? a=some u):c'.w.cell? a=some u∧¬c'.M a.block:=by
 obtain⟨h1,h2⟩:=h.blk _ hM (World.cell_lt hc)
 exact⟨(World.cell_of_heap h1).trans hc,h2⟩
theorem Rep.mono{c c':Ctx}(hle:c.Le c'):∀ {v:Value} {x:AV},Rep c v x→Rep c' v x:=by
 intro v x h
 induction h with
 |any v=>exact .any v
 |bool b=>exact .bool b
 |int k n=>exact .int k n
 |str s l h=>exact .str s l h
 |agg cs as hl _ ih=>exact .agg cs as hl ih
 |tup cs as hl _ ih=>exact .tup cs as hl ih
 |slice0 clip a cap h=>exact .slice0 clip a cap h
 |slice clip b off cap sz xs f h0 hs hM hcap hclip hsz hc _ ih =>
  refine .slice clip b off cap sz xs f h0 hs ?_ hcap hclip hsz ?_ ih
  ·exact(hle.cell ⟨b,off+0*sz+0,none⟩ _ hM (hc 0 0 (List.length_pos_iff.2 h0) hs)).2
  ·exact fun i j hi hj=>(hle.cell ⟨b,off+i*sz+j,none⟩ _ hM (hc i j hi hj)).1
 |ro b off cs f h0 hM hc _ ih =>
  refine .ro b off cs f h0 ?_ ?_ ih
  ·exact(hle.cell ⟨b,off+0,none⟩ _ hM (hc 0 (List.length_pos_iff.2 h0))).2
  ·exact fun j hj=>(hle.cell ⟨b,off+j,none⟩ _ hM (hc j hj)).1
 |nilp=>exact .nilp
 |clo fn f1 c1 f2 c2 hf hc _ _ i1 i2=>exact .clo fn f1 c1 f2 c2 hf hc i1 i2
 |nilf=>exact .nilf
 |nilm=>exact .nilm
 |niface=>exact .niface
 |iface t v x _ ih=>exact .iface t v x ih
 |os d g len v h1v hg h =>
  refine .os d g len v h1v (Nat.le_trans hg (hle.gen d)) fun e hk=>?_
  cases hk':c'.kind d with
  |none=>exact absurd hk' hk
  |some k =>
   have e2:c.gen d=c'.gen d:=Nat.le_antisymm (hle.gen d) (by rw[←e];exact hg)
   obtain⟨h1,h2,h3⟩:=hle.kind d k e2 hk'
   have:=h (by rw[e2];exact e) (by rw[h1];simp)
   unfold JO at this ⊢
   rw[h2,h3];exact this
 |ref d g off v h1v hg h =>
  refine .ref d g off v h1v (Nat.le_trans hg (hle.gen d)) fun e hk=>?_
  cases hk':c'.kind d with
  |none=>exact absurd hk' hk
  |some k =>
   have e2:c.gen d=c'.gen d:=Nat.le_antisymm (hle.gen d) (by rw[←e];exact hg)
   obtain⟨h1,h2,h3⟩:=hle.kind d k e2 hk'
   rw[h2]
   exact h (by rw[e2];exact e) (by rw[h1];simp)
 |eref d g i o v h1v hg h =>
  refine .eref d g i o v h1v (Nat.le_trans hg (hle.gen d)) fun sz e hk'=>?_
  have e2:c.gen d=c'.gen d:=Nat.le_antisymm (hle.gen d) (by rw[←e];exact hg)
  obtain⟨h1,h2,h3⟩:=hle.kind d sz e2 hk'
  rw[h2]
  exact h sz (by rw[e2];exact e) h1
 |ot d g i o v h1v hg h =>
  refine .ot d g i o v h1v (Nat.le_trans hg (hle.gen d)) fun sz e hk'=>?_
  have e2:c.gen d=c'.gen d:=Nat.le_antisymm (hle.gen d) (by rw[←e];exact hg)
  obtain⟨h1,h2,h3⟩:=hle.kind d sz e2 hk'
  have:=h sz (by rw[e2];exact e) h1
  unfold Jfl at this ⊢
  rw[h2,h3];exact this
 |mp b es cl ks vs hM hb hk hv _ _ i1 i2 =>
  obtain⟨q1,q2⟩:=hle.blk b hM (JcQ hb)
  exact .mp b es cl ks vs q2 (q1.trans hb) hk hv i1 i2
 |mref d g v h1v hg h =>
  refine .mref d g v h1v (Nat.le_trans hg (hle.gen d)) fun e hk=>?_
  cases hk':c'.kind d with
  |none=>exact absurd hk' hk
  |some k =>
   have e2:c.gen d=c'.gen d:=Nat.le_antisymm (hle.gen d) (by rw[←e];exact hg)
   obtain⟨h1,h2,h3⟩:=hle.kind d k e2 hk'
   rw[h2]
   exact h (by rw[e2];exact e) (by rw[h1];simp)
def AV.pure:AV→Bool
 | .os ..|.ref ..|.eref ..|.ot ..|.mref ..=>false
 | .agg cs|.tup cs|.slice _ cs|.ro cs=>pureL cs
 | .clo _ a b=>pureL a && pureL b
 | .mp a b=>pureL a && pureL b
 | .iface _ v=>v.pure
 |_=>true
where pureL:List AV→Bool
 | []=>true
 |x :: r=>x.pure && pureL r
def AV.flat:AV→Bool
 | .bool _|.int ..|.str _|.any|.nilp|.nilf|.nilm|.niface=>true
 | .agg cs|.tup cs=>flatL cs
 | .iface _ v=>v.flat
 |_=>false
where flatL:List AV→Bool
 | []=>true
 |x :: r=>x.flat && flatL r
theorem JW:∀(l:List AV) (i:Nat),AV.pure.pureL l=true→(l.getD i .any).pure=true
 | [],i,_=>by simp[AV.pure]
 |x :: r,0,h=>by simp[AV.pure.pureL] at h;simpa using h.1
 |x :: r,i+1,h=>by simp[AV.pure.pureL] at h;simpa using JW r i h.2
theorem Jba:∀(l:List AV) (i:Nat),AV.flat.flatL l=true→(l.getD i .any).flat=true
 | [],i,_=>by simp[AV.flat]
 |x :: r,0,h=>by simp[AV.flat.flatL] at h;simpa using h.1
 |x :: r,i+1,h=>by simp[AV.flat.flatL] at h;simpa using Jba r i h.2
theorem JjC:∀(l:List AV),AV.pure.pureL l=true↔∀x∈l,x.pure=true
 | []=>by simp[AV.pure.pureL]
 |x :: r=>by simp[AV.pure.pureL,JjC r]
theorem AV.pure_cells{x:AV}(h:x.pure=true):AV.pure.pureL x.cells=true:=by
 cases x<;>simp_all[AV.cells,AV.pure,AV.pure.pureL]
theorem AV.flat_cells{x:AV}(h:x.flat=true):AV.flat.flatL x.cells=true:=by
 cases x<;>simp_all[AV.cells,AV.flat,AV.flat.flatL]
theorem Rep.mono_pure{c c':Ctx}(hblk:∀b,¬c.M b→b<c.w.heap.size→c'.w.heap[b]?=c.w.heap[b]?∧¬c'.M b) :
  ∀ {v:Value} {x:AV},Rep c v x→x.pure=true→Rep c' v x:=by
 have hc:∀(a:Addr) (u:Value),¬c.M a.block→c.w.cell? a=some u→c'.w.cell? a=some u∧¬c'.M a.block:=fun a u hM hc=>by
  obtain⟨h1,h2⟩:=hblk _ hM (World.cell_lt hc)
  exact⟨(World.cell_of_heap h1).trans hc,h2⟩
 intro v x h
 induction h with
 |any v=>exact fun _=>.any v
 |bool b=>exact fun _=>.bool b
 |int k n=>exact fun _=>.int k n
 |str s l h=>exact fun _=>.str s l h
 |agg cs as hl _ ih=>exact fun hp=>.agg cs as hl fun i=>ih i (JW as i (by simpa[AV.pure] using hp))
 |tup cs as hl _ ih=>exact fun hp=>.tup cs as hl fun i=>ih i (JW as i (by simpa[AV.pure] using hp))
 |slice0 clip a cap h=>exact fun _=>.slice0 clip a cap h
 |slice clip b off cap sz xs f h0 hs hM hcap hclip hsz hcell _ ih =>
  intro hp
  refine .slice clip b off cap sz xs f h0 hs ?_ hcap hclip hsz ?_ fun i j=>ih i j ?_
  ·exact(hc ⟨b,off+0*sz+0,none⟩ _ hM (hcell 0 0 (List.length_pos_iff.2 h0) hs)).2
  ·exact fun i j hi hj=>(hc ⟨b,off+i*sz+j,none⟩ _ hM (hcell i j hi hj)).1
  ·exact JW _ _ (AV.pure_cells (JW xs i (by simpa[AV.pure] using hp)))
 |ro b off cs f h0 hM hcell _ ih =>
  intro hp
  refine .ro b off cs f h0 ?_ ?_ fun j=>ih j (JW cs j (by simpa[AV.pure] using hp))
  ·exact(hc ⟨b,off+0,none⟩ _ hM (hcell 0 (List.length_pos_iff.2 h0))).2
  ·exact fun j hj=>(hc ⟨b,off+j,none⟩ _ hM (hcell j hj)).1
 |nilp=>exact fun _=>.nilp
 |clo fn f1 c1 f2 c2 hf hcc _ _ i1 i2 =>
  intro hp
  simp only[AV.pure,Bool.and_eq_true] at hp
  exact .clo fn f1 c1 f2 c2 hf hcc (fun i=>i1 i (JW f2 i hp.1)) (fun i=>i2 i (JW c2 i hp.2))
 |nilf=>exact fun _=>.nilf
 |nilm=>exact fun _=>.nilm
 |niface=>exact fun _=>.niface
 |iface t v x _ ih=>exact fun hp=>.iface t v x (ih (by simpa[AV.pure] using hp))
 |os d g len v h1v hg h=>intro hp;simp[AV.pure] at hp
 |ref d g off v h1v hg h=>intro hp;simp[AV.pure] at hp
 |eref d g i o v h1v hg h=>intro hp;simp[AV.pure] at hp
 |ot d g i o v h1v hg h=>intro hp;simp[AV.pure] at hp
 |mp b es cl ks vs hM hb hk hv _ _ i1 i2 =>
  intro hp
  simp only[AV.pure,Bool.and_eq_true] at hp
  obtain⟨q1,q2⟩:=hblk b hM (JcQ hb)
  exact .mp b es cl ks vs q2 (q1.trans hb) hk hv (fun i=>i1 i (JW ks i hp.1)) (fun i=>i2 i (JW vs i hp.2))
 |mref d g v h1v hg h=>intro hp;simp[AV.pure] at hp
theorem Rep.mono_flat{c c':Ctx}:∀ {v:Value} {x:AV},Rep c v x→x.flat=true→Rep c' v x:=by
 intro v x h
 induction h with
 |any v=>exact fun _=>.any v
 |bool b=>exact fun _=>.bool b
 |int k n=>exact fun _=>.int k n
 |str s l h=>exact fun _=>.str s l h
 |agg cs as hl _ ih=>exact fun hp=>.agg cs as hl fun i=>ih i (Jba as i (by simpa[AV.flat] using hp))
 |tup cs as hl _ ih=>exact fun hp=>.tup cs as hl fun i=>ih i (Jba as i (by simpa[AV.flat] using hp))
 |nilp=>exact fun _=>.nilp
 |nilf=>exact fun _=>.nilf
 |nilm=>exact fun _=>.nilm
 |niface=>exact fun _=>.niface
 |iface t v x _ ih=>exact fun hp=>.iface t v x (ih (by simpa[AV.flat] using hp))
 |_=>intro hp;simp[AV.flat] at hp
def Y8:Value→AV
 | .bool b=>.bool b
 | .int k n=>.int k n
 | .string s=>.str s.data.toList
 | .slice none 0 0=>.slice true []
 | .pointer none=>.nilp
 | .nilFunc=>.nilf
 | .map none=>.nilm
 | .nilIface=>.niface
 |_=>.any
theorem JgB(c:Ctx)(v:Value):Rep c v (Y8 v):=by
 unfold Y8
 split
 ·exact .bool _
 ·exact .int _ _
 ·exact .str _ _ rfl
 ·exact .slice0 true none 0 fun _=>rfl
 ·exact .nilp
 ·exact .nilf
 ·exact .nilm
 ·exact .niface
 ·exact .any _
theorem Yn{c:Ctx}{v:Value}{d g len:Nat}(h:Rep c v (.os d g len)):v.oneCell'=true∧g≤c.gen d∧(g=c.gen d→c.kind d≠none→JO c d len v):=by
 cases h with
 |os _ _ _ _ h1 h2 h3=>exact⟨h1,h2,h3⟩
theorem Jdi{c:Ctx}{v:Value}{d g off:Nat}(h:Rep c v (.ref d g off)):v.oneCell'=true∧g≤c.gen d∧(g=c.gen d→c.kind d≠none→v=.pointer (some ⟨c.β d,off,none⟩)):=by
 cases h with
 |ref _ _ _ _ h1 h2 h3=>exact⟨h1,h2,h3⟩
theorem JeM{c:Ctx}{v:Value}{d g off len:Nat}(h:Rep c v (.ot d g off len)):v.oneCell'=true∧g≤c.gen d∧(∀sz,g=c.gen d→c.kind d=some sz→Jfl c d sz off len v):=by
 cases h with
 |ot _ _ _ _ _ h1 h2 h3=>exact⟨h1,h2,h3⟩
theorem Jdh{c:Ctx}{v:Value}{d g:Nat}(h:Rep c v (.mref d g)):v.oneCell'=true∧g≤c.gen d∧(g=c.gen d→c.kind d≠none→v=.map (some (c.β d))):=by
 cases h with
 |mref _ _ _ h1 h2 h3=>exact⟨h1,h2,h3⟩
theorem JjQ{c:Ctx}{v:Value}(h:Rep c v .nilm):v=.map none:=by cases h;rfl
theorem Ym{c:Ctx}{v:Value}{cs:List AV}(h:Rep c v (.agg cs)):∃vs,v=.agg vs∧vs.size=cs.length∧∀i,Rep c (vs.getD i undef) (cs.getD i .any):=by
 cases h with
 |agg vs _ h1 h2=>exact⟨vs,rfl,h1,h2⟩
theorem Jqb{c:Ctx}{v:Value}{cs:List AV}(h:Rep c v (.tup cs)):∃vs,v=.tuple vs∧vs.size=cs.length∧∀i,Rep c (vs.getD i undef) (cs.getD i .any):=by
 cases h with
 |tup vs _ h1 h2=>exact⟨vs,rfl,h1,h2⟩
def AV.one:AV→Bool
 | .any|.agg _|.tup _=>false
 |_=>true
theorem Rep.one{c:Ctx}{v:Value}{x:AV}(h:Rep c v x)(hx:x.one=true):v.oneCell'=true:=by
 cases h<;>simp_all[AV.one,Value.oneCell']
def AV.nrm:AV→AV
 | .slice _ xs=>.slice false (nrmL xs)
 | .agg cs=>.agg (nrmL cs)
 | .tup cs=>.tup (nrmL cs)
 | .ro cs=>.ro (nrmL cs)
 | .clo fn a b=>.clo fn (nrmL a) (nrmL b)
 | .mp a b=>.mp (nrmL a) (nrmL b)
 | .iface t x=>.iface t x.nrm
 |x=>x
where nrmL:List AV→List AV
 | []=>[]
 |x :: r=>x.nrm :: nrmL r
theorem Jci:∀(l:List AV),AV.nrm.nrmL l=l.map AV.nrm
 | []=>rfl
 |x :: r=>by simp[AV.nrm.nrmL,Jci r]
theorem Y6(l:List AV)(i:Nat):(AV.nrm.nrmL l).getD i .any=(l.getD i .any).nrm:=by
 rw[Jci]
 simp only[List.getD_eq_getElem?_getD,List.getElem?_map]
 cases l[i]?<;>rfl
theorem Jes(x:AV):x.nrm.cells=AV.nrm.nrmL x.cells:=by cases x<;>rfl
theorem Yb(l:List AV):(AV.nrm.nrmL l).length=l.length:=by rw[Jci];simp
theorem Ji8{l:List AV}(h:l≠[]):AV.nrm.nrmL l≠[]:=by
 intro e;have:=Yb l;rw[e] at this;exact h (List.length_eq_zero_iff.1 this.symm)
theorem Rep.nrm{c:Ctx}:∀ {v:Value} {x:AV},Rep c v x→Rep c v x.nrm:=by
 intro v x h
 induction h with
 |any v=>exact .any v
 |bool b=>exact .bool b
 |int k n=>exact .int k n
 |str s l h=>exact .str s l h
 |agg cs as hl _ ih=>exact .agg cs _ (by rw[Yb];exact hl) fun i=>by rw[Y6];exact ih i
 |tup cs as hl _ ih=>exact .tup cs _ (by rw[Yb];exact hl) fun i=>by rw[Y6];exact ih i
 |slice0 clip a cap h=>exact .slice0 false a cap (by simp)
 |slice clip b off cap sz xs f h0 hs hM hcap hclip hsz hc _ ih =>
  have:=Rep.slice (c:=c) false b off cap sz (AV.nrm.nrmL xs) f (Ji8 h0) hs hM (by rw[Yb];exact hcap) (by simp)
   (fun x hx=>by
    rw[Jci] at hx
    obtain⟨y,hy,rfl⟩:=List.mem_map.1 hx
    rw[Jes,Yb];exact hsz y hy)
   (fun i j hi hj=>hc i j (by rwa [Yb] at hi) hj)
   (fun i j=>by rw[Y6,Jes,Y6];exact ih i j)
  rw[Yb] at this
  exact this
 |ro b off cs f h0 hM hc _ ih=>exact .ro b off _ f (Ji8 h0) hM (fun j hj=>hc j (by rwa [Yb] at hj)) fun j=>by rw[Y6];exact ih j
 |nilp=>exact .nilp
 |clo fn f1 c1 f2 c2 hf hc _ _ i1 i2=>exact .clo fn f1 c1 _ _ (by rw[Yb];exact hf) (by rw[Yb];exact hc) (fun i=>by rw[Y6];exact i1 i) fun i=>by rw[Y6];exact i2 i
 |nilf=>exact .nilf
 |nilm=>exact .nilm
 |niface=>exact .niface
 |iface t v x _ ih=>exact .iface t v _ ih
 |os d g len v h1v hg h=>exact .os d g len v h1v hg h
 |ref d g off v h1v hg h=>exact .ref d g off v h1v hg h
 |eref d g i o v h1v hg h=>exact .eref d g i o v h1v hg h
 |ot d g i o v h1v hg h=>exact .ot d g i o v h1v hg h
 |mp b es cl ks vs hM hb hk hv _ _ i1 i2=>exact .mp b es cl _ _ hM hb (by rw[Yb];exact hk) (by rw[Yb];exact hv) (fun i=>by rw[Y6];exact i1 i) fun i=>by rw[Y6];exact i2 i
 |mref d g v h1v hg h=>exact .mref d g v h1v hg h
mutual
theorem JeE:∀(x:AV),x.nrm.pure=x.pure
 | .slice _ xs=>by simp only[AV.nrm,AV.pure];exact ZP xs
 | .agg xs=>by simp only[AV.nrm,AV.pure];exact ZP xs
 | .tup xs=>by simp only[AV.nrm,AV.pure];exact ZP xs
 | .ro xs=>by simp only[AV.nrm,AV.pure];exact ZP xs
 | .clo _ a b=>by simp only[AV.nrm,AV.pure];rw[ZP a,ZP b]
 | .mp a b=>by simp only[AV.nrm,AV.pure];rw[ZP a,ZP b]
 | .iface _ x=>by simp only[AV.nrm,AV.pure];exact JeE x
 | .any|.bool _|.int _ _|.str _|.nilp|.nilf|.nilm|.niface|.os _ _ _|.ref _ _ _|.eref _ _ _ _|.ot _ _ _ _|.mref _ _=>rfl
theorem ZP:∀(l:List AV),AV.pure.pureL (AV.nrm.nrmL l)=AV.pure.pureL l
 | []=>rfl
 |x :: r=>by simp only[AV.nrm.nrmL,AV.pure.pureL];rw[JeE x,ZP r]
end
mutual
theorem Jik:∀(x:AV),x.nrm.flat=x.flat
 | .slice _ xs=>rfl
 | .agg xs=>by simp only[AV.nrm,AV.flat];exact JfL xs
 | .tup xs=>by simp only[AV.nrm,AV.flat];exact JfL xs
 | .ro xs=>rfl
 | .clo _ a b=>rfl
 | .mp a b=>rfl
 | .iface _ x=>by simp only[AV.nrm,AV.flat];exact Jik x
 | .any|.bool _|.int _ _|.str _|.nilp|.nilf|.nilm|.niface|.os _ _ _|.ref _ _ _|.eref _ _ _ _|.ot _ _ _ _|.mref _ _=>rfl
theorem JfL:∀(l:List AV),AV.flat.flatL (AV.nrm.nrmL l)=AV.flat.flatL l
 | []=>rfl
 |x :: r=>by simp only[AV.nrm.nrmL,AV.flat.flatL];rw[Jik x,JfL r]
end
def AV.owns:AV→List Nat
 | .os d _ _=>[d]
 | .mref d _=>[d]
 | .agg cs|.tup cs=>ownsL cs
 |_=>[]
where ownsL:List AV→List Nat
 | []=>[]
 |x :: r=>x.owns++ownsL r
inductive Ob where
 |dead
 |box (cs:List AV)
 |arr (sz:Nat) (xs:List AV)
 |iter (s:List UInt8) (pos:Nat)
 |mp (ks vs:List AV)
 deriving Inhabited
def Ob.kind:Ob→Option Nat
 | .dead=>none
 | .box _=>some 0
 | .arr sz _=>some sz
 | .iter _ _=>some 0
 | .mp _ _=>some 0
structure TS where
 n:Nat
 tmp:Nat→AV
 gen:Nat→Nat
 obj:Nat→Ob
structure Ghost where
 β:Nat→Nat
 κ:Nat→Option Nat
structure Env where
 w0:World
 X:Nat→Prop
 F:Nat→Prop
 pin:Nat→Option Nat
def Jj(ts:TS)(G:Ghost)(d:Nat):Prop:=(ts.obj d).kind≠none∧G.κ d≠none
def Jb(E:Env)(G:Ghost)(ts:TS)(w:World):Ctx :=
 {w,M:=fun b=>E.F b∨∃d,Jj ts G d∧G.β d=b,gen:=ts.gen,kind:=fun d=>(ts.obj d).kind,β:=G.β,κ:=G.κ }
def Born(es:Array MapEntry)(cl:Nat):Prop:=cl=es.size∧∀(j:Nat) (e:MapEntry),es[j]?=some e→e.born=j
def ObOk(c:Ctx)(d:Nat):Ob→Prop
 | .dead=>True
 | .box cs=>c.κ d≠none∧∃vs T,c.w.heap[c.β d]?=some (.cells vs T (0,0))∧vs.size=cs.length∧∀i,Rep c (vs.getD i undef) (cs.getD i .any)
 | .arr sz xs=>0<sz∧(∀x∈xs,x.cells.length=sz) ∧
  match c.κ d with
  |none=>xs=[]
  |some cap=>∃vs T,c.w.heap[c.β d]?=some (.cells vs T (0,0))∧vs.size=cap*sz∧xs.length≤cap ∧
    ∀i j,i<xs.length→j<sz→Rep c (vs.getD (i*sz+j) undef) ((xs.getD i .any).cells.getD j .any)
 | .iter l p=>c.κ d≠none∧∃s:ByteArray,c.w.heap[c.β d]?=some (.stringIter s p)∧s.data.toList=l
 | .mp ks vs=>c.κ d≠none∧∃(es:Array MapEntry) (cl:Nat),c.w.heap[c.β d]?=some (.map es cl)∧es.size=ks.length∧es.size=vs.length ∧
   (∀i,Rep c ((es[i]?).elim undef (·.key)) (ks.getD i .any))∧(∀i,Rep c ((es[i]?).elim undef (·.val)) (vs.getD i .any))∧Born es cl
structure Bel(X:Nat→Prop)(w w':World):Prop where
 os:w'.os=w.os
 tape:w'.tape=w.tape
 output:w'.output=w.output
 size:w.heap.size≤w'.heap.size
 block:∀k,k<w.heap.size→¬X k→w'.heap[k]?=w.heap[k]?
 drawn:w.drawn≤w'.drawn
theorem Bel.refl(X:Nat→Prop)(w:World):Bel X w w:=⟨rfl,rfl,rfl,Nat.le_refl _,fun _ _ _=>rfl,Nat.le_refl _⟩
theorem Bel.trans{X:Nat→Prop}{a b c:World}(h:Bel X a b)(k:Bel X b c):Bel X a c :=
 ⟨k.os.trans h.os,k.tape.trans h.tape,k.output.trans h.output,Nat.le_trans h.size k.size,
  fun i hi hx=>(k.block i (Nat.lt_of_lt_of_le hi h.size) hx).trans (h.block i hi hx),Nat.le_trans h.drawn k.drawn⟩
structure Rel(E:Env)(ts:TS)(G:Ghost)(a:Act)(w:World):Prop where
 size:a.tmps.size=ts.n
 defers:a.defers=[]
 tmp:∀t,Rep (Jb E G ts w) (a.tmps.getD t undef) (ts.tmp t)
 obj:∀d,ObOk (Jb E G ts w) d (ts.obj d)
 sep:∀d d',Jj ts G d→Jj ts G d'→G.β d=G.β d'→d=d'
 own:∀d,Jj ts G d→(E.w0.heap.size≤G.β d∨E.X (G.β d))∧¬E.F (G.β d)∧G.β d<w.heap.size
 inF:∀b,E.F b→b<w.heap.size
 bel:Bel E.X E.w0 w
 pin:∀j b,E.pin j=some b→ts.gen j=0→G.β j=b
def Jp{α:Type}(f:Nat→α)(d:Nat)(v:α):Nat→α:=fun u=>if u=d then v else f u
@[simp] theorem Vc{α:Type}(f:Nat→α)(d:Nat)(v:α):Jp f d v d=v:=by simp[Jp]
theorem Vo{α:Type}(f:Nat→α){d u:Nat}(v:α)(h:u≠d):Jp f d v u=f u:=by simp[Jp,h]
def TS.put(ts:TS)(d:Nat)(v:AV):TS:={ ts with tmp:=Jp ts.tmp d v }
theorem Jd9(a:Act)(d t:Nat)(v:Value)(hd:d<a.tmps.size):(a.put (some d) v).tmps.getD t undef=if t=d then v else a.tmps.getD t undef:=by
 simp only[Act.put,Array.getD_eq_getD_getElem?,Array.getElem?_setIfInBounds]
 by_cases h:d=t
 ·subst h;simp[hd]
 ·simp[h,Ne.symm h]
theorem Rel.put{E:Env}{ts:TS}{G:Ghost}{a:Act}{w:World}(h:Rel E ts G a w){d:Nat}(hd:d<ts.n){v:Value}{x:AV}
  (hr:Rep (Jb E G ts w) v x):Rel E (ts.put d x) G (a.put (some d) v) w where
 size:=by simp[Act.put,h.size,TS.put]
 defers:=h.defers
 tmp:=fun t=>by
  rw[Jd9 a d t v (by rw[h.size];exact hd)]
  show Rep (Jb E G ts w) _ (Jp ts.tmp d x t)
  by_cases e:t=d
  ·subst e;simpa using hr
  ·rw[if_neg e,Vo _ _ e];exact h.tmp t
 obj:=h.obj
 sep:=h.sep
 own:=h.own
 inF:=h.inF
 bel:=h.bel
 pin:=h.pin
def Jab(ts:TS)(dst:Option Nat)(x:AV):TS:=match dst with|some d=>ts.put d x|none=>ts
theorem Rel.put_any{E:Env}{ts:TS}{G:Ghost}{a:Act}{w:World}(h:Rel E ts G a w)(dst:Option Nat)(hd:∀d,dst=some d→d<ts.n)(v:Value) :
  Rel E (Jab ts dst .any) G (a.put dst v) w:=by
 cases dst with
 |none=>exact h
 |some d=>exact h.put (hd d rfl) (.any v)
theorem Rel.put_undef{E:Env}{ts:TS}{G:Ghost}{a:Act}{w:World}(h:Rel E ts G a w)(dst:Option Nat)(hd:∀d,dst=some d→d<ts.n) :
  Rel E (Jab ts dst (.tup [])) G (a.put dst undef) w:=by
 cases dst with
 |none=>exact h
 |some d=>exact h.put (hd d rfl) (.tup _ _ rfl fun i=>by simp;exact .any _)
theorem Bel.alloc{X:Nat→Prop}{a w:World}(h:Bel X a w)(o:Obj):Bel X a (w.alloc o) :=
 h.trans ⟨rfl,rfl,rfl,by simp,fun k hk _=>heap_alloc_old w o k hk,Nat.le_refl _⟩
theorem Bel.drew{X:Nat→Prop}{a w:World}(h:Bel X a w):Bel X a w.drew:=h.trans ⟨rfl,rfl,rfl,Nat.le_refl _,fun _ _ _=>rfl,Nat.le_succ _⟩
def Ghost.set(G:Ghost)(d b:Nat)(k:Option Nat):Ghost:={ β:=Jp G.β d b,κ:=Jp G.κ d k }
def TS.new(ts:TS)(d:Nat)(o:Ob):TS:={ ts with gen:=Jp ts.gen d (ts.gen d+1),obj:=Jp ts.obj d o }
theorem Jc1(E:Env)(G:Ghost)(ts:TS)(w w':World)(d b:Nat)(k:Option Nat)(o:Ob)(hb:w.heap.size≤b)
  (hw:∀i,i<w.heap.size→w'.heap[i]?=w.heap[i]?):(Jb E G ts w).Le (Jb E (G.set d b k) (ts.new d o) w') where
 blk:=fun b' hM hlt=>by
  refine⟨hw _ hlt,?_⟩
  rintro(hF|⟨e,he,hbe⟩)
  ·exact hM (.inl hF)
  ·by_cases hed:e=d
   ·subst hed
    have h1:b=b':=by simpa[Ghost.set,Jb] using hbe
    have h2:b' < w.heap.size:=hlt
    omega
   ·exact hM (.inr ⟨e,by simpa[Jj,Ghost.set,TS.new,Jp,hed] using he,by simpa[Ghost.set,Jp,hed] using hbe⟩)
 gen:=fun e=>by by_cases h:e=d<;>simp[Jb,TS.new,Jp,h]
 kind:=fun e k' hg hk=>by
  by_cases h:e=d
  ·subst h;simp[Jb,TS.new] at hg
  ·simp only[Jb,TS.new,Ghost.set,Jp,h,if_false] at hk ⊢
   simpa using hk
theorem ObOk.mono{c c':Ctx}(hle:c.Le c'){d:Nat}{o:Ob}(hk:c'.κ d=c.κ d)(hb:c'.β d=c.β d)
  (hh:o.kind≠none→c.κ d≠none→c'.w.heap[c.β d]?=c.w.heap[c.β d]?) (h:ObOk c d o):ObOk c' d o:=by
 cases o with
 |dead=>trivial
 |box cs =>
  obtain⟨h0,vs,T,h1,h2,h3⟩:=h
  exact⟨by rw[hk];exact h0,vs,T,by rw[hb,hh (by simp[Ob.kind]) h0];exact h1,h2,fun i=>(h3 i).mono hle⟩
 |arr sz xs =>
  obtain⟨h0,h1,h2⟩:=h
  refine⟨h0,h1,?_⟩
  rw[hk]
  cases hc:c.κ d with
  |none=>rw[hc] at h2;exact h2
  |some cap =>
   rw[hc] at h2
   obtain⟨vs,T,h3,h4,h5,h6⟩:=h2
   exact⟨vs,T,by rw[hb,hh (by simp[Ob.kind]) (by simp[hc])];exact h3,h4,h5,fun i j hi hj=>(h6 i j hi hj).mono hle⟩
 |iter l p =>
  obtain⟨h0,s,h1,h2⟩:=h
  exact⟨by rw[hk];exact h0,s,by rw[hb,hh (by simp[Ob.kind]) h0];exact h1,h2⟩
 |mp ks vs =>
  obtain⟨h0,es,cl,h1,h2,h3,h4,h5,h6⟩:=h
  exact⟨by rw[hk];exact h0,es,cl,by rw[hb,hh (by simp[Ob.kind]) h0];exact h1,h2,h3,fun i=>(h4 i).mono hle,fun i=>(h5 i).mono hle,h6⟩
theorem Rel.newObj{E:Env}{ts:TS}{G:Ghost}{a:Act}{w w':World}(h:Rel E ts G a w){d:Nat}(hd:d<ts.n)(o:Ob)(b:Nat)(k:Option Nat)
  (hb:w.heap.size≤b) (hbw:k≠none→b<w'.heap.size) (hbel:Bel (fun _=>False) w w') {v:Value} {x:AV}
  (hr:Rep (Jb E (G.set d b k) (ts.new d o) w') v x) (ho:ObOk (Jb E (G.set d b k) (ts.new d o) w') d o) :
  Rel E ((ts.new d o).put d x) (G.set d b k) (a.put (some d) v) w':=by
 have hw:∀i,i<w.heap.size→w'.heap[i]?=w.heap[i]?:=fun i hi=>hbel.block i hi (fun hf=>hf)
 have hle:=Jc1 E G ts w w' d b k o hb hw
 have live:∀e,e≠d→(Jj ((ts.new d o).put d x) (G.set d b k) e↔Jj ts G e):=fun e he=>by
  simp[Jj,Ghost.set,TS.new,TS.put,Jp,he]
 have hβ:∀e,e≠d→(G.set d b k).β e=G.β e:=fun e he=>by simp[Ghost.set,Jp,he]
 have hβd:(G.set d b k).β d=b:=by simp[Ghost.set]
 have hκd:(G.set d b k).κ d=k:=by simp[Ghost.set]
 constructor
 ·simp[Act.put,h.size,TS.put,TS.new]
 ·exact h.defers
 ·intro t
  rw[Jd9 a d t v (by rw[h.size];exact hd)]
  show Rep (Jb E (G.set d b k) (ts.new d o) w') _ (Jp ts.tmp d x t)
  by_cases e:t=d
  ·subst e;simpa using hr
  ·rw[if_neg e,Vo _ _ e];exact(h.tmp t).mono hle
 ·intro e
  show ObOk (Jb E (G.set d b k) (ts.new d o) w') e ((Jp ts.obj d o) e)
  by_cases he:e=d
  ·subst he;simpa using ho
  ·rw[Vo _ _ he]
   refine ObOk.mono hle (by simp[Jb,Ghost.set,Jp,he]) (by simp[Jb,Ghost.set,Jp,he]) ?_ (h.obj e)
   intro hkind hk
   exact hw _ (h.own e ⟨hkind,hk⟩).2.2
 ·intro e e' h1 h2 h3
  by_cases he:e=d<;>by_cases he':e'=d
  ·rw[he,he']
  ·subst he
   rw[hβd,hβ e' he'] at h3
   have:=(h.own e' ((live e' he').1 h2)).2.2
   omega
  ·subst he'
   rw[hβd,hβ e he] at h3
   have:=(h.own e ((live e he).1 h1)).2.2
   omega
  ·rw[hβ e he,hβ e' he'] at h3
   exact h.sep e e' ((live e he).1 h1) ((live e' he').1 h2) h3
 ·intro e h1
  by_cases he:e=d
  ·subst he
   rw[hβd]
   have h1':k≠none:=by have:=h1.2;rwa [hκd] at this
   have:=h.bel.size
   exact⟨.inl (by omega),fun hF=>by have:=h.inF b hF;omega,hbw h1'⟩
  ·rw[hβ e he]
   obtain⟨p,q,r⟩:=h.own e ((live e he).1 h1)
   exact⟨p,q,Nat.lt_of_lt_of_le r hbel.size⟩
 ·exact fun b hb=>Nat.lt_of_lt_of_le (h.inF b hb) hbel.size
 ·exact h.bel.trans ⟨hbel.os,hbel.tape,hbel.output,hbel.size,fun i hi _=>hw i hi,hbel.drawn⟩
 ·intro j b' hj hg
  by_cases he:j=d
  ·subst he;simp[TS.put,TS.new] at hg
  ·rw[hβ j he];exact h.pin j b' hj (by simpa[TS.put,TS.new,Jp,he] using hg)
def TS.setObj(ts:TS)(d:Nat)(o:Ob):TS:={ ts with obj:=Jp ts.obj d o }
theorem YR{ts:TS}{G:Ghost}{d:Nat}{o:Ob}(hk:o.kind=(ts.obj d).kind)(e:Nat):Jj (ts.setObj d o) G e↔Jj ts G e:=by
 by_cases he:e=d
 ·subst he;simp[Jj,TS.setObj,hk]
 ·simp[Jj,TS.setObj,Jp,he]
theorem Zn(E:Env)(G:Ghost)(ts:TS)(w w':World)(d:Nat)(o:Ob)(hk:o.kind=(ts.obj d).kind)(hl:Jj ts G d)(hw:∀i,i≠G.β d→w'.heap[i]?=w.heap[i]?) :
  (Jb E G ts w).Le (Jb E G (ts.setObj d o) w') :=
 {blk:=fun b' hMa hc=>by
   have hne:b'≠G.β d:=fun e=>hMa (.inr ⟨d,hl,e.symm⟩)
   refine⟨hw _ hne,?_⟩
   rintro(hF|⟨e,he,hb⟩)
   ·exact hMa (.inl hF)
   ·exact hMa (.inr ⟨e,(YR hk e).1 he,hb⟩)
  gen:=fun _=>Nat.le_refl _
  kind:=fun e k _ hk'=>by
   by_cases he:e=d
   ·subst he;simp only[Jb,TS.setObj,Vc,hk] at hk';exact⟨hk',rfl,rfl⟩
   ·simp only[Jb,TS.setObj,Jp,he,if_false] at hk';exact⟨hk',rfl,rfl⟩ }
theorem Rel.setObj{E:Env}{ts:TS}{G:Ghost}{a:Act}{w w':World}(h:Rel E ts G a w)(d:Nat)(o:Ob)(hk:o.kind=(ts.obj d).kind)(hl:Jj ts G d)
  (hos:w'.os=w.os) (htape:w'.tape=w.tape) (hout:w'.output=w.output) (hsz:w'.heap.size=w.heap.size)
  (hw:∀i,i≠G.β d→w'.heap[i]?=w.heap[i]?)
  (ho:ObOk (Jb E G (ts.setObj d o) w') d o) (hdr:w.drawn≤w'.drawn:=by first|exact Nat.le_refl _|exact Nat.le_succ _):Rel E (ts.setObj d o) G a w':=by
 have hM:∀b,(Jb E G (ts.setObj d o) w').M b↔(Jb E G ts w).M b:=fun b=>by
  simp only[Jb]
  constructor
  ·rintro(hF|⟨e,he,hb⟩)
   ·exact .inl hF
   ·exact .inr ⟨e,(YR hk e).1 he,hb⟩
  ·rintro(hF|⟨e,he,hb⟩)
   ·exact .inl hF
   ·exact .inr ⟨e,(YR hk e).2 he,hb⟩
 have hle:(Jb E G ts w).Le (Jb E G (ts.setObj d o) w') :=
  {blk:=fun b' hMa hc=>by
    have hne:b'≠G.β d:=fun e=>hMa (.inr ⟨d,hl,e.symm⟩)
    exact⟨hw _ hne,fun hm=>hMa ((hM _).1 hm)⟩
   gen:=fun _=>Nat.le_refl _
   kind:=fun e k _ hk'=>by
    by_cases he:e=d
    ·subst he;simp only[Jb,TS.setObj,Vc,hk] at hk';exact⟨hk',rfl,rfl⟩
    ·simp only[Jb,TS.setObj,Jp,he,if_false] at hk';exact⟨hk',rfl,rfl⟩ }
 constructor
 ·exact h.size
 ·exact h.defers
 ·exact fun t=>(h.tmp t).mono hle
 ·intro e
  show ObOk _ e ((Jp ts.obj d o) e)
  by_cases he:e=d
  ·subst he;simpa using ho
  ·rw[Vo _ _ he]
   refine ObOk.mono hle rfl rfl ?_ (h.obj e)
   intro hkind hκ
   exact hw _ fun hb=>he (h.sep e d ⟨hkind,hκ⟩ hl hb)
 ·exact fun e e' h1 h2 h3=>h.sep e e' ((YR hk e).1 h1) ((YR hk e').1 h2) h3
 ·intro e h1
  obtain⟨p,q,r⟩:=h.own e ((YR hk e).1 h1)
  exact⟨p,q,by rw[hsz];exact r⟩
 ·exact fun b hb=>by rw[hsz];exact h.inF b hb
 ·refine⟨hos.trans h.bel.os,htape.trans h.bel.tape,hout.trans h.bel.output,by rw[hsz];exact h.bel.size,fun k hk' hX=>?_,Nat.le_trans h.bel.drawn hdr⟩
  have hne:k≠G.β d:=fun e=>by
   rcases(h.own d hl).1 with h1|h1
   ·omega
   ·exact hX (e▸h1)
  exact(hw k hne).trans (h.bel.block k hk' hX)
 ·exact h.pin
theorem Rel.world{E:Env}{ts:TS}{G:Ghost}{a:Act}{w w':World}(h:Rel E ts G a w)(hh:w'.heap=w.heap)(hos:w'.os=w.os)(ht:w'.tape=w.tape)(ho:w'.output=w.output)(hdr:w.drawn≤w'.drawn:=by first|exact Nat.le_refl _|exact Nat.le_succ _):Rel E ts G a w':=by
 have hle:(Jb E G ts w).Le (Jb E G ts w') :=
  {blk:=fun b' hM hc=>⟨show w'.heap[_]?=w.heap[_]? by rw[hh],hM⟩,gen:=fun _=>Nat.le_refl _,kind:=fun e k _ hk=>⟨hk,rfl,rfl⟩ }
 exact⟨h.size,h.defers,fun t=>(h.tmp t).mono hle,fun d=>ObOk.mono hle rfl rfl (fun _ _=>by show w'.heap[_]?=w.heap[_]?;rw[hh]) (h.obj d),h.sep,fun d hd=>by rw[hh];exact h.own d hd,fun b hb=>by rw[hh];exact h.inF b hb,
  ⟨hos.trans h.bel.os,ht.trans h.bel.tape,ho.trans h.bel.output,by rw[hh];exact h.bel.size,fun k hk hX=>by rw[hh];exact h.bel.block k hk hX,Nat.le_trans h.bel.drawn hdr⟩,h.pin⟩
theorem Rel.drew{E:Env}{ts:TS}{G:Ghost}{a:Act}{w:World}(h:Rel E ts G a w):Rel E ts G a w.drew:=h.world rfl rfl rfl rfl
def TS.kill(ts:TS)(d:Nat):TS:=ts.setObj d .dead
theorem VE{ts:TS}{G:Ghost}{d e:Nat}(h:Jj (ts.kill d) G e):e≠d∧Jj ts G e:=by
 by_cases he:e=d
 ·subst he;simp[Jj,TS.kill,TS.setObj,Ob.kind] at h
 ·exact⟨he,by simpa[Jj,TS.kill,TS.setObj,Jp,he] using h⟩
theorem JaC(E:Env)(G:Ghost)(ts:TS)(w:World)(d:Nat):(Jb E G ts w).Le (Jb E G (ts.kill d) w) :=
 {blk:=fun b' hM hc=>⟨rfl,by
   rintro(hF|⟨e,he,hb⟩)
   ·exact hM (.inl hF)
   ·exact hM (.inr ⟨e,(VE he).2,hb⟩)⟩
  gen:=fun _=>Nat.le_refl _
  kind:=fun e k _ hk=>by
   by_cases he:e=d
   ·subst he;simp[Jb,TS.kill,TS.setObj,Ob.kind] at hk
   ·simp only[Jb,TS.kill,TS.setObj,Jp,he,if_false] at hk;exact⟨hk,rfl,rfl⟩ }
theorem Rel.kill{E:Env}{ts:TS}{G:Ghost}{a:Act}{w:World}(h:Rel E ts G a w)(d:Nat):Rel E (ts.kill d) G a w:=by
 have hle:=JaC E G ts w d
 refine⟨h.size,h.defers,fun t=>(h.tmp t).mono hle,?_,fun e e' h1 h2 h3=>h.sep e e' (VE h1).2 (VE h2).2 h3,fun e h1=>h.own e (VE h1).2,h.inF,h.bel,h.pin⟩
 intro e
 show ObOk _ e ((Jp ts.obj d .dead) e)
 by_cases he:e=d
 ·subst he;simp[ObOk]
 ·rw[Vo _ _ he];exact ObOk.mono hle rfl rfl (fun _ _=>rfl) (h.obj e)
theorem Rep.frozen{E:Env}{ts:TS}{G:Ghost}{a:Act}{w:World}(h:Rel E ts G a w){d g len sz:Nat}{xs:List AV}{v:Value}(hv:Rep (Jb E G ts w) v (.os d g len))
  (hg:g=ts.gen d) (ho:ts.obj d=.arr sz xs) (hl:len≤xs.length):Rep (Jb E G (ts.kill d) w) v (.slice false (xs.take len)):=by
 cases hv with
 |os _ _ _ _ h1 hgle hh =>
  have hh:=hh hg (by simp[Jb,ho,Ob.kind])
  have hob:=h.obj d
  rw[ho] at hob
  obtain⟨h0,hsz,hrest⟩:=hob
  unfold JO at hh
  by_cases hlen:len=0
  ·subst hlen
   simp only[List.take_zero]
   split at hh
   ·rw[hh.1];exact .slice0 false _ _ (by simp)
   ·obtain⟨_,a0,rfl⟩:=hh;exact .slice0 false _ _ (by simp)
  ·cases hκ:(Jb E G ts w).κ d with
   |none=>rw[hκ] at hh;exact absurd hh.1 hlen
   |some cap =>
    rw[hκ] at hh hrest
    obtain⟨hv,hcap⟩:=hh
    obtain⟨vs,T,hheap,hsize,hfit,hcells⟩:=hrest
    have hlt:(xs.take len).length=len:=by simp;omega
    rw[hv]
    suffices key:Rep (Jb E G (ts.kill d) w) (.slice (some ⟨G.β d,0,none⟩) (xs.take len).length cap) (.slice false (xs.take len)) by
     rw[hlt] at key;exact key
    refine Rep.slice false (G.β d) 0 cap sz (xs.take len) (fun i j=>if i<len∧j<sz then vs.getD (i*sz+j) undef else undef) (by intro e;simp[e] at hlt;omega) h0 ?_ (by rw[hlt];exact hcap) (by simp) ?_ ?_ ?_
    ·rintro(hF|⟨e,he,hb⟩)
     ·exact(h.own d ⟨by simp[ho,Ob.kind],by rw[show G.κ d=some cap from hκ];simp⟩).2.1 hF
     ·obtain⟨hne,hl'⟩:=VE he
      exact hne (h.sep e d hl' ⟨by simp[ho,Ob.kind],by rw[show G.κ d=some cap from hκ];simp⟩ hb)
    ·exact fun x hx=>hsz x (List.mem_of_mem_take hx)
    ·intro i j hi hj
     rw[hlt] at hi
     have hin:i*sz+j<vs.size:=by
      rw[hsize]
      calc i*sz+j<i*sz+sz:=by omega
       _=(i+1)*sz:=by rw[Nat.add_mul,Nat.one_mul]
       _≤cap*sz:=Nat.mul_le_mul_right _ (by omega)
     show w.cell? _=_
     unfold World.cell?
     rw[show w.heap[G.β d]?=some (.cells vs T (0,0)) from hheap]
     simp[hi,hj,hin]
    ·intro i j
     split
     ·rename_i hij
      have hi:i<xs.length:=by omega
      have hgd:(xs.take len).getD i .any=xs.getD i .any:=by simp[List.getElem?_take,hij.1]
      rw[hgd]
      exact(hcells i j hi hij.2).mono (JaC E G ts w d)
     ·rename_i hij
      have:((xs.take len).getD i .any).cells.getD j .any=.any:=by
       by_cases hi:i<len
       ·have hj:¬j<sz:=fun hj=>hij ⟨hi,hj⟩
        have hi':i<xs.length:=by omega
        have hgd:(xs.take len).getD i .any=xs[i]:=by simp[List.getElem?_take,hi,hi']
        rw[hgd]
        have:=hsz xs[i] (List.getElem_mem hi')
        simp[List.getElem?_eq_none (show xs[i].cells.length≤j by omega)]
       ·have hgd:(xs.take len).getD i .any=.any:=by simp[List.getElem?_take,hi]
        rw[hgd]
        simp only[AV.cells]
        cases j<;>simp
      rw[this];exact .any _
theorem Rel.reput{E:Env}{ts:TS}{G:Ghost}{a:Act}{w:World}(h:Rel E ts G a w){t:Nat}{x:AV}(hr:Rep (Jb E G ts w) (a.tmps.getD t undef) x):Rel E (ts.put t x) G a w:=by
 refine⟨h.size,h.defers,fun u=>?_,h.obj,h.sep,h.own,h.inF,h.bel,h.pin⟩
 show Rep (Jb E G ts w) _ (Jp ts.tmp t x u)
 by_cases e:u=t
 ·subst e;simpa using hr
 ·rw[Vo _ _ e];exact h.tmp u
end Go.Proofs.YthjalhfmpffbjaaGreatDoor.Lg
namespace Go.Proofs.YthjalhfmpffbjaaGreatDoor.Lg
open Go
def SpecO(P:Program)(o:Oper)(ts:TS)(K:TS→Prop):Prop :=
 ∀(E:Env) (G:Ghost) (a:Act) (w:World) (next:Act→World→Prop) (Q:Exit→Act→World→Prop),Rel E ts G a w →
  (∀ts' G' a' w',K ts'→Rel E ts' G' a' w'→next a' w')→o.wp P a w next Q
def JmK(P:Program)(ops:Array Oper)(l:List Nat)(ts:TS)(K:TS→Prop):Prop :=
 ∀(E:Env) (G:Ghost) (a:Act) (w:World) (Q:Exit→Act→World→Prop),Rel E ts G a w →
  (∀ts' G' a' w',K ts'→Rel E ts' G' a' w'→Q .normal a' w')→wpOps P ops Q l a w
def SpecC(P:Program)(c:Code)(ts:TS)(Q:Exit→TS→Prop):Prop :=
 ∀(E:Env) (G:Ghost) (a:Act) (w:World),Rel E ts G a w →
  c.wp P (fun ex a' w'=>∃ts' G',Q ex ts'∧Rel E ts' G' a' w') a w
theorem SpecO.mono{P:Program}{o:Oper}{ts:TS}{K K':TS→Prop}(h:SpecO P o ts K)(hk:∀ts,K ts→K' ts):SpecO P o ts K' :=
 fun E G a w next Q hr hn=>h E G a w next Q hr fun ts' G' a' w' hK hr'=>hn ts' G' a' w' (hk _ hK) hr'
theorem SpecC.mono{P:Program}{c:Code}{ts:TS}{Q Q':Exit→TS→Prop}(h:SpecC P c ts Q)(hq:∀e ts,Q e ts→Q' e ts):SpecC P c ts Q' :=
 fun E G a w hr=>wp_mono (h E G a w hr) fun _ _ _ ⟨ts',G',q,r⟩=>⟨ts',G',hq _ _ q,r⟩
section
variable {P:Program} {ts:TS} {Q:Exit→TS→Prop}
theorem SpecC.skip(h:Q .normal ts):SpecC P .skip ts Q:=fun _ G _ _ hr=>wp_skip ⟨ts,G,h,hr⟩
theorem SpecC.label{l:Nat}(h:Q .normal ts):SpecC P (.label l) ts Q:=fun _ G _ _ hr=>wp_label ⟨ts,G,h,hr⟩
theorem SpecC.exit{id:Nat}(h:Q (.exit id) ts):SpecC P (.exit id) ts Q:=fun _ G _ _ hr=>wp_exit ⟨ts,G,h,hr⟩
theorem SpecC.goto{l:Nat}(h:Q (.goto l) ts):SpecC P (.goto l) ts Q:=fun _ G _ _ hr=>wp_goto ⟨ts,G,h,hr⟩
theorem SpecC.ret(h:Q .ret ts):SpecC P .ret ts Q:=fun _ G _ _ hr=>wp_ret ⟨ts,G,h,hr⟩
def Jah(next:TS→Prop)(Q:Exit→TS→Prop):Exit→TS→Prop
 | .normal,ts=>next ts
 |e,ts=>Q e ts
@[simp] theorem Jrf(next:TS→Prop)(Q:Exit→TS→Prop)(ts:TS):Jah next Q .normal ts=next ts:=rfl
@[simp] theorem Jrg(next:TS→Prop)(Q:Exit→TS→Prop)(ts:TS):Jah next Q .ret ts=Q .ret ts:=rfl
@[simp] theorem Jrd(next:TS→Prop)(Q:Exit→TS→Prop)(i:Nat)(ts:TS):Jah next Q (.exit i) ts=Q (.exit i) ts:=rfl
@[simp] theorem Jre(next:TS→Prop)(Q:Exit→TS→Prop)(i:Nat)(ts:TS):Jah next Q (.goto i) ts=Q (.goto i) ts:=rfl
def Jb5(id:Nat)(Q:Exit→TS→Prop):Exit→TS→Prop
 | .exit id',ts=>if id'=id then Q .normal ts else Q (.exit id') ts
 |e,ts=>Q e ts
@[simp] theorem Jor(id:Nat)(Q:Exit→TS→Prop)(ts:TS):Jb5 id Q .normal ts=Q .normal ts:=rfl
@[simp] theorem Jos(id:Nat)(Q:Exit→TS→Prop)(ts:TS):Jb5 id Q .ret ts=Q .ret ts:=rfl
@[simp] theorem JiG(id:Nat)(Q:Exit→TS→Prop)(i:Nat)(ts:TS):Jb5 id Q (.exit i) ts=if i=id then Q .normal ts else Q (.exit i) ts:=rfl
@[simp] theorem Joq(id:Nat)(Q:Exit→TS→Prop)(i:Nat)(ts:TS):Jb5 id Q (.goto i) ts=Q (.goto i) ts:=rfl
theorem SpecC.seq{x y:Code}(h:SpecC P x ts (Jah (fun ts'=>SpecC P y ts' Q) Q)):SpecC P (.seq x y) ts Q:=by
 intro E G a w hr
 refine wp_seq (wp_mono (h E G a w hr) ?_)
 rintro e a' w' ⟨ts',G',hq,hr'⟩
 cases e with
 |normal=>exact hq E G' a' w' hr'
 |_=>exact⟨ts',G',hq,hr'⟩
theorem SpecC.block{id:Nat}{c:Code}(h:SpecC P c ts (Jb5 id Q)):SpecC P (.block id c) ts Q:=by
 intro E G a w hr
 refine wp_block (wp_mono (h E G a w hr) ?_)
 rintro e a' w' ⟨ts',G',hq,hr'⟩
 cases e with
 |exit id' =>
  simp only[JiG] at hq
  simp only[Exit.inBlock]
  split
  ·rename_i e;rw[if_pos e] at hq;exact⟨ts',G',hq,hr'⟩
  ·rename_i e;rw[if_neg e] at hq;exact⟨ts',G',hq,hr'⟩
 |_=>exact⟨ts',G',hq,hr'⟩
theorem JbV(p:Nat→Prop)(h:∃n,p n):∃n,p n∧∀m,p m→n≤m:=by
 obtain⟨n,hn⟩:=h
 induction n using Nat.strongRecOn with
 |_ n ih =>
  by_cases hm:∃m,m<n∧p m
  ·obtain⟨m,hlt,hp⟩:=hm;exact ih m hlt hp
  ·exact⟨n,hn,fun m hp=>Nat.le_of_not_lt fun hlt=>hm ⟨m,hlt,hp⟩⟩
theorem SpecC.loop{c:Code}(I:Nat→TS→Prop)(n:Nat)(h0:I n ts)
  (round:∀n ts,I n ts→SpecC P c ts (Jah (fun ts'=>∃m,m<n∧I m ts') Q)):SpecC P (.loop c) ts Q:=by
 intro E G a w hr
 let p:Act→World→Nat→Prop:=fun a w n=>∃ts G,I n ts∧Rel E ts G a w
 let μ:Act→World→Nat:=fun a w=>open Classical in if h:∃n,p a w n then Classical.choose (JbV _ h) else 0
 have hμ:∀a w,(∃n,p a w n)→p a w (μ a w):=fun a w h=>by
  simp only[μ,dif_pos h];exact(Classical.choose_spec (JbV _ h)).1
 have hμ':∀a w n,p a w n→μ a w≤n:=fun a w n h=>by
  simp only[μ,dif_pos (⟨n,h⟩:∃n,p a w n)];exact(Classical.choose_spec (JbV _ ⟨n,h⟩)).2 n h
 refine wp_loop (fun a w=>∃n,p a w n) μ ⟨n,ts,G,h0,hr⟩ ?_
 intro a w hI
 obtain⟨ts,G,hI,hr⟩:=hμ a w hI
 refine wp_mono (round (μ a w) ts hI E G a w hr) ?_
 rintro e a' w' ⟨ts',G',hq,hr'⟩
 cases e with
 |normal =>
  obtain⟨m,hm,hI'⟩:=hq
  exact⟨⟨m,ts',G',hI',hr'⟩,Nat.lt_of_le_of_lt (hμ' a' w' m ⟨ts',G',hI',hr'⟩) hm⟩
 |_=>exact⟨ts',G',hq,hr'⟩
end
def YC(ops:Array Oper)(ts:TS)(j:Nat):Option (Option Bool) :=
 match (ops[j]?).bind (·.dst) with
 |some d=>match ts.tmp d with
  | .bool b=>some (some b)
  | .tup []=>some none
  |_=>none
 |none=>none
theorem Yx{c:Ctx}{v:Value}{b:Bool}(h:Rep c v (.bool b)):v=.bool b:=by cases h;rfl
theorem JrC{E:Env}{ts:TS}{G:Ghost}{a:Act}{w:World}(h:Rel E ts G a w){ops:Array Oper}{j:Nat}{b:Option Bool}(hg:YC ops ts j=some b):yielded ops a.tmps j=b:=by
 unfold YC at hg
 split at hg
 ·rename_i d hd
  split at hg
  ·rename_i b' hb
   have:=h.tmp d
   rw[hb] at this
   have hv:=Yx this
   have hv':a.tmps[d]?=some (.bool b'):=by
    rw[Array.getD_eq_getD_getElem?] at hv
    cases hx:a.tmps[d]? with
    |none=>rw[hx] at hv;simp[undef] at hv
    |some v=>rw[hx] at hv;simpa using hv
   simp only[yielded,hd,Option.bind_some,hv']
   simpa using hg
  ·rename_i hb
   have:=h.tmp d
   rw[hb] at this
   have hv:a.tmps.getD d undef=.tuple #[]:=by
    generalize a.tmps.getD d undef=v at this
    cases this with
    |tup vs _ h1 _ =>
     have:vs=#[]:=Array.eq_empty_of_size_eq_zero (by simpa using h1)
     rw[this]
   have hne:∀b',a.tmps[d]?≠some (.bool b'):=fun b' e=>by
    rw[Array.getD_eq_getD_getElem?,e] at hv
    simp at hv
   simp only[yielded,hd,Option.bind_some]
   cases hg
   cases hx:a.tmps[d]? with
   |none=>rfl
   |some v =>
    cases v with
    |bool b'=>exact absurd hx (hne b')
    |_=>rfl
  ·simp at hg
 ·simp at hg
def SpecG(P:Program)(ops:Array Oper)(o:Oper)(ts:TS)(K:TS→Prop):Prop :=
 match o.guard with
 |none=>SpecO P o ts K
 |some (j,want)=>∃b,YC ops ts j=some b∧if b == some want then SpecO P o ts K else (∀d,o.dst=some d→d<ts.n)∧K (Jab ts o.dst (.tup []))
def SpecOs(P:Program)(ops:Array Oper)(K:TS→Prop):List Oper→TS→Prop
 | [],ts=>K ts
 |o :: l,ts=>SpecG P ops o ts (SpecOs P ops K l)
theorem SpecG.sound{P:Program}{ops:Array Oper}{o:Oper}{ts:TS}{K:TS→Prop}(h:SpecG P ops o ts K){E:Env}{G:Ghost}{a:Act}{w:World}{Q:Exit→Act→World→Prop}{next:Act→World→Prop}{i:Nat}
  (ho:ops[i]?=some o) (hr:Rel E ts G a w) (hn:∀ts' G' a' w',K ts'→Rel E ts' G' a' w'→next a' w'):wpOp P ops Q i next a w:=by
 unfold wpOp
 rw[ho]
 dsimp only
 unfold SpecG at h
 split at h
 ·rename_i hg
  have:Region.wanted o (yielded ops a.tmps)=true:=by simp[Region.wanted,hg]
  rw[if_pos this]
  exact .inl (h E G a w next Q hr hn)
 ·rename_i j want hg
  obtain⟨b,hb,h⟩:=h
  have hy:=JrC hr hb
  have hw:Region.wanted o (yielded ops a.tmps)=(b == some want):=by
   simp only[Region.wanted,hg,hy]
  rw[hw]
  split at h
  ·rename_i e;rw[if_pos e];exact .inl (h E G a w next Q hr hn)
  ·rename_i e
   rw[if_neg e]
   exact hn _ G _ w h.2 (hr.put_undef o.dst h.1)
theorem SpecOs.sound{P:Program}{ops:Array Oper}{K:TS→Prop}:∀(l:List Oper) (i:Nat),ops.toList.drop i=l→∀ {ts:TS},SpecOs P ops K l ts→JmK P ops (List.range' i l.length) ts K
 | [],i,_,ts,h=>fun E G a w Q hr hn=>by simp only[List.length_nil,List.range',wpOps];exact hn ts G a w h hr
 |o :: l,i,hd,ts,h=>fun E G a w Q hr hn=>by
  have ho:ops[i]?=some o:=by
   have:ops.toList[i]?=some o:=by rw[←Nat.add_zero i,←List.getElem?_drop,hd];rfl
   simpa using this
  have hd':ops.toList.drop (i+1)=l:=by rw[←List.drop_drop,hd];rfl
  simp only[List.length_cons,List.range'_succ]
  rw[wpOps_cons]
  exact SpecG.sound h ho hr fun ts' G' a' w' hK hr'=>SpecOs.sound l (i+1) hd' hK E G' a' w' Q hr' hn
theorem SpecC.region{P:Program}{id:Nat}{ops:Array Oper}{ts:TS}{Q:Exit→TS→Prop}(h:SpecOs P ops (Q .normal) ops.toList ts):SpecC P (.region id ops false) ts Q:=by
 intro E G a w hr
 refine wp_region ?_
 have hs:=SpecOs.sound ops.toList 0 (by simp) h E G a w (fun ex a' w'=>∃ts' G',Q ex ts'∧Rel E ts' G' a' w') hr fun ts' G' a' w' hK hr'=>⟨ts',G',hK,hr'⟩
 simpa[List.range_eq_range'] using hs
def TS.ev(ts:TS):Operand→AV
 | .tmp t=>ts.tmp t
 | .const v=>Y8 v
 | .func f=>.clo (.func f) [] []
 | .global _=>.any
theorem Rel.ev{E:Env}{ts:TS}{G:Ghost}{a:Act}{w:World}(h:Rel E ts G a w)(x:Operand):Rep (Jb E G ts w) (a.eval x) (ts.ev x):=by
 cases x with
 |tmp t=>exact h.tmp t
 |const v=>exact JgB _ v
 |func f=>exact .clo _ _ _ _ _ rfl rfl (fun i=>by simp;exact .any _) (fun i=>by simp;exact .any _)
 |global g=>exact .any _
theorem SpecC.cond{P:Program}{c:Operand}{x y:Code}{t:Bool}{ts:TS}{Q:Exit→TS→Prop}(hc:ts.ev c=.bool t)
  (ht:t=true→SpecC P x ts Q) (hf:t=false→SpecC P y ts Q):SpecC P (.cond c x y) ts Q:=by
 intro E G a w hr
 have:=hr.ev c
 rw[hc] at this
 exact wp_cond_split (Yx this) (fun e=>ht e E G a w hr) (fun e=>hf e E G a w hr)
end Go.Proofs.YthjalhfmpffbjaaGreatDoor.Lg
namespace Go.Proofs.YthjalhfmpffbjaaGreatDoor.Lg
open Go
inductive TyK where
 |unk|bool|int (k:IntKind)|str|slice (e:Nat)|array (n e:Nat)|struct (fs:List (Nat×Nat×String))|map (k e:Nat)|ptr (e:Nat)|func|iface|other
 deriving DecidableEq
structure TyI where
 k:TyK
 sz:Nat
 bytes:Nat
 zero:List AV
def VD:TypeDesc→TyK
 | .bool=>.bool
 | .int k=>.int k
 | .string=>.str
 | .slice e=>.slice e
 | .array n e=>.array n e
 | .struct fs=>.struct (fs.toList.map fun f=>(f.offset,f.type,f.name))
 | .map k e=>.map k e
 | .pointer e=>.ptr e
 | .func ..=>.func
 | .interface _=>.iface
 |_=>.other
def TyK.agg:TyK→Bool
 | .struct _|.array ..=>true
 |_=>false
def JdL(P:Program)(t:Nat)(i:TyI):Prop :=
 i.k=.unk∨∃ti,P.info? t=some ti∧ti.size=i.sz∧ti.bytes=i.bytes∧(∃z,ti.zero=some z∧z.cells.toList.map Y8=i.zero∧z.cells.size=ti.size)∧∃d,P.underlying t=some d∧VD d=i.k
def Jhi:Value→Bool
 | .agg _=>true
 |_=>false
def TyZ(P:Program)(t:Nat)(i:TyI):Prop :=
 i.k=.unk∨∃ti z,P.info? t=some ti∧ti.zero=some z∧Jhi z=i.k.agg
structure Tys(P:Program) where
 ty:Nat→TyI
 ok:∀t,JdL P t (ty t)
 okz:∀t,TyZ P t (ty t)
 fz:Nat→Bool:=fun _=>false
def Tys.withF{P:Program}(T:Tys P)(l:List Nat):Tys P:={ T with fz:=fun d=>l.contains d }
section
variable {P:Program} (T:Tys P)
theorem Tys.get{T:Tys P}{t:Nat}(h:(T.ty t).k≠.unk):∃ti,P.info? t=some ti∧ti.size=(T.ty t).sz∧ti.bytes=(T.ty t).bytes ∧
  (∃z,ti.zero=some z∧z.cells.toList.map Y8=(T.ty t).zero∧z.cells.size=ti.size)∧∃d,P.underlying t=some d∧VD d=(T.ty t).k :=
 (T.ok t).resolve_left h
theorem Tys.run_sizeOf{T:Tys P}{t:Nat}(h:(T.ty t).k≠.unk)(w:World):(sizeOf t).run P w=.ok (T.ty t).sz w:=by
 obtain⟨ti,h1,h2,_⟩:=Tys.get h
 simp[sizeOf,typeInfo,h1,h2]
theorem Tys.run_isAgg{T:Tys P}{t:Nat}(h:(T.ty t).k≠.unk)(w:World):(isAgg t).run P w=.ok (T.ty t).k.agg w:=by
 obtain⟨ti,_,_,_,_,d,h1,h2⟩:=Tys.get h
 unfold isAgg
 rw[Sem.run_bind,run_underlying h1 w,←h2]
 cases d<;>rfl
theorem Tys.slice{T:Tys P}{t e:Nat}(h:(T.ty t).k=.slice e):P.underlying t=some (.slice e):=by
 obtain⟨ti,_,_,_,_,d,h1,h2⟩:=Tys.get (T:=T) (t:=t) (by rw[h];simp)
 rw[h] at h2
 cases d<;>simp[VD] at h2
 subst h2;exact h1
theorem Tys.strT{T:Tys P}{t:Nat}(h:(T.ty t).k=.str):P.underlying t=some .string:=by
 obtain⟨ti,_,_,_,_,d,h1,h2⟩:=Tys.get (T:=T) (t:=t) (by rw[h];simp)
 rw[h] at h2
 cases d<;>simp[VD] at h2
 exact h1
theorem Tys.boolT{T:Tys P}{t:Nat}(h:(T.ty t).k=.bool):P.underlying t=some .bool:=by
 obtain⟨ti,_,_,_,_,d,h1,h2⟩:=Tys.get (T:=T) (t:=t) (by rw[h];simp)
 rw[h] at h2
 cases d<;>simp[VD] at h2
 exact h1
theorem Tys.arrayT{T:Tys P}{t n e:Nat}(h:(T.ty t).k=.array n e):P.underlying t=some (.array n e):=by
 obtain⟨ti,_,_,_,_,d,h1,h2⟩:=Tys.get (T:=T) (t:=t) (by rw[h];simp)
 rw[h] at h2
 cases d<;>simp[VD] at h2
 obtain⟨rfl,rfl⟩:=h2;exact h1
theorem Tys.structT{T:Tys P}{t:Nat}{fs:List (Nat×Nat×String)}(h:(T.ty t).k=.struct fs) :
  ∃fd,P.underlying t=some (.struct fd)∧fd.toList.map (fun f=>(f.offset,f.type,f.name))=fs:=by
 obtain⟨ti,_,_,_,_,d,h1,h2⟩:=Tys.get (T:=T) (t:=t) (by rw[h];simp)
 rw[h] at h2
 cases d<;>simp[VD] at h2
 exact⟨_,h1,h2⟩
end
section
variable {P:Program}
def Jd(ts:TS)(dst:Option Nat)(v:AV)(K:TS→Prop):Prop :=
 match dst with
 |some d=>d<ts.n∧K (ts.put d v)
 |none=>K ts
theorem SpecO.val{o:Oper}{ts:TS}{K:TS→Prop}{x:AV}(hk:Jd ts o.dst x K)
  (hrun:∀E G a w,Rel E ts G a w→∃v,(execOp a.eval o).run P w=.ok (.value v) w∧Rep (Jb E G ts w) v x):SpecO P o ts K:=by
 intro E G a w next Q hr hn
 obtain⟨v,h1,h2⟩:=hrun E G a w hr
 unfold Oper.wp
 rw[h1]
 show next (a.put o.dst v) w
 cases hd:o.dst with
 |none=>rw[hd] at hk;exact hn ts G _ w hk hr
 |some d=>rw[hd] at hk;exact hn _ G _ w hk.2 (hr.put hk.1 h2)
theorem SpecO.move{o:Oper}{ts:TS}{K:TS→Prop}{x:Operand}(ho:o.op=.move x∨o.op=.assign x)(hk:Jd ts o.dst (ts.ev x) K):SpecO P o ts K :=
 SpecO.val hk fun E G a w hr=>⟨a.eval x,by rcases ho with h|h<;>simp[execOp,h],hr.ev x⟩
theorem SpecO.pick{o:Oper}{ts:TS}{K:TS→Prop}{c x y:Operand}(ho:o.op=.pick c x y){t:Bool}(hc:ts.ev c=.bool t)
  (hk:Jd ts o.dst (if t then ts.ev x else ts.ev y) K):SpecO P o ts K :=
 SpecO.val hk fun E G a w hr=>by
  have:=hr.ev c
  rw[hc] at this
  refine⟨if t then a.eval x else a.eval y,by simp[execOp,ho,Yx this,asBool],?_⟩
  cases t
  ·exact hr.ev y
  ·exact hr.ev x
theorem Vh{c:Ctx}{v:Value}{k:IntKind}{n:Int}(h:Rep c v (.int k n)):v=.int k n:=by cases h;rfl
theorem Yo{c:Ctx}{v:Value}{l:List UInt8}(h:Rep c v (.str l)):∃s,v=.string s∧s.data.toList=l:=by cases h;exact⟨_,rfl,by assumption⟩
def JS(op:BinOp)(x y:AV):Option AV :=
 match x,y with
 | .int k a,.int k' b =>
  if k=k' then
   match op with
   | .add=>some (.int k (k.wrap (a+b)))
   | .sub=>some (.int k (k.wrap (a-b)))
   | .mul=>some (.int k (k.wrap (a*b)))
   | .quo=>if b=0 then none else some (.int k (k.wrap (a.tdiv b)))
   | .rem=>if b=0 then none else some (.int k (a.tmod b))
   | .eql=>some (.bool (a == b))
   | .neq=>some (.bool (a != b))
   | .lss=>some (.bool (decide (a<b)))
   | .leq=>some (.bool (decide (a≤b)))
   | .gtr=>some (.bool (decide (b<a)))
   | .geq=>some (.bool (decide (b≤a)))
   | .and=>some (.int k (k.wrap (BitVec.ofInt k.bits a &&& BitVec.ofInt k.bits b).toNat))
   | .or=>some (.int k (k.wrap (BitVec.ofInt k.bits a ||| BitVec.ofInt k.bits b).toNat))
   | .xor=>some (.int k (k.wrap (BitVec.ofInt k.bits a ^^^ BitVec.ofInt k.bits b).toNat))
   | .andNot=>some (.int k (k.wrap (BitVec.ofInt k.bits a &&& ~~~BitVec.ofInt k.bits b).toNat))
   |_=>none
  else none
 | .str a,.str b =>
  match op with
  | .eql=>some (.bool (a == b))
  | .neq=>some (.bool (a != b))
  | .lss=>some (.bool (Op.bytesLess a b))
  | .leq=>some (.bool (Op.bytesLess a b || a == b))
  | .gtr=>some (.bool !(Op.bytesLess a b || a == b))
  | .geq=>some (.bool !(Op.bytesLess a b))
  | .add=>if a.length+b.length≤4611686018427387904 then some (.str (a++b)) else none
  |_=>none
 |_,_=>none
theorem toList_eq(s:ByteArray):s.toList=s.data.toList:=Go.ByteArray.toList_eq s
theorem SpecO.bin{o:Oper}{ts:TS}{K:TS→Prop}{op:BinOp}{t u:TypeId}{x y:Operand}(ho:o.op=.binOp op t x y u){r:AV}(hb:JS op (ts.ev x) (ts.ev y)=some r)
  (hk:Jd ts o.dst r K):SpecO P o ts K :=
 SpecO.val hk fun E G a w hr=>by
  have hx:=hr.ev x
  have hy:=hr.ev y
  unfold JS at hb
  split at hb
  ·rename_i k m k' m' e1 e2
   rw[e1] at hx;rw[e2] at hy
   split at hb
   ·rename_i ek
    subst ek
    simp only[execOp,ho,Vh hx,Vh hy]
    cases op<;>simp at hb
    all_goals first
     | (subst hb;refine⟨_,by simp[eqGuard,binOp,Op.intArith,Op.intBits,Op.intCmp];rfl,?_⟩;first|exact .int _ _|exact .bool _)
     | (have h0:=hb.1;have hb:=hb.2;subst hb;refine⟨_,by simp[eqGuard,binOp,Op.intDiv,h0];rfl,?_⟩;exact .int _ _)
   ·simp at hb
  ·rename_i l l' e1 e2
   rw[e1] at hx;rw[e2] at hy
   obtain⟨s,es,rfl⟩:=Yo hx
   obtain⟨s',es',rfl⟩:=Yo hy
   simp only[execOp,ho,es,es']
   cases op<;>dsimp only at hb
   case add =>
    split at hb
    ·rename_i h0
     cases hb
     refine⟨.string (s++s'),?_,.str _ _ (by simp)⟩
     have h1:s.data.toList.length=s.size:=by cases s;rfl
     have h2:s'.data.toList.length=s'.size:=by cases s';rfl
     have h3:¬((s.size+s'.size:Nat):Int) > IntKind.i64.max:=by
      rw[h1,h2] at h0
      simp only[IntKind.max,IntKind.bits,IntKind.signed]
      simp
      omega
     simp only[eqGuard,binOp,Op.stringOp,if_neg h3];simp
    ·cases hb
   all_goals first
    | (cases hb;done)
    | (cases hb;refine⟨.bool _,?_,.bool _⟩;simp[eqGuard,binOp,Op.stringOp,toList_eq];done)
    | (cases hb;refine⟨.bool _,?_,.bool _⟩;simp[eqGuard,binOp,Op.stringOp,toList_eq,bne];done)
  ·simp at hb
end
end Go.Proofs.YthjalhfmpffbjaaGreatDoor.Lg
namespace Go.Proofs.YthjalhfmpffbjaaGreatDoor.Lg
open Go
variable {P:Program}
theorem Addr.add0(b o j:Nat):(⟨b,o,none⟩:Addr).add j=⟨b,o+j,none⟩:=Addr.add_mid b o j
def TS.ptr(ts:TS):AV→Option (List AV)
 | .ro cs=>some cs
 | .ref d g off=>if g=ts.gen d then (match ts.obj d with|.box cs=>some (cs.drop off)|_=>none) else none
 | .eref d g i o=>if g=ts.gen d then (match ts.obj d with|.arr _ xs=>if i<xs.length then some ((xs.getD i .any).cells.drop o) else none|_=>none) else none
 |_=>none
theorem JcE{E:Env}{ts:TS}{G:Ghost}{a:Act}{w:World}(h:Rel E ts G a w){d sz:Nat}{xs:List AV}(ho:ts.obj d=.arr sz xs)(hne:xs≠[]) :
  ∃cap vs T,G.κ d=some cap∧w.heap[G.β d]?=some (.cells vs T (0,0))∧vs.size=cap*sz∧xs.length≤cap∧0<sz∧(∀x∈xs,x.cells.length=sz) ∧
   ∀i j,i<xs.length→j<sz→Rep (Jb E G ts w) (vs.getD (i*sz+j) undef) ((xs.getD i .any).cells.getD j .any):=by
 have hob:=h.obj d
 rw[ho] at hob
 obtain⟨h0,hsz,hrest⟩:=hob
 cases hκ:(Jb E G ts w).κ d with
 |none=>rw[hκ] at hrest;exact absurd hrest hne
 |some cap =>
  rw[hκ] at hrest
  obtain⟨vs,T,h1,h2,h3,h4⟩:=hrest
  exact⟨cap,vs,T,hκ,h1,h2,h3,h0,hsz,h4⟩
theorem Zv{i j sz cap len:Nat}(hi:i<len)(hl:len≤cap)(hj:j<sz):i*sz+j<cap*sz:=by
 calc i*sz+j<i*sz+sz:=by omega
  _=(i+1)*sz:=by rw[Nat.add_mul,Nat.one_mul]
  _≤cap*sz:=Nat.mul_le_mul_right _ (by omega)
theorem Z2{w:World}{b o:Nat}{vs:Array Value}{T:TypeId}(h:w.heap[b]?=some (.cells vs T (0,0)))(ho:o<vs.size):w.cell? ⟨b,o,none⟩=some (vs.getD o undef):=by
 unfold World.cell?
 rw[h]
 simp[ho]
theorem JjA{E:Env}{ts:TS}{G:Ghost}{a:Act}{w:World}(h:Rel E ts G a w){x:AV}{cs:List AV}(hp:ts.ptr x=some cs){v:Value}(hv:Rep (Jb E G ts w) v x) :
  ∃b off,v=.pointer (some ⟨b,off,none⟩)∧∀j,j<cs.length→∃u,w.cell? ⟨b,off+j,none⟩=some u∧Rep (Jb E G ts w) u (cs.getD j .any):=by
 unfold TS.ptr at hp
 split at hp
 ·cases hp
  cases hv with
  |ro b off _ f h0 hM hc hr=>exact⟨b,off,rfl,fun j hj=>⟨f j,hc j hj,hr j⟩⟩
 ·rename_i d g off
  split at hp
  ·rename_i hg
   split at hp
   ·rename_i cs0 ho
    cases hp
    cases hv with
    |ref _ _ _ _ h1 hgl hh =>
     have:=hh hg (by simp[Jb,ho,Ob.kind])
     have hob:=h.obj d
     rw[ho] at hob
     obtain⟨_,vs,T,hheap,hsize,hcell⟩:=hob
     refine⟨_,_,this,fun j hj=>?_⟩
     have hj':off+j<cs0.length:=by simp at hj;omega
     refine⟨vs.getD (off+j) undef,Z2 hheap (by omega),?_⟩
     have:=hcell (off+j)
     simpa[List.getElem?_drop] using this
   ·cases hp
  ·cases hp
 ·rename_i d g i o
  split at hp
  ·rename_i hg
   split at hp
   ·rename_i sz xs ho
    split at hp
    ·rename_i hi
     cases hp
     cases hv with
     |eref _ _ _ _ _ h1 hgl hh =>
      have hv:=hh sz hg (by simp[Jb,ho,Ob.kind])
      obtain⟨cap,vs,T,hκ,hheap,hsize,hfit,h0,hsz,hcell⟩:=JcE h ho (by intro e;simp[e] at hi)
      refine⟨_,_,hv,fun j hj=>?_⟩
      have hlen:(xs.getD i .any).cells.length=sz:=by
       have:xs.getD i .any=xs[i]:=by simp[hi]
       rw[this];exact hsz _ (List.getElem_mem hi)
      have hj':o+j<sz:=by simp only[List.length_drop,hlen] at hj;omega
      refine⟨vs.getD (i*sz+(o+j)) undef,?_,?_⟩
      ·rw[show i*sz+o+j=i*sz+(o+j) by omega]
       exact Z2 hheap (by rw[hsize];exact Zv hi hfit hj')
      ·have:=hcell i (o+j) hi hj'
       simpa[List.getElem?_drop] using this
    ·cases hp
   ·cases hp
  ·cases hp
 ·cases hp
theorem SpecO.load{T:Tys P}{o:Oper}{ts:TS}{K:TS→Prop}{t:TypeId}{x:Operand}(ho:o.op=.load t x)(ht:(T.ty t).k≠.unk){cs:List AV}(hp:ts.ptr (ts.ev x)=some cs)
  (hl:(if(T.ty t).k.agg then (T.ty t).sz else 1)≤cs.length)
  (hk:Jd ts o.dst (if(T.ty t).k.agg then .agg (cs.take (T.ty t).sz) else cs.getD 0 .any) K):SpecO P o ts K :=
 SpecO.val hk fun E G a w hr=>by
  obtain⟨b,off,hv,hc⟩:=JjA hr hp (hr.ev x)
  cases hag:(T.ty t).k.agg with
  |false =>
   rw[hag] at hl
   obtain⟨u,hu,hrep⟩:=hc 0 (by simp at hl;omega)
   refine⟨u,?_,by simpa using hrep⟩
   simp only[execOp,ho,hv,Instr.loadAt,Instr.sureAddr,Sem.run_bind,Sem.run_pure,Result.andThen_ok,loadVar,Tys.run_isAgg ht,hag,Bool.false_eq_true,if_false]
   simp[show w.cell? ⟨b,off,none⟩=some u from hu]
  |true =>
   rw[hag] at hl
   simp only[if_true] at hl
   let f:Nat→Value:=fun j=>(w.cell? ⟨b,off+j,none⟩).getD undef
   have hf:∀j,j<(T.ty t).sz→w.cell? ((⟨b,off,none⟩:Addr).add j)=some (f j):=fun j hj=>by
    obtain⟨u,hu,_⟩:=hc j (by omega)
    rw[Addr.add0];simp[f,hu]
   have hload:=run_loadCells (P:=P) w ⟨b,off,none⟩ (T.ty t).sz f hf
   refine⟨.agg ((List.range (T.ty t).sz).map f).toArray,?_,.agg _ _ (by simp;omega) fun i=>?_⟩
   ·simp only[execOp,ho,hv,Instr.loadAt,Instr.sureAddr,Sem.run_bind,Sem.run_pure,Result.andThen_ok,loadVar,Tys.run_isAgg ht,hag,if_true,Tys.run_sizeOf ht,hload]
   ·by_cases hi:i<(T.ty t).sz
    ·obtain⟨u,hu,hrep⟩:=hc i (by omega)
     have e1:(((List.range (T.ty t).sz).map f).toArray).getD i undef=u:=by simp[hi,f,hu]
     have e2:(cs.take (T.ty t).sz).getD i .any=cs.getD i .any:=by simp[List.getElem?_take,hi]
     rw[e1,e2];exact hrep
    ·have e2:(cs.take (T.ty t).sz).getD i .any=.any:=by simp[List.getElem?_take,hi]
     rw[e2];exact .any _
def ZK(ts:TS)(dst:Option Nat)(cs:List AV)(K:TS→Prop):Prop :=
 match dst with
 |some d=>d<ts.n∧K ((ts.new d (.box cs)).put d (.ref d (ts.gen d+1) 0))
 |none=>False
theorem SpecO.newBox{o:Oper}{ts:TS}{K:TS→Prop}{cs:List AV}(hk:ZK ts o.dst cs K)
  (hrun:∀E G a w,Rel E ts G a w→∃vs t,(execOp a.eval o).run P w=.ok (.value (.pointer (some ⟨w.heap.size,0,none⟩))) (w.alloc (.cells vs t)) ∧
   vs.size=cs.length∧∀i,Rep (Jb E G ts w) (vs.getD i undef) (cs.getD i .any)):SpecO P o ts K:=by
 intro E G a w next Q hr hn
 obtain⟨vs,t,h1,h2,h3⟩:=hrun E G a w hr
 unfold Oper.wp
 rw[h1]
 show next (a.put o.dst _) _
 cases hd:o.dst with
 |none=>rw[hd] at hk;exact hk.elim
 |some d =>
  rw[hd] at hk
  have hw:∀i,i<w.heap.size→(w.alloc (.cells vs t)).heap[i]?=w.heap[i]?:=fun i hi=>heap_alloc_old w _ i hi
  have hle:=Jc1 E G ts w (w.alloc (.cells vs t)) d w.heap.size (some 0) (.box cs) (Nat.le_refl _) hw
  refine hn _ _ _ _ hk.2 (hr.newObj (w':=w.alloc (.cells vs t)) hk.1 (.box cs) w.heap.size (some 0) (Nat.le_refl _) (fun _=>by simp) ⟨rfl,rfl,rfl,by simp,fun k hk' _=>hw k hk',Nat.le_refl _⟩ ?_ ?_)
  ·refine .ref d _ 0 _ rfl (by simp[Jb,TS.new]) fun _ _=>by simp[Jb,Ghost.set]
  ·refine⟨by simp[Jb,Ghost.set],vs,t,?_,h2,fun i=>(h3 i).mono hle⟩
   simp only[Jb,Ghost.set,Vc]
   exact heap_alloc_new w _
def VV(s:List UInt8)(i:Nat):Nat×Nat:=Utf8.decode ⟨s.toArray⟩ i
def Jcr(T:Tys P)(t:TypeId)(x:AV)(ts:TS)(dst:Option Nat)(K:TS→Prop):Prop :=
 match (T.ty t).k,x,dst with
 | .str,.str s,some d=>d<ts.n∧K ((ts.new d (.iter s 0)).put d (.ref d (ts.gen d+1) 0))
 |_,_,_=>False
def Jee(ob:Ob)(d e:Nat)(ts:TS)(K:TS→Prop):Prop :=
 match ob with
 | .iter s pos=>(pos<s.length→K ((ts.setObj d (.iter s (pos+(VV s pos).2))).put e (.tup [.bool true,.int .i64 pos,.int .i32 (VV s pos).1])))∧(¬pos<s.length→K (ts.put e (.tup [.bool false])))
 |_=>False
def Jc7(x:AV)(ts:TS)(dst:Option Nat)(K:TS→Prop):Prop :=
 match x,dst with
 | .ref d g 0,some e=>g=ts.gen d∧e<ts.n∧Jee (ts.obj d) d e ts K
 |_,_=>False
theorem SpecO.rangeStr{T:Tys P}{o:Oper}{ts:TS}{K:TS→Prop}{t:TypeId}{x:Operand}(ho:o.op=.range t x)(h:Jcr T t (ts.ev x) ts o.dst K):SpecO P o ts K:=by
 unfold Jcr at h
 split at h
 ·rename_i s d hk hx hd
  intro E G a w next Q hr hn
  have hxr:=hr.ev x
  rw[hx] at hxr
  obtain⟨s0,hs0,he⟩:∃s0:ByteArray,s0.data.toList=s∧a.eval x=.string s0:=by
   generalize a.eval x=v at hxr
   cases hxr with
   |str s0 _ h0=>exact⟨s0,h0,rfl⟩
  have hu:=Tys.strT hk
  have hrun:(execOp a.eval o).run P w=.ok (.value (.pointer (some ⟨w.heap.size,0,none⟩))) (w.alloc (.stringIter s0 0)):=by
   have hnx:(Instr.range t (.string s0)).run P w=.ok (.pointer (some ⟨w.heap.size,0,none⟩)) (w.alloc (.stringIter s0 0)):=run_range_string w t s0 hu
   simp[execOp,ho,he,hnx]
  unfold Oper.wp
  rw[hrun]
  show next (a.put o.dst _) _
  rw[hd]
  have hw:∀i,i<w.heap.size→(w.alloc (.stringIter s0 0)).heap[i]?=w.heap[i]?:=fun i hi=>heap_alloc_old w _ i hi
  refine hn _ _ _ _ h.2 (hr.newObj (w':=w.alloc (.stringIter s0 0)) h.1 (.iter s 0) w.heap.size (some 0) (Nat.le_refl _) (fun _=>by simp) ⟨rfl,rfl,rfl,by simp,fun k hk' _=>hw k hk',Nat.le_refl _⟩ ?_ ?_)
  ·refine .ref d _ 0 _ rfl (by simp[Jb,TS.new]) fun _ _=>by simp[Jb,Ghost.set]
  ·refine⟨by simp[Jb,Ghost.set],s0,?_,hs0⟩
   simp only[Jb,Ghost.set,Vc]
   exact heap_alloc_new w _
 ·exact h.elim
theorem SpecO.nextStr{o:Oper}{ts:TS}{K:TS→Prop}{x:Operand}(ho:o.op=.next x true)(h:Jc7 (ts.ev x) ts o.dst K):SpecO P o ts K:=by
 unfold Jc7 at h
 split at h
 ·rename_i d g e hx hd
  obtain⟨hg,he,h⟩:=h
  unfold Jee at h
  split at h
  ·rename_i s pos hob
   intro E G a w next Q hr hn
   have hxr:=hr.ev x
   rw[hx] at hxr
   have hobj:=hr.obj d
   rw[hob] at hobj
   obtain⟨hκ,s0,hheap,hs0⟩:=hobj
   have hlive:Jj ts G d:=⟨by simp[hob,Ob.kind],hκ⟩
   have hv:a.eval x=.pointer (some ⟨G.β d,0,none⟩):=(Jdi hxr).2.2 hg (by simp[Jb,hob,Ob.kind])
   have hheap':w.heap[G.β d]?=some (.stringIter s0 pos):=hheap
   have hlen:s0.size=s.length:=by
    rw[←hs0]
    show s0.data.size=_
    exact Array.length_toList.symm
   have hdec:Utf8.decode s0 pos=VV s pos:=by
    have:s0=⟨s.toArray⟩:=by
     obtain⟨b⟩:=s0
     simp only at hs0
     rw[←hs0]
    rw[VV,←this]
   by_cases hp:pos<s.length
   ·have hrun:(execOp a.eval o).run P w=.ok (.value (.tuple #[.bool true,.int .i64 pos,.int .i32 (VV s pos).1])) { w with heap:=w.heap.setIfInBounds (G.β d) (.stringIter s0 (pos+(VV s pos).2)) }:=by
     have hp':pos<s0.size:=by rw[hlen];exact hp
     have hnx:(Instr.next (.pointer (some ⟨G.β d,0,none⟩)) true o.type).run P w=.ok (.tuple #[.bool true,.int .i64 pos,.int .i32 (VV s pos).1]) { w with heap:=w.heap.setIfInBounds (G.β d) (.stringIter s0 (pos+(VV s pos).2)) }:=by
      simp only[Instr.next,getObj,setObj,Sem.run_bind,Sem.run,hheap',Result.andThen,hp',if_true,hdec]
      simp[goInt,Sem.run,hheap']
     simp[execOp,ho,hv,hnx]
    unfold Oper.wp
    rw[hrun]
    show next (a.put o.dst _) _
    rw[hd]
    have hset:=hr.setObj (w':={ w with heap:=w.heap.setIfInBounds (G.β d) (.stringIter s0 (pos+(VV s pos).2)) }) d (.iter s (pos+(VV s pos).2)) (by simp[hob,Ob.kind]) hlive rfl rfl rfl (by simp)
     (fun i hi=>by simp[Array.getElem?_setIfInBounds,Ne.symm hi])
     ⟨hκ,s0,by
      have hlt:G.β d<w.heap.size:=(Array.getElem?_eq_some_iff.1 hheap').1
      show(w.heap.setIfInBounds (G.β d) _)[G.β d]?=_
      simp[hlt],hs0⟩
    refine hn _ _ _ _ (h.1 hp) (hset.put (by exact he) ?_)
    refine .tup _ _ rfl fun i=>?_
    match i with
    |0=>exact .bool _
    |1=>exact .int _ _
    |2=>exact .int _ _
    |i+3=>exact .any _
   ·have hrun:(execOp a.eval o).run P w=.ok (.value (.tuple #[.bool false])) w:=by
     have hp':¬pos<s0.size:=by rw[hlen];exact hp
     have hnx:(Instr.next (.pointer (some ⟨G.β d,0,none⟩)) true o.type).run P w=.ok (.tuple #[.bool false]) w:=by
      simp[Instr.next,getObj,Sem.run,hheap',hp']
     simp[execOp,ho,hv,hnx]
    unfold Oper.wp
    rw[hrun]
    show next (a.put o.dst _) _
    rw[hd]
    refine hn _ _ _ _ (h.2 hp) (hr.put he ?_)
    refine .tup _ _ rfl fun i=>?_
    match i with
    |0=>exact .bool _
    |i+1=>exact .any _
  ·exact h.elim
 ·exact h.elim
theorem Jdj{c:Ctx}{z:Value}{l:List AV}(h:z.cells.toList.map Y8=l):z.cells.size=l.length∧∀i,Rep c (z.cells.getD i undef) (l.getD i .any):=by
 subst h
 refine⟨by simp,fun i=>?_⟩
 by_cases hi:i<z.cells.size
 ·have:(z.cells.toList.map Y8).getD i .any=Y8 (z.cells.getD i undef):=by simp[hi]
  rw[this];exact JgB _ _
 ·have:(z.cells.toList.map Y8).getD i .any=.any:=by simp[hi]
  rw[this];exact .any _
theorem SpecO.alloc{T:Tys P}{o:Oper}{ts:TS}{K:TS→Prop}{t:TypeId}(ho:o.op=.alloc t)(ht:(T.ty t).k≠.unk)(hk:ZK ts o.dst (T.ty t).zero K):SpecO P o ts K :=
 SpecO.newBox hk fun E G a w hr=>by
  obtain⟨ti,hi,_,_,⟨z,hz,hzl,_⟩,_⟩:=Tys.get (T:=T) ht
  obtain⟨h1,h2⟩:=Jdj (c:=Jb E G ts w) hzl
  refine⟨z.cells,t,?_,h1,h2⟩
  simp[execOp,ho,Instr.alloc,zeroValue,typeInfo,hi,hz,newVar,newRow]
theorem JeL{c:Ctx}{v:Value}{x:AV}(h:Rep c v x)(hx:x.one=true∨∃cs,x=.agg cs):v.cells.size=x.cells.length∧∀i,Rep c (v.cells.getD i undef) (x.cells.getD i .any):=by
 rcases hx with hx|⟨cs,rfl⟩
 ·have hv:v.cells=#[v]:=by have:=h.one hx;cases v<;>simp_all[Value.cells,Value.oneCell']
  have hxc:x.cells=[x]:=by cases x<;>simp_all[AV.cells,AV.one]
  rw[hv,hxc]
  refine⟨rfl,fun i=>?_⟩
  cases i with
  |zero=>exact h
  |succ i=>exact .any _
 ·cases h with
  |agg vs _ hl hh=>exact⟨hl,hh⟩
def AV.known:AV→Bool
 | .agg _=>true
 |x=>x.one
theorem Jei{x:AV}(h:x.known=true):x.one=true∨∃cs,x=.agg cs:=by
 cases x<;>simp_all[AV.known,AV.one]
theorem SpecO.box{o:Oper}{ts:TS}{K:TS→Prop}{t:TypeId}{x:Operand}(ho:o.op=.box t x)(hx:(ts.ev x).known=true)(hk:ZK ts o.dst (ts.ev x).cells K):SpecO P o ts K :=
 SpecO.newBox hk fun E G a w hr=>by
  obtain⟨h1,h2⟩:=JeL (hr.ev x) (Jei hx)
  exact⟨(a.eval x).cells,t,by simp[execOp,ho,Instr.box,newVar,newRow],h1,h2⟩
def V2(cs:List AV)(o:Nat)(ys:List AV):List AV:=cs.take o++ys++cs.drop (o+ys.length)
theorem Jag{α:Type}(l m:List α)(o i:Nat)(d:α)(h:o+m.length≤l.length) :
  (l.take o++m++l.drop (o+m.length)).getD i d=if o≤i∧i<o+m.length then m.getD (i-o) d else l.getD i d:=by
 have ht:(l.take o).length=o:=by simp;omega
 simp only[List.getD_eq_getElem?_getD,List.append_assoc]
 by_cases h1:i<o
 ·rw[List.getElem?_append_left (by rw[ht];exact h1),if_neg (by omega),List.getElem?_take,if_pos h1]
 ·rw[List.getElem?_append_right (by rw[ht];omega),ht]
  by_cases h2:i<o+m.length
  ·rw[List.getElem?_append_left (by omega),if_pos ⟨by omega,h2⟩]
  ·rw[List.getElem?_append_right (by omega),if_neg (by omega),List.getElem?_drop]
   congr 2
   omega
theorem ZT{α:Type}(l m:List α)(o:Nat)(h:o+m.length≤l.length):(l.take o++m++l.drop (o+m.length)).length=l.length:=by
 simp;omega
theorem Jqa{c:Ctx}{vs:Array Value}{us:Array Value}{cs ys:List AV}{o:Nat}(hs:vs.size=cs.length)(hu:us.size=ys.length)(h:o+ys.length≤cs.length)
  (h1:∀i,Rep c (vs.getD i undef) (cs.getD i .any)) (h2:∀i,Rep c (us.getD i undef) (ys.getD i .any)) :
  ∀i,Rep c ((vs.toList.take o++us.toList++vs.toList.drop (o+us.toList.length)).toArray.getD i undef) ((V2 cs o ys).getD i .any):=by
 intro i
 unfold V2
 rw[Jag cs ys o i .any h]
 have e:(vs.toList.take o++us.toList++vs.toList.drop (o+us.toList.length)).toArray.getD i undef =
   (vs.toList.take o++us.toList++vs.toList.drop (o+us.toList.length)).getD i undef:=by simp
 rw[e,Jag vs.toList us.toList o i undef (by simp;omega)]
 have hl:us.toList.length=ys.length:=by simp[hu]
 rw[hl]
 split
 ·have:=h2 (i-o);simpa using this
 ·have:=h1 i;simpa using this
def ZN(old:AV)(o:Nat)(ys:List AV):AV :=
 match old with
 | .agg cs=>.agg (V2 cs o ys)
 |_=>ys.getD 0 .any
def TS.poke(ts:TS)(p:AV)(ys:List AV):Option (Nat×Ob) :=
 match p with
 | .ref d g off=>if g=ts.gen d then (match ts.obj d with|.box cs=>if off+ys.length≤cs.length then some (d,.box (V2 cs off ys)) else none|_=>none) else none
 | .eref d g i o=>if g=ts.gen d then (match ts.obj d with
   | .arr sz xs=>if i<xs.length∧o+ys.length≤sz∧ys≠[] then some (d,.arr sz (xs.set i (ZN (xs.getD i .any) o ys))) else none
   |_=>none) else none
 |_=>none
theorem JmO{c:Ctx}{us:Array Value}{ys:List AV}(hu:us.size=ys.length)(h:∀i,Rep c (us.getD i undef) (ys.getD i .any))(h1:ys.all AV.one=true):∀v∈us.toList,v.oneCell'=true:=by
 intro v hv
 obtain⟨i,hi,rfl⟩:=List.mem_iff_getElem.1 hv
 have hi':i<ys.length:=by simp at hi;omega
 have:=h i
 have e1:us.getD i undef=us.toList[i]:=by simp at hi;simp[hi]
 have e2:ys.getD i .any=ys[i]:=by simp[hi']
 rw[e1,e2] at this
 exact this.one (by simpa using(List.all_eq_true.1 h1) ys[i] (List.getElem_mem hi'))
theorem SpecO.store{T:Tys P}{o:Oper}{ts:TS}{K:TS→Prop}{t:TypeId}{p x:Operand}(ho:o.op=.store t p x)(ht:(T.ty t).k≠.unk)(hx:(ts.ev x).known=true)
  (hn:(ts.ev x).cells.length=(T.ty t).sz) (h1:(ts.ev x).cells.all AV.one=true) {d:Nat} {ob:Ob} (hp:ts.poke (ts.ev p) (ts.ev x).cells=some (d,ob))
  (hd:∀e,o.dst=some e→e<ts.n) (hk:K (Jab (ts.setObj d ob) o.dst .any)):SpecO P o ts K:=by
 intro E G a w next Q hr hnext
 obtain⟨hcs,hcr⟩:=JeL (hr.ev x) (Jei hx)
 have hone:=JmO hcs hcr h1
 have main:∃b off w',a.eval p=.pointer (some ⟨b,off,none⟩)∧(storeCells ⟨b,off,none⟩ (a.eval x).cells.toList 0).run P w=.ok () w'∧Rel E (ts.setObj d ob) G a w':=by
  have hpr:=hr.ev p
  generalize a.eval p=vp at hpr ⊢
  unfold TS.poke at hp
  split at hp
  ·rename_i d' g off ep
   rw[ep] at hpr
   split at hp
   ·rename_i hg
    split at hp
    ·rename_i cs hob
     split at hp
     ·rename_i hfit
      cases hp
      have hob':=hr.obj d
      rw[hob] at hob'
      obtain⟨hκ,vs,tt,hheap,hsize,hcell⟩:=hob'
      have hlive:Jj ts G d:=⟨by simp[hob,Ob.kind],hκ⟩
      cases hpr with
      |ref _ _ _ _ _ _ hh =>
       have hv:=hh hg (by simp[Jb,hob,Ob.kind])
       have hst:=run_storeCells_at P (G.β d) off tt (a.eval x).cells.toList 0 vs w hheap (by simp;omega) hone
       simp only[Nat.add_zero] at hst
       refine⟨_,_,_,hv,hst,hr.setObj d _ (by simp[hob,Ob.kind]) hlive rfl rfl rfl (by simp[World.setRow]) (fun i hi=>setRow_other w _ i _ hi) ?_⟩
       refine⟨hκ,_,tt,setRow_heap w _ vs _ tt _ hheap,?_,?_⟩
       ·have:=ZT vs.toList (a.eval x).cells.toList off (by simp;omega)
        have e2:=ZT cs (ts.ev x).cells off hfit
        simp only[List.size_toArray,this,V2,e2]
        simpa using hsize
       ·have hle:(Jb E G ts w).Le (Jb E G (ts.setObj d (.box (V2 cs off (ts.ev x).cells))) (w.setRow (G.β d) ((vs.toList.take off++(a.eval x).cells.toList++vs.toList.drop (off+(a.eval x).cells.toList.length)).toArray))) :=
         Zn E G ts w _ d _ (by simp[hob,Ob.kind]) hlive (fun i hi=>setRow_other w _ i _ hi)
        exact Jqa hsize hcs hfit (fun i=>(hcell i).mono hle) (fun i=>(hcr i).mono hle)
     ·cases hp
    ·cases hp
   ·cases hp
  ·rename_i d' g i o' ep
   rw[ep] at hpr
   split at hp
   ·rename_i hg
    split at hp
    ·rename_i sz xs hob
     split at hp
     ·rename_i hfit
      obtain⟨hi,hfit,hne⟩:=hfit
      cases hp
      obtain⟨cap,vs,tt,hκ,hheap,hsize,hlen,h0,hsz,hcell⟩:=JcE hr hob (by intro e;simp[e] at hi)
      have hlive:Jj ts G d:=⟨by simp[hob,Ob.kind],by rw[hκ];simp⟩
      cases hpr with
      |eref _ _ _ _ _ _ _ hh =>
       have hv:=hh sz hg (by simp[Jb,hob,Ob.kind])
       have hyl:(a.eval x).cells.toList.length=(ts.ev x).cells.length:=by simpa using hcs
       have hin:i*sz+o'+(ts.ev x).cells.length≤vs.size:=by
        rw[hsize]
        calc i*sz+o'+(ts.ev x).cells.length≤i*sz+sz:=by omega
         _=(i+1)*sz:=by rw[Nat.add_mul,Nat.one_mul]
         _≤cap*sz:=Nat.mul_le_mul_right _ (by omega)
       have hst:=run_storeCells_at P (G.β d) (i*sz+o') tt (a.eval x).cells.toList 0 vs w hheap (by rw[hyl];omega) hone
       simp only[Nat.add_zero] at hst
       refine⟨_,_,_,hv,hst,hr.setObj d _ (by simp[hob,Ob.kind]) hlive rfl rfl rfl (by simp[World.setRow]) (fun i hi=>setRow_other w _ i _ hi) ?_⟩
       have hle:(Jb E G ts w).Le (Jb E G (ts.setObj d (.arr sz (xs.set i (ZN (xs.getD i .any) o' (ts.ev x).cells)))) (w.setRow (G.β d) ((vs.toList.take (i*sz+o')++(a.eval x).cells.toList++vs.toList.drop (i*sz+o'+(a.eval x).cells.toList.length)).toArray))) :=
        Zn E G ts w _ d _ (by simp[hob,Ob.kind]) hlive (fun i hi=>setRow_other w _ i _ hi)
       have hxi:xs.getD i .any=xs[i]:=by simp[hi]
       have hxl:xs[i].cells.length=sz:=hsz _ (List.getElem_mem hi)
       have hxl':(xs.getD i .any).cells.length=sz:=by rw[hxi];exact hxl
       have hpe:(ZN (xs.getD i .any) o' (ts.ev x).cells).cells=V2 (xs.getD i .any).cells o' (ts.ev x).cells:=by
        rw[hxi]
        unfold ZN
        split
        ·rename_i cs e;rw[e];rfl
        ·rename_i hna
         have hc1:xs[i].cells=[xs[i]]:=by
          cases hx:xs[i]<;>simp_all[AV.cells]
         have hsz1:sz=1:=by rw[←hxl,hc1];rfl
         have hyl1:(ts.ev x).cells.length=1:=by
          have:=List.length_pos_iff.2 hne;omega
         have ho0:o'=0:=by omega
         obtain⟨y,hy⟩:=List.length_eq_one_iff.1 hyl1
         rw[hc1,hy,ho0]
         have hyo:y.one=true:=by rw[hy] at h1;simpa using h1
         simp only[V2,List.take_zero,List.nil_append,List.length_singleton,Nat.zero_add,List.drop_one,List.tail_cons,List.append_nil]
         cases y<;>simp_all[AV.cells,AV.one]
       refine⟨h0,?_,?_⟩
       ·intro y hy
        rcases List.mem_or_eq_of_mem_set hy with hy|rfl
        ·exact hsz y hy
        ·rw[hpe];unfold V2;rw[ZT _ _ _ (by rw[hxl'];exact hfit)];exact hxl'
       ·have hκ':(Jb E G (ts.setObj d (.arr sz (xs.set i (ZN (xs.getD i .any) o' (ts.ev x).cells)))) (w.setRow (G.β d) ((vs.toList.take (i*sz+o')++(a.eval x).cells.toList++vs.toList.drop (i*sz+o'+(a.eval x).cells.toList.length)).toArray))).κ d=some cap:=hκ
        rw[hκ']
        refine⟨_,tt,setRow_heap w _ vs _ tt _ hheap,?_,by simpa using hlen,?_⟩
        ·have:=ZT vs.toList (a.eval x).cells.toList (i*sz+o') (by rw[hyl];simpa using hin)
         simp only[List.size_toArray,this]
         simpa using hsize
        ·intro i' j hi' hj
         simp only[List.length_set] at hi'
         have e:=Jag vs.toList (a.eval x).cells.toList (i*sz+o') (i' * sz+j) undef (by rw[hyl];simpa using hin)
         have eL:∀(l:Array Value) (k:Nat),l.toList.getD k undef=l.getD k undef:=fun l k=>by simp
         have e':∀(l:List Value) (k:Nat),l.toArray.getD k undef=l.getD k undef:=fun l k=>by simp
         rw[e',e]
         by_cases hii:i'=i
         ·subst hii
          have:(xs.set i' (ZN (xs.getD i' .any) o' (ts.ev x).cells)).getD i' .any=ZN (xs.getD i' .any) o' (ts.ev x).cells:=by simp[hi]
          rw[this,hpe]
          unfold V2
          rw[Jag _ _ _ _ _ (by rw[hxl'];exact hfit)]
          by_cases hj2:o'≤j∧j<o'+(ts.ev x).cells.length
          ·rw[if_pos hj2,if_pos (by omega),show i' * sz+j-(i' * sz+o')=j-o' by omega]
           rw[eL];exact(hcr (j-o')).mono hle
          ·rw[if_neg hj2,if_neg (by omega),eL]
           exact(hcell i' j hi hj).mono hle
         ·have:(xs.set i (ZN (xs.getD i .any) o' (ts.ev x).cells)).getD i' .any=xs.getD i' .any:=by
           simp[List.getElem?_set,Ne.symm hii]
          rw[this]
          have hout:¬(i*sz+o'≤i' * sz+j∧i' * sz+j<i*sz+o'+(a.eval x).cells.toList.length):=by
           rw[hyl]
           rintro⟨ha,hb⟩
           rcases Nat.lt_or_gt_of_ne hii with hlt|hgt
           ·have:i' * sz+sz≤i*sz:=by
             calc i' * sz+sz=(i'+1)*sz:=by rw[Nat.add_mul,Nat.one_mul]
              _≤i*sz:=Nat.mul_le_mul_right _ hlt
            omega
           ·have:i*sz+sz≤i' * sz:=by
             calc i*sz+sz=(i+1)*sz:=by rw[Nat.add_mul,Nat.one_mul]
              _≤i' * sz:=Nat.mul_le_mul_right _ hgt
            omega
          rw[if_neg hout,eL]
          exact(hcell i' j hi' hj).mono hle
     ·cases hp
    ·cases hp
   ·cases hp
  ·cases hp
 obtain⟨b,off,w',hv,hst,hr'⟩:=main
 unfold Oper.wp
 have hsz:(a.eval x).cells.size=(T.ty t).sz:=by rw[hcs,hn]
 have hrun:(execOp a.eval o).run P w=.ok .skip w':=by
  simp only[execOp,ho,hv,Instr.storeAt,Instr.sureAddr,Sem.run_bind,Sem.run_pure,Result.andThen_ok,storeVar,Tys.run_sizeOf ht]
  rw[hsz]
  simp[hst]
 rw[hrun]
 show next (a.put o.dst undef) w'
 exact hnext _ G _ w' hk (hr'.put_any o.dst hd undef)
end Go.Proofs.YthjalhfmpffbjaaGreatDoor.Lg
namespace Go.Proofs.YthjalhfmpffbjaaGreatDoor.Lg
open Go
variable {P:Program}
def TS.live(ts:TS)(d g:Nat):Bool:=g == ts.gen d && (ts.obj d).kind.isSome
def TS.shift(ts:TS)(x:AV)(off:Nat):Option AV :=
 match x with
 | .ro cs=>if off<cs.length then some (.ro (cs.drop off)) else none
 | .ref d g o=>if ts.live d g then some (.ref d g (o+off)) else none
 | .eref d g i o=>if ts.live d g then some (.eref d g i (o+off)) else none
 |_=>none
theorem Jkg{E:Env}{ts:TS}{G:Ghost}{w:World}{x y:AV}{off:Nat}(hs:ts.shift x off=some y){v:Value}(hv:Rep (Jb E G ts w) v x) :
  ∃b o,v=.pointer (some ⟨b,o,none⟩)∧Rep (Jb E G ts w) (.pointer (some ⟨b,o+off,none⟩)) y:=by
 unfold TS.shift at hs
 split at hs
 ·split at hs
  ·rename_i cs hlt
   cases hs
   cases hv with
   |ro b o _ f h0 hM hc hr =>
    refine⟨b,o,rfl,.ro b (o+off) _ (fun j=>f (off+j)) (by intro e;simp at e;omega) hM (fun j hj=>?_) fun j=>?_⟩
    ·rw[show o+off+j=o+(off+j) by omega];exact hc _ (by simp at hj;omega)
    ·have:=hr (off+j);simpa[List.getElem?_drop] using this
  ·cases hs
 ·rename_i d g o
  split at hs
  ·rename_i hl
   cases hs
   simp only[TS.live,Bool.and_eq_true,beq_iff_eq] at hl
   cases hv with
   |ref _ _ _ _ h1 hg hh =>
    have hk:(Jb E G ts w).kind d≠none:=by intro e;have:=hl.2;simp[show(ts.obj d).kind=none from e] at this
    exact⟨_,_,hh hl.1 hk,.ref d g _ _ rfl hg fun _ _=>rfl⟩
  ·cases hs
 ·rename_i d g i o
  split at hs
  ·rename_i hl
   cases hs
   simp only[TS.live,Bool.and_eq_true,beq_iff_eq] at hl
   cases hv with
   |eref _ _ _ _ _ h1 hg hh =>
    obtain⟨sz,hk⟩:=Option.isSome_iff_exists.1 hl.2
    refine⟨_,_,hh sz hl.1 hk,.eref d g i _ _ rfl hg fun sz' _ hk'=>?_⟩
    have:sz'=sz:=by have:=hk.symm.trans hk';simpa using this.symm
    subst this
    rw[Nat.add_assoc]
  ·cases hs
 ·cases hs
theorem SpecO.fieldAddr{T:Tys P}{o:Oper}{ts:TS}{K:TS→Prop}{s:TypeId}{x:Operand}{f:Nat}(ho:o.op=.fieldAddr s x f){fs:List (Nat×Nat×String)}(hs:(T.ty s).k=.struct fs)
  {off ft:Nat} {nm:String} (hf:fs[f]?=some (off,ft,nm)) (hft:(T.ty ft).k≠.unk) (hz:(T.ty ft).sz≠0) {y:AV} (hy:ts.shift (ts.ev x) off=some y) (hk:Jd ts o.dst y K):SpecO P o ts K :=
 SpecO.val hk fun E G a w hr=>by
  obtain⟨b,q,hv,hrep⟩:=Jkg hy (hr.ev x)
  obtain⟨fd,hu,hfd⟩:=Tys.structT hs
  have hfd':∃fld,fd[f]?=some fld∧fld.offset=off∧fld.type=ft:=by
   rw[←hfd] at hf
   simp only[List.getElem?_map,Array.getElem?_toList] at hf
   cases hh:fd[f]? with
   |none=>rw[hh] at hf;simp at hf
   |some fld=>rw[hh] at hf;simp at hf;exact⟨fld,rfl,hf.1,hf.2.1⟩
  obtain⟨fld,h1,h2,h3⟩:=hfd'
  refine⟨_,?_,hrep⟩
  subst h2 h3
  simp only[execOp,ho,hv,Instr.fieldAt,Sem.run_bind,run_underlying hu,Result.andThen_ok,h1,Instr.sureAddr,Sem.run_pure,fieldPlace,Tys.run_sizeOf hft,if_neg hz,Addr.add0]
theorem SpecO.field{T:Tys P}{o:Oper}{ts:TS}{K:TS→Prop}{s:TypeId}{x:Operand}{f:Nat}(ho:o.op=.field s x f){fs:List (Nat×Nat×String)}(hs:(T.ty s).k=.struct fs)
  {off ft:Nat} {nm:String} (hf:fs[f]?=some (off,ft,nm)) (hft:(T.ty ft).k≠.unk) {cs:List AV} (hx:ts.ev x=.agg cs) (hl:(if(T.ty ft).k.agg then (T.ty ft).sz else 1)≤(cs.drop off).length)
  (hk:Jd ts o.dst (if(T.ty ft).k.agg then .agg ((cs.drop off).take (T.ty ft).sz) else (cs.drop off).getD 0 .any) K):SpecO P o ts K :=
 SpecO.val hk fun E G a w hr=>by
  have hv:=hr.ev x
  rw[hx] at hv
  obtain⟨vs,hvs,hsz,hrep⟩:=Ym hv
  obtain⟨fd,hu,hfd⟩:=Tys.structT hs
  have hfd':∃fld,fd[f]?=some fld∧fld.offset=off∧fld.type=ft:=by
   rw[←hfd] at hf
   simp only[List.getElem?_map,Array.getElem?_toList] at hf
   cases hh:fd[f]? with
   |none=>rw[hh] at hf;simp at hf
   |some fld=>rw[hh] at hf;simp at hf;exact⟨fld,rfl,hf.1,hf.2.1⟩
  obtain⟨fld,h1,h2,h3⟩:=hfd'
  subst h2 h3
  rw[List.length_drop] at hl
  cases hag:(T.ty fld.type).k.agg with
  |false =>
   rw[hag] at hl
   simp only[Bool.false_eq_true,if_false] at hl
   refine⟨vs.getD fld.offset undef,?_,?_⟩
   ·simp only[execOp,ho,hvs,Instr.field,Sem.run_bind,run_underlying hu,Result.andThen_ok,h1,asAgg,Sem.run_pure,part,Tys.run_isAgg hft,hag,Bool.false_eq_true,if_false]
    have hlt:fld.offset<vs.size:=by omega
    simp[hlt]
   ·have:=hrep fld.offset
    simpa using this
  |true =>
   rw[hag] at hl
   simp only[if_true] at hl
   refine⟨.agg (vs.extract fld.offset (fld.offset+(T.ty fld.type).sz)),?_,.agg _ _ (by simp;omega) fun i=>?_⟩
   ·simp only[execOp,ho,hvs,Instr.field,Sem.run_bind,run_underlying hu,Result.andThen_ok,h1,asAgg,Sem.run_pure,part,Tys.run_isAgg hft,hag,if_true,Tys.run_sizeOf hft]
   ·by_cases hi:i<(T.ty fld.type).sz
    ·have:=hrep (fld.offset+i)
     have e1:(vs.extract fld.offset (fld.offset+(T.ty fld.type).sz)).getD i undef=vs.getD (fld.offset+i) undef:=by
      have hlt:fld.offset+i<vs.size:=by omega
      simp[Array.getElem?_extract,show i<min (fld.offset+(T.ty fld.type).sz) vs.size-fld.offset by omega,Array.getElem?_eq_getElem hlt]
     have e2:((cs.drop fld.offset).take (T.ty fld.type).sz).getD i .any=cs.getD (fld.offset+i) .any:=by simp[List.getElem?_take,hi]
     rw[e1,e2];exact this
    ·have e2:((cs.drop fld.offset).take (T.ty fld.type).sz).getD i .any=.any:=by simp[List.getElem?_take,hi]
     rw[e2];exact .any _
theorem SpecO.indexArr{T:Tys P}{o:Oper}{ts:TS}{K:TS→Prop}{t e n:TypeId}{x i:Operand}(ho:o.op=.indexAddr t x i)(ht:(T.ty t).k=.array n e)(he:(T.ty e).k≠.unk)
  {k:IntKind} {m:Int} (hi:ts.ev i=.int k m) (h0:0≤m) (h1:m<n) {y:AV} (hy:ts.shift (ts.ev x) (m.toNat*(T.ty e).sz)=some y) (hk:Jd ts o.dst y K):SpecO P o ts K :=
 SpecO.val hk fun E G a w hr=>by
  have hu:=Tys.arrayT ht
  obtain⟨b,q,hv,hrep⟩:=Jkg hy (hr.ev x)
  have hvi:=hr.ev i
  rw[hi] at hvi
  refine⟨_,?_,hrep⟩
  simp only[execOp,ho,hv,Vh hvi,Instr.indexAt,Sem.run_bind,asIntOf,Sem.run_pure,Result.andThen_ok,run_underlying hu,Instr.sureAddr]
  rw[if_pos ⟨h0,h1⟩]
  simp[Tys.run_sizeOf he,Addr.add0]
def TS.sl(ts:TS):AV→Option (List AV)
 | .slice _ xs=>some xs
 | .os d g len=>if g=ts.gen d then (match ts.obj d with|.arr _ xs=>if len≤xs.length then some (xs.take len) else none|_=>none) else none
 | .ot d g off len=>if g=ts.gen d then (match ts.obj d with|.arr _ xs=>if off+len≤xs.length then some ((xs.drop off).take len) else none|_=>none) else none
 |_=>none
theorem Jdv{E:Env}{ts:TS}{G:Ghost}{w:World}{x:AV}{xs:List AV}(hs:ts.sl x=some xs){v:Value}(hv:Rep (Jb E G ts w) v x):∃a cap,v=.slice a xs.length cap∧xs.length≤cap:=by
 unfold TS.sl at hs
 split at hs
 ·cases hs
  cases hv with
  |slice0 clip a cap h=>exact⟨a,cap,rfl,Nat.zero_le _⟩
  |slice clip b off cap sz _ f h0 hs hM hcap hclip hsz hc hr=>exact⟨_,cap,rfl,hcap⟩
 ·rename_i d g len
  split at hs
  ·rename_i hg
   split at hs
   ·rename_i sz xs' ho
    split at hs
    ·rename_i hl
     cases hs
     cases hv with
     |os _ _ _ _ h1 hgl hh =>
      have:=hh hg (by simp[Jb,ho,Ob.kind])
      unfold JO at this
      have hmin:(xs'.take len).length=len:=by simp;omega
      rw[hmin]
      split at this
      ·exact⟨_,_,this.1,this.2⟩
      ·obtain⟨h0,a,ha⟩:=this;subst h0;exact⟨a,0,ha,Nat.le_refl _⟩
    ·cases hs
   ·cases hs
  ·cases hs
 ·rename_i d g off len
  split at hs
  ·rename_i hg
   split at hs
   ·rename_i sz xs' ho
    split at hs
    ·rename_i hl
     cases hs
     cases hv with
     |ot _ _ _ _ _ h1 hgl hh =>
      obtain⟨a,cap',hq,hc,_⟩:=hh sz hg (by simp[Jb,ho,Ob.kind])
      have hmin:((xs'.drop off).take len).length=len:=by simp;omega
      rw[hmin]
      exact⟨a,cap',hq,hc⟩
    ·cases hs
   ·cases hs
  ·cases hs
 ·cases hs
def TS.len(ts:TS)(x:AV):Option Nat :=
 match x with
 | .slice _ xs=>some xs.length
 | .os d g len=>if ts.live d g then some len else none
 | .ot d g _ len=>if ts.live d g then some len else none
 | .str l=>some l.length
 | .nilm=>some 0
 |_=>none
theorem SpecO.len{T:Tys P}{o:Oper}{ts:TS}{K:TS→Prop}{t:TypeId}{x:Operand}(ho:o.op=.call { callee:=.builtin .len,args:=#[x],argTypes:=#[t] })
  (ht:(match (T.ty t).k,ts.ev x with|.slice _,.slice ..=>true|.slice _,.os ..=>true|.slice _,.ot ..=>true|.str,.str _=>true|.map ..,.nilm=>true|_,_=>false)=true) {n:Nat} (hn:ts.len (ts.ev x)=some n)
  (hk:Jd ts o.dst (.int .i64 n) K):SpecO P o ts K :=
 SpecO.val hk fun E G a w hr=>by
  have hv:=hr.ev x
  refine⟨.int .i64 n,?_,.int _ _⟩
  have key:∀(q:Value),(Builtin.len_ #[t] o.type #[q]).run P w=.ok (.int .i64 n) w→a.eval x=q→(execOp a.eval o).run P w=.ok (.value (.int .i64 n)) w:=fun q h1 h2=>by
   simp[execOp,ho,resolve,invoke,builtin,h2,h1]
  revert ht hn hv
  generalize ts.ev x=y
  intro ht hn hv
  cases y with
  |slice c xs =>
   cases hk2:(T.ty t).k<;>rw[hk2] at ht<;>simp at ht
   have hu:=Tys.slice hk2
   simp[TS.len] at hn
   subst hn
   obtain⟨a',cap,hq,_⟩:=Jdv (ts:=ts) (xs:=xs) rfl hv
   exact key _ (by simp[Builtin.len_,run_underlying hu,goInt]) hq
  |os d g len =>
   cases hk2:(T.ty t).k<;>rw[hk2] at ht<;>simp at ht
   have hu:=Tys.slice hk2
   simp[TS.len] at hn
   obtain⟨hl,rfl⟩:=hn
   simp only[TS.live,Bool.and_eq_true,beq_iff_eq] at hl
   obtain⟨_,_,hh⟩:=Yn hv
   have:=hh hl.1 (by intro e;have:=hl.2;simp[show(ts.obj d).kind=none from e] at this)
   unfold JO at this
   split at this
   ·exact key _ (by simp[Builtin.len_,run_underlying hu,goInt]) this.1
   ·obtain⟨h0,a',ha⟩:=this;subst h0;exact key _ (by simp[Builtin.len_,run_underlying hu,goInt]) ha
  |ot d g off len =>
   cases hk2:(T.ty t).k<;>rw[hk2] at ht<;>simp at ht
   have hu:=Tys.slice hk2
   simp[TS.len] at hn
   obtain⟨hl,rfl⟩:=hn
   simp only[TS.live,Bool.and_eq_true,beq_iff_eq] at hl
   obtain⟨_,_,hh⟩:=JeM hv
   obtain⟨sz,hsz⟩:=Option.isSome_iff_exists.1 hl.2
   obtain⟨a',cap',hq,_⟩:=hh sz hl.1 hsz
   exact key _ (by simp[Builtin.len_,run_underlying hu,goInt]) hq
  |str l =>
   cases hk2:(T.ty t).k<;>rw[hk2] at ht<;>simp at ht
   have hu:=Tys.strT hk2
   simp[TS.len] at hn
   subst hn
   obtain⟨s,hq,rfl⟩:=Yo hv
   refine key _ ?_ hq
   have:s.data.toList.length=s.size:=by cases s;rfl
   rw[this]
   simp[Builtin.len_,run_underlying hu,goInt]
  |nilm =>
   cases hk2:(T.ty t).k<;>rw[hk2] at ht<;>simp at ht
   obtain⟨ti,_,_,_,_,dd,h1,h2⟩:=Tys.get (T:=T) (t:=t) (by rw[hk2];simp)
   rw[hk2] at h2
   cases dd<;>simp[VD] at h2
   simp[TS.len] at hn
   subst hn
   exact key _ (by simp[Builtin.len_,run_underlying h1,goInt]) (JjQ hv)
  |_=>simp[TS.len] at hn
def TS.at(ts:TS)(x:AV)(sz:Nat)(n:Int):Option AV :=
 match x with
 | .slice _ xs=>if 0≤n∧n<xs.length∧(xs.getD n.toNat .any).cells.length=sz then some (.ro (xs.getD n.toNat .any).cells) else none
 | .os d g len=>if g=ts.gen d then (match ts.obj d with
   | .arr sz' _=>if 0≤n∧n<len∧sz'=sz then some (.eref d g n.toNat 0) else none
   |_=>none) else none
 | .ot d g off len=>if g=ts.gen d then (match ts.obj d with
   | .arr sz' _=>if 0≤n∧n<len∧sz'=sz then some (.eref d g (off+n.toNat) 0) else none
   |_=>none) else none
 |_=>none
theorem SpecO.indexAddr{T:Tys P}{o:Oper}{ts:TS}{K:TS→Prop}{t e:TypeId}{x i:Operand}(ho:o.op=.indexAddr t x i)(ht:(T.ty t).k=.slice e)(he:(T.ty e).k≠.unk)(hz:(T.ty e).sz≠0)
  {k:IntKind} {n:Int} (hi:ts.ev i=.int k n) {y:AV} (hy:ts.at (ts.ev x) (T.ty e).sz n=some y) (hk:Jd ts o.dst y K):SpecO P o ts K :=
 SpecO.val hk fun E G a w hr=>by
  have hu:=Tys.slice ht
  have hvi:=hr.ev i
  rw[hi] at hvi
  have key:∀b off len cap,a.eval x=.slice (some ⟨b,off,none⟩) len cap→0≤n∧n<len →
    (execOp a.eval o).run P w=.ok (.value (.pointer (some ⟨b,off+n.toNat*(T.ty e).sz,none⟩))) w:=fun b off len cap hx hn=>by
   simp only[execOp,ho,hx,Vh hvi,Instr.indexAt,Sem.run_bind,asIntOf,Sem.run_pure,Result.andThen_ok,run_underlying hu]
   rw[if_pos hn]
   simp[Tys.run_sizeOf he,Addr.add0]
  have hvx:=hr.ev x
  revert hy hvx
  generalize ts.ev x=q
  intro hy hvx
  unfold TS.at at hy
  split at hy
  ·rename_i clip xs
   split at hy
   ·rename_i hn
    obtain⟨h1,h2,h3⟩:=hn
    cases hy
    cases hv:a.eval x with
    |slice ad len cap =>
     rw[hv] at hvx
     cases hvx with
     |slice0=>simp at h2;omega
     |slice _ b off _ sz _ f h0 hs hM hcap hclip hsz hc hr' =>
      refine⟨_,key b off xs.length cap hv ⟨h1,h2⟩,?_⟩
      have hlt:n.toNat<xs.length:=by omega
      have hsz':sz=(T.ty e).sz:=by
       rw[←h3]
       have:xs.getD n.toNat .any=xs[n.toNat]:=by simp[hlt]
       rw[this];exact(hsz _ (List.getElem_mem hlt)).symm
      subst hsz'
      refine .ro b _ _ (fun j=>f n.toNat j) (by intro e0;rw[e0] at h3;simp at h3;omega) hM (fun j hj=>?_) fun j=>hr' n.toNat j
      rw[h3] at hj
      exact hc n.toNat j hlt hj
    |_=>rw[hv] at hvx;cases hvx
   ·cases hy
  ·rename_i d g len
   split at hy
   ·rename_i hg
    split at hy
    ·rename_i sz' xs hob
     split at hy
     ·rename_i hn
      obtain⟨h1,h2,h3⟩:=hn
      cases hy
      obtain⟨_,hgl,hh⟩:=Yn hvx
      have:=hh hg (by simp[Jb,hob,Ob.kind])
      unfold JO at this
      split at this
      ·refine⟨_,key _ _ _ _ this.1 ⟨h1,h2⟩,?_⟩
       refine .eref d g n.toNat 0 _ rfl hgl fun sz _ hk'=>?_
       have:sz=sz':=by simp[Jb,hob,Ob.kind] at hk';exact hk'.symm
       subst this;subst h3;simp
      ·obtain⟨h0,_⟩:=this;omega
     ·cases hy
    ·cases hy
   ·cases hy
  ·rename_i d g off len
   split at hy
   ·rename_i hg
    split at hy
    ·rename_i sz' xs hob
     split at hy
     ·rename_i hn
      obtain⟨h1,h2,h3⟩:=hn
      cases hy
      obtain⟨_,hgl,hh⟩:=JeM hvx
      obtain⟨ad,cap',hv,hcap',hpos⟩:=hh sz' hg (by simp[Jb,hob,Ob.kind])
      obtain⟨hv2,_⟩:=hpos (by omega)
      subst hv2
      refine⟨_,key _ _ _ _ hv ⟨h1,h2⟩,?_⟩
      refine .eref d g (off+n.toNat) 0 _ rfl hgl fun sz _ hk'=>?_
      have:sz=sz':=by simp[Jb,hob,Ob.kind] at hk';exact hk'.symm
      subst this;subst h3;simp[Nat.add_mul]
     ·cases hy
    ·cases hy
   ·cases hy
  ·cases hy
theorem SpecO.extract{o:Oper}{ts:TS}{K:TS→Prop}{x:Operand}{i:Nat}(ho:o.op=.extract x i){vs:List AV}(hx:ts.ev x=.tup vs)(hi:i<vs.length)
  (hk:Jd ts o.dst (vs.getD i .any) K):SpecO P o ts K :=
 SpecO.val hk fun E G a w hr=>by
  have hv:=hr.ev x
  rw[hx] at hv
  cases hq:a.eval x with
  |tuple cs =>
   rw[hq] at hv
   cases hv with
   |tup _ _ hl hh =>
    have hi':i<cs.size:=by omega
    have:=hh i
    refine⟨cs[i],by simp[execOp,ho,hq,Instr.extract,hi'],?_⟩
    simpa[hi'] using this
  |_=>rw[hq] at hv;cases hv
theorem SpecO.not{o:Oper}{ts:TS}{K:TS→Prop}{x:Operand}{t:TypeId}(ho:o.op=.unOp .not t x){b:Bool}(hx:ts.ev x=.bool b)
  (hk:Jd ts o.dst (.bool !b) K):SpecO P o ts K :=
 SpecO.val hk fun E G a w hr=>by
  have hv:=hr.ev x
  rw[hx] at hv
  exact⟨.bool !b,by simp[execOp,ho,Yx hv,Op.unary],.bool _⟩
theorem SpecO.neg{o:Oper}{ts:TS}{K:TS→Prop}{x:Operand}{t:TypeId}(ho:o.op=.unOp .neg t x){k:IntKind}{n:Int}(hx:ts.ev x=.int k n)
  (hk:Jd ts o.dst (.int k (k.wrap (0-n))) K):SpecO P o ts K :=
 SpecO.val hk fun E G a w hr=>by
  have hv:=hr.ev x
  rw[hx] at hv
  exact⟨.int k (k.wrap (0-n)),by simp[execOp,ho,Vh hv,Op.unary,Op.intArith],.int _ _⟩
theorem SpecO.nilEq{T:Tys P}{o:Oper}{ts:TS}{K:TS→Prop}{t e u:TypeId}{x:Operand}(ho:o.op=.binOp .eql t x (.const (.slice none 0 0)) u)(ht:(T.ty t).k=.slice e){xs:List AV}(hx:ts.sl (ts.ev x)=some xs)
  (hk:∀b:Bool,(b=true→xs=[])→Jd ts o.dst (.bool b) K):SpecO P o ts K:=by
 intro E G a w next Q hr hn
 obtain⟨ad,cap,hv,_⟩:=Jdv hx (hr.ev x)
 have hu:=Tys.slice ht
 have hnil:ad=none→xs=[]:=by
  intro e0
  subst e0
  have h2:=hr.ev x
  rw[hv] at h2
  revert hx h2
  generalize ts.ev x=y
  intro hx h2
  cases y with
  |slice c ys =>
   simp[TS.sl] at hx
   subst hx
   generalize hq:Value.slice none ys.length cap=q at h2
   cases h2 with
   |slice0=>rfl
   |slice=>simp at hq
  |os d g len =>
   unfold TS.sl at hx
   simp only at hx
   split at hx
   ·rename_i hg
    split at hx
    ·rename_i sz xs' hob
     split at hx
     ·obtain⟨_,_,hh⟩:=Yn h2
      have:=hh hg (by simp[Jb,hob,Ob.kind])
      unfold JO at this
      split at this
      ·simp at this
      ·obtain⟨h0,_⟩:=this;subst h0;simpa using hx.symm
     ·cases hx
    ·cases hx
   ·cases hx
  |ot d g off len =>
   unfold TS.sl at hx
   simp only at hx
   split at hx
   ·rename_i hg
    split at hx
    ·rename_i sz xs' hob
     split at hx
     ·obtain⟨_,_,hh⟩:=JeM h2
      obtain⟨a',cap',hq,_,hp⟩:=hh sz hg (by simp[Jb,hob,Ob.kind])
      have hl0:len=0:=by
       rcases Nat.eq_zero_or_pos len with h|h
       ·exact h
       ·have:=(hp h).1;subst this;simp at hq
      subst hl0;simpa using hx.symm
     ·cases hx
    ·cases hx
   ·cases hx
  |_=>simp[TS.sl] at hx
 have hrun:(execOp a.eval o).run P w=.ok (.value (.bool ad.isNone)) w:=by
  have e1:a.eval (.const (.slice none 0 0))=.slice none 0 0:=rfl
  simp only[execOp,ho,hv,e1]
  simp[eqGuard,Lib.run_eql_slice_nil w t e ad xs.length cap 0 0 hu]
 unfold Oper.wp
 rw[hrun]
 show next (a.put o.dst (.bool ad.isNone)) w
 have hk':=hk ad.isNone (fun h=>hnil (by simpa using h))
 cases hd:o.dst with
 |none=>rw[hd] at hk';exact hn ts G _ w hk' hr
 |some d=>rw[hd] at hk';exact hn _ G _ w hk'.2 (hr.put hk'.1 (.bool _))
theorem SpecO.cap{T:Tys P}{o:Oper}{ts:TS}{K:TS→Prop}{t e:TypeId}{x:Operand}(ho:o.op=.call { callee:=.builtin .cap,args:=#[x],argTypes:=#[t] })
  (ht:(T.ty t).k=.slice e) {xs:List AV} (hx:ts.ev x=.slice true xs) (hk:Jd ts o.dst (.int .i64 xs.length) K):SpecO P o ts K :=
 SpecO.val hk fun E G a w hr=>by
  have hv:=hr.ev x
  rw[hx] at hv
  have hu:=Tys.slice ht
  refine⟨.int .i64 xs.length,?_,.int _ _⟩
  have:∃ad n,a.eval x=.slice ad n xs.length:=by
   generalize a.eval x=q at hv
   cases hv with
   |slice0 clip ad cap h=>exact⟨ad,0,by rw[h rfl];rfl⟩
   |slice clip b off cap sz _ f h0 hs hM hcap hclip hsz hc hr=>exact⟨_,_,by rw[hclip rfl]⟩
  obtain⟨ad,n,hq⟩:=this
  simp[execOp,ho,resolve,invoke,builtin,Builtin.cap_,run_underlying hu,hq,goInt]
end Go.Proofs.YthjalhfmpffbjaaGreatDoor.Lg
namespace Go.Proofs.YthjalhfmpffbjaaGreatDoor.Lg
open Go
variable {P:Program}
theorem Jio(l:List Value):∀(j0 off:Nat) (cells:Array Value),off+j0+l.length≤cells.size →
  (((l.zipIdx j0).foldl (fun cs (c,j)=>cs.setIfInBounds (off+j) c) cells).size=cells.size) ∧
  ∀p,((l.zipIdx j0).foldl (fun cs (c,j)=>cs.setIfInBounds (off+j) c) cells).getD p undef=if off+j0≤p∧p<off+j0+l.length then l.getD (p-(off+j0)) undef else cells.getD p undef:=by
 induction l with
 |nil=>intro j0 off cells h;simp;intro p h1 h2;omega
 |cons x r ih =>
  intro j0 off cells h
  simp only[List.length_cons] at h
  obtain⟨h1,h2⟩:=ih (j0+1) off (cells.setIfInBounds (off+j0) x) (by simp;omega)
  simp only[List.zipIdx_cons,List.foldl_cons]
  refine⟨by rw[h1];simp,fun p=>?_⟩
  rw[h2]
  have hg:(cells.setIfInBounds (off+j0) x).getD p undef=if p=off+j0 then x else cells.getD p undef:=by
   by_cases e:p=off+j0
   ·subst e;simp[show off+j0<cells.size by omega]
   ·simp[Array.getElem?_setIfInBounds,Ne.symm e,e]
  rw[hg]
  by_cases e:p=off+j0
  ·subst e
   rw[if_neg (by omega),if_pos rfl,if_pos (by simp)]
   simp
  ·rw[if_neg e]
   by_cases hp:off+(j0+1)≤p∧p<off+(j0+1)+r.length
   ·rw[if_pos hp,if_pos (by simp;omega)]
    rw[show p-(off+j0)=(p-(off+(j0+1)))+1 by omega]
    simp
   ·rw[if_neg hp,if_neg (by simp;omega)]
def Zl(place:Nat→Option (Nat×Nat))(cs:List AV):List (Nat×AV)→Option (List AV)
 | []=>some cs
 | (i,x) :: r =>
  match place i with
  |none=>none
  |some (off,size)=>if x.known=true∧x.cells.length=size∧off+size≤cs.length then Zl place (V2 cs off x.cells) r else none
theorem JqI(cs ys:List AV)(o:Nat)(h:o+ys.length≤cs.length):(V2 cs o ys).length=cs.length:=ZT cs ys o h
theorem JqH(cs ys:List AV)(o i:Nat)(h:o+ys.length≤cs.length):(V2 cs o ys).getD i .any=if o≤i∧i<o+ys.length then ys.getD (i-o) .any else cs.getD i .any:=Jag cs ys o i .any h
theorem Jia{c:Ctx}(place:Nat→Option (Nat×Nat)):∀(l:List (Nat×Value×AV)) (vs:Array Value) (cs cs':List AV),vs.size=cs.length→(∀i,Rep c (vs.getD i undef) (cs.getD i .any)) →
  (∀p∈l,Rep c p.2.1 p.2.2)→Zl place cs (l.map fun p=>(p.1,p.2.2))=some cs' →
  ∃vs',Instr.fill place vs (l.map fun p=>(p.1,p.2.1))=some vs'∧vs'.size=cs'.length∧∀i,Rep c (vs'.getD i undef) (cs'.getD i .any)
 | [],vs,cs,cs',hs,hr,_,h=>by simp[Zl] at h;subst h;exact⟨vs,rfl,hs,hr⟩
 | (i,v,x) :: r,vs,cs,cs',hs,hr,hl,h=>by
  simp only[List.map_cons,Zl] at h
  cases hp:place i with
  |none=>rw[hp] at h;cases h
  |some q =>
   obtain⟨off,size⟩:=q
   rw[hp] at h
   simp only at h
   split at h
   ·rename_i hc
    obtain⟨h1,h2,h3⟩:=hc
    obtain⟨hz,hzr⟩:=JeL (hl (i,v,x) (by simp)) (Jei h1)
    dsimp only at hz hzr
    have hfit:off+v.cells.toList.length≤vs.size:=by simp;omega
    obtain⟨e1,e2⟩:=Jio v.cells.toList 0 off vs (by simpa using hfit)
    have efold:v.cells.zipIdx.foldl (fun cs (x:Value×Nat)=>cs.setIfInBounds (off+x.2) x.1) vs=(v.cells.toList.zipIdx 0).foldl (fun cs (x:Value×Nat)=>cs.setIfInBounds (off+x.2) x.1) vs:=by
     rw[←Array.foldl_toList];simp
    have hcl:v.cells.toList.length=x.cells.length:=by simpa using hz
    obtain⟨vs',g1,g2,g3⟩:=Jia place r ((v.cells.toList.zipIdx 0).foldl (fun cs (x:Value×Nat)=>cs.setIfInBounds (off+x.2) x.1) vs) (V2 cs off x.cells) cs'
     (by rw[e1,JqI _ _ _ (by omega)];exact hs) (fun p=>by
      rw[e2,JqH _ _ _ _ (by omega)]
      by_cases hp2:off≤p∧p<off+x.cells.length
      ·rw[if_pos hp2,if_pos (by omega)]
       have:=hzr (p-off);simpa using this
      ·rw[if_neg hp2,if_neg (by omega)];exact hr p) (fun p hp'=>hl p (by simp[hp'])) h
    refine⟨vs',?_,g2,g3⟩
    simp only[List.map_cons,Instr.fill,hp]
    rw[if_neg (by simp;omega),efold]
    exact g1
   ·cases h
def JaJ(T:Tys P)(fs:List (Nat×Nat×String))(i:Nat):Option (Nat×Nat):=(fs[i]?).map fun f=>(f.1,(T.ty f.2.1).sz)
theorem Jj6{α β:Type}(g:α→Sem β)(g':α→β)(w:World):∀(l:List α),(∀x∈l,(g x).run P w=.ok (g' x) w)→(l.mapM g).run P w=.ok (l.map g') w
 | [],_=>by simp
 |x :: r,h=>by
  have ih:=Jj6 g g' w r (fun y hy=>h y (by simp[hy]))
  simp[h x (by simp),ih]
theorem Jqs{α β:Type}(g:α→Sem β)(g':α→β)(w:World)(l:Array α)(h:∀x∈l,(g x).run P w=.ok (g' x) w):(l.mapM g).run P w=.ok (l.map g') w:=by
 rw[Array.mapM_eq_mapM_toList]
 have:=Jj6 (P:=P) g g' w l.toList (fun x hx=>h x (by simpa using hx))
 simp[this]
 apply Array.ext'
 simp
theorem SpecO.build{T:Tys P}{o:Oper}{ts:TS}{K:TS→Prop}{t:TypeId}{parts:Array (Nat×Operand)}(ho:o.op=.build t parts){fs:List (Nat×Nat×String)}(ht:(T.ty t).k=.struct fs)
  (hfs:∀f∈fs,(T.ty f.2.1).k≠.unk) {cs:List AV} (hf:Zl (JaJ T fs) (T.ty t).zero (parts.toList.map fun p=>(p.1,ts.ev p.2))=some cs)
  (hk:Jd ts o.dst (.agg cs) K):SpecO P o ts K :=
 SpecO.val hk fun E G a w hr=>by
  obtain⟨ti,hi,_,_,⟨z,hz,hzl,_⟩,_⟩:=Tys.get (T:=T) (t:=t) (by rw[ht];simp)
  obtain⟨h1,h2⟩:=Jdj (c:=Jb E G ts w) hzl
  obtain⟨fd,hu,hfd⟩:=Tys.structT ht
  have hsz:∀f∈fd,(T.ty f.type).k≠.unk:=fun f hf=>hfs (f.offset,f.type,f.name) (by rw[←hfd];exact List.mem_map.2 ⟨f,by simpa using hf,rfl⟩)
  have hpl:(fd.mapM (fun f=>do pure (f.offset,←sizeOf f.type):_→Sem (Nat×Nat))).run P w=.ok (fd.map fun f=>(f.offset,(T.ty f.type).sz)) w :=
   Jqs _ _ w fd fun f hf=>by simp[Tys.run_sizeOf (hsz f hf)]
  have hplace:(fun i=>(fd.map fun f=>(f.offset,(T.ty f.type).sz))[i]?)=JaJ T fs:=by
   funext i
   rw[←hfd]
   simp only[JaJ,List.getElem?_map,Array.getElem?_map,Array.getElem?_toList]
   cases fd[i]?<;>rfl
  have hl:(parts.toList.map fun p=>(p.1,ts.ev p.2))=(parts.toList.map fun p=>(p.1,a.eval p.2,ts.ev p.2)).map fun p=>(p.1,p.2.2):=by simp[List.map_map,Function.comp_def]
  rw[hl] at hf
  obtain⟨vs',e1,e2,e3⟩:=Jia (JaJ T fs) _ z.cells _ cs h1 h2 (by
   intro p hp
   obtain⟨q,_,rfl⟩:=List.mem_map.1 hp
   exact hr.ev q.2) hf
  refine⟨.agg vs',?_,.agg _ _ e2 e3⟩
  simp only[execOp,ho,Instr.build,Sem.run_bind,zeroValue,typeInfo,run_program,Result.andThen_ok,hi,hz,Sem.run_pure,run_underlying hu,hpl]
  rw[hplace]
  have:(parts.map fun(x:Nat×Operand)=>(x.1,a.eval x.2)).toList=(parts.toList.map fun p=>(p.1,a.eval p.2,ts.ev p.2)).map fun p=>(p.1,p.2.1):=by simp[List.map_map,Function.comp_def]
  rw[this,e1]
  rfl
theorem SpecO.build0{T:Tys P}{o:Oper}{ts:TS}{K:TS→Prop}{t:TypeId}{parts:Array (Nat×Operand)}(ho:o.op=.build t parts){n e:Nat}(ht:(T.ty t).k=.array n e)(he:(T.ty e).k≠.unk)
  (hf:(parts.toList.map fun p=>(p.1,ts.ev p.2))=[]) (hk:Jd ts o.dst (.agg (T.ty t).zero) K):SpecO P o ts K :=
 SpecO.val hk fun E G a w hr=>by
  obtain⟨ti,hi,_,_,⟨z,hz,hzl,_⟩,_⟩:=Tys.get (T:=T) (t:=t) (by rw[ht];simp)
  obtain⟨h1,h2⟩:=Jdj (c:=Jb E G ts w) hzl
  have hp:parts=#[]:=by
   rw[←Array.toArray_toList (xs:=parts),List.map_eq_nil_iff.1 hf]
  subst hp
  refine⟨.agg z.cells,?_,.agg _ _ h1 h2⟩
  simp only[execOp,ho,Instr.build,Sem.run_bind,zeroValue,typeInfo,run_program,Result.andThen_ok,hi,hz,Sem.run_pure,run_underlying (Tys.arrayT ht),Tys.run_sizeOf he]
  simp[Instr.fill]
def VY(ts:TS)(dst:Option Nat)(sz:Nat)(xs:List AV)(K:TS→Prop):Prop :=
 match dst with
 |some d=>d<ts.n∧K ((ts.new d (.arr sz xs)).put d (.os d (ts.gen d+1) xs.length))
 |none=>False
theorem SpecO.newArr{o:Oper}{ts:TS}{K:TS→Prop}{sz:Nat}{xs:List AV}(hk:VY ts o.dst sz xs K)(h0:0<sz)(hsz:∀x∈xs,x.cells.length=sz)
  (hrun:∀E G a w,Rel E ts G a w→∃vs t cap w',(execOp a.eval o).run P w=.ok (.value (.slice (some ⟨w.heap.size,0,none⟩) xs.length cap)) (w'.alloc (.cells vs t))∧(w'=w∨w'=w.drew) ∧
   vs.size=cap*sz∧xs.length≤cap∧∀i j,i<xs.length→j<sz→Rep (Jb E G ts w) (vs.getD (i*sz+j) undef) ((xs.getD i .any).cells.getD j .any)):SpecO P o ts K:=by
 intro E G a w next Q hr hn
 obtain⟨vs,t,cap,w',h1,hw',h2,h3,h4⟩:=hrun E G a w hr
 have hww:w'.heap=w.heap:=by rcases hw' with rfl|rfl<;>rfl
 have hbel:Bel (fun _=>False) w (w'.alloc (.cells vs t)):=by
  rcases hw' with rfl|rfl
  ·exact(Bel.refl _ _).alloc _
  ·exact(Bel.refl _ _).drew.alloc _
 unfold Oper.wp
 rw[h1]
 show next (a.put o.dst _) _
 cases hd:o.dst with
 |none=>rw[hd] at hk;exact hk.elim
 |some d =>
  rw[hd] at hk
  have hle:=Jc1 E G ts w (w'.alloc (.cells vs t)) d w.heap.size (some cap) (.arr sz xs) (Nat.le_refl _) (fun i hi=>hbel.block i hi (fun f=>f))
  refine hn _ _ _ _ hk.2 (hr.newObj (w':=w'.alloc (.cells vs t)) hk.1 (.arr sz xs) w.heap.size (some cap) (Nat.le_refl _) (fun _=>by simp[hww]) hbel ?_ ?_)
  ·refine .os d _ _ _ rfl (by simp[Jb,TS.new]) fun _ _=>?_
   unfold JO
   simp only[Jb,Ghost.set,Vc]
   simpa using h3
  ·refine⟨h0,hsz,?_⟩
   simp only[Jb,Ghost.set,Vc]
   refine⟨vs,t,?_,h2,h3,fun i j hi hj=>(h4 i j hi hj).mono hle⟩
   rw[←hww]
   exact heap_alloc_new w' _
theorem Jib{c:Ctx}{sz:Nat}(h0:0<sz):∀(l:List (Value×AV)) (k:Nat) (vs:Array Value),(k+l.length)*sz≤vs.size→(∀p∈l,Rep c p.1 p.2∧p.2.known=true∧p.2.cells.length=sz) →
  ∃vs',Instr.fill (fun i=>some (i*sz,sz)) vs (l.zipIdx k |>.map fun p=>(p.2,p.1.1))=some vs'∧vs'.size=vs.size ∧
   (∀p,p<k*sz→vs'.getD p undef=vs.getD p undef) ∧
   ∀i j,i<l.length→j<sz→Rep c (vs'.getD ((k+i)*sz+j) undef) (((l.getD i (undef,.any)).2).cells.getD j .any)
 | [],k,vs,_,_=>⟨vs,rfl,rfl,fun _ _=>rfl,fun i j hi=>by simp at hi⟩
 | (v,x) :: r,k,vs,hfit,hl=>by
  obtain⟨hrep,hkn,hlen⟩:=hl (v,x) (by simp)
  dsimp only at hrep hkn hlen
  obtain⟨hz,hzr⟩:=JeL hrep (Jei hkn)
  simp only[List.length_cons] at hfit
  have hk1:(k+1)*sz≤vs.size:=Nat.le_trans (Nat.mul_le_mul_right _ (by omega)) hfit
  have hk2:k*sz+sz=(k+1)*sz:=by rw[Nat.add_mul,Nat.one_mul]
  obtain⟨e1,e2⟩:=Jio v.cells.toList 0 (k*sz) vs (by simp;omega)
  have efold:v.cells.zipIdx.foldl (fun cs (x:Value×Nat)=>cs.setIfInBounds (k*sz+x.2) x.1) vs=(v.cells.toList.zipIdx 0).foldl (fun cs (x:Value×Nat)=>cs.setIfInBounds (k*sz+x.2) x.1) vs:=by
   rw[←Array.foldl_toList];simp
  obtain⟨vs',f1,f2,f3,f4⟩:=Jib h0 r (k+1) _ (by rw[e1,show k+1+r.length=k+(r.length+1) by omega];exact hfit) (fun p hp=>hl p (by simp[hp]))
  refine⟨vs',?_,by rw[f2,e1],fun p hp=>?_,fun i j hi hj=>?_⟩
  ·simp only[List.zipIdx_cons,List.map_cons,Instr.fill]
   rw[if_neg (by simp;omega),efold]
   exact f1
  ·rw[f3 p (by omega),e2,if_neg (by omega)]
  ·cases i with
   |zero =>
    have hlt:(k+0)*sz+j<(k+1)*sz:=by rw[←hk2];simp;exact hj
    rw[f3 _ hlt,e2]
    have hcl:v.cells.toList.length=sz:=by simp;omega
    rw[if_pos (by rw[hcl];simp;exact hj)]
    have:=hzr j
    simpa using this
   |succ i =>
    have:=f4 i j (by simp at hi;omega) hj
    rw[show k+1+i=k+(i+1) by omega] at this
    simpa using this
theorem SpecO.buildSlice{T:Tys P}{o:Oper}{ts:TS}{K:TS→Prop}{t e:TypeId}{n:Nat}{parts:Array (Nat×Operand)}(ho:o.op=.buildSlice t n parts)(ht:(T.ty t).k=.slice e)(he:(T.ty e).k≠.unk)(h0:0<(T.ty e).sz)
  (hp:parts.toList.map (·.1)=List.range n) (hsmall:n*(T.ty e).sz≤16777216)
  (hx:∀p∈parts.toList,(ts.ev p.2).known=true∧(ts.ev p.2).cells.length=(T.ty e).sz) (hk:VY ts o.dst (T.ty e).sz (parts.toList.map fun p=>ts.ev p.2) K):SpecO P o ts K:=by
 have hlen:parts.toList.length=n:=by have:=congrArg List.length hp;simpa using this
 refine SpecO.newArr hk h0 (by intro x hx';obtain⟨p,hp',rfl⟩:=List.mem_map.1 hx';exact(hx p hp').2) fun E G a w hr=>?_
 have hu:=Tys.slice ht
 obtain⟨ti,hi,hsz,_,⟨z,hz,_,hzs⟩,_⟩:=Tys.get (T:=T) he
 let l:List (Value×AV):=parts.toList.map fun p=>(a.eval p.2,ts.ev p.2)
 have hl:l.length=n:=by simp only[l,List.length_map];exact hlen
 let zc:Array Value:=if n*(T.ty e).sz=0 then #[] else z.cells
 obtain⟨vs',f1,f2,_,f4⟩:=Jib (c:=Jb E G ts w) h0 l 0 ((Array.range (n*(T.ty e).sz)).map (zc[· % zc.size]!)) (by simp[hl]) (by
  intro p hp'
  obtain⟨q,hq,rfl⟩:=List.mem_map.1 hp'
  exact⟨hr.ev q.2,hx q hq⟩)
 have hparts:(parts.map fun(x:Nat×Operand)=>(x.1,a.eval x.2)).toList=(l.zipIdx 0).map fun p=>(p.2,p.1.1):=by
  apply List.ext_getElem?
  intro i
  simp only[Array.toList_map,List.getElem?_map,List.getElem?_zipIdx,l]
  have hpi:=congrArg (fun q=>q[i]?) hp
  simp only[List.getElem?_map,List.getElem?_range] at hpi
  cases hh:parts.toList[i]? with
  |none=>simp
  |some q =>
   rw[hh] at hpi
   have hin:i<n:=by rw[←hlen];exact(List.getElem?_eq_some_iff.1 hh).1
   simp[hin] at hpi
   simp[hpi]
 refine⟨vs',e,n,w,?_,.inl rfl,by rw[f2];simp,by simp[hlen],fun i j hi hj=>?_⟩
 ·rw[show(parts.toList.map fun p=>ts.ev p.2).length=n by simpa using hlen]
  simp only[execOp,ho,Instr.buildSlice,Sem.run_bind,run_underlying hu,Result.andThen_ok,Tys.run_sizeOf he]
  rw[if_neg (by omega)]
  by_cases hn0:n*(T.ty e).sz=0
  ·simp only[zc,hn0,if_true] at f1
   simp only[hn0,if_true,Sem.run_bind,Sem.run_pure,Result.andThen_ok]
   rw[hparts,f1]
   simp[newRow]
  ·simp only[zc,hn0,if_false] at f1
   simp only[hn0,if_false,Sem.run_bind,Sem.run_pure,Result.andThen_ok,zeroValue,typeInfo,run_program,hi,hz]
   rw[hparts,f1]
   simp[newRow]
 ·have:=f4 i j (by rw[hl];simpa[hlen] using hi) hj
  have e1:(l.getD i (undef,.any)).2=(parts.toList.map fun p=>ts.ev p.2).getD i .any:=by
   simp only[l,List.getD_eq_getElem?_getD,List.getElem?_map]
   cases parts.toList[i]?<;>rfl
  rw[e1] at this
  simpa using this
end Go.Proofs.YthjalhfmpffbjaaGreatDoor.Lg
namespace Go.Proofs.YthjalhfmpffbjaaGreatDoor.Lg
open Go
variable {P:Program}
def TS.ren(ts:TS)(d d':Nat):TS:={ ts with gen:=Jp ts.gen d' (ts.gen d'+1),obj:=Jp (Jp ts.obj d .dead) d' (ts.obj d) }
theorem Rel.ren{E:Env}{ts:TS}{G:Ghost}{a:Act}{w:World}(h:Rel E ts G a w){d d':Nat}(hd':d' < ts.n){v:Value}{x:AV}
  (hr:Rep (Jb E (G.set d' (G.β d) (G.κ d)) (ts.ren d d') w) v x) :
  Rel E ((ts.ren d d').put d' x) (G.set d' (G.β d) (G.κ d)) (a.put (some d') v) w:=by
 have hobj:∀e,(ts.ren d d').obj e=if e=d' then ts.obj d else if e=d then .dead else ts.obj e:=fun e=>by
  simp only[TS.ren,Jp]
 have hβ:∀e,(G.set d' (G.β d) (G.κ d)).β e=if e=d' then G.β d else G.β e:=fun e=>rfl
 have hκ:∀e,(G.set d' (G.β d) (G.κ d)).κ e=if e=d' then G.κ d else G.κ e:=fun e=>rfl
 have live:∀e,Jj (ts.ren d d') (G.set d' (G.β d) (G.κ d)) e→(e=d'∧Jj ts G d)∨(e≠d'∧e≠d∧Jj ts G e):=fun e he=>by
  unfold Jj at he
  rw[hobj,hκ] at he
  by_cases e1:e=d'
  ·simp only[e1,if_true] at he;exact .inl ⟨e1,he⟩
  ·simp only[e1,if_false] at he
   by_cases e2:e=d
   ·simp[e2,Ob.kind] at he
   ·simp only[e2,if_false] at he;exact .inr ⟨e1,e2,he⟩
 have hle:(Jb E G ts w).Le (Jb E (G.set d' (G.β d) (G.κ d)) (ts.ren d d') w) :=
  {blk:=fun b' hM hc=>⟨rfl,by
    rintro(hF|⟨e,he,hb⟩)
    ·exact hM (.inl hF)
    ·simp only[Jb,hβ] at hb
     rcases live e he with ⟨e1,hl⟩|⟨e1,e2,hl⟩
     ·rw[if_pos e1] at hb;exact hM (.inr ⟨d,hl,hb⟩)
     ·rw[if_neg e1] at hb;exact hM (.inr ⟨e,hl,hb⟩)⟩
   gen:=fun e=>by by_cases h:e=d'<;>simp[Jb,TS.ren,Jp,h]
   kind:=fun e k hg hk=>by
    by_cases e1:e=d'
    ·subst e1;simp[Jb,TS.ren] at hg
    ·simp only[Jb,hobj,hβ,hκ,e1,if_false] at hk ⊢
     by_cases e2:e=d
     ·simp[e2,Ob.kind] at hk
     ·simp only[e2,if_false] at hk;exact⟨hk,by simp,by simp⟩ }
 constructor
 ·simp[Act.put,h.size,TS.put,TS.ren]
 ·exact h.defers
 ·intro t
  rw[Jd9 a d' t v (by rw[h.size];exact hd')]
  show Rep (Jb E (G.set d' (G.β d) (G.κ d)) (ts.ren d d') w) _ (Jp ts.tmp d' x t)
  by_cases e:t=d'
  ·subst e;simpa using hr
  ·rw[if_neg e,Vo _ _ e];exact(h.tmp t).mono hle
 ·intro e
  show ObOk (Jb E (G.set d' (G.β d) (G.κ d)) (ts.ren d d') w) e ((ts.ren d d').obj e)
  rw[hobj]
  by_cases e1:e=d'
  ·rw[if_pos e1]
   have:=h.obj d
   cases ho:ts.obj d with
   |dead=>trivial
   |box cs =>
    rw[ho] at this
    obtain⟨p0,vs,T,p1,p2,p3⟩:=this
    refine⟨by simp only[Jb,hκ,e1,if_true];exact p0,vs,T,by simp only[Jb,hβ,e1,if_true];exact p1,p2,fun i=>(p3 i).mono hle⟩
   |arr sz xs =>
    rw[ho] at this
    obtain⟨p0,p1,p2⟩:=this
    refine⟨p0,p1,?_⟩
    have hk':(Jb E (G.set d' (G.β d) (G.κ d)) (ts.ren d d') w).κ e=(Jb E G ts w).κ d:=by simp only[Jb,hκ,e1,if_true]
    rw[hk']
    cases hc:(Jb E G ts w).κ d with
    |none=>rw[hc] at p2;exact p2
    |some cap =>
     rw[hc] at p2
     obtain⟨vs,T,q1,q2,q3,q4⟩:=p2
     exact⟨vs,T,by simp only[Jb,hβ,e1,if_true];exact q1,q2,q3,fun i j hi hj=>(q4 i j hi hj).mono hle⟩
   |iter l p =>
    rw[ho] at this
    obtain⟨p0,s,p1,p2⟩:=this
    exact⟨by simp only[Jb,hκ,e1,if_true];exact p0,s,by simp only[Jb,hβ,e1,if_true];exact p1,p2⟩
   |mp ks vs =>
    rw[ho] at this
    obtain⟨p0,es,cl,p1,p2,p3,p4,p5,p6⟩:=this
    exact⟨by simp only[Jb,hκ,e1,if_true];exact p0,es,cl,by simp only[Jb,hβ,e1,if_true];exact p1,p2,p3,fun i=>(p4 i).mono hle,fun i=>(p5 i).mono hle,p6⟩
  ·rw[if_neg e1]
   by_cases e2:e=d
   ·rw[if_pos e2];trivial
   ·rw[if_neg e2]
    exact ObOk.mono hle (by simp only[Jb,hκ,e1,if_false]) (by simp only[Jb,hβ,e1,if_false]) (fun _ _=>rfl) (h.obj e)
 ·intro e e' h1 h2 h3
  rw[hβ,hβ] at h3
  rcases live e h1 with ⟨e1,l1⟩|⟨e1,e2,l1⟩<;>rcases live e' h2 with ⟨f1,l2⟩|⟨f1,f2,l2⟩
  ·rw[e1,f1]
  ·rw[if_pos e1,if_neg f1] at h3
   exact absurd (h.sep d e' l1 l2 h3).symm f2
  ·rw[if_neg e1,if_pos f1] at h3
   exact absurd (h.sep e d l1 l2 h3) e2
  ·rw[if_neg e1,if_neg f1] at h3
   exact h.sep e e' l1 l2 h3
 ·intro e h1
  rw[hβ]
  rcases live e h1 with ⟨e1,l1⟩|⟨e1,e2,l1⟩
  ·rw[if_pos e1];exact h.own d l1
  ·rw[if_neg e1];exact h.own e l1
 ·exact h.inF
 ·exact h.bel
 ·intro j b hj hg
  rw[hβ]
  by_cases e1:j=d'
  ·subst e1;simp[TS.put,TS.ren] at hg
  ·rw[if_neg e1];exact h.pin j b hj (by simpa[TS.put,TS.ren,Jp,e1] using hg)
theorem Jkk{E:Env}{ts:TS}{G:Ghost}{a:Act}{w:World}(h:Rel E ts G a w){x:AV}{ys:List AV}(hs:ts.sl x=some ys){v:Value}(hv:Rep (Jb E G ts w) v x){sz:Nat}(h0:0<sz)
  (hl:∀y∈ys,y.cells.length=sz) (h1:∀y∈ys,y.cells.all AV.one=true) {tx e':TypeId} (hk:P.underlying tx=some (.slice e')) :
  ∃news:List Value,Src P sz tx v ys.length news w∧news.length=ys.length*sz∧∀i j,i<ys.length→j<sz→Rep (Jb E G ts w) (news.getD (i*sz+j) undef) ((ys.getD i .any).cells.getD j .any):=by
 by_cases hne:ys=[]
 ·subst hne
  obtain⟨ad,cap,hq,_⟩:=Jdv hs hv
  subst hq
  refine⟨[],?_,by simp,fun i j hi=>by simp at hi⟩
  cases ad with
  |none=>exact Src.ofNil w hk cap
  |some ad=>exact Src.ofSlice w hk ad 0 cap [] (by simp) (by simp) (by simp)
 ·have main:∃b off cap,v=.slice (some ⟨b,off,none⟩) ys.length cap∧∀i j,i<ys.length→j<sz→∃u,w.cell? ⟨b,off+i*sz+j,none⟩=some u∧Rep (Jb E G ts w) u ((ys.getD i .any).cells.getD j .any):=by
   unfold TS.sl at hs
   split at hs
   ·cases hs
    cases hv with
    |slice0=>exact absurd rfl hne
    |slice clip b off cap sz' _ f q0 q1 hM hcap hclip hsz hc hr =>
     have:sz'=sz:=by
      have hm:=List.getElem_mem (List.length_pos_iff.2 q0)
      rw[←hsz _ hm,hl _ hm]
     subst this
     exact⟨b,off,cap,rfl,fun i j hi hj=>⟨f i j,hc i j hi hj,hr i j⟩⟩
   ·rename_i d g len
    split at hs
    ·rename_i hg
     split at hs
     ·rename_i sz' xs hob
      split at hs
      ·rename_i hlen
       cases hs
       obtain⟨_,_,hh⟩:=Yn hv
       have hos:=hh hg (by simp[Jb,hob,Ob.kind])
       have hlt:(xs.take len).length=len:=by simp;omega
       have hpos:0<len:=by rw[←hlt];exact List.length_pos_iff.2 hne
       obtain⟨cap,vs,T,hκ,hheap,hsize,hfit,q0,hsz,hcell⟩:=JcE h hob (by intro e;simp[e] at hne)
       unfold JO at hos
       rw[show(Jb E G ts w).κ d=some cap from hκ] at hos
       have:sz'=sz:=by
        have hm:=List.getElem_mem (List.length_pos_iff.2 hne)
        rw[←hsz _ (List.mem_of_mem_take hm),hl _ hm]
       subst this
       refine⟨_,0,cap,by rw[hlt];exact hos.1,fun i j hi hj=>?_⟩
       rw[hlt] at hi
       have hix:i<xs.length:=by omega
       have hgd:(xs.take len).getD i .any=xs.getD i .any:=by simp[List.getElem?_take,hi]
       rw[hgd]
       refine⟨_,?_,hcell i j hix hj⟩
       rw[Nat.zero_add]
       exact Z2 hheap (by rw[hsize];exact Zv hix hfit hj)
      ·cases hs
     ·cases hs
    ·cases hs
   ·rename_i d g o len
    split at hs
    ·rename_i hg
     split at hs
     ·rename_i sz' xs hob
      split at hs
      ·rename_i hlen
       cases hs
       have hlt:((xs.drop o).take len).length=len:=by simp;omega
       have hpos:0<len:=by rw[←hlt];exact List.length_pos_iff.2 hne
       obtain⟨cap,vs,T,hκ,hheap,hsize,hfit,q0,hsz,hcell⟩:=JcE h hob (by intro e;simp[e] at hne)
       have hm:=List.getElem_mem (List.length_pos_iff.2 hne)
       have hm':((xs.drop o).take len)[0]'(List.length_pos_iff.2 hne)∈xs:=List.mem_of_mem_drop (List.mem_of_mem_take hm)
       have:sz'=sz:=by rw[←hsz _ hm',hl _ hm]
       subst this
       cases hv with
       |ot _ _ _ _ _ h1 hgl hh =>
        obtain⟨ad,cap',hq,hc,hp⟩:=hh sz' hg (by simp[Jb,hob,Ob.kind])
        obtain⟨had,_⟩:=hp hpos
        subst had
        refine⟨_,_,cap',by rw[hlt];exact hq,fun i j hi hj=>?_⟩
        rw[hlt] at hi
        have hix:o+i<xs.length:=by omega
        have hgd:((xs.drop o).take len).getD i .any=xs.getD (o+i) .any:=by simp[List.getElem?_take,hi,List.getElem?_drop]
        rw[hgd]
        refine⟨_,?_,hcell (o+i) j hix hj⟩
        rw[←Nat.add_mul]
        exact Z2 hheap (by rw[hsize];exact Zv hix hfit hj)
      ·cases hs
     ·cases hs
    ·cases hs
   ·cases hs
  obtain⟨b,off,cap,hq,hc⟩:=main
  let g:Nat→Value:=fun p=>(w.cell? ⟨b,off+p,none⟩).getD undef
  have hdm:∀p,p<ys.length*sz→p / sz<ys.length∧p % sz<sz∧p / sz*sz+p % sz=p:=fun p hp =>
   ⟨(Nat.div_lt_iff_lt_mul h0).2 hp,Nat.mod_lt _ h0,by rw[Nat.mul_comm];exact Nat.div_add_mod p sz⟩
  have hg:∀p,p<ys.length*sz→∃u,w.cell? ⟨b,off+p,none⟩=some u∧Rep (Jb E G ts w) u ((ys.getD (p / sz) .any).cells.getD (p % sz) .any):=fun p hp=>by
   obtain⟨p1,p2,p3⟩:=hdm p hp
   have:=hc (p / sz) (p % sz) p1 p2
   rwa [Nat.add_assoc,p3] at this
  have hgetD:∀p,p<ys.length*sz→((List.range (ys.length*sz)).map g).getD p undef=g p:=fun p hp=>by simp[hp]
  refine⟨(List.range (ys.length*sz)).map g,?_,by simp,fun i j hi hj=>?_⟩
  ·subst hq
   refine Src.ofSlice w hk ⟨b,off,none⟩ ys.length cap _ (by simp) (fun j u hu=>?_) (fun u hu=>?_)
   ·have hj:j<ys.length*sz:=by have:=(List.getElem?_eq_some_iff.1 hu).1;simpa using this
    obtain⟨u',hu',_⟩:=hg j hj
    rw[Addr.add0]
    simp[hj,g,hu'] at hu
    rw[hu',hu]
   ·obtain⟨p,hp,rfl⟩:=List.mem_map.1 hu
    have hp':p<ys.length*sz:=by simpa using hp
    obtain⟨u',hu',hrep⟩:=hg p hp'
    have e:g p=u':=by simp[g,hu']
    rw[e]
    refine hrep.one ?_
    obtain⟨p1,p2,_⟩:=hdm p hp'
    have hy:ys.getD (p / sz) .any=ys[p / sz]:=by simp[p1]
    rw[hy]
    have hm:=List.getElem_mem p1
    have hcl:=hl _ hm
    have:(ys[p / sz]).cells.getD (p % sz) .any=(ys[p / sz]).cells[p % sz]'(by omega):=by simp[show p % sz<(ys[p / sz]).cells.length by omega]
    rw[this]
    exact(List.all_eq_true.1 (h1 _ hm)) _ (List.getElem_mem _)
  ·have hlt:=Zv (cap:=ys.length) hi (Nat.le_refl _) hj
   rw[hgetD _ hlt]
   obtain⟨u,hu,hrep⟩:=hc i j hi hj
   have:g (i*sz+j)=u:=by simp[g,←Nat.add_assoc,hu]
   rw[this];exact hrep
end Go.Proofs.YthjalhfmpffbjaaGreatDoor.Lg
namespace Go.Proofs.YthjalhfmpffbjaaGreatDoor.Lg
open Go
variable {P:Program}
theorem JjZ(w:World)(t tx ty e:TypeId)(i:TypeInfo)(ht:P.underlying t=some (.slice e))(hi:P.info? e=some i)(g sLen sCap:Nat)(cur:Array Value)(et:TypeId)(hg:w.heap[g]?=some (.cells cur et (0,0)))
  (x:Value) (n:Nat) (news:List Value) (hs:Src P i.size tx x n news w) (hroom:sLen+n≤sCap) (hfit:sLen*i.size+news.length≤cur.size) :
  (Builtin.append_ #[t,tx] ty #[.slice (some ⟨g,0,none⟩) sLen sCap,x]).run P w =
   .ok (.slice (some ⟨g,0,none⟩) (sLen+n) sCap) (w.setRow g (cur.toList.take (sLen*i.size)++news++cur.toList.drop (sLen*i.size+news.length)).toArray):=by
 have hst:=run_storeCells_at P g (sLen*i.size) et news 0 cur w hg (by simpa using hfit) hs.one
 simp only[Nat.add_zero] at hst
 rcases hs.kind with ⟨e',hk⟩|hk<;>simp[Builtin.append_,run_underlying ht,run_underlying hk,sizeOf,typeInfo,hi,hs.len,hroom,hs.cells,Addr.add_lit,hst]
theorem JgI(w:World)(t tx ty e:TypeId)(i:TypeInfo)(ht:P.underlying t=some (.slice e))(hi:P.info? e=some i)(ad:Option Addr)(x:Value)(hs:Src P i.size tx x 0 [] w) :
  (Builtin.append_ #[t,tx] ty #[.slice ad 0 0,x]).run P w=.ok (.slice ad 0 0) w:=by
 rcases hs.kind with ⟨e',hk⟩|hk<;>cases ad<;>simp[Builtin.append_,run_underlying ht,run_underlying hk,sizeOf,typeInfo,hi,hs.len,hs.cells,storeCells]
inductive Base where
 |none
 |own (d:Nat)
def TS.base(ts:TS)(s:AV)(sz:Nat):Option (Base×List AV) :=
 match s with
 | .slice true []=>some (.none,[])
 | .os d g len=>if g=ts.gen d then (match ts.obj d with|.arr sz' xs=>if sz'=sz∧len≤xs.length then some (.own d,xs.take len) else Option.none|_=>Option.none) else Option.none
 |_=>Option.none
def TS.unbase(ts:TS):Base→TS
 | .none=>ts
 | .own d=>ts.kill d
theorem JdF(z:Array Value)(n:Nat):(Builtin.zeroCells z n).size=n*z.size:=size_zeroCells z n
theorem JdT{c:Ctx}{old news:List Value}{xs ys:List AV}{sz:Nat}(h0:0<sz)(ho:old.length=xs.length*sz)(hn:news.length=ys.length*sz)
  (h1:∀i j,i<xs.length→j<sz→Rep c (old.getD (i*sz+j) undef) ((xs.getD i .any).cells.getD j .any))
  (h2:∀i j,i<ys.length→j<sz→Rep c (news.getD (i*sz+j) undef) ((ys.getD i .any).cells.getD j .any)) (tail:List Value) :
  ∀i j,i<(xs++ys).length→j<sz→Rep c ((old++news++tail).getD (i*sz+j) undef) (((xs++ys).getD i .any).cells.getD j .any):=by
 intro i j hi hj
 simp only[List.length_append] at hi
 by_cases hx:i<xs.length
 ·have hp:i*sz+j<old.length:=by rw[ho];exact Zv hx (Nat.le_refl _) hj
  have e1:(old++news++tail).getD (i*sz+j) undef=old.getD (i*sz+j) undef:=by
   simp only[List.getD_eq_getElem?_getD,List.append_assoc];rw[List.getElem?_append_left hp]
  have e2:(xs++ys).getD i .any=xs.getD i .any:=by
   simp only[List.getD_eq_getElem?_getD];rw[List.getElem?_append_left hx]
  rw[e1,e2];exact h1 i j hx hj
 ·have hi2:i-xs.length<ys.length:=by omega
  have hp:(i-xs.length)*sz+j<news.length:=by rw[hn];exact Zv hi2 (Nat.le_refl _) hj
  have hmul:i*sz+j=old.length+((i-xs.length)*sz+j):=by
   rw[ho]
   have:i*sz=xs.length*sz+(i-xs.length)*sz:=by rw[←Nat.add_mul];congr 1;omega
   omega
  have e1:(old++news++tail).getD (i*sz+j) undef=news.getD ((i-xs.length)*sz+j) undef:=by
   simp only[List.getD_eq_getElem?_getD,List.append_assoc,hmul]
   rw[List.getElem?_append_right (by omega),List.getElem?_append_left (by omega)]
   congr 2
   omega
  have e2:(xs++ys).getD i .any=ys.getD (i-xs.length) .any:=by
   simp only[List.getD_eq_getElem?_getD];rw[List.getElem?_append_right (by omega)]
  rw[e1,e2];exact h2 _ j hi2 hj
theorem SpecO.append{T:Tys P}{o:Oper}{ts:TS}{K:TS→Prop}{t tx e e':TypeId}{s x:Operand}(ho:o.op=.call { callee:=.builtin .append,args:=#[s,x],argTypes:=#[t,tx] })
  (ht:(T.ty t).k=.slice e) (htx:(T.ty tx).k=.slice e') (he:(T.ty e).k≠.unk) (h0:0<(T.ty e).sz) {b:Base} {xs ys:List AV} (hb:ts.base (ts.ev s) (T.ty e).sz=some (b,xs)) (hy:ts.sl (ts.ev x)=some ys)
  (hl:∀y∈ys,y.cells.length=(T.ty e).sz) (h1:∀y∈ys,y.cells.all AV.one=true) (hsmall:(xs.length+ys.length)*(T.ty e).bytes≤140737488355328) (hsmall':xs.length+ys.length≤9223372036854775807)
  {d':Nat} (hd:o.dst=some d') (hd':d' < ts.n)
  (hk:K (((ts.unbase b).new d' (.arr (T.ty e).sz (xs++ys))).put d' (.os d' (ts.gen d'+1) (xs++ys).length))):SpecO P o ts K:=by
 intro E G a w next Q hr hnext
 have hut:=Tys.slice ht
 have hux:=Tys.slice htx
 obtain⟨ti,hi,hsz,hby,⟨z,hz,_,hzs⟩,_⟩:=Tys.get (T:=T) he
 have hex:∀v w',(Builtin.append_ #[t,tx] o.type #[a.eval s,a.eval x]).run P w=.ok v w'→(execOp a.eval o).run P w=.ok (.value v) w':=fun v w' h=>by
  simp[execOp,ho,resolve,invoke,builtin,h]
 have fresh:∀(hr0:Rel E (ts.unbase b) G a w) (vs:Array Value) (et:TypeId) (cap:Nat),vs.size=cap*(T.ty e).sz→xs.length+ys.length≤cap →
   (∀i j,i<(xs++ys).length→j<(T.ty e).sz→Rep (Jb E G ts w) (vs.getD (i*(T.ty e).sz+j) undef) (((xs++ys).getD i .any).cells.getD j .any))→(∀x∈xs,x.cells.length=(T.ty e).sz) →
   next (a.put (some d') (.slice (some ⟨w.heap.size,0,none⟩) (xs.length+ys.length) cap)) (w.drew.alloc (.cells vs et)):=by
  intro hr0 vs et cap q1 q2 q3 q4
  have hbel:Bel (fun _=>False) w (w.drew.alloc (.cells vs et)):=(Bel.refl _ _).drew.alloc _
  have hle0:(Jb E G ts w).Le (Jb E G (ts.unbase b) w):=by
   cases b with
   |none=>exact⟨fun _ hM _=>⟨rfl,hM⟩,fun _=>Nat.le_refl _,fun _ _ _ hk=>⟨hk,rfl,rfl⟩⟩
   |own d=>exact JaC E G ts w d
  have hgen:(ts.unbase b).gen=ts.gen:=by cases b<;>rfl
  have hn0:(ts.unbase b).n=ts.n:=by cases b<;>rfl
  have hle:=Jc1 E G (ts.unbase b) w (w.drew.alloc (.cells vs et)) d' w.heap.size (some cap) (.arr (T.ty e).sz (xs++ys)) (Nat.le_refl _) (fun i hi=>hbel.block i hi (fun f=>f))
  refine hnext _ _ _ _ hk (hr0.newObj (w':=w.drew.alloc (.cells vs et)) (by rw[hn0];exact hd') (.arr (T.ty e).sz (xs++ys)) w.heap.size (some cap) (Nat.le_refl _) (fun _=>by simp) hbel ?_ ?_)
  ·refine .os d' _ _ _ rfl (by simp[Jb,TS.new,hgen]) fun _ _=>?_
   unfold JO
   simp only[Jb,Ghost.set,Vc,List.length_append]
   simpa using q2
  ·refine⟨h0,fun q hq=>?_,?_⟩
   ·rcases List.mem_append.1 hq with hq|hq
    ·exact q4 q hq
    ·exact hl q hq
   ·simp only[Jb,Ghost.set,Vc]
    exact⟨vs,et,heap_alloc_new w.drew _,q1,by simpa using q2,fun i j hi hj=>((q3 i j hi hj).mono hle0).mono hle⟩
 have virt:∀(hr0:Rel E (ts.unbase b) G a w) (ad:Option Addr),xs=[]→ys=[]→next (a.put (some d') (.slice ad 0 0)) w:=by
  intro hr0 ad q1 q2
  subst q1 q2
  have hgen:(ts.unbase b).gen=ts.gen:=by cases b<;>rfl
  have hn0:(ts.unbase b).n=ts.n:=by cases b<;>rfl
  refine hnext _ _ _ _ hk (hr0.newObj (w':=w) (by rw[hn0];exact hd') (.arr (T.ty e).sz ([]++[])) w.heap.size none (Nat.le_refl _) (fun h=>absurd rfl h) (Bel.refl _ _) ?_ ?_)
  ·refine .os d' _ _ _ rfl (by simp[Jb,TS.new,hgen]) fun _ _=>?_
   unfold JO
   simp[Jb,Ghost.set]
  ·refine⟨h0,by simp,?_⟩
   simp[Jb,Ghost.set]
 obtain⟨news,hsrc,hnl,hnr⟩:=Jkk hr hy (hr.ev x) h0 hl h1 hux
 have hsrc':Src P ti.size tx (a.eval x) ys.length news w:=by rw[hsz];exact hsrc
 have hgrow:∀old,old<xs.length+ys.length→Builtin.nextslicecap (xs.length+ys.length) old*ti.bytes≤281474976710656:=fun old h=>growslice_fits h (by rw[hby];exact hsmall)
 unfold Oper.wp
 unfold TS.base at hb
 split at hb
 ·rename_i es
  cases hb
  have hvs:=hr.ev s
  rw[es] at hvs
  have:∃ad,a.eval s=.slice ad 0 0:=by
   generalize a.eval s=q at hvs
   cases hvs with
   |slice0 _ ad cap h=>exact⟨ad,by rw[h rfl]⟩
   |slice _ _ _ _ _ _ _ h0=>exact absurd rfl h0
  obtain⟨ad,hq⟩:=this
  by_cases hy0:ys=[]
  ·subst hy0
   have hn0:news=[]:=List.eq_nil_of_length_eq_zero (by simpa using hnl)
   subst hn0
   rw[hex _ _ (by rw[hq];exact JgI w t tx o.type e ti hut hi ad _ hsrc')]
   show next (a.put o.dst _) w
   rw[hd]
   exact virt hr ad rfl rfl
  ·have hpos:0<ys.length:=List.length_pos_iff.2 hy0
   have hold:(Builtin.firstCells ti.size 0 (.slice ad 0 0)).run P w.drew=.ok ([]:List Value).toArray w.drew:=by
    cases ad<;>simp[Builtin.firstCells,loadCells,loadCellsFrom]
   have hrun:=run_append_grow_src (P:=P) w t tx o.type e ti z hut hi hz ad 0 0 [] hold (a.eval x) ys.length news hsrc' (by omega) (by simp at hsmall';omega) (by have:=hgrow 0 (by simp;omega);simpa using this)
   have hge:=grownCap_ge w (0+ys.length) 0 e
   rw[hex _ _ (by rw[hq];exact hrun)]
   show next (a.put o.dst _) _
   rw[hd]
   have hf:=fresh hr (((([]:List Value)++news).toArray++Builtin.zeroCells z.cells (grownCap w (0+ys.length) 0 e-(0+ys.length)))) e (grownCap w (0+ys.length) 0 e) (by
     simp only[List.nil_append,Array.size_append,List.size_toArray,JdF,hnl,hzs,hsz,←Nat.add_mul]
     congr 1;omega) (by simpa using hge) (by
     have:=JdT (c:=Jb E G ts w) (old:=[]) (xs:=[]) h0 (by simp) hnl (by intro i j hi;simp at hi) hnr (Builtin.zeroCells z.cells (grownCap w (0+ys.length) 0 e-(0+ys.length))).toList
     intro i j hi hj
     have:=this i j hi hj
     simpa[Array.getD_eq_getD_getElem?,Array.getElem?_append,List.getElem?_append] using this) (by simp)
   simpa using hf
 ·rename_i d g len es
  split at hb
  ·rename_i hg
   split at hb
   ·rename_i sz' xs' hob
    split at hb
    ·rename_i hc
     obtain⟨hsz',hlen⟩:=hc
     subst hsz'
     cases hb
     have hvs:=hr.ev s
     rw[es] at hvs
     obtain⟨_,_,hh⟩:=Yn hvs
     have hos:=hh hg (by simp[Jb,hob,Ob.kind])
     have hlt:(xs'.take len).length=len:=by simp;omega
     unfold JO at hos
     have hobk:=hr.obj d
     rw[hob] at hobk
     obtain⟨_,hszs,hrest⟩:=hobk
     have hxsz:∀x∈xs'.take len,x.cells.length=(T.ty e).sz:=fun x hx=>hszs x (List.mem_of_mem_take hx)
     cases hκ:(Jb E G ts w).κ d with
     |none =>
      rw[hκ] at hos hrest
      obtain⟨hl0,ad,hq⟩:=hos
      have hx0:xs'.take len=[]:=by rw[hl0];rfl
      rw[hx0] at fresh virt hgrow hk hsmall hsmall'
      by_cases hy0:ys=[]
      ·subst hy0
       have hn0:news=[]:=List.eq_nil_of_length_eq_zero (by simpa using hnl)
       subst hn0
       rw[hex _ _ (by rw[hq];exact JgI w t tx o.type e ti hut hi ad _ hsrc')]
       show next (a.put o.dst _) w
       rw[hd]
       exact virt (hr.kill d) ad rfl rfl
      ·have hpos:0<ys.length:=List.length_pos_iff.2 hy0
       have hold:(Builtin.firstCells ti.size 0 (.slice ad 0 0)).run P w.drew=.ok ([]:List Value).toArray w.drew:=by
        cases ad<;>simp[Builtin.firstCells,loadCells,loadCellsFrom]
       have hrun:=run_append_grow_src (P:=P) w t tx o.type e ti z hut hi hz ad 0 0 [] hold (a.eval x) ys.length news hsrc' (by omega) (by simp at hsmall';omega) (by have:=hgrow 0 (by simp;omega);simpa using this)
       have hge:=grownCap_ge w (0+ys.length) 0 e
       rw[hex _ _ (by rw[hq];exact hrun)]
       show next (a.put o.dst _) _
       rw[hd]
       have hf:=fresh (hr.kill d) (((([]:List Value)++news).toArray++Builtin.zeroCells z.cells (grownCap w (0+ys.length) 0 e-(0+ys.length)))) e (grownCap w (0+ys.length) 0 e) (by
         simp only[List.nil_append,Array.size_append,List.size_toArray,JdF,hnl,hzs,hsz,←Nat.add_mul]
         congr 1;omega) (by simpa using hge) (by
         have:=JdT (c:=Jb E G ts w) (old:=[]) (xs:=[]) h0 (by simp) hnl (by intro i j hi;simp at hi) hnr (Builtin.zeroCells z.cells (grownCap w (0+ys.length) 0 e-(0+ys.length))).toList
         intro i j hi hj
         have:=this i j hi hj
         simpa[Array.getD_eq_getD_getElem?,Array.getElem?_append,List.getElem?_append] using this) (by simp)
       simpa using hf
     |some cap =>
      rw[hκ] at hos hrest
      obtain⟨hq,hcap⟩:=hos
      obtain⟨vs,et,hheap,hsize,hfit,hcell⟩:=hrest
      have hκ':G.κ d=some cap:=hκ
      have hlive:Jj ts G d:=⟨by simp[hob,Ob.kind],by rw[hκ'];simp⟩
      have holdr:∀i j,i<(xs'.take len).length→j<(T.ty e).sz→Rep (Jb E G ts w) ((vs.toList.take (len*(T.ty e).sz)).getD (i*(T.ty e).sz+j) undef) (((xs'.take len).getD i .any).cells.getD j .any):=fun i j hi hj=>by
       rw[hlt] at hi
       have hp:i*(T.ty e).sz+j<len*(T.ty e).sz:=Zv hi (Nat.le_refl _) hj
       have e1:(vs.toList.take (len*(T.ty e).sz)).getD (i*(T.ty e).sz+j) undef=vs.getD (i*(T.ty e).sz+j) undef:=by simp[List.getElem?_take,hp]
       have e2:(xs'.take len).getD i .any=xs'.getD i .any:=by simp[List.getElem?_take,hi]
       rw[e1,e2];exact hcell i j (by omega) hj
      have holen:(vs.toList.take (len*(T.ty e).sz)).length=(xs'.take len).length*(T.ty e).sz:=by
       rw[hlt]
       have:len*(T.ty e).sz≤vs.size:=by rw[hsize];exact Nat.mul_le_mul_right _ hcap
       simp;omega
      by_cases hroom:len+ys.length≤cap
      ·have hfit2:len*ti.size+news.length≤vs.size:=by
        rw[hsz,hnl,hsize,←Nat.add_mul];exact Nat.mul_le_mul_right _ hroom
       have hrun:=JjZ (P:=P) w t tx o.type e ti hut hi (G.β d) len cap vs et hheap (a.eval x) ys.length news hsrc' hroom hfit2
       rw[hex _ _ (by rw[hq];exact hrun)]
       show next (a.put o.dst _) _
       rw[hd,hsz]
       have hnlen:(vs.toList.take (len*(T.ty e).sz)++news++vs.toList.drop (len*(T.ty e).sz+news.length)).length=vs.size:=by
        rw[ZT _ _ _ (by rw[hsz] at hfit2;simpa using hfit2)];simp
       have hset:=hr.setObj (w':=w.setRow (G.β d) (vs.toList.take (len*(T.ty e).sz)++news++vs.toList.drop (len*(T.ty e).sz+news.length)).toArray) d (.arr (T.ty e).sz (xs'.take len++ys)) (by simp[hob,Ob.kind]) hlive rfl rfl rfl (by simp[World.setRow]) (fun i hi=>setRow_other w _ i _ hi) (by
        have hle:=Zn E G ts w (w.setRow (G.β d) (vs.toList.take (len*(T.ty e).sz)++news++vs.toList.drop (len*(T.ty e).sz+news.length)).toArray) d (.arr (T.ty e).sz (xs'.take len++ys)) (by simp[hob,Ob.kind]) hlive (fun i hi=>setRow_other w _ i _ hi)
        refine⟨h0,fun q hq'=>?_,?_⟩
        ·rcases List.mem_append.1 hq' with hq'|hq'
         ·exact hxsz q hq'
         ·exact hl q hq'
        ·rw[show(Jb E G (ts.setObj d (.arr (T.ty e).sz (xs'.take len++ys))) (w.setRow (G.β d) (vs.toList.take (len*(T.ty e).sz)++news++vs.toList.drop (len*(T.ty e).sz+news.length)).toArray)).κ d=some cap from hκ']
         refine⟨_,et,setRow_heap w _ vs _ et _ hheap,?_,by simp only[List.length_append,hlt];exact hroom,fun i j hi hj=>?_⟩
         ·simp only[List.size_toArray,hnlen,hsize]
         ·have:=JdT (c:=Jb E G ts w) h0 holen hnl holdr hnr (vs.toList.drop (len*(T.ty e).sz+news.length)) i j hi hj
          have eA:∀(l:List Value) (k:Nat),l.toArray.getD k undef=l.getD k undef:=fun l k=>by simp
          rw[eA]
          exact this.mono hle)
       have hren:=hset.ren (d:=d) (d':=d') hd' (v:=.slice (some ⟨G.β d,0,none⟩) (len+ys.length) cap) (x:=.os d' (ts.gen d'+1) (xs'.take len++ys).length) (by
        refine .os d' _ _ _ rfl (by simp[Jb,TS.ren,TS.setObj]) fun _ _=>?_
        unfold JO
        simp only[Jb,Ghost.set,Vc,hκ',List.length_append,hlt]
        simpa using hroom)
       have hts:(((ts.setObj d (.arr (T.ty e).sz (xs'.take len++ys))).ren d d').put d' (.os d' (ts.gen d'+1) (xs'.take len++ys).length))=((ts.unbase (.own d)).new d' (.arr (T.ty e).sz (xs'.take len++ys))).put d' (.os d' (ts.gen d'+1) (xs'.take len++ys).length):=by
        simp only[TS.ren,TS.setObj,TS.new,TS.unbase,TS.kill,TS.put,Vc]
        congr 1
        funext q
        simp only[Jp]
        by_cases q1:q=d'<;>by_cases q2:q=d<;>simp[q1,q2]
       rw[hts] at hren
       exact hnext _ _ _ _ hk hren
      ·have hold:(Builtin.firstCells ti.size len (.slice (some ⟨G.β d,0,none⟩) len cap)).run P w.drew=.ok (vs.toList.take (len*(T.ty e).sz)).toArray w.drew:=by
        refine run_firstCells_some w.drew ti.size len _ len cap _ (by rw[holen,hlt,hsz]) (fun j u hu=>?_)
        have hj:=(List.getElem?_eq_some_iff.1 hu).1
        rw[holen,hlt] at hj
        have hj2:j<vs.size:=by rw[hsize];exact Nat.lt_of_lt_of_le hj (Nat.mul_le_mul_right _ hcap)
        rw[Addr.add0,Nat.zero_add]
        have:=Z2 (w:=w.drew) hheap hj2
        rw[show w.drew.cell? ⟨G.β d,j,none⟩=_ from this]
        rw[List.getElem?_take,if_pos hj] at hu
        simp[hj2] at hu ⊢
        exact hu
       have hrun:=run_append_grow_src (P:=P) w t tx o.type e ti z hut hi hz (some ⟨G.β d,0,none⟩) len cap _ hold (a.eval x) ys.length news hsrc' (by omega) (by rw[hlt] at hsmall';omega) (by have:=hgrow cap (by rw[hlt];omega);rw[hlt] at this;exact this)
       have hge:=grownCap_ge w (len+ys.length) cap e
       rw[hex _ _ (by rw[hq];exact hrun)]
       show next (a.put o.dst _) _
       rw[hd]
       have hf:=fresh (hr.kill d) ((vs.toList.take (len*(T.ty e).sz)++news).toArray++Builtin.zeroCells z.cells (grownCap w (len+ys.length) cap e-(len+ys.length))) e (grownCap w (len+ys.length) cap e) (by
         simp only[Array.size_append,List.size_toArray,List.length_append,holen,hlt,JdF,hnl,hzs,hsz,←Nat.add_mul]
         congr 1;omega) (by rw[hlt];exact hge) (by
         intro i j hi hj
         have:=JdT (c:=Jb E G ts w) h0 holen hnl holdr hnr (Builtin.zeroCells z.cells (grownCap w (len+ys.length) cap e-(len+ys.length))).toList i j hi hj
         have eA:∀(l:List Value) (m:Array Value) (k:Nat),(l.toArray++m).getD k undef=(l++m.toList).getD k undef:=fun l m k=>by
          rw[show l.toArray++m=(l++m.toList).toArray by apply Array.ext';simp]
          simp
         rw[eA];exact this) hxsz
       rw[hlt] at hf
       exact hf
    ·cases hb
   ·cases hb
  ·cases hb
 ·cases hb
theorem SpecO.appendIn{T:Tys P}{o:Oper}{ts:TS}{K:TS→Prop}{t tx e e':TypeId}{s x:Operand}(ho:o.op=.call { callee:=.builtin .append,args:=#[s,x],argTypes:=#[t,tx] })
  (ht:(T.ty t).k=.slice e) (htx:(T.ty tx).k=.slice e') (he:(T.ty e).k≠.unk) (h0:0<(T.ty e).sz) {d g len:Nat} {xs ys:List AV} (hs:ts.ev s=.os d g len) (hg:g=ts.gen d) (hob:ts.obj d=.arr (T.ty e).sz xs)
  (hy:ts.sl (ts.ev x)=some ys) (hl:∀y∈ys,y.cells.length=(T.ty e).sz) (h1:∀y∈ys,y.cells.all AV.one=true) (hroom:len+ys.length≤xs.length)
  {d':Nat} (hd:o.dst=some d') (hd':d' < ts.n)
  (hk:K ((ts.setObj d (.arr (T.ty e).sz (xs.take len++ys++xs.drop (len+ys.length)))).put d' (.os d g (len+ys.length)))):SpecO P o ts K:=by
 intro E G a w next Q hr hnext
 have hut:=Tys.slice ht
 have hux:=Tys.slice htx
 obtain⟨ti,hi,hsz,hby,⟨z,hz,_,hzs⟩,_⟩:=Tys.get (T:=T) he
 have hex:∀v w',(Builtin.append_ #[t,tx] o.type #[a.eval s,a.eval x]).run P w=.ok v w'→(execOp a.eval o).run P w=.ok (.value v) w':=fun v w' h=>by
  simp[execOp,ho,resolve,invoke,builtin,h]
 obtain⟨news,hsrc,hnl,hnr⟩:=Jkk hr hy (hr.ev x) h0 hl h1 hux
 have hsrc':Src P ti.size tx (a.eval x) ys.length news w:=by rw[hsz];exact hsrc
 have hvs:=hr.ev s
 rw[hs] at hvs
 obtain⟨_,hgl,hh⟩:=Yn hvs
 have hos:=hh hg (by simp[Jb,hob,Ob.kind])
 unfold JO at hos
 have hobk:=hr.obj d
 rw[hob] at hobk
 obtain⟨_,hszs,hrest⟩:=hobk
 unfold Oper.wp
 cases hκ:(Jb E G ts w).κ d with
 |none =>
  rw[hκ] at hos hrest
  obtain⟨hl0,ad,hq⟩:=hos
  subst hrest hl0
  have hy0:ys=[]:=List.eq_nil_of_length_eq_zero (by simpa using hroom)
  subst hy0
  have hn0:news=[]:=List.eq_nil_of_length_eq_zero (by simpa using hnl)
  subst hn0
  rw[hex _ _ (by rw[hq];exact JgI w t tx o.type e ti hut hi ad _ hsrc')]
  show next (a.put o.dst _) w
  rw[hd]
  refine hnext _ G _ _ hk ?_
  have e1:ts.setObj d (.arr (T.ty e).sz (([]:List AV).take 0++[]++([]:List AV).drop (0+([]:List AV).length)))=ts:=by
   simp only[TS.setObj]
   cases ts
   simp only at hob
   congr 1
   funext q
   by_cases hq:q=d
   ·subst hq;simp[hob]
   ·simp[Jp,hq]
  rw[e1]
  exact hr.put hd' (.os d g _ _ rfl hgl fun _ _=>by unfold JO;rw[hκ];exact⟨rfl,ad,rfl⟩)
 |some cap =>
  rw[hκ] at hos hrest
  obtain⟨hq,hcap⟩:=hos
  obtain⟨vs,et,hheap,hsize,hfit,hcell⟩:=hrest
  have hκ':G.κ d=some cap:=hκ
  have hlive:Jj ts G d:=⟨by simp[hob,Ob.kind],by rw[hκ'];simp⟩
  have hfit2:len*ti.size+news.length≤vs.size:=by
   rw[hsz,hnl,hsize,←Nat.add_mul];exact Nat.mul_le_mul_right _ (by omega)
  have hrun:=JjZ (P:=P) w t tx o.type e ti hut hi (G.β d) len cap vs et hheap (a.eval x) ys.length news hsrc' (by omega) hfit2
  rw[hex _ _ (by rw[hq];exact hrun)]
  show next (a.put o.dst _) _
  rw[hd,hsz]
  have hlen2:(xs.take len++ys++xs.drop (len+ys.length)).length=xs.length:=ZT xs ys len hroom
  have hset:=hr.setObj (w':=w.setRow (G.β d) (vs.toList.take (len*(T.ty e).sz)++news++vs.toList.drop (len*(T.ty e).sz+news.length)).toArray) d (.arr (T.ty e).sz (xs.take len++ys++xs.drop (len+ys.length))) (by simp[hob,Ob.kind]) hlive rfl rfl rfl (by simp[World.setRow]) (fun i hi=>setRow_other w _ i _ hi) (by
   have hle:=Zn E G ts w (w.setRow (G.β d) (vs.toList.take (len*(T.ty e).sz)++news++vs.toList.drop (len*(T.ty e).sz+news.length)).toArray) d (.arr (T.ty e).sz (xs.take len++ys++xs.drop (len+ys.length))) (by simp[hob,Ob.kind]) hlive (fun i hi=>setRow_other w _ i _ hi)
   refine⟨h0,fun q hq'=>?_,?_⟩
   ·rcases List.mem_append.1 hq' with hq'|hq'
    ·rcases List.mem_append.1 hq' with hq'|hq'
     ·exact hszs q (List.mem_of_mem_take hq')
     ·exact hl q hq'
    ·exact hszs q (List.mem_of_mem_drop hq')
   ·rw[show(Jb E G (ts.setObj d (.arr (T.ty e).sz (xs.take len++ys++xs.drop (len+ys.length)))) (w.setRow (G.β d) (vs.toList.take (len*(T.ty e).sz)++news++vs.toList.drop (len*(T.ty e).sz+news.length)).toArray)).κ d=some cap from hκ']
    have hspl:len*(T.ty e).sz+news.length≤vs.toList.length:=by rw[hsz] at hfit2;simpa using hfit2
    refine⟨_,et,setRow_heap w _ vs _ et _ hheap,?_,by rw[hlen2];exact hfit,fun i j hi hj=>?_⟩
    ·simp only[List.size_toArray,ZT _ _ _ hspl];simpa using hsize
    ·rw[hlen2] at hi
     have eA:∀(l:List Value) (k:Nat),l.toArray.getD k undef=l.getD k undef:=fun l k=>by simp
     rw[eA,Jag _ _ _ _ _ hspl,Jag _ _ _ _ _ hroom]
     have hm1:len*(T.ty e).sz≤i*(T.ty e).sz+j↔len≤i:=by
      constructor
      ·intro h
       by_cases hc:len≤i
       ·exact hc
       ·have:(i+1)*(T.ty e).sz≤len*(T.ty e).sz:=Nat.mul_le_mul_right _ (by omega)
        rw[Nat.add_mul,Nat.one_mul] at this
        omega
      ·intro h
       have:=Nat.mul_le_mul_right (T.ty e).sz h
       omega
     have hm2:i*(T.ty e).sz+j<len*(T.ty e).sz+news.length↔i<len+ys.length:=by
      rw[hnl,←Nat.add_mul]
      constructor
      ·intro h
       by_cases hc:i<len+ys.length
       ·exact hc
       ·have:=Nat.mul_le_mul_right (T.ty e).sz (show len+ys.length≤i by omega)
        omega
      ·intro h;exact Zv h (Nat.le_refl _) hj
     by_cases hin:len≤i∧i<len+ys.length
     ·rw[if_pos ⟨hm1.2 hin.1,hm2.2 hin.2⟩,if_pos hin]
      have e2:i*(T.ty e).sz+j-len*(T.ty e).sz=(i-len)*(T.ty e).sz+j:=by
       have:=Nat.mul_le_mul_right (T.ty e).sz hin.1
       rw[Nat.sub_mul];omega
      rw[e2]
      exact(hnr (i-len) j (by omega) hj).mono hle
     ·rw[if_neg (fun h=>hin ⟨hm1.1 h.1,hm2.1 h.2⟩),if_neg hin]
      have:=(hcell i j hi hj).mono hle
      simpa using this)
  refine hnext _ G _ _ hk (hset.put hd' ?_)
  refine .os d g _ _ rfl (by simpa[Jb,TS.setObj] using hgl) fun _ _=>?_
  unfold JO
  rw[show(Jb E G (ts.setObj d (.arr (T.ty e).sz (xs.take len++ys++xs.drop (len+ys.length)))) (w.setRow (G.β d) (vs.toList.take (len*(T.ty e).sz)++news++vs.toList.drop (len*(T.ty e).sz+news.length)).toArray)).κ d=some cap from hκ']
  exact⟨rfl,by omega⟩
theorem Tys.intT{T:Tys P}{t:Nat}{k:IntKind}(h:(T.ty t).k=.int k):P.underlying t=some (.int k):=by
 obtain⟨ti,_,_,_,_,d,h1,h2⟩:=Tys.get (T:=T) (t:=t) (by rw[h];simp)
 rw[h] at h2
 cases d<;>simp[VD] at h2
 subst h2;exact h1
theorem Jqp(w:World)(t tx ty e:TypeId)(i:TypeInfo)(z:Value)(k kx:IntKind)(ht:P.underlying t=some (.slice e))(htx:P.underlying tx=some (.int k))(hi:P.info? e=some i)(hz:i.zero=some z)
  (ad:Option Addr) (n:Nat) (h0:0<n) (hsz:0<i.size) (h63:n≤9223372036854775807) (hby:n*i.bytes≤140737488355328) :
  (Builtin.append_ #[t,tx] ty #[.slice ad 0 0,.int kx n]).run P w =
   .ok (.slice (some ⟨w.heap.size,0,none⟩) n (grownCap w n 0 e)) (w.drew.alloc (.cells (Builtin.zeroCells z.cells n++Builtin.zeroCells z.cells (grownCap w n 0 e-n)) e)):=by
 have hn:¬n=0:=by omega
 have hs:¬i.size=0:=by omega
 have hw:IntKind.i64.wrap (n:Int)=n:=by
  simp only[IntKind.wrap,IntKind.signed,IntKind.bits]
  simp
  omega
 have h1:¬((n:Int)<0):=by omega
 have h2:¬(281474976710656<(n:Int)*(i.bytes:Int)):=by
  generalize hq:n*i.bytes=q at hby
  have:(n:Int)*(i.bytes:Int)=(q:Int):=by rw[←hq];exact(Int.natCast_mul n i.bytes).symm
  omega
 have h3:¬(9223372036854775807<(n:Int)):=by omega
 have hg:=growslice_fits (need:=n) (old:=0) h0 hby
 have h4:¬(281474976710656<Builtin.nextslicecap n 0*i.bytes):=by omega
 have ha:∀w:World,(asIntOf (.int kx (n:Int))).run P w=.ok (kx,(n:Int)) w:=fun w=>rfl
 have hns:¬(n*i.size=0):=Nat.mul_ne_zero hn hs
 generalize hG:Builtin.nextslicecap n 0=gg at h4
 cases ad<;>simp[Builtin.append_,ha,hG,run_underlying ht,run_underlying htx,sizeOf,typeInfo,zeroValue,hi,hz,asInt,hw,h1,h2,h3,h4,hn,hs,Question.forced,Builtin.firstCells,loadCells,loadCellsFrom,newRow,grownCap]<;>exact fun h=>absurd h hns
theorem SpecO.appendMake{T:Tys P}{o:Oper}{ts:TS}{K:TS→Prop}{t tx e:TypeId}{k kx:IntKind}{s x:Operand}(ho:o.op=.call { callee:=.builtin .append,args:=#[s,x],argTypes:=#[t,tx] })
  (ht:(T.ty t).k=.slice e) (htx:(T.ty tx).k=.int k) (he:(T.ty e).k≠.unk) (h0:0<(T.ty e).sz) (hs:ts.ev s=.slice true []) {n:Int} (hx:ts.ev x=.int kx n) (hn:0<n)
  (hsmall:n.toNat*(T.ty e).bytes≤140737488355328) (hsmall':n.toNat≤9223372036854775807)
  (hk:VY ts o.dst (T.ty e).sz (List.replicate n.toNat (.agg (List.replicate (T.ty e).sz .any))) K):SpecO P o ts K:=by
 refine SpecO.newArr hk h0 (by intro x hx;rw[(List.mem_replicate.1 hx).2];simp[AV.cells]) fun E G a w hr=>?_
 have hut:=Tys.slice ht
 have hux:=Tys.intT htx
 obtain⟨ti,hi,hsz,hby,⟨z,hz,_,hzs⟩,_⟩:=Tys.get (T:=T) he
 have hvs:=hr.ev s
 rw[hs] at hvs
 have:∃ad,a.eval s=.slice ad 0 0:=by
  generalize a.eval s=q at hvs
  cases hvs with
  |slice0 _ ad cap h=>exact⟨ad,by rw[h rfl]⟩
  |slice _ _ _ _ _ _ _ h0=>exact absurd rfl h0
 obtain⟨ad,hq⟩:=this
 have hvx:=hr.ev x
 rw[hx] at hvx
 have hqx:=Vh hvx
 have hnn:n=(n.toNat:Int):=by omega
 have hrun:=Jqp (P:=P) w t tx o.type e ti z k kx hut hux hi hz ad n.toNat (by omega) (by omega) hsmall' (by rw[hby];exact hsmall)
 rw[←hnn] at hrun
 refine⟨Builtin.zeroCells z.cells n.toNat++Builtin.zeroCells z.cells (grownCap w n.toNat 0 e-n.toNat),e,grownCap w n.toNat 0 e,w.drew,?_,.inr rfl,?_,?_,fun i j hi hj=>?_⟩
 ·rw[List.length_replicate]
  simp[execOp,ho,resolve,invoke,builtin,hq,hqx,hrun]
 ·have:=grownCap_ge w n.toNat 0 e
  rw[Array.size_append,JdF,JdF,hzs,hsz,←Nat.add_mul]
  congr 1;omega
 ·simpa using grownCap_ge w n.toNat 0 e
 ·simp only[List.length_replicate] at hi
  have e1:(((List.replicate n.toNat (AV.agg (List.replicate (T.ty e).sz .any))).getD i .any).cells.getD j .any)=.any:=by
   simp[List.getElem?_replicate,hi,hj,AV.cells]
  rw[e1];exact .any _
end Go.Proofs.YthjalhfmpffbjaaGreatDoor.Lg
namespace Go.Proofs.YthjalhfmpffbjaaGreatDoor.Lg
open Go
variable {P:Program}
inductive Arg where
 |v (x:AV)
 |io (cs:List AV)
 |own (sz:Nat) (xs:List AV)
inductive Ret where
 |val (x:AV)
 |own (sz:Nat) (xs:List AV)
def Jk(args:List Arg)(n:Nat):TS :=
 {n:=n
  tmp:=fun t=>match args[t]? with|some (.v x)=>x|some (.io _)=>.ref t 0 0|some (.own _ xs)=>.os t 0 xs.length|none=>.any
  gen:=fun _=>0
  obj:=fun t=>match args[t]? with|some (.io cs)=>.box cs|some (.own sz xs)=>.arr sz xs|_=>.dead }
def JmH(ts:TS):Ret→Prop
 | .val x=>x.pure=true∧ts.tmp 0=x
 | .own sz xs=>∃d g,ts.tmp 0=.os d g xs.length∧ts.gen d=g∧ts.obj d=.arr sz xs∧AV.pure.pureL xs=true
def Post(E:Env)(R:Ret→(Nat→List AV)→Prop)(e:Ending)(w':World):Prop :=
 ∃v r io ts' G',e=.returned v∧R r io∧Rel E ts' G' ⟨#[v],[]⟩ w'∧(∀j b,E.pin j=some b→ts'.gen j=0∧ts'.obj j=.box (io j)∧AV.pure.pureL (io j)=true)∧JmH ts' r
def CallV(P:Program)(f:FuncId)(args:List Arg)(R:Ret→(Nat→List AV)→Prop):Prop :=
 ∀(E:Env) (G:Ghost) (vals:Array Value) (w:World),E.w0=w→Rel E (Jk args args.length) G ⟨vals,[]⟩ w→(∀j,(∃cs,args[j]?=some (.io cs))↔∃b,E.pin j=some b) →
  match (callFunc f vals).run P w with
  | .ok (.enter f' args') w1=>Calls P f' args' w1 (Post E R)
  | .ok (.value v) w1=>Post E R (.returned v) w1
  |_=>False
theorem CallV.mono{f:FuncId}{args:List Arg}{R R':Ret→(Nat→List AV)→Prop}(h:CallV P f args R)(hr:∀r io,R r io→R' r io):CallV P f args R':=by
 intro E G vals w hw hrel hpin
 have:=h E G vals w hw hrel hpin
 split at this<;>rename_i heq
 ·refine Calls.mono this ?_
  rintro e w' ⟨v,r,io,ts',G',h1,h2,h3⟩
  exact⟨v,r,io,ts',G',h1,hr _ _ h2,h3⟩
 ·obtain⟨v,r,io,ts',G',h1,h2,h3⟩:=this
  exact⟨v,r,io,ts',G',h1,hr _ _ h2,h3⟩
 ·exact this
def CallP(P:Program)(f:FuncId)(args:List AV)(x:AV):Prop:=CallV P f (args.map Arg.v) (fun r _=>r=.val x)
def AV.res(ts:TS):AV→Option AV
 | .os d g len=>if g=ts.gen d then (match ts.obj d with|.arr _ xs=>if len≤xs.length∧AV.pure.pureL xs=true then some (.slice false (xs.take len)) else none|_=>none) else none
 | .mref d g=>if g=ts.gen d then (match ts.obj d with|.mp ks vs=>if AV.pure.pureL ks=true∧AV.pure.pureL vs=true then some (.mp ks vs) else none|_=>none) else none
 | .agg cs=>(resL ts cs).map .agg
 | .tup cs=>(resL ts cs).map .tup
 |x=>if x.pure then some x else none
where resL (ts:TS):List AV→Option (List AV)
 | []=>some []
 |x :: r=>match x.res ts,resL ts r with
  |some y,some s=>some (y :: s)
  |_,_=>none
theorem Jdl(ts:TS):∀(l l':List AV),AV.res.resL ts l=some l'→l.length=l'.length∧∀i,i<l.length→(l.getD i .any).res ts=some (l'.getD i .any)
 | [],l',h=>by simp[AV.res.resL] at h;subst h;simp
 |x :: r,l',h=>by
  simp only[AV.res.resL] at h
  split at h
  ·rename_i y s h1 h2
   cases h
   obtain⟨e1,e2⟩:=Jdl ts r s h2
   refine⟨by simp[e1],fun i hi=>?_⟩
   cases i with
   |zero=>simpa using h1
   |succ i=>simpa using e2 i (by simpa using hi)
  ·cases h
theorem JjD(l:List AV)(n:Nat)(h:AV.pure.pureL l=true):AV.pure.pureL (l.take n)=true:=by
 rw[JjC] at h ⊢
 exact fun x hx=>h x (List.mem_of_mem_take hx)
mutual
theorem JgF(ts:TS):∀(x y:AV),x.res ts=some y→y.pure=true
 | .os d g len,y,h=>by
  simp only[AV.res] at h
  split at h
  ·split at h
   ·split at h
    ·rename_i hc;cases h;simpa[AV.pure] using JjD _ _ hc.2
    ·cases h
   ·cases h
  ·cases h
 | .mref d g,y,h=>by
  simp only[AV.res] at h
  split at h
  ·split at h
   ·split at h
    ·rename_i hc;cases h;simp[AV.pure,hc.1,hc.2]
    ·cases h
   ·cases h
  ·cases h
 | .mp _ _,y,h=>by simp[AV.res] at h;obtain⟨h1,rfl⟩:=h;exact h1
 | .agg cs,y,h=>by
  simp only[AV.res,Option.map_eq_some_iff] at h
  obtain⟨l,h1,rfl⟩:=h
  simpa[AV.pure] using JgE ts cs l h1
 | .tup cs,y,h=>by
  simp only[AV.res,Option.map_eq_some_iff] at h
  obtain⟨l,h1,rfl⟩:=h
  simpa[AV.pure] using JgE ts cs l h1
 | .any,y,h=>by simp[AV.res,AV.pure] at h;subst h;rfl
 | .bool _,y,h=>by simp[AV.res,AV.pure] at h;subst h;rfl
 | .int _ _,y,h=>by simp[AV.res,AV.pure] at h;subst h;rfl
 | .str _,y,h=>by simp[AV.res,AV.pure] at h;subst h;rfl
 | .slice _ _,y,h=>by simp[AV.res] at h;obtain⟨h1,rfl⟩:=h;exact h1
 | .ro _,y,h=>by simp[AV.res] at h;obtain⟨h1,rfl⟩:=h;exact h1
 | .nilp,y,h=>by simp[AV.res,AV.pure] at h;subst h;rfl
 | .clo _ _ _,y,h=>by simp[AV.res] at h;obtain⟨h1,rfl⟩:=h;exact h1
 | .nilf,y,h=>by simp[AV.res,AV.pure] at h;subst h;rfl
 | .nilm,y,h=>by simp[AV.res,AV.pure] at h;subst h;rfl
 | .niface,y,h=>by simp[AV.res,AV.pure] at h;subst h;rfl
 | .iface _ _,y,h=>by simp[AV.res] at h;obtain⟨h1,rfl⟩:=h;exact h1
 | .ref _ _ _,y,h=>by simp[AV.res,AV.pure] at h
 | .eref _ _ _ _,y,h=>by simp[AV.res,AV.pure] at h
 | .ot _ _ _ _,y,h=>by simp[AV.res,AV.pure] at h
theorem JgE(ts:TS):∀(l l':List AV),AV.res.resL ts l=some l'→AV.pure.pureL l'=true
 | [],l',h=>by simp[AV.res.resL] at h;subst h;rfl
 |x :: r,l',h=>by
  simp only[AV.res.resL] at h
  split at h
  ·rename_i y s h1 h2
   cases h
   simp[AV.pure.pureL,JgF ts x y h1,JgE ts r s h2]
  ·cases h
end
theorem Rep.plain{E:Env}{ts:TS}{G:Ghost}{a:Act}{w:World}(h:Rel E ts G a w){c':Ctx}(hw:c'.w=w)(hc:∀b,¬(Jb E G ts w).M b→b<w.heap.size→¬c'.M b){d g len sz:Nat}{xs:List AV}{v:Value}
  (hv:Rep (Jb E G ts w) v (.os d g len)) (hg:g=ts.gen d) (ho:ts.obj d=.arr sz xs) (hl:len≤xs.length) (hp:AV.pure.pureL xs=true) (hM:Jj ts G d→¬c'.M (G.β d)):Rep c' v (.slice false (xs.take len)):=by
 obtain⟨_,hgle,hh⟩:=Yn hv
 have hh:=hh hg (by simp[Jb,ho,Ob.kind])
 unfold JO at hh
 by_cases hlen:len=0
 ·subst hlen
  simp only[List.take_zero]
  split at hh
  ·rw[hh.1];exact .slice0 false _ _ (by simp)
  ·obtain⟨_,a0,rfl⟩:=hh;exact .slice0 false _ _ (by simp)
 ·have hxne:xs≠[]:=by intro e;simp[e] at hl;omega
  obtain⟨cap,vs,T,hκ,hheap,hsize,hfit,h0,hsz,hcells⟩:=JcE h ho hxne
  rw[show(Jb E G ts w).κ d=some cap from hκ] at hh
  obtain⟨hv,hcap⟩:=hh
  have hlive:Jj ts G d:=⟨by simp[ho,Ob.kind],by rw[hκ];simp⟩
  have hlt:(xs.take len).length=len:=by simp;omega
  rw[hv]
  have hmono:∀ {u:Value} {x:AV},Rep (Jb E G ts w) u x→x.pure=true→Rep c' u x:=fun hr hx =>
   Rep.mono_pure (fun b hMa hlt=>⟨by rw[hw];rfl,hc b hMa hlt⟩) hr hx
  suffices key:Rep c' (.slice (some ⟨G.β d,0,none⟩) (xs.take len).length cap) (.slice false (xs.take len)) by
   rw[hlt] at key;exact key
  refine Rep.slice false (G.β d) 0 cap sz (xs.take len) (fun i j=>if i<len∧j<sz then vs.getD (i*sz+j) undef else undef) (by intro e;simp[e] at hlt;omega) h0 (hM hlive) (by rw[hlt];exact hcap) (by simp) (fun x hx=>hsz x (List.mem_of_mem_take hx)) ?_ ?_
  ·intro i j hi hj
   rw[hlt] at hi
   have hin:i*sz+j<vs.size:=by rw[hsize];exact Zv (show i<xs.length by omega) hfit hj
   rw[hw,if_pos ⟨hi,hj⟩,Nat.zero_add]
   exact Z2 hheap hin
  ·intro i j
   split
   ·rename_i hij
    have hgd:(xs.take len).getD i .any=xs.getD i .any:=by simp[List.getElem?_take,hij.1]
    rw[hgd]
    exact hmono (hcells i j (by omega) hij.2) (JW _ _ (AV.pure_cells (JW xs i hp)))
   ·rename_i hij
    have:((xs.take len).getD i .any).cells.getD j .any=.any:=by
     by_cases hi:i<len
     ·have hj:¬j<sz:=fun hj=>hij ⟨hi,hj⟩
      have hi':i<xs.length:=by omega
      have hgd:(xs.take len).getD i .any=xs[i]:=by simp[List.getElem?_take,hi,hi']
      rw[hgd]
      have:=hsz xs[i] (List.getElem_mem hi')
      simp[List.getElem?_eq_none (show xs[i].cells.length≤j by omega)]
     ·have hgd:(xs.take len).getD i .any=.any:=by simp[List.getElem?_take,hi]
      rw[hgd]
      simp only[AV.cells]
      cases j<;>simp
    rw[this];exact .any _
theorem Rep.plainM{E:Env}{ts:TS}{G:Ghost}{a:Act}{w:World}(h:Rel E ts G a w){c':Ctx}(hw:c'.w=w)(hc:∀b,¬(Jb E G ts w).M b→b<w.heap.size→¬c'.M b){d g:Nat}{ks vs:List AV}{v:Value}
  (hv:Rep (Jb E G ts w) v (.mref d g)) (hg:g=ts.gen d) (ho:ts.obj d=.mp ks vs) (hp:AV.pure.pureL ks=true∧AV.pure.pureL vs=true) (hM:Jj ts G d→¬c'.M (G.β d)):Rep c' v (.mp ks vs):=by
 obtain⟨_,hgle,hh⟩:=Jdh hv
 have hh:=hh hg (by simp[Jb,ho,Ob.kind])
 subst hh
 have hob:=h.obj d
 rw[ho] at hob
 obtain⟨h0,es,cl,h1,h2,h3,h4,h5,_⟩:=hob
 have hlive:Jj ts G d:=⟨by simp[ho,Ob.kind],h0⟩
 have hmono:∀ {u:Value} {x:AV},Rep (Jb E G ts w) u x→x.pure=true→Rep c' u x:=fun hr hx =>
  Rep.mono_pure (fun b hMa hlt=>⟨by rw[hw];rfl,hc b hMa hlt⟩) hr hx
 exact .mp _ es cl ks vs (hM hlive) (by rw[hw];exact h1) h2 h3 (fun i=>hmono (h4 i) (JW ks i hp.1)) fun i=>hmono (h5 i) (JW vs i hp.2)
def TS.over(ts:TS)(E:Env):TS:={ ts with obj:=fun d=>if(E.pin d).isSome && ts.gen d == 0 then ts.obj d else .dead }
theorem Jb8{ts:TS}{G:Ghost}{E:Env}{d:Nat}(h:Jj (ts.over E) G d):Jj ts G d:=by
 unfold Jj TS.over at h
 dsimp only at h
 split at h
 ·exact h
 ·simp[Ob.kind] at h
theorem JfW(E:Env)(G:Ghost)(ts:TS)(w:World):(Jb E G ts w).Le (Jb E G (ts.over E) w) :=
 {blk:=fun b' hM hc=>⟨rfl,by
   rintro(hF|⟨e,he,hb⟩)
   ·exact hM (.inl hF)
   ·exact hM (.inr ⟨e,Jb8 he,hb⟩)⟩
  gen:=fun _=>Nat.le_refl _
  kind:=fun e k _ hk=>by
   simp only[Jb,TS.over] at hk ⊢
   split at hk
   ·simpa using hk
   ·simp[Ob.kind] at hk }
theorem Rel.over{E:Env}{ts:TS}{G:Ghost}{a:Act}{w:World}(h:Rel E ts G a w):Rel E (ts.over E) G a w:=by
 have hle:=JfW E G ts w
 refine⟨h.size,h.defers,fun t=>(h.tmp t).mono hle,?_,fun e e' h1 h2 h3=>h.sep e e' (Jb8 h1) (Jb8 h2) h3,fun e h1=>h.own e (Jb8 h1),h.inF,h.bel,h.pin⟩
 intro e
 show ObOk (Jb E G (ts.over E) w) e (if(E.pin e).isSome && ts.gen e == 0 then ts.obj e else .dead)
 split
 ·exact ObOk.mono hle rfl rfl (fun _ _=>rfl) (h.obj e)
 ·trivial
theorem Rep.res{E:Env}{ts:TS}{G:Ghost}{a:Act}{w:World}(h:Rel E ts G a w)(hbox:∀j b,E.pin j=some b→ts.gen j=0→∃cs,ts.obj j=.box cs) :
  ∀ {v:Value} {x:AV},Rep (Jb E G ts w) v x→∀ {y:AV},x.res ts=some y→Rep (Jb E G (ts.over E) w) v y:=by
 intro v x hx
 have hle:=JfW E G ts w
 induction hx with
 |agg cs as hl _ ih =>
  intro y hy
  simp only[AV.res,Option.map_eq_some_iff] at hy
  obtain⟨l,h1,rfl⟩:=hy
  obtain⟨e1,e2⟩:=Jdl ts as l h1
  refine .agg cs l (by omega) fun i=>?_
  by_cases hi:i<as.length
  ·exact ih i (e2 i hi)
  ·have:l.getD i .any=.any:=by simp[List.getElem?_eq_none (show l.length≤i by omega)]
   rw[this];exact .any _
 |tup cs as hl _ ih =>
  intro y hy
  simp only[AV.res,Option.map_eq_some_iff] at hy
  obtain⟨l,h1,rfl⟩:=hy
  obtain⟨e1,e2⟩:=Jdl ts as l h1
  refine .tup cs l (by omega) fun i=>?_
  by_cases hi:i<as.length
  ·exact ih i (e2 i hi)
  ·have:l.getD i .any=.any:=by simp[List.getElem?_eq_none (show l.length≤i by omega)]
   rw[this];exact .any _
 |os d g len v h1 h2 h3 =>
  intro y hy
  simp only[AV.res] at hy
  split at hy
  ·rename_i hg
   split at hy
   ·rename_i sz xs ho
    split at hy
    ·rename_i hc
     cases hy
     refine Rep.plain h rfl (fun b hMa hlt=>(hle.blk b hMa hlt).2) (.os d g len v h1 h2 h3) hg ho hc.1 hc.2 fun hlive=>?_
     rintro(hF|⟨e,he,hb⟩)
     ·exact(h.own d hlive).2.1 hF
     ·have hed:=h.sep e d (Jb8 he) hlive hb
      subst hed
      unfold Jj TS.over at he
      dsimp only at he
      split at he
      ·rename_i hpin
       simp only[Bool.and_eq_true,beq_iff_eq] at hpin
       obtain⟨b,hb⟩:=Option.isSome_iff_exists.1 hpin.1
       obtain⟨cs,hcs⟩:=hbox e b hb hpin.2
       rw[ho] at hcs;cases hcs
      ·simp[Ob.kind] at he
    ·cases hy
   ·cases hy
  ·cases hy
 |mref d g v h1 h2 h3 =>
  intro y hy
  simp only[AV.res] at hy
  split at hy
  ·rename_i hg
   split at hy
   ·rename_i ks vs ho
    split at hy
    ·rename_i hc
     cases hy
     refine Rep.plainM h rfl (fun b hMa hlt=>(hle.blk b hMa hlt).2) (.mref d g v h1 h2 h3) hg ho hc fun hlive=>?_
     rintro(hF|⟨e,he,hb⟩)
     ·exact(h.own d hlive).2.1 hF
     ·have hed:=h.sep e d (Jb8 he) hlive hb
      subst hed
      unfold Jj TS.over at he
      dsimp only at he
      split at he
      ·rename_i hpin
       simp only[Bool.and_eq_true,beq_iff_eq] at hpin
       obtain⟨b,hb⟩:=Option.isSome_iff_exists.1 hpin.1
       obtain⟨cs,hcs⟩:=hbox e b hb hpin.2
       rw[ho] at hcs;cases hcs
      ·simp[Ob.kind] at he
    ·cases hy
   ·cases hy
  ·cases hy
 |mp b es cl ks vs p0 p1 p2 p3 p4 p5 _ _ =>
  intro y hy;simp[AV.res] at hy;obtain⟨_,rfl⟩:=hy
  exact(Rep.mp b es cl ks vs p0 p1 p2 p3 p4 p5).mono hle
 |ref d g off v h1 h2 h3=>intro y hy;simp[AV.res,AV.pure] at hy
 |eref d g i o v h1 h2 h3=>intro y hy;simp[AV.res,AV.pure] at hy
 |ot d g i o v h1 h2 h3=>intro y hy;simp[AV.res,AV.pure] at hy
 |any v=>intro y hy;simp[AV.res,AV.pure] at hy;subst hy;exact .any v
 |bool b=>intro y hy;simp[AV.res,AV.pure] at hy;subst hy;exact .bool b
 |int k n=>intro y hy;simp[AV.res,AV.pure] at hy;subst hy;exact .int k n
 |str s l hs=>intro y hy;simp[AV.res,AV.pure] at hy;subst hy;exact .str s l hs
 |slice0 clip a cap hh=>intro y hy;simp[AV.res] at hy;obtain⟨_,rfl⟩:=hy;exact .slice0 clip a cap hh
 |slice clip b off cap sz xs f p0 p1 p2 p3 p4 p5 p6 p7 _ =>
  intro y hy;simp[AV.res] at hy;obtain⟨_,rfl⟩:=hy
  exact(Rep.slice clip b off cap sz xs f p0 p1 p2 p3 p4 p5 p6 p7).mono hle
 |ro b off cs f p0 p1 p2 p3 _ =>
  intro y hy;simp[AV.res] at hy;obtain⟨_,rfl⟩:=hy
  exact(Rep.ro b off cs f p0 p1 p2 p3).mono hle
 |nilp=>intro y hy;simp[AV.res,AV.pure] at hy;subst hy;exact .nilp
 |clo fn f1 c1 f2 c2 p0 p1 p2 p3 _ _ =>
  intro y hy;simp[AV.res] at hy;obtain⟨_,rfl⟩:=hy
  exact(Rep.clo fn f1 c1 f2 c2 p0 p1 p2 p3).mono hle
 |nilf=>intro y hy;simp[AV.res,AV.pure] at hy;subst hy;exact .nilf
 |nilm=>intro y hy;simp[AV.res,AV.pure] at hy;subst hy;exact .nilm
 |niface=>intro y hy;simp[AV.res,AV.pure] at hy;subst hy;exact .niface
 |iface t v x hx _ =>
  intro y hy;simp[AV.res] at hy;obtain⟨_,rfl⟩:=hy
  exact(Rep.iface t v x hx).mono hle
end Go.Proofs.YthjalhfmpffbjaaGreatDoor.Lg
namespace Go.Proofs.YthjalhfmpffbjaaGreatDoor.Lg
open Go
variable {P:Program}
def TS.resV(T:Tys P)(ts:TS):ResultVar→Option AV
 | .tmp t=>some (ts.tmp t)
 | .cell a ty=>match (T.ty ty).k with
  | .unk=>none
  |k=>match ts.ptr (ts.tmp a) with
   |some cs=>if k.agg then (if(T.ty ty).sz≤cs.length then some (.agg (cs.take (T.ty ty).sz)) else none) else (if 1≤cs.length then some (cs.getD 0 .any) else none)
   |none=>none
theorem Jqt{T:Tys P}{E:Env}{ts:TS}{G:Ghost}{a:Act}{w:World}(h:Rel E ts G a w){r:ResultVar}{x:AV}(hx:ts.resV T r=some x) :
  ∃v,((match r with|.tmp t=>pure (a.tmps.getD t undef)|.cell q t=>do loadVar t (←asAddr (a.tmps.getD q undef))):Sem Value).run P w=.ok v w∧Rep (Jb E G ts w) v x:=by
 cases r with
 |tmp t=>simp[TS.resV] at hx;subst hx;exact⟨_,rfl,h.tmp t⟩
 |cell q ty =>
  simp only[TS.resV] at hx
  split at hx
  ·cases hx
  ·rename_i hne
   have ht:(T.ty ty).k≠.unk:=by simpa using hne
   split at hx
   ·rename_i cs hp
    obtain⟨b,off,hv,hc⟩:=JjA h hp (h.tmp q)
    have e1:∀(v:Value),(loadVar ty ⟨b,off,none⟩).run P w=.ok v w→((do loadVar ty (←asAddr (a.tmps.getD q undef))):Sem Value).run P w=.ok v w:=fun v hl=>by
     rw[hv];simp[asAddr,hl]
    cases hag:(T.ty ty).k.agg with
    |false =>
     rw[hag] at hx
     simp only[Bool.false_eq_true,if_false] at hx
     split at hx
     ·rename_i hl
      cases hx
      obtain⟨u,hu,hrep⟩:=hc 0 (by omega)
      refine⟨u,e1 u ?_,by simpa using hrep⟩
      simp only[loadVar,Sem.run_bind,Tys.run_isAgg ht,Result.andThen_ok,hag,Bool.false_eq_true,if_false]
      simp[show w.cell? ⟨b,off,none⟩=some u from hu]
     ·cases hx
    |true =>
     rw[hag] at hx
     simp only[if_true] at hx
     split at hx
     ·rename_i hl
      cases hx
      let f:Nat→Value:=fun j=>(w.cell? ⟨b,off+j,none⟩).getD undef
      have hf:∀j,j<(T.ty ty).sz→w.cell? ((⟨b,off,none⟩:Addr).add j)=some (f j):=fun j hj=>by
       obtain⟨u,hu,_⟩:=hc j (by omega)
       rw[Addr.add0];simp[f,hu]
      have hload:=run_loadCells (P:=P) w ⟨b,off,none⟩ (T.ty ty).sz f hf
      refine⟨.agg ((List.range (T.ty ty).sz).map f).toArray,e1 _ ?_,.agg _ _ (by simp;omega) fun i=>?_⟩
      ·simp only[loadVar,Sem.run_bind,Tys.run_isAgg ht,Result.andThen_ok,hag,if_true,Tys.run_sizeOf ht,hload,Sem.run_pure]
      ·by_cases hi:i<(T.ty ty).sz
       ·obtain⟨u,hu,hrep⟩:=hc i (by omega)
        have e1:(((List.range (T.ty ty).sz).map f).toArray).getD i undef=u:=by simp[hi,f,hu]
        have e2:(cs.take (T.ty ty).sz).getD i .any=cs.getD i .any:=by simp[List.getElem?_take,hi]
        rw[e1,e2];exact hrep
       ·have e2:(cs.take (T.ty ty).sz).getD i .any=.any:=by simp[List.getElem?_take,hi]
        rw[e2];exact .any _
     ·cases hx
   ·cases hx
def TS.resVs(T:Tys P)(ts:TS):List ResultVar→Option (List AV)
 | []=>some []
 |r :: l=>match ts.resV T r,TS.resVs T ts l with
  |some x,some xs=>some (x :: xs)
  |_,_=>none
def TS.result(T:Tys P)(ts:TS)(l:List ResultVar):Option AV :=
 match l,ts.resVs T l with
 | [_],some [x]=>some x
 | [_],_=>none
 |_,some xs=>some (.tup xs)
 |_,none=>none
theorem JgM{T:Tys P}{E:Env}{ts:TS}{G:Ghost}{a:Act}{w:World}(h:Rel E ts G a w):∀(l:List ResultVar) (xs:List AV),ts.resVs T l=some xs →
  ∃vs:List Value,(l.mapM (fun r=>(match r with|.tmp t=>pure (a.tmps.getD t undef)|.cell q t=>do loadVar t (←asAddr (a.tmps.getD q undef)):Sem Value))).run P w=.ok vs w∧vs.length=l.length∧xs.length=l.length ∧
   ∀i,Rep (Jb E G ts w) (vs.getD i undef) (xs.getD i .any)
 | [],xs,hx=>by simp[TS.resVs] at hx;subst hx;exact⟨[],rfl,rfl,rfl,fun i=>by simp;exact .any _⟩
 |r :: l,xs,hx=>by
  simp only[TS.resVs] at hx
  split at hx
  ·rename_i x xs' h1 h2
   cases hx
   obtain⟨v,e1,e2⟩:=Jqt h h1
   obtain⟨vs,f1,f2,f3,f4⟩:=JgM h l xs' h2
   refine⟨v :: vs,?_,by simp[f2],by simp[f3],fun i=>?_⟩
   ·simp only[List.mapM_cons,Sem.run_bind,e1,Result.andThen_ok,f1,Sem.run_pure]
   ·cases i with
    |zero=>simpa using e2
    |succ i=>simpa using f4 i
  ·cases hx
theorem JgN{T:Tys P}{E:Env}{ts:TS}{G:Ghost}{a:Act}{w:World}(h:Rel E ts G a w){fn:Func}{x:AV}(hx:ts.result T fn.results.toList=some x) :
  ∃v,(results fn a.tmps).run P w=.ok v w∧Rep (Jb E G ts w) v x:=by
 unfold TS.result at hx
 unfold results
 split at hx
 ·rename_i r y hl hxs
  cases hx
  obtain⟨vs,f1,f2,f3,f4⟩:=JgM h _ _ hxs
  have hv:∃v,vs=[v]:=List.length_eq_one_iff.1 (by rw[f2,hl];rfl)
  obtain⟨v,rfl⟩:=hv
  refine⟨v,?_,by simpa using f4 0⟩
  rw[Sem.run_bind,Array.mapM_eq_mapM_toList,Sem.run_map]
  erw [f1]
  simp
 ·cases hx
 ·rename_i xs hxs _ hne
  cases hx
  obtain⟨vs,f1,f2,f3,f4⟩:=JgM h _ _ hxs
  have hlen:vs.toArray.size≠1:=by
   intro e
   have:fn.results.toList.length=1:=by rw[←f2];simpa using e
   obtain⟨r,hr⟩:=List.length_eq_one_iff.1 this
   exact hne r hr
  refine⟨.tuple vs.toArray,?_,.tup _ _ (by simp[f2,f3]) fun i=>by simpa using f4 i⟩
  rw[Sem.run_bind,Array.mapM_eq_mapM_toList,Sem.run_map]
  erw [f1]
  simp only[Result.andThen_ok,Sem.run_pure,dif_neg hlen]
 ·cases hx
def JcC(T:Tys P)(fn:Func)(args:List Arg)(R:Ret→(Nat→List AV)→Prop)(ex:Exit)(ts:TS):Prop :=
 (ex=.normal∨ex=.ret)∧∃x y io,ts.result T fn.results.toList=some x∧x.res ts=some y∧R (.val y) io ∧
  ∀j cs,args[j]?=some (.io cs)→ts.gen j=0∧ts.obj j=.box (io j)∧AV.pure.pureL (io j)=true
def Jg5(T:Tys P)(fn:Func)(args:List Arg)(R:Ret→(Nat→List AV)→Prop)(ex:Exit)(ts:TS):Prop :=
 (ex=.normal∨ex=.ret)∧∃d g sz xs io,ts.result T fn.results.toList=some (.os d g xs.length)∧g=ts.gen d∧ts.obj d=.arr sz xs∧AV.pure.pureL xs=true∧R (.own sz xs) io ∧
  ∀j cs,args[j]?=some (.io cs)→ts.gen j=0∧ts.obj j=.box (io j)∧AV.pure.pureL (io j)=true
theorem Jhp{E:Env}{G:Ghost}{args:List Arg}{vals:Array Value}{w:World}{n:Nat}(hn:args.length≤n)(h:Rel E (Jk args args.length) G ⟨vals,[]⟩ w) :
  Rel E (Jk args n) G ⟨vals++Array.replicate (n-vals.size) undef,[]⟩ w:=by
 have hs:vals.size=args.length:=h.size
 have hctx:Jb E G (Jk args n) w=Jb E G (Jk args args.length) w:=rfl
 refine⟨by simp[Jk];omega,rfl,fun t=>?_,fun d=>?_,h.sep,h.own,h.inF,h.bel,h.pin⟩
 ·rw[hctx]
  by_cases ht:t<vals.size
  ·have:=h.tmp t
   have e:(vals++Array.replicate (n-vals.size) undef).getD t undef=vals.getD t undef:=by
    simp only[Array.getD_eq_getD_getElem?,Array.getElem?_append,ht,if_true]
   rw[e];exact this
  ·have:(Jk args n).tmp t=.any:=by
    simp only[Jk]
    rw[List.getElem?_eq_none (by omega)]
   rw[this];exact .any _
 ·rw[hctx];exact h.obj d
theorem CallV.of_body{T:Tys P}{f:FuncId}{fn:Func}{c:Code}{args:List Arg}{R:Ret→(Nat→List AV)→Prop}(hcall:∀(vals:Array Value) (w:World),(callFunc f vals).run P w=.ok (.enter f vals) w)
  (hf:P.funcs[f]?=some fn) (hb:fn.body=some c) (hn:args.length≤fn.ntmps) (h:SpecC P c (Jk args fn.ntmps) (fun ex ts=>JcC T fn args R ex ts∨Jg5 T fn args R ex ts)):CallV P f args R:=by
 intro E G vals w hw hrel hpin
 rw[hcall]
 dsimp only
 refine calls_of_wp hf hb ?_
 have hs:vals.size=args.length:=hrel.size
 refine wp_mono (h E G _ w (Jhp hn hrel)) ?_
 rintro e a' w' ⟨ts',G',hq,hr'⟩
 rcases hq with ⟨hex,x,y,io,h1,h2,h3,h4⟩|⟨hex,d,g,sz,xs,io,h1,h2,h3,h4,h5,h6⟩
 ·obtain⟨v,hv,hrep⟩:=JgN hr' h1
  have hio:∀j b,E.pin j=some b→ts'.gen j=0∧ts'.obj j=.box (io j)∧AV.pure.pureL (io j)=true:=fun j b hj=>by
   obtain⟨cs,hcs⟩:=(hpin j).2 ⟨b,hj⟩;exact h4 j cs hcs
  have hrep':=Rep.res hr' (fun j b hj _=>⟨_,(hio j b hj).2.1⟩) hrep h2
  have hov:=hr'.over
  have hpost:bodyPost P fn (Post E R) e a' w':=by
   have key:a'.defers=[]∧∃v,(results fn a'.tmps).run P w'=.ok v w'∧Post E R (.returned v) w':=by
    refine⟨hr'.defers,v,hv,v,.val y,io,{ (ts'.over E) with n:=1,tmp:=fun t=>if t=0 then y else .any },G',rfl,h3,?_,?_,JgF ts' x y h2,by simp⟩
    ·refine⟨rfl,rfl,fun t=>?_,hov.obj,hov.sep,hov.own,hov.inF,hov.bel,hov.pin⟩
     show Rep (Jb E G' (ts'.over E) w') _ (if t=0 then y else .any)
     split
     ·rename_i e0;subst e0;exact hrep'
     ·exact .any _
    ·intro j b hj
     obtain⟨p1,p2,p3⟩:=hio j b hj
     refine⟨p1,?_,p3⟩
     show(if(E.pin j).isSome && ts'.gen j == 0 then ts'.obj j else .dead)=_
     simp[hj,p1,p2]
   rcases hex with rfl|rfl<;>exact key
  exact hpost
 ·obtain⟨v,hv,hrep⟩:=JgN hr' h1
  have hpost:bodyPost P fn (Post E R) e a' w':=by
   have key:a'.defers=[]∧∃v,(results fn a'.tmps).run P w'=.ok v w'∧Post E R (.returned v) w':=by
    refine⟨hr'.defers,v,hv,v,.own sz xs,io,{ ts' with n:=1,tmp:=fun t=>if t=0 then .os d g xs.length else .any },G',rfl,h5,?_,?_,d,g,by simp,h2.symm,h3,h4⟩
    ·refine⟨rfl,rfl,fun t=>?_,hr'.obj,hr'.sep,hr'.own,hr'.inF,hr'.bel,hr'.pin⟩
     show Rep (Jb E G' ts' w') _ (if t=0 then _ else .any)
     split
     ·rename_i e0;subst e0;exact hrep
     ·exact .any _
    ·intro j b hj
     obtain⟨cs,hcs⟩:=(hpin j).2 ⟨b,hj⟩
     exact h6 j cs hcs
   rcases hex with rfl|rfl<;>exact key
  exact hpost
end Go.Proofs.YthjalhfmpffbjaaGreatDoor.Lg
