/- Parts of the proof, one behind the other. -/
import Derived.Test.YtmjkjmoeicnbnaaGreatDoorG21
namespace Go.Proofs.YtmjkjmoeicnbnaaGreatDoor.Lg
set_option maxRecDepth 100000
set_option linter.unusedVariables false
set_option linter.unusedSimpArgs false
open Go
def earlyP (b D:List Res) (k:Int):List Res:=(tkind D k).filter fun r=>decide (keyOf r∈(reachR b).map keyOf)
def offK (G:List Key) (k:Int):List Key:=G.filter fun x=>decide (x.kind=k)
def freeK (a:List Res) (held G:List Key) (k:Int):List Key:=(offK G k).filter fun x=>!(decide (x∈held) || decide (0 < (referrers a x).length))
def candAt (a b:List Res) (held:List Key) (i:Nat):Step :=
 if i < 3 then ⟨3 - i,earlyP b (diffA a b) (3 - i),[]⟩
 else if i=3 then ⟨0,tkind (diffA a b) 0,offK (diffG a b) 0⟩
 else if i < 7 then ⟨7 - i,tkind (diffA a b) (7 - i),[]⟩
 else ⟨i - 6,[],freeK a held (diffG a b) (i - 6)⟩
def fullP (s:Step):Bool:=decide (0 < s.adds.length+s.gone.length)
def firstC (a b:List Res) (held:List Key):Nat→Nat→Option Step
 | 0,_=>none
 | n+1,i=>if fullP (candAt a b held i)=true then some (candAt a b held i) else firstC a b held n (i+1)
def nextP (a b:List Res) (held:List Key):Option Step:=firstC a b held 10 0
def applyP (a:List Res) (s:Step):List Res:=patchR a s.adds s.gone
def runP (b:List Res) (held:List Key):Nat→List Res→List Step
 | 0,_=>[]
 | n+1,a=>match nextP a b held with
  | none=>[]
  | some s=>s :: runP b held n (applyP a s)
theorem first_some {a b:List Res} {held:List Key} {s:Step}:∀ {n i:Nat},firstC a b held n i=some s→∃ j,i≤j∧j < i+n∧s=candAt a b held j∧fullP s=true∧∀ m,i≤m→m < j→fullP (candAt a b held m)=false
 | 0,i,h=>by cases h
 | n+1,i,h=>by
  unfold firstC at h
  split at h
  ·rename_i hf
   cases h
   exact ⟨i,Nat.le_refl _,by omega,rfl,hf,fun m h1 h2=>by omega⟩
  ·rename_i hf
   obtain ⟨j,h1,h2,h3,h4,h5⟩:=first_some h
   refine ⟨j,by omega,by omega,h3,h4,fun m m1 m2=>?_⟩
   by_cases hm:m=i
   ·rw [hm]; simpa using hf
   ·exact h5 m (by omega) m2
theorem first_none {a b:List Res} {held:List Key}:∀ {n i:Nat},firstC a b held n i=none→∀ m,i≤m→m < i+n→fullP (candAt a b held m)=false
 | 0,i,_,m,h1,h2=>by omega
 | n+1,i,h,m,h1,h2=>by
  unfold firstC at h
  split at h
  ·cases h
  ·rename_i hf
   by_cases hm:m=i
   ·rw [hm]; simpa using hf
   ·exact first_none h m (by omega) (by omega)
theorem mem_early {b D:List Res} {k:Int} {r:Res}:r∈earlyP b D k↔r∈D∧r.kind=k∧keyOf r∈(reachR b).map keyOf:=by
 unfold earlyP tkind
 rw [List.mem_filter,List.mem_filter,decide_eq_true_eq,decide_eq_true_eq,and_assoc]
theorem mem_tkind {D:List Res} {k:Int} {r:Res}:r∈tkind D k↔r∈D∧r.kind=k:=by
 unfold tkind
 rw [List.mem_filter,decide_eq_true_eq]
theorem mem_off {G:List Key} {k:Int} {x:Key}:x∈offK G k↔x∈G∧x.kind=k:=by
 unfold offK
 rw [List.mem_filter,decide_eq_true_eq]
theorem mem_free {a:List Res} {held G:List Key} {k:Int} {x:Key}:x∈freeK a held G k↔x∈G∧x.kind=k∧x ∉ held∧¬ ∃ r∈a,x∈refsR r:=by
 unfold freeK
 rw [List.mem_filter,mem_off,← ref_pos,and_assoc]
 simp
theorem early_sub (b D:List Res) (k:Int):(earlyP b D k).Sublist D:=List.filter_sublist.trans List.filter_sublist
theorem free_sub (a:List Res) (held G:List Key) (k:Int):(freeK a held G k).Sublist G:=List.filter_sublist.trans List.filter_sublist
theorem fullP_no {s:Step}:fullP s=false↔s.adds=[]∧s.gone=[]:=by
 unfold fullP
 rw [decide_eq_false_iff_not,← List.length_eq_zero_iff,← List.length_eq_zero_iff]
 omega
theorem cand_part {a b:List Res} (ha:Up (a.map keyOf)) (hb:Up (b.map keyOf)) (held:List Key) (i:Nat):Part a b (candAt a b held i).adds (candAt a b held i).gone:=by
 unfold candAt
 split
 ·exact ⟨ha,hb,early_sub _ _ _,List.nil_sublist _⟩
 ·split
  ·exact ⟨ha,hb,List.filter_sublist,List.filter_sublist⟩
  ·split
   ·exact ⟨ha,hb,List.filter_sublist,List.nil_sublist _⟩
   ·exact ⟨ha,hb,List.nil_sublist _,free_sub _ _ _ _⟩
theorem next_some {a b:List Res} {held:List Key} {s:Step} (h:nextP a b held=some s):∃ j,j < 10∧s=candAt a b held j∧fullP s=true∧∀ m,m < j→fullP (candAt a b held m)=false:=by
 obtain ⟨j,_,h2,h3,h4,h5⟩:=first_some h
 exact ⟨j,by omega,h3,h4,fun m hm=>h5 m (Nat.zero_le _) hm⟩
theorem next_none {a b:List Res} {held:List Key} (h:nextP a b held=none) (m:Nat) (hm:m < 10):fullP (candAt a b held m)=false:=first_none h m (Nat.zero_le _) (by omega)
theorem next_part {a b:List Res} {held:List Key} {s:Step} (ha:Up (a.map keyOf)) (hb:Up (b.map keyOf)) (h:nextP a b held=some s):Part a b s.adds s.gone:=by
 obtain ⟨j,_,h2,_⟩:=next_some h
 rw [h2]; exact cand_part ha hb held j
def Kin (l:List Res):Prop:=∀ r∈l,0≤r.kind∧r.kind≤3
theorem no_early {a b:List Res} {held:List Key} {i:Nat} (hi:i < 3) (h:fullP (candAt a b held i)=false) {r:Res} (hr:r∈diffA a b) (hk:r.kind=3 - i):keyOf r ∉ (reachR b).map keyOf:=fun hn=>by
 have:=(fullP_no.1 h).1
 rw [candAt,if_pos hi] at this
 have hm:r∈earlyP b (diffA a b) (3 - i):=mem_early.2 ⟨hr,hk,hn⟩
 dsimp only at this; rw [this] at hm; simp at hm
theorem no_door {a b:List Res} {held:List Key} (h:fullP (candAt a b held 3)=false):(∀ r∈diffA a b,r.kind≠0)∧∀ k∈diffG a b,k.kind≠0:=by
 obtain ⟨h1,h2⟩:=fullP_no.1 h
 rw [candAt,if_neg (by omega),if_pos rfl] at h1 h2
 refine ⟨fun r hr hk=>?_,fun k hr hk=>?_⟩
 ·have hm:r∈tkind (diffA a b) 0:=mem_tkind.2 ⟨hr,hk⟩
  dsimp only at h1; rw [h1] at hm; simp at hm
 ·have hm:k∈offK (diffG a b) 0:=mem_off.2 ⟨hr,hk⟩
  dsimp only at h2; rw [h2] at hm; simp at hm
theorem no_late {a b:List Res} {held:List Key} {i:Nat} (hi:3 < i∧i < 7) (h:fullP (candAt a b held i)=false) {r:Res} (hr:r∈diffA a b):r.kind≠7 - i:=fun hk=>by
 have:=(fullP_no.1 h).1
 rw [candAt,if_neg (by omega),if_neg (by omega),if_pos hi.2] at this
 have hm:r∈tkind (diffA a b) (7 - i):=mem_tkind.2 ⟨hr,hk⟩
 dsimp only at this; rw [this] at hm; simp at hm
theorem no_free {a b:List Res} {held:List Key} {i:Nat} (hi:7≤i) (h:fullP (candAt a b held i)=false) {k:Key} (hr:k∈diffG a b) (hk:k.kind=i - 6):k∈held∨∃ r∈a,k∈refsR r:=Classical.byContradiction fun hn=>by
 rw [not_or] at hn
 have:=(fullP_no.1 h).2
 rw [candAt,if_neg (by omega),if_neg (by omega),if_neg (by omega)] at this
 have hm:k∈freeK a held (diffG a b) (i - 6):=mem_free.2 ⟨hr,hk,hn.1,hn.2⟩
 dsimp only at this; rw [this] at hm; simp at hm
theorem none_A {a b:List Res} {held:List Key} (ha:Up (a.map keyOf)) (hb:Kin b) (h:nextP a b held=none):diffA a b=[]:=by
 rw [List.eq_nil_iff_forall_not_mem]
 intro r hr
 have hk:=hb r ((mem_diffA ha).1 hr).1
 have h0:=(no_door (next_none h 3 (by omega))).1 r hr
 have h1:=no_late (i:=6) (by omega) (next_none h 6 (by omega)) hr
 have h2:=no_late (i:=5) (by omega) (next_none h 5 (by omega)) hr
 have h3:=no_late (i:=4) (by omega) (next_none h 4 (by omega)) hr
 omega
theorem kin_key {a:List Res} (ha:Kin a) {k:Key} (h:k∈a.map keyOf):0≤k.kind∧k.kind≤3:=by
 obtain ⟨r,hr,rfl⟩:=List.mem_map.1 h
 exact ha r hr
theorem none_G {a b:List Res} {held:List Key} (ha:Kin a) (h:nextP a b held=none) {k:Key} (hk:k∈diffG a b):k.kind≠0∧(k∈held∨∃ r∈a,k∈refsR r):=by
 have hr:=kin_key ha (mem_diffG.1 hk).1
 have h0:=(no_door (next_none h 3 (by omega))).2 k hk
 refine ⟨h0,?_⟩
 by_cases h1:k.kind=1
 ·exact no_free (i:=7) (by omega) (next_none h 7 (by omega)) hk (by omega)
 ·by_cases h2:k.kind=2
  ·exact no_free (i:=8) (by omega) (next_none h 8 (by omega)) hk (by omega)
  ·exact no_free (i:=9) (by omega) (next_none h 9 (by omega)) hk (by omega)
inductive Chain (b:List Res) (held:List Key):List Res→List Step→List Res→Prop
 | nil (a:List Res):nextP a b held=none→Chain b held a [] a
 | cons (a:List Res) (s:Step) (l:List Step) (e:List Res):nextP a b held=some s→Chain b held (applyP a s) l e→Chain b held a (s :: l) e
theorem full_pos {s:Step} (h:fullP s=true):0 < s.adds.length+s.gone.length:=by simpa [fullP] using h
theorem next_less {a b:List Res} {held:List Key} {s:Step} (ha:Up (a.map keyOf)) (hb:Up (b.map keyOf)) (h:nextP a b held=some s) :
  (diffA (applyP a s) b).length+s.adds.length=(diffA a b).length∧(diffG (applyP a s) b).length+s.gone.length=(diffG a b).length∧0 < s.adds.length+s.gone.length∧Up ((applyP a s).map keyOf):=by
 have hp:=next_part ha hb h
 obtain ⟨_,_,_,h4,_⟩:=next_some h
 exact ⟨hp.lenA,hp.lenG,full_pos h4,hp.up⟩
theorem run_chain {b:List Res} {held:List Key} (hb:Up (b.map keyOf)):∀ (n:Nat) (a:List Res),Up (a.map keyOf)→(diffA a b).length+(diffG a b).length < n→∃ e,Chain b held a (runP b held n a) e
 | 0,a,_,h=>by omega
 | n+1,a,ha,h=>by
  unfold runP
  cases hn:nextP a b held with
  | none=>exact ⟨a,.nil a hn⟩
  | some s =>
   obtain ⟨h1,h2,h3,h4⟩:=next_less ha hb hn
   obtain ⟨e,he⟩:=run_chain (held:=held) hb n (applyP a s) h4 (by omega)
   exact ⟨e,.cons a s _ e hn he⟩
theorem chain_size {b:List Res} {held:List Key} (hb:Up (b.map keyOf)) {a e:List Res} {l:List Step} (h:Chain b held a l e) (ha:Up (a.map keyOf)):l.length≤(diffA a b).length+(diffG a b).length:=by
 induction h with
 | nil a h=>simp
 | cons a s l e h1 _ ih =>
  obtain ⟨q1,q2,q3,q4⟩:=next_less ha hb h1
  have:=ih q4
  simp only [List.length_cons]
  omega
theorem end_eq {a b:List Res} (ha:Up (a.map keyOf)) (hb:Up (b.map keyOf)) (ka:Kin a) (kb:Kin b) (hm:∀ r∈b,∀ k∈refsR r,k∈b.map keyOf) (h:nextP a b []=none):a=b:=by
 have hA:=none_A ha kb h
 have hba:∀ x∈b,x∈a:=fun x hx=>Classical.byContradiction fun hn=>by
  have:=(mem_diffA ha).2 ⟨hx,hn⟩
  rw [hA] at this; simp at this
 have key:∀ n:Nat,∀ k:Key,k.kind=n→k ∉ diffG a b:=by
  intro n
  induction n with
  | zero=>exact fun k hk hg=>(none_G ka h hg).1 hk
  | succ n ih =>
   intro k hk hg
   rcases (none_G ka h hg).2 with h'|⟨r,hr,hrk⟩
   ·simp at h'
   ·have hl:=refs_lo hrk
    have hrb:keyOf r∈b.map keyOf:=Classical.byContradiction fun hn=>ih (keyOf r) (by show r.kind=n; omega) (mem_diffG.2 ⟨List.mem_map_of_mem hr,hn⟩)
    obtain ⟨y,hy,e⟩:=List.mem_map.1 hrb
    have:=key_inj (up_nodup ha) (hba y hy) hr e
    subst this
    exact (mem_diffG.1 hg).2 (hm y hy k hrk)
 refine res_ext ha hb fun x=>⟨fun hx=>?_,hba x⟩
 have hk:keyOf x∈b.map keyOf:=Classical.byContradiction fun hn=>by
  have hg:=mem_diffG.2 ⟨List.mem_map_of_mem hx,hn⟩
  obtain ⟨h1,h2⟩:=ka x hx
  exact key x.kind.toNat (keyOf x) (by show x.kind=_; omega) hg
 obtain ⟨y,hy,e⟩:=List.mem_map.1 hk
 rw [← key_inj (up_nodup ha) (hba y hy) hx e]; exact hy
end Go.Proofs.YtmjkjmoeicnbnaaGreatDoor.Lg
