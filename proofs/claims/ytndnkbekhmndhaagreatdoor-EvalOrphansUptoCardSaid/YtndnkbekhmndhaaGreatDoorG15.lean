/- Parts of the proof, one behind the other. -/
import Derived.Test.YtndnkbekhmndhaaGreatDoorG14
namespace Go.Proofs.YtndnkbekhmndhaaGreatDoor.Lg
set_option maxRecDepth 100000
set_option linter.unusedVariables false
set_option linter.unusedSimpArgs false
open Go
variable {P : Program}
theorem Ent.frzBox (ts : TS) (d : Nat) : Ent ts (ts.frzBox d) := fun E G a w hr => ⟨G, hr.frzBox d⟩
@[go_sem] theorem frzAll_ro (ts : TS) (cs r : List AV) : ts.frzAll (.ro cs :: r) = ts.frzAll r := rfl
theorem Ent.frzM {ts : TS} (d j : Nat) {q : List AV × List AV} {e g len : Nat} {p : Nat × List AV} (h1 : (ts.obj d).mp? = some q) (h2 : q.2.getD j .any = .os e g len) (h3 : (ts.obj e).arr? = some p) (h4 : (g = ts.gen e ∧ len = p.2.length) ∧ e ≠ d) :
    Ent ts ((ts.kill e).setObj d (.mp q.1 (q.2.set j (.slice false p.2)))) := fun E G a w hr => by
  have ho := mp?_some h1
  have ha := arr?_some h3
  obtain ⟨⟨hg, rfl⟩, hne⟩ := h4
  have hk := hr.kill e
  refine ⟨G, ?_⟩
  have hob := hk.obj d
  have hod : (ts.kill e).obj d = .mp q.1 q.2 := by simp [TS.kill, TS.setObj, upd, hne.symm, ho]
  rw [hod] at hob
  obtain ⟨hκ, es, cl, b1, b2, b3, b4, b5, b6⟩ := hob
  have hlive : liveR (ts.kill e) G d := ⟨by simp [hod, Ob.kind], hκ⟩
  refine hk.setObj d _ (by simp [hod, Ob.kind]) hlive rfl rfl rfl rfl (fun _ _ => rfl) ?_
  have hle : (ctxOf E G (ts.kill e) w).Le (ctxOf E G ((ts.kill e).setObj d (.mp q.1 (q.2.set j (.slice false p.2)))) w) := le_setObj E G _ w w d _ (by simp [hod, Ob.kind]) hlive (fun _ _ => rfl)
  refine ⟨hκ, es, cl, b1, b2, by simp [b3], fun i => (b4 i).mono hle, fun i => ?_, b6⟩
  by_cases hi : j = i
  · subst hi
    by_cases hl : j < q.2.length
    · have e1 : (q.2.set j (.slice false p.2)).getD j .any = .slice false p.2 := by simp [hl]
      rw [e1]
      have hob0 := hr.obj d
      rw [ho] at hob0
      obtain ⟨_, es', cl', c1, _, _, _, c5, _⟩ := hob0
      have he : es' = es ∧ cl' = cl := by
        have := c1.symm.trans b1
        simp only [Option.some.injEq, Obj.map.injEq] at this
        exact this
      obtain ⟨rfl, rfl⟩ := he
      have hv := c5 j
      rw [h2] at hv
      have := Rep.frozen hr hv hg ha (Nat.le_refl _)
      rw [List.take_length] at this
      exact this.mono hle
    · rw [getD_past (by simp; omega)]; exact .any _
  · have e1 : (q.2.set j (.slice false p.2)).getD i .any = q.2.getD i .any := by simp [List.getElem?_set, hi]
    rw [e1]; exact (b5 i).mono hle
def frzQ (q : Option (List AV × List AV)) (p : Option (Nat × List AV)) (ts : TS) (d j e : Nat) : TS :=
  match q, p with
  | some q, some p => (ts.kill e).setObj d (.mp q.1 (q.2.set j (.slice false p.2)))
  | _, _ => ts
def TS.frzMp (ts : TS) (d j e : Nat) : TS := frzQ (ts.obj d).mp? (ts.obj e).arr? ts d j e
def frzC (q : Option (List AV × List AV)) (p : Option (Nat × List AV)) (ts : TS) (d j e : Nat) : Prop :=
  match q, p with
  | some q, some p => q.2.getD j .any = .os e (ts.gen e) p.2.length ∧ e ≠ d
  | _, _ => False
@[go_sem] theorem frzMp_eq (ts : TS) (d j e : Nat) : ts.frzMp d j e = frzQ (ts.obj d).mp? (ts.obj e).arr? ts d j e := rfl
@[go_sem] theorem frzQ_some (q : List AV × List AV) (p : Nat × List AV) (ts : TS) (d j e : Nat) : frzQ (some q) (some p) ts d j e = (ts.kill e).setObj d (.mp q.1 (q.2.set j (.slice false p.2))) := rfl
@[go_sem] theorem frzC_some (q : List AV × List AV) (p : Nat × List AV) (ts : TS) (d j e : Nat) : frzC (some q) (some p) ts d j e = (q.2.getD j .any = .os e (ts.gen e) p.2.length ∧ e ≠ d) := rfl
theorem Ent.frzM2 {ts : TS} (d j e : Nat) (h : frzC (ts.obj d).mp? (ts.obj e).arr? ts d j e) : Ent ts (ts.frzMp d j e) := by
  unfold TS.frzMp
  cases hq : (ts.obj d).mp? with
  | none => rw [hq] at h; exact h.elim
  | some q => cases hp : (ts.obj e).arr? with
    | none => rw [hq, hp] at h; exact h.elim
    | some p =>
      rw [hq, hp] at h
      exact Ent.frzM d j hq h.1 hp ⟨⟨rfl, rfl⟩, h.2⟩
def recV (f : FuncId) (x y z : AV) : Nat → AV
  | 0 => .any
  | n + 1 => .ro [.clo (.func f) [] [x, y, z, recV f x y z n]]
theorem recV_succ (f : FuncId) (x y z : AV) (n : Nat) : recV f x y z (n + 1) = .ro [.clo (.func f) [] [x, y, z, recV f x y z n]] := rfl
theorem renM_recV (f : FuncId) (x y z : AV) (d g H n : Nat) (hx : x.pure = true) (hz : z.pure = true) : (recV f x y z n).renM d g H = recV f x (y.renM d g H) z n := by
  induction n with
  | zero => rfl
  | succ n ih => simp only [recV, AV.renM, AV.renM.renML, ih, renM_of_pure d g H x hx, renM_of_pure d g H z hz]
theorem pureH_recV (f : FuncId) (x y z : AV) (d g n : Nat) (hx : x.pure = true) (hy : y.pureH d g = true) (hz : z.pure = true) : (recV f x y z n).pureH d g = true := by
  induction n with
  | zero => rfl
  | succ n ih => simp only [recV, AV.pureH, AV.pureH.pureHL, ih, pureH_of_pure d g x hx, hy, pureH_of_pure d g z hz, Bool.and_self]
def recR (dx gx dy gy dz gz dv gv : Nat) (a b c v : AV) (x : AV) : AV :=
  match x with
  | .ref d g off => if d = dx ∧ g = gx ∧ off = 0 then .ro [a] else if d = dy ∧ g = gy ∧ off = 0 then .ro [b] else if d = dz ∧ g = gz ∧ off = 0 then .ro [c] else if d = dv ∧ g = gv ∧ off = 0 then v else .ref d g off
  | x => x
def TS.recT (ts : TS) (dx dy dz dv : Nat) (x y z v : AV) : TS :=
  { ((((ts.kill dx).kill dy).kill dz).kill dv) with tmp := fun t => recR dx (ts.gen dx) dy (ts.gen dy) dz (ts.gen dz) dv (ts.gen dv) x y z v (ts.tmp t) }
section
variable (ts : TS) (dx dy dz dv : Nat) (x y z v : AV)
@[go_sem] theorem recT_n : (ts.recT dx dy dz dv x y z v).n = ts.n := rfl
@[go_sem] theorem recT_gen (e : Nat) : (ts.recT dx dy dz dv x y z v).gen e = ts.gen e := rfl
@[go_sem] theorem recT_tmp (t : Nat) : (ts.recT dx dy dz dv x y z v).tmp t = recR dx (ts.gen dx) dy (ts.gen dy) dz (ts.gen dz) dv (ts.gen dv) x y z v (ts.tmp t) := rfl
@[go_sem] theorem recT_obj (e : Nat) : (ts.recT dx dy dz dv x y z v).obj e = if e = dv then .dead else if e = dz then .dead else if e = dy then .dead else if e = dx then .dead else ts.obj e := by
  simp only [TS.recT, TS.kill, TS.setObj, upd]
variable (gx gy gz gv : Nat)
@[go_sem] theorem recR_ref (d g o : Nat) : recR dx gx dy gy dz gz dv gv x y z v (.ref d g o) = if d = dx ∧ g = gx ∧ o = 0 then .ro [x] else if d = dy ∧ g = gy ∧ o = 0 then .ro [y] else if d = dz ∧ g = gz ∧ o = 0 then .ro [z] else if d = dv ∧ g = gv ∧ o = 0 then v else .ref d g o := rfl
@[go_sem] theorem recR_any : recR dx gx dy gy dz gz dv gv x y z v .any = .any := rfl
@[go_sem] theorem recR_bool (b : Bool) : recR dx gx dy gy dz gz dv gv x y z v (.bool b) = .bool b := rfl
@[go_sem] theorem recR_int (k : IntKind) (n : Int) : recR dx gx dy gy dz gz dv gv x y z v (.int k n) = .int k n := rfl
@[go_sem] theorem recR_str (s : List UInt8) : recR dx gx dy gy dz gz dv gv x y z v (.str s) = .str s := rfl
@[go_sem] theorem recR_agg (l : List AV) : recR dx gx dy gy dz gz dv gv x y z v (.agg l) = .agg l := rfl
@[go_sem] theorem recR_tup (l : List AV) : recR dx gx dy gy dz gz dv gv x y z v (.tup l) = .tup l := rfl
@[go_sem] theorem recR_slice (c : Bool) (l : List AV) : recR dx gx dy gy dz gz dv gv x y z v (.slice c l) = .slice c l := rfl
@[go_sem] theorem recR_ro (l : List AV) : recR dx gx dy gy dz gz dv gv x y z v (.ro l) = .ro l := rfl
@[go_sem] theorem recR_clo (f : Fn) (a b : List AV) : recR dx gx dy gy dz gz dv gv x y z v (.clo f a b) = .clo f a b := rfl
@[go_sem] theorem recR_nilm : recR dx gx dy gy dz gz dv gv x y z v .nilm = .nilm := rfl
@[go_sem] theorem recR_mp (a b : List AV) : recR dx gx dy gy dz gz dv gv x y z v (.mp a b) = .mp a b := rfl
@[go_sem] theorem recR_mref (d g : Nat) : recR dx gx dy gy dz gz dv gv x y z v (.mref d g) = .mref d g := rfl
@[go_sem] theorem recR_os (d g n : Nat) : recR dx gx dy gy dz gz dv gv x y z v (.os d g n) = .os d g n := rfl
end
theorem Rep.box1 {E : Env} {ts : TS} {G : Ghost} {a : Act} {w : World} (h : Rel E ts G a w) {c' : Ctx} (hle : (ctxOf E G ts w).Le c') {d g : Nat} {x : AV} {v : Value} (hv : Rep (ctxOf E G ts w) v (.ref d g 0)) (hg : g = ts.gen d) (ho : ts.obj d = .box [x]) (hM : ¬ c'.M (G.β d)) (hw : c'.w = w) : Rep c' v (.ro [x]) := by
  have hv := (rep_ref hv).2.2 hg (by simp [ctxOf, ho, Ob.kind])
  have hob := h.obj d
  rw [ho] at hob
  obtain ⟨hκ, vs, T, hheap, hsize, hcell⟩ := hob
  rw [hv]
  refine .ro _ 0 _ (fun j => vs.getD j undef) (by simp) hM (fun j hj => ?_) fun j => (hcell j).mono hle
  rw [hw, Nat.zero_add]
  exact cell_of hheap (by simp at hsize hj; omega)
theorem Ent.frzRec {ts : TS} (f : FuncId) (n dx dy dz dv : Nat) {x y z : AV} (hx : (ts.obj dx).box? = some [x]) (hy : (ts.obj dy).box? = some [y]) (hz : (ts.obj dz).box? = some [z])
    (hv : (ts.obj dv).box? = some [.clo (.func f) [] [.ref dx (ts.gen dx) 0, .ref dy (ts.gen dy) 0, .ref dz (ts.gen dz) 0, .ref dv (ts.gen dv) 0]]) :
    Ent ts (ts.recT dx dy dz dv x y z (recV f (.ro [x]) (.ro [y]) (.ro [z]) n)) := fun E G a w hr => by
  have hx := box?_some hx
  have hy := box?_some hy
  have hz := box?_some hz
  have hv := box?_some hv
  refine ⟨G, ?_⟩
  have hk := (((hr.kill dx).kill dy).kill dz).kill dv
  have hle : (ctxOf E G ts w).Le (ctxOf E G ((((ts.kill dx).kill dy).kill dz).kill dv) w) := by
    have h1 := le_kill E G ts w dx
    have h2 := le_kill E G (ts.kill dx) w dy
    have h3 := le_kill E G ((ts.kill dx).kill dy) w dz
    have h4 := le_kill E G (((ts.kill dx).kill dy).kill dz) w dv
    refine ⟨fun b hM hlt => ?_, fun d => Nat.le_refl _, fun d k hg hk => ?_⟩
    · exact ⟨rfl, (h4.blk b (h3.blk b (h2.blk b (h1.blk b hM hlt).2 hlt).2 hlt).2 hlt).2⟩
    · obtain ⟨p1, p2, p3⟩ := h4.kind d k hg hk
      obtain ⟨q1, q2, q3⟩ := h3.kind d k hg p1
      obtain ⟨r1, r2, r3⟩ := h2.kind d k hg q1
      obtain ⟨s1, s2, s3⟩ := h1.kind d k hg r1
      exact ⟨s1, rfl, rfl⟩
  have hdead : ∀ d, d = dx ∨ d = dy ∨ d = dz ∨ d = dv → ts.obj d ≠ .dead → ¬ (ctxOf E G ((((ts.kill dx).kill dy).kill dz).kill dv) w).M (G.β d) := fun d hd hob hM => by
    have hlive : liveR ts G d := by
      have := hr.obj d
      rcases hd with rfl | rfl | rfl | rfl
      · rw [hx] at this; exact ⟨by simp [hx, Ob.kind], this.1⟩
      · rw [hy] at this; exact ⟨by simp [hy, Ob.kind], this.1⟩
      · rw [hz] at this; exact ⟨by simp [hz, Ob.kind], this.1⟩
      · rw [hv] at this; exact ⟨by simp [hv, Ob.kind], this.1⟩
    rcases hM with hF | ⟨e, he, hb⟩
    · exact (hr.own d hlive).2.1 hF
    · obtain ⟨n4, l4⟩ := liveR_kill he
      obtain ⟨n3, l3⟩ := liveR_kill l4
      obtain ⟨n2, l2⟩ := liveR_kill l3
      obtain ⟨n1, l1⟩ := liveR_kill l2
      have := hr.sep e d l1 hlive hb
      subst this
      rcases hd with rfl | rfl | rfl | rfl
      · exact n1 rfl
      · exact n2 rfl
      · exact n3 rfl
      · exact n4 rfl
  have kx : ∀ {v}, Rep (ctxOf E G ts w) v (.ref dx (ts.gen dx) 0) → Rep (ctxOf E G ((((ts.kill dx).kill dy).kill dz).kill dv) w) v (.ro [x]) := fun h => Rep.box1 hr hle h rfl hx (hdead dx (.inl rfl) (by simp [hx])) rfl
  have ky : ∀ {v}, Rep (ctxOf E G ts w) v (.ref dy (ts.gen dy) 0) → Rep (ctxOf E G ((((ts.kill dx).kill dy).kill dz).kill dv) w) v (.ro [y]) := fun h => Rep.box1 hr hle h rfl hy (hdead dy (.inr (.inl rfl)) (by simp [hy])) rfl
  have kz : ∀ {v}, Rep (ctxOf E G ts w) v (.ref dz (ts.gen dz) 0) → Rep (ctxOf E G ((((ts.kill dx).kill dy).kill dz).kill dv) w) v (.ro [z]) := fun h => Rep.box1 hr hle h rfl hz (hdead dz (.inr (.inr (.inl rfl))) (by simp [hz])) rfl
  have kv : ∀ (n : Nat) {v}, Rep (ctxOf E G ts w) v (.ref dv (ts.gen dv) 0) → Rep (ctxOf E G ((((ts.kill dx).kill dy).kill dz).kill dv) w) v (recV f (.ro [x]) (.ro [y]) (.ro [z]) n) := by
    intro n
    induction n with
    | zero => exact fun _ => .any _
    | succ n ih =>
      intro v h
      have hv' := (rep_ref h).2.2 rfl (by simp [ctxOf, hv, Ob.kind])
      have hob := hr.obj dv
      rw [hv] at hob
      obtain ⟨hκ, vs, T, hheap, hsize, hcell⟩ := hob
      rw [hv', recV_succ]
      have h0 := hcell 0
      simp only [List.getD_cons_zero] at h0
      refine .ro _ 0 _ (fun j => if j = 0 then vs.getD 0 undef else undef) (by simp) (hdead dv (.inr (.inr (.inr rfl))) (by simp [hv])) (fun j hj => ?_) fun j => ?_
      · have : j = 0 := by simpa using hj
        subst this
        rw [Nat.add_zero]
        exact cell_of hheap (by simp at hsize; omega)
      · split
        · rename_i hj
          subst hj
          simp only [List.getD_cons_zero]
          generalize vs.getD 0 undef = u at h0
          cases h0 with
          | clo _ f1 c1 _ _ p0 p1 p2 p3 =>
            refine .clo _ _ _ _ _ p0 (by simpa using p1) (fun i => by simp; exact .any _) fun i => ?_
            match i with
            | 0 => exact kx (by simpa using p3 0)
            | 1 => exact ky (by simpa using p3 1)
            | 2 => exact kz (by simpa using p3 2)
            | 3 => exact ih (by simpa using p3 3)
            | i + 4 => simp; exact .any _
        · rename_i hj
          have : ([.clo (.func f) [] [.ro [x], .ro [y], .ro [z], recV f (.ro [x]) (.ro [y]) (.ro [z]) n]] : List AV).getD j .any = .any := by
            obtain ⟨i, rfl⟩ : ∃ i, j = i + 1 := ⟨j - 1, by omega⟩
            simp
          rw [this]; exact .any _
  refine ⟨hk.size, hk.defers, fun t => ?_, hk.obj, hk.sep, hk.own, hk.inF, hk.bel, hk.pin⟩
  show Rep (ctxOf E G ((((ts.kill dx).kill dy).kill dz).kill dv) w) (a.tmps.getD t undef) (recR _ _ _ _ _ _ _ _ x y z _ (ts.tmp t))
  have h1 := hr.tmp t
  have h2 := hk.tmp t
  have h2 : Rep (ctxOf E G ((((ts.kill dx).kill dy).kill dz).kill dv) w) (a.tmps.getD t undef) (ts.tmp t) := h2
  generalize ts.tmp t = u at h1 h2
  unfold recR
  split
  · rename_i d g off
    split
    · rename_i hc; obtain ⟨rfl, rfl, rfl⟩ := hc; exact kx h1
    · split
      · rename_i hc; obtain ⟨rfl, rfl, rfl⟩ := hc; exact ky h1
      · split
        · rename_i hc; obtain ⟨rfl, rfl, rfl⟩ := hc; exact kz h1
        · split
          · rename_i hc; obtain ⟨rfl, rfl, rfl⟩ := hc; exact kv n h1
          · exact h2
  · exact h2
theorem SpecC.mkRec (T : Tys P) (id : Nat) {d : Nat} {fn : Fn} {caps : List Operand} {ty : TypeId} {pos : String} {after : Array Edge} {l : List Oper} {ts : TS} {Q : Exit → TS → Prop}
    (h : ∀ K, NxK (fun ts' => Q .normal ts') K → d < ts.n ∧ wOps T (⟨some d, .makeFunc fn #[] (List.toArray caps), ty, pos, after, none⟩ :: l) l K (ts.put d (.clo fn [] (caps.map ts.ev)))) :
    SpecC P (.region id (List.toArray (⟨some d, .makeFunc fn #[] (List.toArray caps), ty, pos, after, none⟩ :: l)) false) ts Q := by
  obtain ⟨h1, h2⟩ := h _ ⟨fun _ h => h⟩
  refine SpecC.region ?_
  show SpecOs P (List.toArray (⟨some d, .makeFunc fn #[] (List.toArray caps), ty, pos, after, none⟩ :: l)) _ (⟨some d, .makeFunc fn #[] (List.toArray caps), ty, pos, after, none⟩ :: l) ts
  unfold SpecOs SpecG
  refine SpecO.makeFunc (fn := fn) (first := #[]) (caps := List.toArray caps) rfl ⟨h1, ?_⟩
  have := wOps.sound (P := P) h2
  simpa using this
end Go.Proofs.YtndnkbekhmndhaaGreatDoor.Lg
