/- What an operation asks of the state: of the slots that it reads, and of the objects that these point to, alone. -/
import Derived.Test.YtjmnokbbodcaaaaLg22
namespace Go.Proofs.Ytjmnokbbodcaaaa.Lg
set_option linter.unusedVariables false
set_option linter.unusedSimpArgs false
open Go
variable {P : Program}

def vOk (bad : List Nat) : AV → Bool
  | .os d _ _ => !bad.contains d
  | .ref d _ _ => !bad.contains d
  | .eref d _ _ _ => !bad.contains d
  | .ot d _ _ _ => !bad.contains d
  | .agg cs => vOkL cs
  | .tup cs => vOkL cs
  | .clo _ a b => vOkL a && vOkL b
  | _ => true
where vOkL : List AV → Bool
  | [] => true
  | x :: r => vOk bad x && vOkL r

def xOk (bad : List Nat) (F : TS) : Operand → Bool
  | .tmp t => !bad.contains t && vOk bad (F.tmp t)
  | _ => true

section mix
variable {bad : List Nat} {J F : TS}
theorem ev_mix {x : Operand} (h : xOk bad F x = true) : (mix bad J F).ev x = F.ev x := by
  cases x with
  | tmp t =>
    simp only [xOk, Bool.and_eq_true, Bool.not_eq_true'] at h
    exact (mix_out h.1).1
  | _ => rfl
theorem vOk_ev {x : Operand} (h : xOk bad F x = true) : vOk bad (F.ev x) = true := by
  cases x with
  | tmp t => simp only [xOk, Bool.and_eq_true] at h; exact h.2
  | const v => simp only [TS.ev]; unfold ofV; split <;> rfl
  | func f => rfl
  | global g => rfl
theorem gen_out {d : Nat} (h : bad.contains d = false) : (mix bad J F).gen d = F.gen d := (mix_out h).2.1
theorem obj_out {d : Nat} (h : bad.contains d = false) : (mix bad J F).obj d = F.obj d := (mix_out h).2.2
theorem ptr_mix {x : AV} (h : vOk bad x = true) : (mix bad J F).ptr x = F.ptr x := by
  cases x with
  | ref d g off => simp only [vOk, Bool.not_eq_true'] at h; simp only [TS.ptr, gen_out h, obj_out h]
  | eref d g i o => simp only [vOk, Bool.not_eq_true'] at h; simp only [TS.ptr, gen_out h, obj_out h]
  | _ => rfl
theorem live_mix {d g : Nat} (h : bad.contains d = false) : (mix bad J F).live d g = F.live d g := by simp only [TS.live, gen_out h, obj_out h]
theorem shift_mix {x : AV} {o : Nat} (h : vOk bad x = true) : (mix bad J F).shift x o = F.shift x o := by
  cases x with
  | ref d g off => simp only [vOk, Bool.not_eq_true'] at h; simp only [TS.shift, live_mix h]
  | eref d g i o => simp only [vOk, Bool.not_eq_true'] at h; simp only [TS.shift, live_mix h]
  | _ => rfl
theorem sl_mix {x : AV} (h : vOk bad x = true) : (mix bad J F).sl x = F.sl x := by
  cases x with
  | os d g len => simp only [vOk, Bool.not_eq_true'] at h; simp only [TS.sl, gen_out h, obj_out h]
  | ot d g o len => simp only [vOk, Bool.not_eq_true'] at h; simp only [TS.sl, gen_out h, obj_out h]
  | _ => rfl
theorem len_mix {x : AV} (h : vOk bad x = true) : (mix bad J F).len x = F.len x := by
  cases x with
  | os d g len => simp only [vOk, Bool.not_eq_true'] at h; simp only [TS.len, live_mix h]
  | ot d g o len => simp only [vOk, Bool.not_eq_true'] at h; simp only [TS.len, live_mix h]
  | _ => rfl
theorem at_mix {x : AV} {sz : Nat} {n : Int} (h : vOk bad x = true) : (mix bad J F).at x sz n = F.at x sz n := by
  cases x with
  | os d g len => simp only [vOk, Bool.not_eq_true'] at h; simp only [TS.at, gen_out h, obj_out h]
  | ot d g o len => simp only [vOk, Bool.not_eq_true'] at h; simp only [TS.at, gen_out h, obj_out h]
  | _ => rfl
theorem poke_mix {x : AV} {ys : List AV} (h : vOk bad x = true) : (mix bad J F).poke x ys = F.poke x ys := by
  cases x with
  | ref d g off => simp only [vOk, Bool.not_eq_true'] at h; simp only [TS.poke, gen_out h, obj_out h]
  | eref d g i o => simp only [vOk, Bool.not_eq_true'] at h; simp only [TS.poke, gen_out h, obj_out h]
  | _ => rfl
theorem optI_mix {x : Option Operand} {d : Int} (h : ∀ y, x = some y → xOk bad F y = true) : (mix bad J F).optI x d = F.optI x d := by
  cases x with
  | none => rfl
  | some y => simp only [TS.optI, ev_mix (h y rfl)]
mutual
theorem res_mix : ∀ (x : AV), vOk bad x = true → x.res (mix bad J F) = x.res F
  | .os d g len, h => by simp only [vOk, Bool.not_eq_true'] at h; simp only [AV.res, gen_out h, obj_out h]
  | .agg cs, h => by simp only [vOk] at h; simp only [AV.res, resL_mix cs h]
  | .tup cs, h => by simp only [vOk] at h; simp only [AV.res, resL_mix cs h]
  | .any, _ | .bool _, _ | .int _ _, _ | .str _, _ | .slice _ _, _ | .ro _, _ | .nilp, _ | .clo _ _ _, _ | .nilf, _ | .nilm, _ | .niface, _ | .iface _ _, _ | .ref _ _ _, _ | .eref _ _ _ _, _ | .ot _ _ _ _, _ => rfl
theorem resL_mix : ∀ (l : List AV), vOk.vOkL bad l = true → AV.res.resL (mix bad J F) l = AV.res.resL F l
  | [], _ => rfl
  | x :: r, h => by
    simp only [vOk.vOkL, Bool.and_eq_true] at h
    simp only [AV.res.resL, res_mix x h.1, resL_mix r h.2]
end
theorem toArgs_mix : ∀ (l : List AV), vOk.vOkL bad l = true → (mix bad J F).toArgs l = F.toArgs l
  | [], _ => rfl
  | x :: r, h => by
    simp only [vOk.vOkL, Bool.and_eq_true] at h
    simp only [TS.toArgs, res_mix x h.1, toArgs_mix r h.2]
theorem vOkL_append : ∀ (l r : List AV), vOk.vOkL bad (l ++ r) = (vOk.vOkL bad l && vOk.vOkL bad r)
  | [], r => by simp [vOk.vOkL]
  | x :: l, r => by simp [vOk.vOkL, vOkL_append l r, Bool.and_assoc]
theorem evs_mix : ∀ (l : List Operand), (l.all fun x => xOk bad F x) = true → l.map (mix bad J F).ev = l.map F.ev ∧ vOk.vOkL bad (l.map F.ev) = true
  | [], _ => ⟨rfl, rfl⟩
  | x :: r, h => by
    simp only [List.all_cons, Bool.and_eq_true] at h
    obtain ⟨h1, h2⟩ := evs_mix r h.2
    exact ⟨by simp only [List.map_cons, ev_mix h.1, h1], by simp only [List.map_cons, vOk.vOkL, vOk_ev h.1, h2, Bool.and_self]⟩
end mix

theorem Loc.id (ws : List Nat) : Loc ws (fun A => A) := ⟨fun _ => rfl, fun _ _ _ => .rfl', fun _ _ t ht k => k t ht⟩

/-- An operation turns the state alike, whatever stands in the slots that it does not ask. -/
def Same (o : Oper) (bad : List Nat) (F : TS) (tgt : Nat → Prop) (K : TS → Prop) (sem : TS → (TS → Prop) → Prop) : Prop :=
  ∃ (g : TS → TS) (ws : List Nat), Loc ws g ∧ (∀ t ∈ ws, o.dst = some t ∨ tgt t) ∧ K (g F) ∧ ∀ J (K' : TS → Prop), K' (g (mix bad J F)) → sem (mix bad J F) K'

section same
variable {o : Oper} {bad : List Nat} {F : TS} {tgt : Nat → Prop} {K : TS → Prop}
theorem Same.mono {s s' : TS → (TS → Prop) → Prop} (h : Same o bad F tgt K s) (hs : ∀ J K', s (mix bad J F) K' → s' (mix bad J F) K') : Same o bad F tgt K s' := by
  obtain ⟨g, ws, h1, h2, h3, h4⟩ := h
  exact ⟨g, ws, h1, h2, h3, fun J K' hk => hs J K' (h4 J K' hk)⟩
theorem Same.set {v : AV} (h : setK F o.dst v K) : Same o bad F tgt K fun A K' => setK A o.dst v K' := by
  cases hd : o.dst with
  | none => rw [hd] at h; exact ⟨fun A => A, [], Loc.id [], by simp, h, fun J K' hk => hk⟩
  | some d => rw [hd] at h; exact ⟨fun A => A.put d v, [d], Loc.put d v, by simp [hd], h.2, fun J K' hk => ⟨h.1, hk⟩⟩
theorem Same.box {cs : List AV} (hd : ∀ d, o.dst = some d → bad.contains d = false) (h : newBoxK F o.dst cs K) : Same o bad F tgt K fun A K' => newBoxK A o.dst cs K' := by
  cases hdst : o.dst with
  | none => rw [hdst] at h; exact h.elim
  | some d =>
    rw [hdst] at h
    refine ⟨fun A => (A.new d (.box cs)).put d (.ref d (F.gen d + 1) 0), [d], (Loc.new d _).comp (Loc.put d _), by simp [hdst], h.2, fun J K' hk => ⟨h.1, ?_⟩⟩
    rw [gen_out (hd d hdst)]; exact hk
theorem Same.arr {sz : Nat} {xs : List AV} (hd : ∀ d, o.dst = some d → bad.contains d = false) (h : newArrK F o.dst sz xs K) : Same o bad F tgt K fun A K' => newArrK A o.dst sz xs K' := by
  cases hdst : o.dst with
  | none => rw [hdst] at h; exact h.elim
  | some d =>
    rw [hdst] at h
    refine ⟨fun A => (A.new d (.arr sz xs)).put d (.os d (F.gen d + 1) xs.length), [d], (Loc.new d _).comp (Loc.put d _), by simp [hdst], h.2, fun J K' hk => ⟨h.1, ?_⟩⟩
    rw [gen_out (hd d hdst)]; exact hk
end same

/-- The object that a store turns. -/
def tgtOf (F : TS) (o : Oper) (t : Nat) : Prop :=
  match o.op with
  | .store _ p _ => match F.ev p with
    | .ref d _ _ => d = t
    | .eref d _ _ _ => d = t
    | _ => False
  | _ => False

/-- An operation in a part whose order is drawn: a call there takes nothing over. -/
def opKp (T : Tys P) (o : Oper) (ts : TS) (K : TS → Prop) : Prop :=
  match o.op with
  | .call ⟨.value f, xs, _⟩ => callW false P (ts.ev f) (xs.toList.map ts.ev) o.dst ts K
  | _ => opK T o ts K
theorem callX.up {m : Bool} {f : FuncId} {vs : List AV} {q : Option (List AV × List Nat)} {dst : Option Nat} {ts : TS} {K : TS → Prop} (h : callX false P f vs q dst ts K) : callX m P f vs q dst ts K := by
  rcases h with h | ⟨h, _⟩
  · exact .inl h
  · cases h
theorem opKp.up {T : Tys P} {o : Oper} {ts : TS} {K : TS → Prop} (h : opKp T o ts K) : opK T o ts K := by
  unfold opKp at h
  split at h
  · rename_i f xs at_ ho
    obtain ⟨dst, op, ty, pos, after, gd⟩ := o
    subst ho
    rw [opK_call]
    unfold callW at h ⊢
    split at h
    · exact callX.up h
    · exact h.elim
  · exact h

/-- The operations that may stand in a part whose order is drawn. -/
def drawable (o : Oper) : Bool :=
  match o.op with
  | .move _ | .assign _ | .pick .. | .alloc _ | .box .. | .build .. | .buildSlice .. | .load .. | .fieldAddr .. | .indexAddr .. | .index .. | .slice .. | .unOp .. | .extract .. => true
  | .store .. => o.dst.isNone
  | .binOp .eql _ _ (.const (.slice none 0 0)) _ => false
  | .binOp .. => true
  | .call c => match c.callee with
    | .value _ => true
    | .builtin .len => c.args.size == 1 && c.argTypes.size == 1
    | _ => false
  | _ => false

theorem binK_loc (T : Tys P) {op : BinOp} {t : TypeId} {a b : AV} {o : Oper} {bad : List Nat} {F : TS} {tgt : Nat → Prop} {K : TS → Prop} (h : binD T op t a b F o.dst K) :
    Same o bad F tgt K fun A K' => binD T op t a b A o.dst K' := by
  unfold binD at h ⊢
  cases hk : (T.ty t).k with
  | struct fs =>
    simp only [hk] at h ⊢
    obtain ⟨h1, h2, h3⟩ := h
    obtain ⟨r, h4, h5⟩ := optK_some h3
    exact (Same.set h5).mono fun J K' hs => ⟨h1, h2, by rw [h4]; exact hs⟩
  | _ =>
    simp only [hk] at h ⊢
    obtain ⟨r, h4, h5⟩ := optK_some h
    exact (Same.set h5).mono fun J K' hs => by rw [h4]; exact hs

theorem opK_loc (T : Tys P) {o : Oper} {bad : List Nat} {F : TS} {K : TS → Prop} (hops : (o.op.operands.toList.all fun x => xOk bad F x) = true) (hdr : drawable o = true)
    (hd : ∀ d, o.dst = some d → bad.contains d = false) (h : opKp T o F K) : Same o bad F (tgtOf F o) K fun A K' => opK T o A K' := by
  obtain ⟨dst, op, ty, pos, after, gd⟩ := o
  cases op with
  | move x =>
    have hx : xOk bad F x = true := by simpa [Op.operands] using hops
    exact (Same.set (o := ⟨dst, _, ty, pos, after, gd⟩) h).mono fun J K' hs => by rw [opK_move, ev_mix hx]; exact hs
  | assign x =>
    have hx : xOk bad F x = true := by simpa [Op.operands] using hops
    exact (Same.set (o := ⟨dst, _, ty, pos, after, gd⟩) h).mono fun J K' hs => by rw [opK_assign, ev_mix hx]; exact hs
  | pick c x y =>
    have hx : xOk bad F c = true ∧ xOk bad F x = true ∧ xOk bad F y = true := by simpa [Op.operands] using hops
    obtain ⟨b, h1, h2⟩ := boolK_some h
    exact (Same.set (o := ⟨dst, _, ty, pos, after, gd⟩) h2).mono fun J K' hs => by rw [opK_pick, ev_mix hx.1, ev_mix hx.2.1, ev_mix hx.2.2, h1]; exact hs
  | alloc t => exact (Same.box (o := ⟨dst, _, ty, pos, after, gd⟩) hd h.2).mono fun J K' hs => ⟨h.1, hs⟩
  | box t x =>
    have hx : xOk bad F x = true := by simpa [Op.operands] using hops
    exact (Same.box (o := ⟨dst, _, ty, pos, after, gd⟩) hd h.2).mono fun J K' hs => by rw [opK_box, ev_mix hx]; exact ⟨h.1, hs⟩
  | build t parts =>
    have hx : ((parts.toList.map (·.2)).all fun x => xOk bad F x) = true := by simpa [Op.operands] using hops
    have e : ∀ J, (parts.toList.map fun p => (p.1, (mix bad J F).ev p.2)) = parts.toList.map fun p => (p.1, F.ev p.2) := fun J => by
      apply List.map_congr_left
      intro p hp
      rw [ev_mix (List.all_eq_true.1 hx _ (List.mem_map_of_mem hp))]
    have h := opKp.up h
    rw [opK_build] at h
    unfold buildK at h
    split at h
    · rename_i fs hfs
      obtain ⟨cs, h1, h2⟩ := optK_some h.2
      exact (Same.set (o := ⟨dst, _, ty, pos, after, gd⟩) h2).mono fun J K' hs => by rw [opK_build, e, hfs]; exact ⟨h.1, by rw [h1]; exact hs⟩
    · exact h.elim
  | buildSlice t n parts =>
    have hx : ((parts.toList.map (·.2)).all fun x => xOk bad F x) = true := by simpa [Op.operands] using hops
    have e : ∀ J, (parts.toList.map fun p => (p.1, (mix bad J F).ev p.2)) = parts.toList.map fun p => (p.1, F.ev p.2) := fun J => by
      apply List.map_congr_left
      intro p hp
      rw [ev_mix (List.all_eq_true.1 hx _ (List.mem_map_of_mem hp))]
    have h := opKp.up h
    rw [opK_buildSlice] at h
    unfold buildSliceK at h
    split at h
    · rename_i e' he
      obtain ⟨h1, h2, h3, h4, h5, h6⟩ := h
      exact (Same.arr (o := ⟨dst, _, ty, pos, after, gd⟩) hd h6).mono fun J K' hs => by rw [opK_buildSlice, e, he]; exact ⟨h1, h2, h3, h4, h5, hs⟩
    · exact h.elim
  | load t x =>
    have hx : xOk bad F x = true := by simpa [Op.operands] using hops
    have h := opKp.up h
    rw [opK_load] at h
    obtain ⟨cs, h1, h2⟩ := optK_some h
    unfold loadK at h2
    split at h2
    · exact h2.elim
    · rename_i hne
      exact (Same.set (o := ⟨dst, _, ty, pos, after, gd⟩) h2.2).mono fun J K' hs => by
        rw [opK_load, ev_mix hx, ptr_mix (vOk_ev hx), h1]
        show loadK T t cs (mix bad J F) dst K'
        unfold loadK
        split
        · rename_i hu; exact absurd hu (by simpa using hne)
        · exact ⟨h2.1, hs⟩
  | store t p x =>
    have hx : xOk bad F p = true ∧ xOk bad F x = true := by simpa [Op.operands] using hops
    have hdn : dst = none := by simpa [drawable] using hdr
    subst hdn
    have h := opKp.up h
    rw [opK_store] at h
    obtain ⟨h1, h2, h3, h4, h5⟩ := h
    obtain ⟨q, h6, h7, h8⟩ := optK_some h5
    refine ⟨fun A => A.setObj q.1 q.2, [q.1], Loc.setObj q.1 q.2, fun t' ht' => .inr ?_, h8, fun J K' hs => ?_⟩
    · have : t' = q.1 := by simpa using ht'
      subst this
      show tgtOf F _ q.1
      simp only [tgtOf]
      generalize F.ev p = v at h6
      cases v with
      | ref d g off =>
        simp only [TS.poke] at h6
        split at h6
        · split at h6
          · split at h6
            · cases h6; rfl
            · cases h6
          · cases h6
        · cases h6
      | eref d g i off =>
        simp only [TS.poke] at h6
        split at h6
        · split at h6
          · split at h6
            · cases h6; rfl
            · cases h6
          · cases h6
        · cases h6
      | _ => simp [TS.poke] at h6
    · show opK T _ (mix bad J F) K'
      rw [opK_store, ev_mix hx.1, ev_mix hx.2, poke_mix (vOk_ev hx.1), h6]
      exact ⟨h1, h2, h3, h4, h7, hs⟩
  | fieldAddr s x f =>
    have hx : xOk bad F x = true := by simpa [Op.operands] using hops
    have h := opKp.up h
    rw [opK_fieldAddr] at h
    unfold fieldAddrK at h
    split at h
    · rename_i fs hfs
      obtain ⟨q, h1, h2, h3, h4⟩ := optK_some h
      obtain ⟨y, h5, h6⟩ := optK_some h4
      exact (Same.set (o := ⟨dst, _, ty, pos, after, gd⟩) h6).mono fun J K' hs => by
        rw [opK_fieldAddr, ev_mix hx, hfs]
        show optK fs[f]? _
        rw [h1]
        exact ⟨h2, h3, by rw [shift_mix (vOk_ev hx), h5]; exact hs⟩
    · exact h.elim
  | indexAddr t x i =>
    have hx : xOk bad F x = true ∧ xOk bad F i = true := by simpa [Op.operands] using hops
    have h := opKp.up h
    rw [opK_indexAddr] at h
    unfold indexAddrK at h
    split at h
    · rename_i e he
      obtain ⟨h1, h2, h3⟩ := h
      obtain ⟨k, n, h4, h5⟩ := intK_some h3
      obtain ⟨y, h6, h7⟩ := optK_some h5
      exact (Same.set (o := ⟨dst, _, ty, pos, after, gd⟩) h7).mono fun J K' hs => by
        rw [opK_indexAddr, ev_mix hx.1, ev_mix hx.2, he, h4]
        exact ⟨h1, h2, by show optK ((mix bad J F).at _ _ n) _; rw [at_mix (vOk_ev hx.1), h6]; exact hs⟩
    · exact h.elim
  | index t x i =>
    have hx : xOk bad F x = true ∧ xOk bad F i = true := by simpa [Op.operands] using hops
    have h := opKp.up h
    rw [opK_index] at h
    unfold indexK at h
    split at h
    · rename_i s hs1 hs2
      obtain ⟨k, n, h4, h5, h6, h7⟩ := intK_some h
      exact (Same.set (o := ⟨dst, _, ty, pos, after, gd⟩) h7).mono fun J K' hs => by
        rw [opK_index, ev_mix hx.1, ev_mix hx.2, hs1, hs2, h4]
        exact ⟨h5, h6, hs⟩
    · exact h.elim
  | slice t x lo hi mx =>
    have hx : xOk bad F x = true ∧ (∀ y, lo = some y → xOk bad F y = true) ∧ (∀ y, hi = some y → xOk bad F y = true) ∧ (∀ y, mx = some y → xOk bad F y = true) := by
      simp only [Op.operands, Array.toList_append, List.all_append, Bool.and_eq_true] at hops
      obtain ⟨⟨⟨h1, h2⟩, h3⟩, h4⟩ := hops
      refine ⟨by simpa using h1, ?_, ?_, ?_⟩ <;> · intro y hy; subst hy; first | simpa using h2 | simpa using h3 | simpa using h4
    obtain ⟨hx, hlo, hhi, hmx⟩ := hx
    have h := opKp.up h
    rw [opK_slice] at h
    unfold sliceK at h
    split at h
    · rename_i e clip xs he hxe
      obtain ⟨h1, h2, h3⟩ := h
      obtain ⟨l, h4, h5⟩ := optK_some h3
      obtain ⟨u, h6, h7⟩ := optK_some h5
      cases mx with
      | none =>
        obtain ⟨q1, q2, q3, q4⟩ := h7
        exact (Same.set (o := ⟨dst, _, ty, pos, after, gd⟩) q4).mono fun J K' hs => by
          rw [opK_slice, ev_mix hx, sliceK_eq, he, hxe, sliceKK_s]
          exact ⟨h1, h2, by rw [optI_mix hlo, h4]; show optK ((mix bad J F).optI hi _) _; rw [optI_mix hhi, h6]; exact ⟨q1, q2, q3, hs⟩⟩
      | some m =>
        obtain ⟨q0, h8⟩ := h7
        obtain ⟨m', h9, q1, q2, q3, q4, q5⟩ := optK_some h8
        exact (Same.set (o := ⟨dst, _, ty, pos, after, gd⟩) q5).mono fun J K' hs => by
          rw [opK_slice, ev_mix hx, sliceK_eq, he, hxe, sliceKK_3]
          exact ⟨h1, h2, by rw [optI_mix hlo, h4]; show optK ((mix bad J F).optI hi _) _; rw [optI_mix hhi, h6]; exact ⟨q0, by rw [optI_mix hmx, h9]; exact ⟨q1, q2, q3, q4, hs⟩⟩⟩
    · rename_i e d g len he hxe
      obtain ⟨h1, h2⟩ := h
      have hv := vOk_ev hx
      rw [hxe] at hv
      simp only [vOk, Bool.not_eq_true'] at hv
      have main : Same ⟨dst, .slice t x lo hi mx, ty, pos, after, gd⟩ bad F (tgtOf F ⟨dst, .slice t x lo hi mx, ty, pos, after, gd⟩) K fun A K' => (match lo, mx with
          | none, none => A.live d g = true ∧ optK (A.optI hi len) fun u => 0 ≤ u ∧ u ≤ len ∧ setK A dst (.os d g u.toNat) K'
          | _, _ => sliceOtK T e d g len lo hi mx A dst K') := by
        split at h2
        · obtain ⟨h3, h4⟩ := h2
          obtain ⟨u, h6, h7, h8, h9⟩ := optK_some h4
          exact (Same.set (o := ⟨dst, _, ty, pos, after, gd⟩) h9).mono fun J K' hs => ⟨by rw [live_mix hv]; exact h3, by rw [optI_mix hhi, h6]; exact ⟨h7, h8, hs⟩⟩
        · rename_i hne
          obtain ⟨hg, h⟩ := h2
          obtain ⟨⟨sz, xs⟩, hob, hsz, h⟩ := optK_some h
          obtain ⟨l, q1, h⟩ := optK_some h
          obtain ⟨u, q2, q3, q4, q5, q6, q7⟩ := optK_some h
          refine (Same.set (o := ⟨dst, _, ty, pos, after, gd⟩) q7).mono fun J K' hs => ?_
          have goal : sliceOtK T e d g len lo hi mx (mix bad J F) dst K' := by
            refine ⟨by rw [gen_out hv]; exact hg, ?_⟩
            rw [obj_out hv, hob]
            refine ⟨hsz, ?_⟩
            rw [optI_mix hlo, q1]
            show optK ((mix bad J F).optI hi _) _
            rw [optI_mix hhi, q2]
            refine ⟨q3, q4, q5, ?_, hs⟩
            unfold maxOk at q6 ⊢
            split at q6
            · trivial
            · obtain ⟨p1, p2⟩ := q6
              exact ⟨p1, by rw [optI_mix hmx]; exact p2⟩
          cases lo with
          | none => cases mx with
            | none => exact (hne rfl rfl).elim
            | some m => exact goal
          | some l => cases mx <;> exact goal
      exact main.mono fun J K' hs => by
        rw [opK_slice, ev_mix hx, sliceK_eq, he, hxe]
        cases lo <;> cases mx <;> exact ⟨h1, hs⟩
    · rename_i s he hxe
      obtain ⟨h1, h2⟩ := h
      obtain ⟨l, h4, h5⟩ := optK_some h2
      obtain ⟨u, h6, q1, q2, q3, q4⟩ := optK_some h5
      exact (Same.set (o := ⟨dst, _, ty, pos, after, gd⟩) q4).mono fun J K' hs => by
        rw [opK_slice, ev_mix hx, sliceK_eq, he, hxe, sliceKK_str]
        exact ⟨h1, by rw [optI_mix hlo, h4]; show optK ((mix bad J F).optI hi _) _; rw [optI_mix hhi, h6]; exact ⟨q1, q2, q3, hs⟩⟩
    · exact h.elim
  | binOp op t x y u =>
    have hx : xOk bad F x = true ∧ xOk bad F y = true := by simpa [Op.operands] using hops
    have h := opKp.up h
    rw [opK_bin] at h
    unfold binK at h
    split at h
    · simp [drawable] at hdr
    · rename_i hne
      refine (binK_loc T (o := ⟨dst, _, ty, pos, after, gd⟩) h).mono fun J K' hs => ?_
      rw [opK_bin]
      unfold binK
      split
      · exact (hne rfl rfl).elim
      · rw [ev_mix hx.1, ev_mix hx.2]; exact hs
  | unOp op t x =>
    have hx : xOk bad F x = true := by simpa [Op.operands] using hops
    cases op with
    | not =>
      have h := opKp.up h
      rw [opK_not] at h
      obtain ⟨b, h1, h2⟩ := boolK_some h
      exact (Same.set (o := ⟨dst, _, ty, pos, after, gd⟩) h2).mono fun J K' hs => by rw [opK_not, ev_mix hx, h1]; exact hs
    | neg =>
      have h := opKp.up h
      rw [opK_neg] at h
      obtain ⟨k, n, h1, h2⟩ := intK_some h
      exact (Same.set (o := ⟨dst, _, ty, pos, after, gd⟩) h2).mono fun J K' hs => by rw [opK_neg, ev_mix hx, h1]; exact hs
    | _ => exact h.elim
  | extract x i =>
    have hx : xOk bad F x = true := by simpa [Op.operands] using hops
    have h := opKp.up h
    rw [opK_extract] at h
    unfold extractK at h
    split at h
    · rename_i vs hvs
      exact (Same.set (o := ⟨dst, _, ty, pos, after, gd⟩) h.2).mono fun J K' hs => by rw [opK_extract, ev_mix hx, hvs]; exact ⟨h.1, hs⟩
    · exact h.elim
  | call c =>
    obtain ⟨callee, args, ats⟩ := c
    cases callee with
    | value f =>
      have hx : xOk bad F f = true ∧ (args.toList.all fun x => xOk bad F x) = true := by simpa [Op.operands, Call.operands] using hops
      have h : callW false P (F.ev f) (args.toList.map F.ev) dst F K := h
      unfold callW at h
      split at h
      · rename_i f' caps hf
        rcases h with ⟨as, lent, r, h1, h2, h3, h4⟩ | ⟨h, _⟩
        · have hv := vOk_ev hx.1
          rw [hf] at hv
          simp only [vOk, vOk.vOkL, Bool.true_and] at hv
          have key : Same ⟨dst, .call ⟨.value f, args, ats⟩, ty, pos, after, gd⟩ bad F (tgtOf F ⟨dst, .call ⟨.value f, args, ats⟩, ty, pos, after, gd⟩) K fun A K' => afterK A dst r K' := by
            cases r with
            | val x => exact Same.set (o := ⟨dst, _, ty, pos, after, gd⟩) h4
            | own sz xs => exact Same.arr (o := ⟨dst, _, ty, pos, after, gd⟩) hd h4
          refine key.mono fun J K' hs => ?_
          rw [opK_call, ev_mix hx.1, hf, callW, (evs_mix args.toList hx.2).1, toArgs_mix _ (by rw [vOkL_append, (evs_mix (J := F) args.toList hx.2).2, hv]; rfl), h1]
          exact .inl ⟨as, lent, r, rfl, h2, h3, hs⟩
        · cases h
      · exact h.elim
    | builtin b =>
      cases b with
      | len =>
        have hx : (args.toList.all fun x => xOk bad F x) = true := by simpa [Op.operands, Call.operands] using hops
        have hl : builtinK T ⟨.builtin .len, args, ats⟩ ⟨dst, .call ⟨.builtin .len, args, ats⟩, ty, pos, after, gd⟩ F K := h
        show Same _ _ _ _ _ fun A K' => builtinK T ⟨.builtin .len, args, ats⟩ ⟨dst, .call ⟨.builtin .len, args, ats⟩, ty, pos, after, gd⟩ A K'
        obtain ⟨al⟩ := args
        obtain ⟨tl⟩ := ats
        have hs : al.length = 1 ∧ tl.length = 1 := by simpa [drawable] using hdr
        obtain ⟨x, rfl⟩ := List.length_eq_one_iff.1 hs.1
        obtain ⟨t, rfl⟩ := List.length_eq_one_iff.1 hs.2
        have hx : xOk bad F x = true := by simpa using hx
        have h : lenK T t (F.ev x) F dst K := hl
        obtain ⟨h1, h2⟩ := h
        obtain ⟨n, h3, h4⟩ := optK_some h2
        refine (Same.set (o := ⟨dst, _, ty, pos, after, gd⟩) h4).mono fun J K' hs => ?_
        show lenK T t ((mix bad J F).ev x) (mix bad J F) dst K'
        rw [ev_mix hx]
        exact ⟨h1, by rw [len_mix (vOk_ev hx), h3]; exact hs⟩
      | _ => simp [drawable] at hdr
    | invoke r m => simp [drawable] at hdr
  | _ => simp [drawable] at hdr

end Go.Proofs.Ytjmnokbbodcaaaa.Lg
