/- Slices of slices and strings; bytes of strings; closures; equality of small structs. -/
import Derived.Test.YtjmnokbbodcaaaaLg13
import Derived.Laws.StructEq
namespace Go.Proofs.Ytjmnokbbodcaaaa.Lg
set_option linter.unusedVariables false
set_option linter.unusedSimpArgs false
open Go
variable {P : Program}

/-- An operand that is a whole number, or is not there. -/
def TS.optI (ts : TS) (x : Option Operand) (dflt : Int) : Option Int :=
  match x with
  | none => some dflt
  | some y => match ts.ev y with
    | .int _ n => some n
    | _ => none

theorem optI_some {E : Env} {ts : TS} {G : Ghost} {a : Act} {w : World} (h : Rel E ts G a w) {x : Operand} {d n : Int} (hn : ts.optI (some x) d = some n) : ∃ k, a.eval x = .int k n := by
  unfold TS.optI at hn
  simp only at hn
  have := h.ev x
  split at hn
  · rename_i k m e
    cases hn
    rw [e] at this
    exact ⟨k, rep_int this⟩
  · cases hn

theorem run_bounds (isS : Bool) (w : World) {E : Env} {ts : TS} {G : Ghost} {a : Act} (h : Rel E ts G a w) (len cap : Nat) (hcap : len ≤ cap) (lo hi : Option Operand) {l u : Int} (hl : ts.optI lo 0 = some l) (hu : ts.optI hi len = some u)
    (h0 : 0 ≤ l) (h1 : l ≤ u) (h2 : u ≤ cap) : (Instr.sliceBounds isS len cap (lo.map a.eval) (hi.map a.eval) none).run P w = .ok (l.toNat, u.toNat, cap) w := by
  cases hi with
  | none =>
    simp [TS.optI] at hu
    subst hu
    cases lo with
    | none => simp [TS.optI] at hl; subst hl; simp [Instr.sliceBounds]
    | some y =>
      obtain ⟨k, hk⟩ := optI_some h hl
      have : 0 ≤ l ∧ l ≤ (len : Int) := ⟨h0, h1⟩
      simp [Instr.sliceBounds, Instr.sliceBound, asIntOf, hk, this]
  | some z =>
    obtain ⟨k', hk'⟩ := optI_some h hu
    have hc : 0 ≤ u ∧ u ≤ (cap : Int) := ⟨by omega, h2⟩
    cases lo with
    | none => simp [TS.optI] at hl; subst hl; cases isS <;> simp [Instr.sliceBounds, Instr.sliceBound, asIntOf, hk', hc]
    | some y =>
      obtain ⟨k, hk⟩ := optI_some h hl
      have hlu : 0 ≤ l ∧ l ≤ ((u.toNat : Nat) : Int) := ⟨h0, by omega⟩
      cases isS <;> simp [Instr.sliceBounds, Instr.sliceBound, asIntOf, hk, hk', hc] <;> (intro q1; have := q1 h0; omega)

theorem run_bounds3 (w : World) {E : Env} {ts : TS} {G : Ghost} {a : Act} (h : Rel E ts G a w) (len cap : Nat) (lo : Option Operand) (hi mx : Operand) {l u m : Int} (hl : ts.optI lo 0 = some l) (hu : ts.optI (some hi) len = some u) (hm : ts.optI (some mx) 0 = some m)
    (h0 : 0 ≤ l) (h1 : l ≤ u) (h2 : u ≤ m) (h3 : m ≤ cap) : (Instr.sliceBounds true len cap (lo.map a.eval) (some (a.eval hi)) (some (a.eval mx))).run P w = .ok (l.toNat, u.toNat, m.toNat) w := by
  obtain ⟨k', hk'⟩ := optI_some h hu
  obtain ⟨k'', hk''⟩ := optI_some h hm
  have hc : 0 ≤ m ∧ m ≤ (cap : Int) := ⟨by omega, h3⟩
  have hum : 0 ≤ u ∧ u ≤ ((m.toNat : Nat) : Int) := ⟨by omega, by omega⟩
  cases lo with
  | none =>
    simp [TS.optI] at hl; subst hl
    simp only [Instr.sliceBounds, Instr.sliceBound, asIntOf, hk', hk'', Sem.run_bind, Sem.run_pure, Result.andThen_ok, if_pos hc, if_pos hum, Option.map_none]
    rfl
  | some y =>
    obtain ⟨k, hk⟩ := optI_some h hl
    have hlu : 0 ≤ l ∧ l ≤ ((u.toNat : Nat) : Int) := ⟨h0, by omega⟩
    simp only [Instr.sliceBounds, Instr.sliceBound, asIntOf, hk, hk', hk'', Sem.run_bind, Sem.run_pure, Result.andThen_ok, if_pos hc, if_pos hum, if_pos hlu, Option.map_some, Option.isSome_some, if_true]

/-- A piece of a slice that nobody writes. -/
theorem Rep.piece {c : Ctx} {v : Value} {clip : Bool} {xs : List AV} (h : Rep c v (.slice clip xs)) {sz : Nat} (hsz : ∀ x ∈ xs, x.cells.length = sz) {l u m : Nat} (h1 : l ≤ u) (h2 : u ≤ xs.length) (hum : u ≤ m) (clip' : Bool) (hcl : clip' = true → m = u) :
    ∃ a cap, v = .slice a xs.length cap ∧ Rep c (.slice (if m = l then a else a.map (·.add (l * sz))) (u - l) (m - l)) (.slice clip' ((xs.take u).drop l)) := by
  have hlen : ((xs.take u).drop l).length = u - l := by simp; omega
  have hempty : u - l = 0 → (xs.take u).drop l = [] := fun e => List.eq_nil_of_length_eq_zero (by rw [hlen, e])
  cases h with
  | slice0 _ a cap hc =>
    refine ⟨a, cap, rfl, ?_⟩
    have hu0 : u = 0 := by simpa using h2
    rw [hempty (by omega)]
    rw [show u - l = 0 by omega]
    exact .slice0 clip' _ _ (fun e => by have := hcl e; omega)
  | slice _ b off cap sz' _ f p0 p1 hM hcap hclip hsz' hc hr =>
    refine ⟨_, cap, rfl, ?_⟩
    by_cases hlu : u - l = 0
    · rw [hempty hlu, hlu]
      exact .slice0 clip' _ _ (fun e => by have := hcl e; omega)
    · have : sz' = sz := by
        have hm := List.getElem_mem (List.length_pos_iff.2 p0)
        rw [← hsz' _ hm, hsz _ hm]
      subst this
      rw [if_neg (by omega)]
      simp only [Option.map_some, Addr.add0]
      have hgd : ∀ i, i < u - l → ((xs.take u).drop l).getD i .any = xs.getD (l + i) .any := fun i hi => by
        simp only [List.getD_eq_getElem?_getD, List.getElem?_drop, List.getElem?_take]
        rw [if_pos (by omega)]
      suffices key : Rep c (.slice (some ⟨b, off + l * sz', none⟩) ((xs.take u).drop l).length (m - l)) (.slice clip' ((xs.take u).drop l)) by
        rw [hlen] at key; exact key
      refine .slice clip' b (off + l * sz') (m - l) sz' _ (fun i j => if i < u - l then f (l + i) j else undef) (by intro e; rw [e] at hlen; simp at hlen; omega) p1 hM (by rw [hlen]; omega) (fun e => by rw [hlen]; have := hcl e; omega)
        (fun x hx => hsz' x (List.mem_of_mem_take (List.mem_of_mem_drop hx))) (fun i j hi hj => ?_) fun i j => ?_
      · rw [hlen] at hi
        rw [if_pos hi]
        have := hc (l + i) j (by omega) hj
        rw [Nat.add_mul] at this
        rw [show off + l * sz' + i * sz' + j = off + (l * sz' + i * sz') + j by omega]
        exact this
      · by_cases hi : i < u - l
        · rw [if_pos hi, hgd i hi]; exact hr (l + i) j
        · rw [if_neg hi]
          have : ((xs.take u).drop l).getD i .any = .any := by
            simp only [List.getD_eq_getElem?_getD]; rw [List.getElem?_eq_none (by rw [hlen]; omega)]; rfl
          rw [this]
          simp only [AV.cells]
          cases j <;> (simp; exact .any _)

theorem SpecO.sliceS {T : Tys P} {o : Oper} {ts : TS} {K : TS → Prop} {t e : TypeId} {x : Operand} {lo hi : Option Operand} (ho : o.op = .slice t x lo hi none) (ht : (T.ty t).k = .slice e) (he : (T.ty e).k ≠ .unk)
    {clip : Bool} {xs : List AV} (hx : ts.ev x = .slice clip xs) (hsz : ∀ x ∈ xs, x.cells.length = (T.ty e).sz) {l u : Int} (hl : ts.optI lo 0 = some l) (hu : ts.optI hi xs.length = some u) (h0 : 0 ≤ l) (h1 : l ≤ u) (h2 : u ≤ xs.length)
    (hk : setK ts o.dst (.slice (clip && (u == xs.length)) ((xs.take u.toNat).drop l.toNat)) K) : SpecO P o ts K :=
  SpecO.val hk fun E G a w hr => by
    have hut := Tys.slice ht
    have hv := hr.ev x
    rw [hx] at hv
    obtain ⟨ad0, cap0, hq0, hcap⟩ := sl_len (ts := ts) (xs := xs) rfl hv
    have hcapclip : clip = true → cap0 = xs.length := by
      intro ec
      rw [hq0] at hv
      generalize hqq : Value.slice ad0 xs.length cap0 = q at hv
      cases hv with
      | slice0 _ a cap hc => simp at hqq; rw [hqq.2]; simpa using hc ec
      | slice _ b off cap sz' _ f p0 p1 hM hcap' hclip => simp at hqq; rw [hqq.2]; exact hclip ec
    obtain ⟨ad, cap, hq, hrep⟩ := Rep.piece hv hsz (l := l.toNat) (u := u.toNat) (m := cap0) (by omega) (by omega) (by omega) (clip && (u == xs.length)) (fun e => by
      simp only [Bool.and_eq_true, beq_iff_eq] at e
      have := hcapclip e.1
      omega)
    have : ad = ad0 ∧ cap = cap0 := by rw [hq0] at hq; simp at hq; exact ⟨hq.1.symm, hq.2.symm⟩
    obtain ⟨rfl, rfl⟩ := this
    refine ⟨_, ?_, hrep⟩
    have hb := run_bounds (P := P) true w hr xs.length cap hcap lo hi hl hu h0 h1 (by omega)
    simp only [execOp, ho, Instr.sliceAt, Sem.run_bind, run_underlying hut, Result.andThen_ok, hq, Instr.slice, Option.map_none, hb, Tys.run_sizeOf he, Sem.run_pure]

theorem SpecO.slice3 {T : Tys P} {o : Oper} {ts : TS} {K : TS → Prop} {t e : TypeId} {x hi mx : Operand} {lo : Option Operand} (ho : o.op = .slice t x lo (some hi) (some mx)) (ht : (T.ty t).k = .slice e) (he : (T.ty e).k ≠ .unk)
    {clip : Bool} {xs : List AV} (hx : ts.ev x = .slice clip xs) (hsz : ∀ x ∈ xs, x.cells.length = (T.ty e).sz) {l u m : Int} (hl : ts.optI lo 0 = some l) (hu : ts.optI (some hi) xs.length = some u) (hm : ts.optI (some mx) 0 = some m) (h0 : 0 ≤ l) (h1 : l ≤ u) (h2 : u ≤ m) (h3 : m ≤ xs.length)
    (hk : setK ts o.dst (.slice (m == u) ((xs.take u.toNat).drop l.toNat)) K) : SpecO P o ts K :=
  SpecO.val hk fun E G a w hr => by
    have hut := Tys.slice ht
    have hv := hr.ev x
    rw [hx] at hv
    obtain ⟨ad0, cap0, hq0, hcap⟩ := sl_len (ts := ts) (xs := xs) rfl hv
    obtain ⟨ad, cap, hq, hrep⟩ := Rep.piece hv hsz (l := l.toNat) (u := u.toNat) (m := m.toNat) (by omega) (by omega) (by omega) (m == u) (fun e => by simp only [beq_iff_eq] at e; omega)
    have : ad = ad0 ∧ cap = cap0 := by rw [hq0] at hq; simp at hq; exact ⟨hq.1.symm, hq.2.symm⟩
    obtain ⟨rfl, rfl⟩ := this
    refine ⟨_, ?_, hrep⟩
    have hb := run_bounds3 (P := P) w hr xs.length cap lo hi mx hl hu hm h0 h1 h2 (by omega)
    simp only [execOp, ho, Instr.sliceAt, Sem.run_bind, run_underlying hut, Result.andThen_ok, hq, Instr.slice, Option.map_some, hb, Tys.run_sizeOf he, Sem.run_pure]

/-- The head of an array of the frame's own. -/
theorem SpecO.sliceO {T : Tys P} {o : Oper} {ts : TS} {K : TS → Prop} {t e : TypeId} {x : Operand} {lo hi : Option Operand} (ho : o.op = .slice t x lo hi none) (ht : (T.ty t).k = .slice e) (he : (T.ty e).k ≠ .unk)
    {d g len : Nat} (hx : ts.ev x = .os d g len) (hlive : ts.live d g = true) (hl : ts.optI lo 0 = some 0) {u : Int} (hu : ts.optI hi len = some u) (h1 : 0 ≤ u) (h2 : u ≤ len)
    (hk : setK ts o.dst (.os d g u.toNat) K) : SpecO P o ts K :=
  SpecO.val hk fun E G a w hr => by
    have hut := Tys.slice ht
    have hv := hr.ev x
    rw [hx] at hv
    obtain ⟨_, hg, hh⟩ := rep_os hv
    simp only [TS.live, Bool.and_eq_true, beq_iff_eq] at hlive
    have hos := hh hlive.1 (by intro e; have := hlive.2; simp [show (ts.obj d).kind = none from e] at this)
    unfold OsIs at hos
    split at hos
    · rename_i cap hκ
      have hb := run_bounds (P := P) true w hr len cap hos.2 lo hi hl hu (Int.le_refl 0) h1 (by omega)
      refine ⟨.slice (some ⟨(ctxOf E G ts w).β d, 0, none⟩) u.toNat cap, ?_, .os d g _ _ rfl hg fun _ _ => ?_⟩
      · simp only [execOp, ho, Instr.sliceAt, Sem.run_bind, run_underlying hut, Result.andThen_ok, hos.1, Instr.slice, Option.map_none, hb, Tys.run_sizeOf he, Sem.run_pure]
        simp [Addr.add0]
      · unfold OsIs; rw [hκ]; exact ⟨rfl, by omega⟩
    · rename_i hκ
      obtain ⟨h0, ad, hq⟩ := hos
      subst h0
      have hb := run_bounds (P := P) true w hr 0 0 (Nat.le_refl _) lo hi hl hu (Int.le_refl 0) h1 h2
      have hu0 : u = 0 := by simp at h2; omega
      subst hu0
      refine ⟨.slice ad 0 0, ?_, .os d g _ _ rfl hg fun _ _ => ?_⟩
      · simp only [execOp, ho, Instr.sliceAt, Sem.run_bind, run_underlying hut, Result.andThen_ok, hq, Instr.slice, Option.map_none, hb, Tys.run_sizeOf he, Sem.run_pure]
        simp
      · unfold OsIs; rw [hκ]; exact ⟨rfl, ad, rfl⟩

/-- A piece of an array of the frame's own. -/
theorem SpecO.sliceOt {T : Tys P} {o : Oper} {ts : TS} {K : TS → Prop} {t e : TypeId} {x : Operand} {lo hi mx : Option Operand} (ho : o.op = .slice t x lo hi mx) (ht : (T.ty t).k = .slice e) (he : (T.ty e).k ≠ .unk)
    {d g len : Nat} {xs : List AV} (hx : ts.ev x = .os d g len) (hg : g = ts.gen d) (hob : ts.obj d = .arr (T.ty e).sz xs) {l u : Int} (hl : ts.optI lo 0 = some l) (hu : ts.optI hi len = some u) (h0 : 0 ≤ l) (h1 : l ≤ u) (h2 : u ≤ xs.length)
    (hm : ∀ m, mx = some m → hi.isSome = true ∧ ∃ n, ts.optI (some m) 0 = some n ∧ u ≤ n ∧ n ≤ xs.length)
    (hk : setK ts o.dst (.ot d g l.toNat (u.toNat - l.toNat)) K) : SpecO P o ts K :=
  SpecO.val hk fun E G a w hr => by
    have hut := Tys.slice ht
    have hv := hr.ev x
    rw [hx] at hv
    obtain ⟨_, hgl, hh⟩ := rep_os hv
    have hos := hh hg (by simp [ctxOf, hob, Ob.kind])
    have hobk := hr.obj d
    rw [hob] at hobk
    obtain ⟨_, _, hrest⟩ := hobk
    unfold OsIs at hos
    have main : ∃ ad cap, a.eval x = .slice ad len cap ∧ len ≤ cap ∧ xs.length ≤ cap ∧ (0 < xs.length → ad = some ⟨G.β d, 0, none⟩ ∧ G.κ d = some cap) := by
      cases hκ : (ctxOf E G ts w).κ d with
      | none =>
        rw [hκ] at hos hrest
        obtain ⟨hl0, ad, hq⟩ := hos
        subst hrest hl0
        exact ⟨ad, 0, hq, Nat.le_refl _, Nat.le_refl _, fun h => by simp at h⟩
      | some cap =>
        rw [hκ] at hos hrest
        obtain ⟨vs, tt, _, _, hfit, _⟩ := hrest
        exact ⟨_, cap, hos.1, hos.2, hfit, fun _ => ⟨rfl, hκ⟩⟩
    obtain ⟨ad, cap, hq, hlc, hxc, hreal⟩ := main
    have hb : ∃ mm : Nat, u.toNat ≤ mm ∧ mm ≤ cap ∧ (Instr.sliceBounds true len cap (lo.map a.eval) (hi.map a.eval) (mx.map a.eval)).run P w = .ok (l.toNat, u.toNat, mm) w := by
      cases hmx : mx with
      | none => exact ⟨cap, by omega, Nat.le_refl _, run_bounds (P := P) true w hr len cap hlc lo hi hl hu h0 h1 (by omega)⟩
      | some m =>
        obtain ⟨his, n, hn, hun, hnx⟩ := hm m hmx
        obtain ⟨hh', rfl⟩ := Option.isSome_iff_exists.1 his
        exact ⟨n.toNat, by omega, by omega, run_bounds3 (P := P) w hr len cap lo hh' m hl hu hn h0 h1 hun (by omega)⟩
    obtain ⟨mm, hm1, hm2, hb⟩ := hb
    refine ⟨.slice (if mm = l.toNat then ad else ad.map (·.add (l.toNat * (T.ty e).sz))) (u.toNat - l.toNat) (mm - l.toNat), ?_, .ot d g _ _ _ rfl hgl fun sz _ hk' => ?_⟩
    · simp only [execOp, ho, Instr.sliceAt, Sem.run_bind, run_underlying hut, Result.andThen_ok, hq, Instr.slice, hb, Tys.run_sizeOf he, Sem.run_pure]
    · have hsz : sz = (T.ty e).sz := by simp [ctxOf, hob, Ob.kind] at hk'; exact hk'.symm
      subst hsz
      refine ⟨_, _, rfl, by omega, fun hpos => ?_⟩
      obtain ⟨had, hκ⟩ := hreal (by omega)
      subst had
      refine ⟨by rw [if_neg (by omega)]; simp [ctxOf, Addr.add0], cap, hκ, by omega⟩

/-- What a cleared piece of an array holds. -/
def zeroA (k : TyK) (zs : List AV) : AV := if k.agg then .agg zs else zs.getD 0 .any
def clrL (xs : List AV) (off len : Nat) (z : AV) : List AV := xs.take off ++ List.replicate len z ++ xs.drop (off + len)

theorem SpecO.clear {T : Tys P} {o : Oper} {ts : TS} {K : TS → Prop} {t e : TypeId} {x : Operand} (ho : o.op = .call { callee := .builtin .clear, args := #[x], argTypes := #[t] }) (ht : (T.ty t).k = .slice e) (he : (T.ty e).k ≠ .unk) (h0 : 0 < (T.ty e).sz)
    {d g off len : Nat} {xs : List AV} (hx : ts.ev x = .ot d g off len) (hg : g = ts.gen d) (hob : ts.obj d = .arr (T.ty e).sz xs) (hfits : off + len ≤ xs.length) (hd : o.dst = none)
    (hz : (zeroA (T.ty e).k (T.ty e).zero).cells = (T.ty e).zero) (hz1 : (T.ty e).zero.all AV.one = true)
    (hk : K (ts.setObj d (.arr (T.ty e).sz (clrL xs off len (zeroA (T.ty e).k (T.ty e).zero))))) : SpecO P o ts K := by
  intro E G a w next Q hr hnext
  have hut := Tys.slice ht
  obtain ⟨ti, hi, hsz, hby, ⟨z, hzv, hzm, hzs⟩, _⟩ := Tys.get (T := T) he
  obtain ⟨hzsz, hzr⟩ := rep_zero (c := ctxOf E G ts w) hzm
  have hzl : (T.ty e).zero.length = (T.ty e).sz := by rw [← hzsz, hzs, hsz]
  have hv := hr.ev x
  rw [hx] at hv
  obtain ⟨_, hgl, hh⟩ := rep_ot hv
  obtain ⟨ad, cap', hq, hcap', hp⟩ := hh (T.ty e).sz hg (by simp [ctxOf, hob, Ob.kind])
  have hex : ∀ w', (Builtin.clear_ #[t] o.type #[.slice ad len cap']).run P w = .ok (.tuple #[]) w' → (execOp a.eval o).run P w = .ok (.value (.tuple #[])) w' := fun w' h => by
    simp [execOp, ho, resolve, invoke, builtin, hq, h]
  unfold Oper.wp
  rcases Nat.eq_zero_or_pos len with hl0 | hpos
  · subst hl0
    rw [hex w (by cases ad <;> simp [Builtin.clear_, run_underlying hut])]
    show next (a.put o.dst _) w
    rw [hd]
    refine hnext _ G _ _ hk ?_
    have e1 : ts.setObj d (.arr (T.ty e).sz (clrL xs off 0 (zeroA (T.ty e).k (T.ty e).zero))) = ts := by
      have : clrL xs off 0 (zeroA (T.ty e).k (T.ty e).zero) = xs := by simp [clrL]
      rw [this]
      simp only [TS.setObj]
      cases ts
      simp only at hob
      congr 1
      funext q
      by_cases hq : q = d
      · subst hq; simp [hob]
      · simp [upd, hq]
    rw [e1]
    exact hr
  · obtain ⟨had, cap, hκ, hfc⟩ := hp hpos
    subst had
    have hobk := hr.obj d
    rw [hob] at hobk
    obtain ⟨_, hszs, hrest⟩ := hobk
    rw [hκ] at hrest
    obtain ⟨vs, et, hheap, hsize, hfit, hcell⟩ := hrest
    have hκ' : G.κ d = some cap := hκ
    have hlive : liveR ts G d := ⟨by simp [hob, Ob.kind], by rw [hκ']; simp⟩
    have hzc : (Builtin.zeroCells z.cells len).toList.length = len * (T.ty e).sz := by
      have := size_zeroCells z.cells len
      simp only [Array.length_toList, this, hzs, hsz]
    have hspl : off * (T.ty e).sz + (Builtin.zeroCells z.cells len).toList.length ≤ vs.toList.length := by
      rw [hzc, ← Nat.add_mul, Array.length_toList, hsize]
      exact Nat.mul_le_mul_right _ hfc
    have hone : ∀ v ∈ (Builtin.zeroCells z.cells len).toList, v.oneCell' = true := fun v hv => by
      have hzz : ∀ v ∈ z.cells.toList, v.oneCell' = true := fun v hv => by
        refine (rep_ofV (ctxOf E G ts w) v).one ?_
        have : ofV v ∈ (T.ty e).zero := by rw [← hzm]; exact List.mem_map_of_mem hv
        exact List.all_eq_true.1 hz1 _ this
      unfold Builtin.zeroCells at hv
      simp only [Array.toList_map, List.mem_map] at hv
      obtain ⟨p, _, rfl⟩ := hv
      have hpos' : 0 < z.cells.size := by rw [hzs, hsz]; exact h0
      have hlt := Nat.mod_lt p hpos'
      rw [getElem!_pos z.cells _ hlt]
      exact hzz _ (by simp)
    have hst := run_storeCells_at P (G.β d) (off * (T.ty e).sz) et (Builtin.zeroCells z.cells len).toList 0 vs w hheap (by simpa using hspl) hone
    simp only [Nat.add_zero] at hst
    have hzval : ∀ w, (zeroValue e).run P w = .ok z w := fun w => by simp [zeroValue, typeInfo, hi, hzv]
    obtain ⟨m, rfl⟩ : ∃ m, len = m + 1 := ⟨len - 1, by omega⟩
    rw [hex (w.setRow (G.β d) (vs.toList.take (off * (T.ty e).sz) ++ (Builtin.zeroCells z.cells (m + 1)).toList ++ vs.toList.drop (off * (T.ty e).sz + (Builtin.zeroCells z.cells (m + 1)).toList.length)).toArray) (by simp [Builtin.clear_, run_underlying hut, hzval, ctxOf, hst])]
    show next (a.put o.dst _) _
    rw [hd]
    have hcl : (zeroA (T.ty e).k (T.ty e).zero).cells.length = (T.ty e).sz := by rw [hz, hzl]
    have hlen2 : (clrL xs off (m + 1) (zeroA (T.ty e).k (T.ty e).zero)).length = xs.length := by
      have := splice_length xs (List.replicate (m + 1) (zeroA (T.ty e).k (T.ty e).zero)) off (by simpa using hfits)
      simpa [clrL] using this
    refine hnext _ G _ _ hk (hr.setObj (w' := (w.setRow (G.β d) (vs.toList.take (off * (T.ty e).sz) ++ (Builtin.zeroCells z.cells (m + 1)).toList ++ vs.toList.drop (off * (T.ty e).sz + (Builtin.zeroCells z.cells (m + 1)).toList.length)).toArray)) d _ (by simp [hob, Ob.kind]) hlive rfl rfl rfl (by simp [World.setRow]) (fun i hi => setRow_other w _ i _ hi) ?_)
    have hle := le_setObj E G ts w (w.setRow (G.β d) (vs.toList.take (off * (T.ty e).sz) ++ (Builtin.zeroCells z.cells (m + 1)).toList ++ vs.toList.drop (off * (T.ty e).sz + (Builtin.zeroCells z.cells (m + 1)).toList.length)).toArray) d (.arr (T.ty e).sz (clrL xs off (m + 1) (zeroA (T.ty e).k (T.ty e).zero))) (by simp [hob, Ob.kind]) hlive (fun i hi => setRow_other w _ i _ hi)
    refine ⟨h0, fun q hq' => ?_, ?_⟩
    · unfold clrL at hq'
      rcases List.mem_append.1 hq' with hq' | hq'
      · rcases List.mem_append.1 hq' with hq' | hq'
        · exact hszs q (List.mem_of_mem_take hq')
        · rw [List.eq_of_mem_replicate hq']; exact hcl
      · exact hszs q (List.mem_of_mem_drop hq')
    · show match G.κ d with | none => _ | some cap => _
      rw [hκ']
      refine ⟨_, et, setRow_heap w _ vs _ et _ hheap, ?_, by rw [hlen2]; exact hfit, fun i j hi hj => ?_⟩
      · simp only [List.size_toArray, splice_length _ _ _ hspl]; simpa using hsize
      · rw [hlen2] at hi
        have eA : ∀ (l : List Value) (k : Nat), l.toArray.getD k undef = l.getD k undef := fun l k => by simp
        rw [eA, splice_getD _ _ _ _ _ hspl]
        have eC : (clrL xs off (m + 1) (zeroA (T.ty e).k (T.ty e).zero)).getD i .any = if off ≤ i ∧ i < off + (m + 1) then zeroA (T.ty e).k (T.ty e).zero else xs.getD i .any := by
          have := splice_getD xs (List.replicate (m + 1) (zeroA (T.ty e).k (T.ty e).zero)) off i .any (by simpa using hfits)
          simp only [List.length_replicate] at this
          unfold clrL
          rw [this]
          split
          · rename_i hc
            simp [show i - off < m + 1 by omega]
          · rfl
        rw [eC]
        have hm1 : off * (T.ty e).sz ≤ i * (T.ty e).sz + j ↔ off ≤ i := by
          constructor
          · intro h
            by_cases hc : off ≤ i
            · exact hc
            · have : (i + 1) * (T.ty e).sz ≤ off * (T.ty e).sz := Nat.mul_le_mul_right _ (by omega)
              rw [Nat.add_mul, Nat.one_mul] at this
              omega
          · intro h
            have := Nat.mul_le_mul_right (T.ty e).sz h
            omega
        have hm2 : i * (T.ty e).sz + j < off * (T.ty e).sz + (Builtin.zeroCells z.cells (m + 1)).toList.length ↔ i < off + (m + 1) := by
          rw [hzc, ← Nat.add_mul]
          constructor
          · intro h
            by_cases hc : i < off + (m + 1)
            · exact hc
            · have := Nat.mul_le_mul_right (T.ty e).sz (show off + (m + 1) ≤ i by omega)
              omega
          · intro h; exact row_lt h (Nat.le_refl _) hj
        by_cases hin : off ≤ i ∧ i < off + (m + 1)
        · rw [if_pos ⟨hm1.2 hin.1, hm2.2 hin.2⟩, if_pos hin]
          have e2 : i * (T.ty e).sz + j - off * (T.ty e).sz = (i - off) * (T.ty e).sz + j := by
            have := Nat.mul_le_mul_right (T.ty e).sz hin.1
            rw [Nat.sub_mul]; omega
          have e3 : (Builtin.zeroCells z.cells (m + 1)).toList.getD ((i - off) * (T.ty e).sz + j) undef = z.cells.getD j undef := by
            have hlt : (i - off) * (T.ty e).sz + j < (m + 1) * z.cells.size := by rw [hzs, hsz]; exact row_lt (by omega) (Nat.le_refl _) hj
            have hjz : j < z.cells.size := by rw [hzs, hsz]; exact hj
            have hmod : ((i - off) * (T.ty e).sz + j) % z.cells.size = j := by
              rw [hzs, hsz, Nat.mul_add_mod_self_right]; exact Nat.mod_eq_of_lt hj
            simp [Builtin.zeroCells, hlt, hmod, hjz]
          rw [e2, e3, hz]
          exact (hzr j).mono hle
        · rw [if_neg (fun h => hin ⟨hm1.1 h.1, hm2.1 h.2⟩), if_neg hin]
          have := (hcell i j hi hj).mono hle
          simpa using this

/-- A piece of a string. -/
theorem SpecO.sliceStr {T : Tys P} {o : Oper} {ts : TS} {K : TS → Prop} {t : TypeId} {x : Operand} {lo hi : Option Operand} (ho : o.op = .slice t x lo hi none) (ht : (T.ty t).k = .str)
    {s : List UInt8} (hx : ts.ev x = .str s) {l u : Int} (hl : ts.optI lo 0 = some l) (hu : ts.optI hi s.length = some u) (h0 : 0 ≤ l) (h1 : l ≤ u) (h2 : u ≤ s.length)
    (hk : setK ts o.dst (.str ((s.take u.toNat).drop l.toNat)) K) : SpecO P o ts K :=
  SpecO.val hk fun E G a w hr => by
    have hut := Tys.strT ht
    have hv := hr.ev x
    rw [hx] at hv
    obtain ⟨b, hq, rfl⟩ := rep_str hv
    have hlen : b.data.toList.length = b.size := by cases b; rfl
    rw [hlen] at hu h2
    have hb := run_bounds (P := P) false w hr b.size b.size (Nat.le_refl _) lo hi hl hu h0 h1 h2
    refine ⟨.string (b.extract l.toNat u.toNat), ?_, .str _ _ ?_⟩
    · simp only [execOp, ho, Instr.sliceAt, Sem.run_bind, run_underlying hut, Result.andThen_ok, hq, Instr.slice, Option.map_none]
      simp only [Option.isSome_none, Bool.false_eq_true, if_false]
      rw [show (do
        let __discr ← Instr.sliceBounds false b.size b.size (Option.map a.eval lo) (Option.map a.eval hi) none
        match __discr with
        | (l, h, _) => pure (Value.string (b.extract l h)) : Sem Value) = (Instr.sliceBounds false b.size b.size (Option.map a.eval lo) (Option.map a.eval hi) none >>= fun r => pure (Value.string (b.extract r.1 r.2.1))) from rfl]
      rw [Sem.run_bind, hb]
      rfl
    · simp [ByteArray.data_extract, Array.toList_extract, List.extract_eq_take_drop, List.drop_take]

/-- A byte of a string. -/
theorem SpecO.indexStr {T : Tys P} {o : Oper} {ts : TS} {K : TS → Prop} {t : TypeId} {x i : Operand} (ho : o.op = .index t x i) (ht : (T.ty t).k = .str)
    {s : List UInt8} (hx : ts.ev x = .str s) {k : IntKind} {n : Int} (hi : ts.ev i = .int k n) (h0 : 0 ≤ n) (h1 : n < s.length)
    (hk : setK ts o.dst (.int .u8 (s.getD n.toNat 0).toNat) K) : SpecO P o ts K :=
  SpecO.val hk fun E G a w hr => by
    have hut := Tys.strT ht
    have hv := hr.ev x
    rw [hx] at hv
    obtain ⟨b, hq, rfl⟩ := rep_str hv
    have hvi := hr.ev i
    rw [hi] at hvi
    have hlen : b.data.toList.length = b.size := by cases b; rfl
    rw [hlen] at h1
    have hlt : n.toNat < b.size := by omega
    refine ⟨.int .u8 (b[n.toNat]).toNat, ?_, ?_⟩
    · simp [execOp, ho, Instr.index, hq, rep_int hvi, asIntOf, run_underlying hut, h0, hlt]
    · have : b.data.toList.getD n.toNat 0 = b[n.toNat] := by
        have h2 : n.toNat < b.data.toList.length := by omega
        simp only [List.getD_eq_getElem?_getD, List.getElem?_eq_getElem h2, Option.getD_some]
        rfl
      rw [this]; exact .int _ _

/-! ### Closures -/
def frzR (d g : Nat) (cs : List AV) : AV → AV
  | .ref d' g' off => if d' = d ∧ g' = g ∧ off < cs.length then .ro (cs.drop off) else .ref d' g' off
  | x => x

/-- A box that nobody writes any more. -/
def TS.frzBox (ts : TS) (d : Nat) : TS :=
  match ts.obj d with
  | .box cs => { ts with tmp := fun t => frzR d (ts.gen d) cs (ts.tmp t), obj := upd ts.obj d .dead }
  | _ => ts

theorem Rel.frzBox {E : Env} {ts : TS} {G : Ghost} {a : Act} {w : World} (h : Rel E ts G a w) (d : Nat) : Rel E (ts.frzBox d) G a w := by
  unfold TS.frzBox
  split
  · rename_i cs ho
    have hk := h.kill d
    have hle := le_kill E G ts w d
    refine ⟨hk.size, hk.defers, fun t => ?_, hk.obj, hk.sep, hk.own, hk.inF, hk.bel, hk.pin⟩
    show Rep (ctxOf E G (ts.kill d) w) _ (frzR d (ts.gen d) cs (ts.tmp t))
    have ht := h.tmp t
    have ht' := hk.tmp t
    show Rep _ _ (frzR d (ts.gen d) cs (ts.tmp t))
    generalize hx : ts.tmp t = x at ht
    have hx' : (ts.kill d).tmp t = x := hx
    rw [hx'] at ht'
    cases x with
    | ref d' g' off =>
      simp only [frzR]
      split
      · rename_i hc
        obtain ⟨rfl, rfl, hoff⟩ := hc
        obtain ⟨_, _, hh⟩ := rep_ref ht
        have hv := hh rfl (by simp [ctxOf, ho, Ob.kind])
        have hob := h.obj d'
        rw [ho] at hob
        obtain ⟨hκ, vs, T, hheap, hsize, hcell⟩ := hob
        have hlive : liveR ts G d' := ⟨by simp [ho, Ob.kind], hκ⟩
        rw [hv]
        refine .ro _ off _ (fun j => vs.getD (off + j) undef) (by intro e; have := congrArg List.length e; simp at this; omega) ?_ (fun j hj => ?_) fun j => ?_
        · rintro (hF | ⟨e, he, hb⟩)
          · exact (h.own d' hlive).2.1 hF
          · obtain ⟨hne, hl⟩ := liveR_kill he
            exact hne (h.sep e d' hl hlive hb)
        · simp only [List.length_drop] at hj
          exact cell_of hheap (by omega)
        · have := (hcell (off + j)).mono hle
          simpa [List.getElem?_drop] using this
      · exact ht'
    | _ => exact ht'
  · exact h

theorem SpecO.frz {o : Oper} {ts : TS} {K : TS → Prop} (d : Nat) (h : SpecO P o (ts.frzBox d) K) : SpecO P o ts K :=
  fun E G a w next Q hr hn => h E G a w next Q (hr.frzBox d) hn

theorem SpecO.makeFunc {o : Oper} {ts : TS} {K : TS → Prop} {fn : Fn} {first caps : Array Operand} (ho : o.op = .makeFunc fn first caps) (hk : setK ts o.dst (.clo fn (first.toList.map ts.ev) (caps.toList.map ts.ev)) K) : SpecO P o ts K :=
  SpecO.val hk fun E G a w hr => by
    have hl : ∀ (l : Array Operand) (i : Nat), Rep (ctxOf E G ts w) ((l.map a.eval).getD i undef) ((l.toList.map ts.ev).getD i .any) := fun l i => by
      simp only [Array.getD_eq_getD_getElem?, Array.getElem?_map, List.getD_eq_getElem?_getD, List.getElem?_map, Array.getElem?_toList]
      cases l[i]? with
      | none => exact .any _
      | some x => exact hr.ev x
    exact ⟨.func fn (first.map a.eval) (caps.map a.eval), by simp [execOp, ho, Instr.makeFunc], .clo _ _ _ _ _ (by simp) (by simp) (hl first) (hl caps)⟩

/-! ### Equality of structs whose fields are whole numbers, bools and strings -/
def eqF (k : TyK) (x y : AV) : Option Bool :=
  match k, x, y with
  | .int _, .int k a, .int k' b => if k = k' then some (decide (a = b)) else none
  | .bool, .bool a, .bool b => some (decide (a = b))
  | .str, .str a, .str b => some (decide (a = b))
  | _, _, _ => none

def eqFs (T : Tys P) (xs ys : List AV) : List (Nat × Nat × String) → Option Bool
  | [] => some true
  | f :: r => if f.2.2 = "_" then none else
    match eqF (T.ty f.2.1).k (xs.getD f.1 .any) (ys.getD f.1 .any), eqFs T xs ys r with
    | some b, some c => some (b && c)
    | _, _ => none

def eqS (T : Tys P) (fs : List (Nat × Nat × String)) (op : BinOp) (x y : AV) : Option Bool :=
  match op, x, y with
  | .eql, .agg xs, .agg ys => eqFs T xs ys fs
  | .neq, .agg xs, .agg ys => (eqFs T xs ys fs).map (!·)
  | _, _, _ => none

theorem run_part {T : Tys P} {t off : Nat} {vs : Array Value} {v : Value} (ht : (T.ty t).k ≠ .unk) (ha : (T.ty t).k.agg = false) (hv : vs.getD off undef = v) (hd : v ≠ undef) (w : World) : (part t vs off).run P w = .ok v w := by
  have h1 : vs[off]? = some v := by
    rw [Array.getD_eq_getD_getElem?] at hv
    cases h : vs[off]? with
    | some u => rw [h] at hv; simpa using hv
    | none => rw [h] at hv; exact absurd hv.symm hd
  simp only [part, Sem.run_bind, Tys.run_isAgg ht, Result.andThen_ok, ha, Bool.false_eq_true, if_false, h1, Sem.run_pure]

theorem beq_str {s s' : ByteArray} {l l' : List UInt8} (h : s.data.toList = l) (h' : s'.data.toList = l') : (s.toList == s'.toList) = decide (l = l') := by
  rw [ByteArray.toList_eq, ByteArray.toList_eq]
  subst h h'
  exact Bool.eq_iff_iff.2 (by simp)

theorem run_eqF {T : Tys P} {c : Ctx} {t : Nat} {v u : Value} {x y : AV} {b : Bool} (hx : Rep c v x) (hy : Rep c u y) (h : eqF (T.ty t).k x y = some b) (w : World) (d : Nat) :
    (Op.equalIn (d + 1) t v u).run P w = .ok b w ∧ (T.ty t).k ≠ .unk ∧ (T.ty t).k.agg = false ∧ v ≠ undef ∧ u ≠ undef := by
  unfold eqF at h
  split at h
  · rename_i k k1 a k2 b' hk
    split at h
    rotate_left
    · cases h
    rename_i hkk
    subst hkk
    cases h
    obtain ⟨ti, _, _, _, _, de, h1, h2⟩ := Tys.get (T := T) (t := t) (by rw [hk]; simp)
    rw [hk] at h2
    have hd : ∃ k', de = .int k' := by cases de <;> simp [descK] at h2 <;> exact ⟨_, rfl⟩
    obtain ⟨k', rfl⟩ := hd
    rw [rep_int hx, rep_int hy]
    exact ⟨by rw [run_equalIn_int w d t k1 k' a b' h1]; rfl, by rw [hk]; simp, by rw [hk]; rfl, by simp [undef], by simp [undef]⟩
  · rename_i a b' hk
    cases h
    rw [rep_bool hx, rep_bool hy]
    exact ⟨by rw [run_equalIn_bool' w d t a b' (Tys.boolT hk)]; rfl, by rw [hk]; simp, by rw [hk]; rfl, by simp [undef], by simp [undef]⟩
  · rename_i a b' hk
    cases h
    obtain ⟨s, rfl, hs⟩ := rep_str hx
    obtain ⟨s', rfl, hs'⟩ := rep_str hy
    exact ⟨by rw [run_equalIn_string w d t s s' (Tys.strT hk), beq_str hs hs'], by rw [hk]; simp, by rw [hk]; rfl, by simp [undef], by simp [undef]⟩
  · cases h

theorem run_eqFs {T : Tys P} {c : Ctx} {vs us : Array Value} {xs ys : List AV} (hx : ∀ i, Rep c (vs.getD i undef) (xs.getD i .any)) (hy : ∀ i, Rep c (us.getD i undef) (ys.getD i .any)) (w : World) (d : Nat) :
    ∀ (l : List Field) (b : Bool), eqFs T xs ys (l.map fun f => (f.offset, f.type, f.name)) = some b → (Op.eqFields (d + 1) vs us l).run P w = .ok b w
  | [], b, h => by simp [eqFs] at h; subst h; rfl
  | f :: r, b, h => by
    simp only [List.map_cons, eqFs] at h
    split at h
    · cases h
    · rename_i hne
      split at h
      · rename_i b1 c1 h1 h2
        cases h
        obtain ⟨e1, e2, e3, e4, e5⟩ := run_eqF (hx f.offset) (hy f.offset) h1 w d
        have ih := run_eqFs hx hy w d r c1 h2
        simp only [Op.eqFields, hne, ne_eq, not_false_eq_true, if_true, Sem.run_bind, run_part e2 e3 rfl e4, run_part e2 e3 rfl e5, Result.andThen_ok, e1]
        cases b1
        · simp
        · simpa using ih
      · cases h

theorem SpecO.eqS {T : Tys P} {o : Oper} {ts : TS} {K : TS → Prop} {op : BinOp} {t u : TypeId} {x y : Operand} (ho : o.op = .binOp op t x y u) {fs : List (Nat × Nat × String)} (hk : (T.ty t).k = .struct fs)
    (hg : P.eqGuardType P.depth t = false) (hs : P.stoodInHeld t = false) {r : Bool} (hb : Lg.eqS T fs op (ts.ev x) (ts.ev y) = some r) (hK : setK ts o.dst (.bool r) K) : SpecO P o ts K :=
  SpecO.val hK fun E G a w hr => by
    have hx := hr.ev x
    have hy := hr.ev y
    obtain ⟨fd, hu, hfd⟩ := Tys.structT hk
    have hfo : P.underlying t = some (.struct (P.fieldsOf t)) := by rw [hu]; simp [Program.fieldsOf, hu]
    have hfo2 : P.fieldsOf t = fd := by simp [Program.fieldsOf, hu]
    unfold Lg.eqS at hb
    refine ⟨.bool r, ?_, .bool r⟩
    split at hb
    · rename_i xs ys e1 e2
      rw [e1] at hx; rw [e2] at hy
      obtain ⟨vs, hv, _, hv3⟩ := rep_agg hx
      obtain ⟨us, hu1, _, hu3⟩ := rep_agg hy
      have := run_eqFs (P := P) (T := T) hv3 hu3 w 9998 fd.toList r (by rw [hfd]; exact hb)
      simp only [execOp, ho, hv, hu1]
      simp only [Sem.run_bind, run_eqGuard_agg _ _ _ _ _ _ _ hg, Result.andThen_ok, run_eql_struct, show (10000 : Nat) = 9999 + 1 from rfl, run_equalIn_agg w 9999 t vs us hfo hs, hfo2, this]
      rfl
    · rename_i xs ys e1 e2
      rw [e1] at hx; rw [e2] at hy
      obtain ⟨vs, hv, _, hv3⟩ := rep_agg hx
      obtain ⟨us, hu1, _, hu3⟩ := rep_agg hy
      obtain ⟨r', hb1, rfl⟩ := Option.map_eq_some_iff.1 hb
      have := run_eqFs (P := P) (T := T) hv3 hu3 w 9998 fd.toList r' (by rw [hfd]; exact hb1)
      simp only [execOp, ho, hv, hu1]
      simp only [Sem.run_bind, run_eqGuard_agg _ _ _ _ _ _ _ hg, Result.andThen_ok, run_neq_struct, show (10000 : Nat) = 9999 + 1 from rfl, run_equalIn_agg w 9999 t vs us hfo hs, hfo2, this]
      rfl
    · cases hb

theorem beq_eq_decide_bool (p q : Bool) : (p == q) = decide (p = q) := rfl

def eqB (op : BinOp) (x y : AV) : Option Bool :=
  match op, x, y with
  | .eql, .bool a, .bool b => some (decide (a = b))
  | .neq, .bool a, .bool b => some (decide (a ≠ b))
  | _, _, _ => none

theorem SpecO.eqB {T : Tys P} {o : Oper} {ts : TS} {K : TS → Prop} {op : BinOp} {t u : TypeId} {x y : Operand} (ho : o.op = .binOp op t x y u) (hk : (T.ty t).k = .bool)
    {r : Bool} (hb : Lg.eqB op (ts.ev x) (ts.ev y) = some r) (hK : setK ts o.dst (.bool r) K) : SpecO P o ts K :=
  SpecO.val hK fun E G a w hr => by
    have hx := hr.ev x
    have hy := hr.ev y
    unfold Lg.eqB at hb
    refine ⟨.bool r, ?_, .bool r⟩
    have key : ∀ p q : Bool, (Op.equalIn 10000 t (.bool p) (.bool q)).run P w = .ok (p == q) w := fun p q => run_equalIn_bool' w 9999 t p q (Tys.boolT hk)
    split at hb
    · rename_i p q e1 e2
      rw [e1] at hx; rw [e2] at hy
      cases hb
      simp only [execOp, ho, rep_bool hx, rep_bool hy]
      simp [eqGuard, binOp, Op.equal, Op.maxDepth, key, beq_eq_decide_bool]
    · rename_i p q e1 e2
      rw [e1] at hx; rw [e2] at hy
      cases hb
      simp only [execOp, ho, rep_bool hx, rep_bool hy]
      simp [eqGuard, binOp, Op.equal, Op.maxDepth, key, beq_eq_decide_bool]
    · cases hb

end Go.Proofs.Ytjmnokbbodcaaaa.Lg
