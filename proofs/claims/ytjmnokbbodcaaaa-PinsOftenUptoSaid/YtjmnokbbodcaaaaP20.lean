/- The law PinsOften. -/
import Derived.Test.YtjmnokbbodcaaaaPL5
namespace Go.Proofs.Ytjmnokbbodcaaaa.Lg
set_option linter.unusedVariables false
set_option linter.unusedSimpArgs false
open Go

def oB (n : Int) (init : List Snap) (s : Snap) (q : Int) : Pins := ⟨n, init ++ [⟨s.id, q, s.l⟩]⟩
def oA (n : Int) (init : List Snap) (s : Snap) (q : Int) (L : List Res) : Pins := ⟨n + 1, init ++ (if 0 < q then [⟨s.id, q, s.l⟩] else []) ++ [⟨n + 1, 0, L⟩]⟩
section
variable {n : Int} {init : List Snap} {s : Snap} {L : List Res}
theorem oB_ok (h : OkP ⟨n, init ++ [s]⟩) {q : Int} (h0 : 0 ≤ q) (h1 : q ≤ 10000) : OkP (oB n init s q) := by
  have hk : init.length < (init ++ [s]).length := by simp
  have := okP_with h (k := init.length) (s := ⟨s.id, q, s.l⟩) hk (by simp) h0 h1
  rw [rwith_set hk (.inr (by simp))] at this
  simpa [oB] using this
theorem oB_pin (h : OkP ⟨n, init ++ [s]⟩) {q : Int} (h0 : 0 ≤ q) (h1 : q < 10000) : rpin (oB n init s q) = (oB n init s (q + 1), s.id, 0) := by
  have ho := oB_ok h h0 (by omega : q ≤ 10000)
  have hw : IntKind.i64.wrap (q + 1) = q + 1 := IntWalk.i64_in _ (by omega)
  unfold rpin
  rw [rsane_of ho]
  simp only [oB, List.getLast?_append, List.getLast?_singleton, Option.some_or]
  rw [if_neg (by omega), rwith_set (by simp) (.inr (by simp)), hw]
  simp
theorem oB_rel (h : OkP ⟨n, init ++ [s]⟩) {q : Int} (h0 : 0 ≤ q) (h1 : q < 10000) : rrelease (oB n init s (q + 1)) s.id = (oB n init s q, 0) := by
  have ho := oB_ok h (by omega : 0 ≤ q + 1) (by omega)
  have := rrelease_at ho (k := init.length) (by simp [oB])
  simp only [oB, List.getElem_concat_length] at this
  rw [show (oB n init s (q + 1)) = ⟨n, init ++ [⟨s.id, q + 1, s.l⟩]⟩ from rfl, this, if_neg (by omega), rwith_set (by simp) (.inr (by simp))]
  simp [oB]
theorem oB_rel0 (h : OkP ⟨n, init ++ [s]⟩) : (rrelease ⟨n, init ++ [s]⟩ s.id).2 = if s.pins = 0 then 15 else 0 := by
  have := rrelease_at h (k := init.length) (by simp)
  simp only [List.getElem_concat_length] at this
  rw [this]
  split <;> rfl
theorem oB_pub (h : OkP ⟨n, init ++ [s]⟩) {q : Int} (h0 : 0 ≤ q) (h1 : q ≤ 10000) (hm : n < 2147483647) (hl : init.length < 999) : rpublish (oB n init s q) L = (oA n init s q L, n + 1, 0) := by
  have ho := oB_ok h h0 h1
  rw [rpublish_ok ho (by simp only [oB]; omega) (by simp [oB]; omega)]
  have hi : init.filter (fun x => decide (0 < x.pins)) = init := by
    rw [List.filter_eq_self]
    intro x hx
    have := h.pos x (by simpa using hx)
    simpa using this
  simp only [oB, oA, List.filter_append, hi, List.filter_cons, List.filter_nil]
  by_cases hq : 0 < q <;> simp [hq]
theorem oA_rel (h : OkP ⟨n, init ++ [s]⟩) {q : Int} (h0 : 0 ≤ q) (h1 : q < 10000) (hm : n < 2147483647) (hl : init.length < 999) : rrelease (oA n init s (q + 1) L) s.id = (oA n init s q L, 0) := by
  have ho : OkP (oA n init s (q + 1) L) := by
    have := okP_publish (oB n init s (q + 1)) L
    rwa [oB_pub h (by omega) (by omega) hm hl] at this
  have e : oA n init s (q + 1) L = ⟨n + 1, init ++ [⟨s.id, q + 1, s.l⟩, ⟨n + 1, 0, L⟩]⟩ := by
    unfold oA; rw [if_pos (by omega)]; simp
  rw [e] at ho ⊢
  have hk : init.length < (init ++ [⟨s.id, q + 1, s.l⟩, ⟨n + 1, 0, L⟩] : List Snap).length := by simp
  have hg : (init ++ [⟨s.id, q + 1, s.l⟩, ⟨n + 1, 0, L⟩] : List Snap)[init.length] = ⟨s.id, q + 1, s.l⟩ := by simp
  have := rrelease_at ho (k := init.length) hk
  simp only [hg] at this
  rw [this, if_neg (by omega)]
  by_cases hq : 0 < q
  · rw [rwith_set hk (.inl (by simp only; omega))]
    simp [oA, hq]
  · rw [rwith_del (by simp only [List.length_append, List.length_cons, List.length_nil]; omega)]
    simp [oA, hq, List.eraseIdx_append_of_length_le]
theorem oB_self : oB n init s s.pins = ⟨n, init ++ [s]⟩ := rfl
end

/-- All that the walk asks of the states that it comes by. -/
theorem often_states {next : Int} {xs : List Snap} {x : Snap} {L : List Res} (T : Nat) (hT : T ≤ 15) (hok : OkP ⟨next, xs⟩) (hi : xs.length - 1 < xs.length) (hx : xs[xs.length - 1] = x) (hp : x.pins ≤ 9000) (hn : next ≤ 1073741824) (hlen : xs.length ≤ 20)
    (hs : ∀ y ∈ xs, SmSnap y) (hL : Small L.length) (hL2 : ∀ y ∈ L, SmRes y) :
    ∃ f g : Nat → List Snap, f 0 = xs ∧ (∀ i, i < T → ppin ⟨next, f i⟩ = (⟨next, f (i + 1)⟩, x.id, 0)) ∧ ppublish ⟨next, f T⟩ L = (⟨next + 1, g T⟩, next + 1, 0) ∧
      (∀ i, i < T → prelease ⟨next + 1, g (i + 1)⟩ x.id = (⟨next + 1, g i⟩, 0)) ∧ (∀ i, i < T → prelease ⟨next, f (i + 1)⟩ x.id = (⟨next, f i⟩, 0)) ∧
      ppublish ⟨next, xs⟩ L = (⟨next + 1, g 0⟩, next + 1, 0) ∧ (prelease ⟨next, xs⟩ x.id).2 = (if x.pins = 0 then 15 else 0) ∧ (∀ i, i ≤ T → Small (f i).length ∧ Small (g i).length) ∧ (∀ y ∈ g 0, SmSnap y) := by
  have hxs : xs = xs.dropLast ++ [x] := by
    rw [← hx]
    have hne : xs ≠ [] := by intro e; subst e; simp at hi
    conv => lhs; rw [← List.dropLast_concat_getLast hne]
    rw [List.getLast_eq_getElem]
  generalize hI : xs.dropLast = init at hxs
  have hb := hok.mem x (by rw [← hx]; exact List.getElem_mem hi)
  rw [hxs] at hok
  have hil : init.length < 999 := by
    have := congrArg List.length hxs
    simp at this; omega
  have e0 : (⟨next, xs⟩ : Pins) = oB next init x x.pins := by rw [hxs, oB_self]
  have hE : ∀ i : Nat, (⟨next, (oB next init x (x.pins + i)).snaps⟩ : Pins) = oB next init x (x.pins + i) := fun i => rfl
  have hA : ∀ i : Nat, (⟨next + 1, (oA next init x (x.pins + i) L).snaps⟩ : Pins) = oA next init x (x.pins + i) L := fun i => rfl
  refine ⟨fun i => (oB next init x (x.pins + i)).snaps, fun i => (oA next init x (x.pins + i) L).snaps, ?_, ?_, ?_, ?_, ?_, ?_, ?_, ?_, ?_⟩
  · show (oB next init x (x.pins + (0 : Nat))).snaps = xs
    rw [hxs]; simp [oB]
  · intro i hiT
    simp only [hE]
    rw [ppin_eq, oB_pin hok (by omega) (by omega)]
    congr 2
    omega
  · simp only [hE, hA]
    rw [ppublish_eq, oB_pub hok (by omega) (by omega) (by omega) hil]
  · intro i hiT
    simp only [hA]
    have e : x.pins + ((i + 1 : Nat) : Int) = x.pins + i + 1 := by omega
    rw [prelease_eq, e, oA_rel hok (by omega) (by omega) (by omega) hil]
  · intro i hiT
    simp only [hE]
    have e : x.pins + ((i + 1 : Nat) : Int) = x.pins + i + 1 := by omega
    rw [prelease_eq, e, oB_rel hok (by omega) (by omega)]
  · simp only [hA]
    rw [e0, ppublish_eq, oB_pub hok (by omega) (by omega) (by omega) hil]
    simp
  · rw [prelease_eq, hxs, oB_rel0 hok]
  · intro i hiT
    constructor
    · exact (oB_ok hok (q := x.pins + i) (by omega) (by omega)).small
    · have := okP_publish (oB next init x (x.pins + i)) L
      rw [oB_pub hok (by omega) (by omega) (by omega) hil] at this
      exact this.small
  · have := smP_publish (p := ⟨next, xs⟩) (l := L) hs hL hL2
    rw [e0, oB_pub hok (by omega) (by omega) (by omega) hil] at this
    intro y hy
    exact this y (by simpa using hy)

def andI (a b : Int) : Int := IntKind.i64.wrap (BitVec.ofInt IntKind.i64.bits a &&& BitVec.ofInt IntKind.i64.bits b).toNat
theorem binA_andI (a b : Int) : binA .and (.int .i64 a) (.int .i64 b) = some (.int .i64 (andI a b)) := binA_and .i64 a b
theorem and15 (n : Int) : ∃ tm : Nat, tm ≤ 15 ∧ andI n 15 = (tm : Int) := by
  have h : (BitVec.ofInt IntKind.i64.bits n &&& BitVec.ofInt IntKind.i64.bits 15).toNat ≤ 15 := by
    rw [BitVec.toNat_and]; exact Nat.and_le_right
  exact ⟨_, h, by unfold andI; rw [IntWalk.i64_in _ (by omega)]⟩

set_option maxRecDepth 30000 in
set_option maxHeartbeats 8000000 in
theorem often_c (next n : Int) (xs : List Snap) (l : List Res) (hl : Small xs.length) (hs : ∀ x ∈ xs, SmSnap x) (hl2 : Small l.length) (hs2 : ∀ x ∈ l, SmRes x) : CallR Try.prog 4 [.agg [.int .i64 next, .slice false (avs xs)], .int .i64 n, .slice false (avs l)] (.val (.bool true)) := by
  by_cases hf : fewPins ⟨next, xs⟩ = true
  rotate_left
  · refine CallR.go3 (T := T) Try.call4 Try.func4 rfl Try.ntmps4 (congrArg Array.toList Try.results4) (by decide) fun ts hn h0 h1 h2 => ?_
    (repeat' (first
    | with_reducible refine callX.by awake_c ?_
    | with_reducible refine callX.by (few18_c _ _ ?_ ?_) ?_
    | with_reducible refine callX.by (few4_c _ ?_ ?_) ?_
    | with_reducible refine callX.by (pins1_c _ _ ?_) ?_
    | with_reducible refine callX.by (pSane_c _ _ ?_) ?_
    | with_reducible refine callX.by awc2 ?_
    | with_reducible refine callX.by (ppin_c _ _ ?_) ?_
    | with_reducible refine callX.by awc1 ?_
    | with_reducible refine callX.by awc3 ?_
    | with_reducible refine callX.by (ppublish_c _ _ _ ?_) ?_
    | with_reducible refine callX.by awc5 ?_
    | with_reducible refine callX.by (prelease_c _ _ _ ?_) ?_
    | with_reducible refine callX.by (kept_c _ _ ?_) ?_
    | with_reducible refine callX.by (rsame_c _ _ _ _ ?_ ?_) ?_
    | with_reducible assumption
    | (with_reducible refine NxK.out hK _ ?_; clear hK K)
    | with_reducible refine NxK.out (by assumption) _ ?_
    | with_reducible refine Nx.out (by assumption) ?_
    | with_reducible refine SpecC.seqW fun K hK => ?_
    | with_reducible refine SpecC.regW T fun K hK => ?_
    | with_reducible refine SpecC.drawW (id := 29) T mixed [([142], [148, 149, 150, 151, 152, 153, 154, 155, 156, 157, 158, 159, 160, 161, 162, 163, 164, 165, 166, 167, 168, 169, 170, 171, 172, 173, 174, 175, 176]), ([143], [152, 153, 154, 155, 156, 157, 158, 159, 160, 161, 162, 163, 164, 165, 166, 167, 168, 169, 170, 171, 172, 173, 174, 175, 176]), ([144], [147, 148, 149, 150, 151, 152, 153, 154, 155, 156, 157, 158, 159, 160, 161, 162, 163, 164, 165, 166, 167, 168, 169, 170, 171, 172, 173, 174, 175, 176]), ([145], [148, 149, 150, 151, 152, 153, 154, 155, 156, 157, 158, 159, 160, 161, 162, 163, 164, 165, 166, 167, 168, 169, 170, 171, 172, 173, 174, 175, 176]), ([146], [152, 153, 154, 155, 156, 157, 158, 159, 160, 161, 162, 163, 164, 165, 166, 167, 168, 169, 170, 171, 172, 173, 174, 175, 176]), ([147], [144, 157, 158, 159, 160, 161, 162, 163, 164, 165, 166, 167, 168, 169, 170, 171, 172, 173, 174, 175, 176]), ([148], [142, 144, 145, 151, 152, 153, 154, 155, 156, 157, 158, 159, 160, 161, 162, 163, 164, 165, 166, 167, 168, 169, 170, 171, 172, 173, 174, 175, 176]), ([149], [142, 144, 145, 152, 153, 154, 155, 156, 157, 158, 159, 160, 161, 162, 163, 164, 165, 166, 167, 168, 169, 170, 171, 172, 173, 174, 175, 176]), ([150], [142, 144, 145, 157, 158, 159, 160, 161, 162, 163, 164, 165, 166, 167, 168, 169, 170, 171, 172, 173, 174, 175, 176]), ([151], [142, 144, 145, 148, 162, 163, 164, 165, 166, 167, 168, 169, 170, 171, 172, 173, 174, 175, 176]), ([152], [142, 143, 144, 145, 146, 148, 149, 153, 156, 157, 158, 159, 160, 161, 162, 163, 164, 165, 166, 167, 168, 169, 170, 171, 172, 173, 174, 175, 176]), ([153], [142, 143, 144, 145, 146, 148, 149, 152, 156, 157, 158, 159, 160, 161, 162, 163, 164, 165, 166, 167, 168, 169, 170, 171, 172, 173, 174, 175, 176]), ([154], [142, 143, 144, 145, 146, 148, 149, 157, 158, 159, 160, 161, 162, 163, 164, 165, 166, 167, 168, 169, 170, 171, 172, 173, 174, 175, 176]), ([155], [142, 143, 144, 145, 146, 148, 149, 162, 163, 164, 165, 166, 167, 168, 169, 170, 171, 172, 173, 174, 175, 176]), ([156], [142, 143, 144, 145, 146, 148, 149, 152, 153, 163, 164, 165, 166, 167, 168, 169, 170, 171, 172, 173, 174, 175, 176]), ([157], [142, 143, 144, 145, 146, 147, 148, 149, 150, 152, 153, 154, 159, 161, 162, 163, 164, 165, 166, 167, 168, 169, 170, 171, 172, 173, 174, 175, 176]), ([158], [142, 143, 144, 145, 146, 147, 148, 149, 150, 152, 153, 154, 159, 163, 164, 165, 166, 167, 168, 169, 170, 171, 172, 173, 174, 175, 176]), ([159], [142, 143, 144, 145, 146, 147, 148, 149, 150, 152, 153, 154, 157, 158, 163, 164, 165, 166, 167, 168, 169, 170, 171, 172, 173, 174, 175, 176]), ([160], [142, 143, 144, 145, 146, 147, 148, 149, 150, 152, 153, 154, 169, 170, 171, 172, 173, 174, 175, 176]), ([161], [142, 143, 144, 145, 146, 147, 148, 149, 150, 152, 153, 154, 157, 169, 170, 171, 172, 173, 174, 175, 176]), ([162], [142, 143, 144, 145, 146, 147, 148, 149, 150, 151, 152, 153, 154, 155, 157, 170, 171, 172, 173, 174, 175, 176]), ([163], [142, 143, 144, 145, 146, 147, 148, 149, 150, 151, 152, 153, 154, 155, 156, 157, 158, 159, 165, 168, 169, 170, 171, 172, 173, 174, 175, 176]), ([164], [142, 143, 144, 145, 146, 147, 148, 149, 150, 151, 152, 153, 154, 155, 156, 157, 158, 159, 165, 170, 171, 172, 173, 174, 175, 176]), ([165], [142, 143, 144, 145, 146, 147, 148, 149, 150, 151, 152, 153, 154, 155, 156, 157, 158, 159, 163, 164, 168, 169, 170, 171, 172, 173, 174, 175, 176]), ([166], [142, 143, 144, 145, 146, 147, 148, 149, 150, 151, 152, 153, 154, 155, 156, 157, 158, 159, 170, 171, 172, 173, 174, 175, 176]), ([167], [142, 143, 144, 145, 146, 147, 148, 149, 150, 151, 152, 153, 154, 155, 156, 157, 158, 159]), ([168], [142, 143, 144, 145, 146, 147, 148, 149, 150, 151, 152, 153, 154, 155, 156, 157, 158, 159, 163, 165]), ([169], [142, 143, 144, 145, 146, 147, 148, 149, 150, 151, 152, 153, 154, 155, 156, 157, 158, 159, 160, 161, 163, 165]), ([170], [142, 143, 144, 145, 146, 147, 148, 149, 150, 151, 152, 153, 154, 155, 156, 157, 158, 159, 160, 161, 162, 163, 164, 165, 166, 172, 173, 174, 176]), ([171], [142, 143, 144, 145, 146, 147, 148, 149, 150, 151, 152, 153, 154, 155, 156, 157, 158, 159, 160, 161, 162, 163, 164, 165, 166, 172, 173, 174]), ([172], [142, 143, 144, 145, 146, 147, 148, 149, 150, 151, 152, 153, 154, 155, 156, 157, 158, 159, 160, 161, 162, 163, 164, 165, 166, 170, 171, 175, 176]), ([173], [142, 143, 144, 145, 146, 147, 148, 149, 150, 151, 152, 153, 154, 155, 156, 157, 158, 159, 160, 161, 162, 163, 164, 165, 166, 170, 171, 176]), ([174], [142, 143, 144, 145, 146, 147, 148, 149, 150, 151, 152, 153, 154, 155, 156, 157, 158, 159, 160, 161, 162, 163, 164, 165, 166, 170, 171]), ([175], [142, 143, 144, 145, 146, 147, 148, 149, 150, 151, 152, 153, 154, 155, 156, 157, 158, 159, 160, 161, 162, 163, 164, 165, 166, 172]), ([176], [142, 143, 144, 145, 146, 147, 148, 149, 150, 151, 152, 153, 154, 155, 156, 157, 158, 159, 160, 161, 162, 163, 164, 165, 166, 170, 172, 173])] (by kernel_rfl) fun K hK => ?_
    | with_reducible refine SpecC.condW fun A B hA hB => ?_
    | with_reducible refine SpecC.block ?_
    | with_reducible refine SpecC.skip ?_
    | with_reducible refine SpecC.label ?_
    | with_reducible refine SpecC.exit ?_
    | with_reducible refine SpecC.goto ?_
    | with_reducible refine SpecC.ret ?_
    | ((with_reducible first | refine condK.split (fun hb => ?_) (fun hb => ?_) | refine gK.split_t (fun hb => ?_) (fun hb => ?_) | refine gK.split_f (fun hb => ?_) (fun hb => ?_)) <;> try simp only [decide_not, ilt_t, ilt_f, ile_t, ile_f, nlt_t, nlt_f, nle_t, nle_f, Bool.not_eq_true', Bool.not_eq_false', Int.ofNat_lt, Int.ofNat_le] at hb)
    | simp only [go_sem, ↓reduceIte, reduceIte, Nat.reduceEqDiff, String.reduceEq, Nat.reduceLT, Nat.reduceLeDiff, Nat.reduceAdd, Nat.reduceMul, Nat.reduceSub, Nat.reduceBEq, reduceCtorEq, *]
    | with_reducible refine fun (bn : Bool) hbn => ?_))
    all_goals simp_all
  by_cases hfl : fewAll l = true
  rotate_left
  · refine CallR.go3 (T := T) Try.call4 Try.func4 rfl Try.ntmps4 (congrArg Array.toList Try.results4) (by decide) fun ts hn h0 h1 h2 => ?_
    (repeat' (first
    | with_reducible refine callX.by awake_c ?_
    | with_reducible refine callX.by (few18_c _ _ ?_ ?_) ?_
    | with_reducible refine callX.by (few4_c _ ?_ ?_) ?_
    | with_reducible refine callX.by (pins1_c _ _ ?_) ?_
    | with_reducible refine callX.by (pSane_c _ _ ?_) ?_
    | with_reducible refine callX.by awc2 ?_
    | with_reducible refine callX.by (ppin_c _ _ ?_) ?_
    | with_reducible refine callX.by awc1 ?_
    | with_reducible refine callX.by awc3 ?_
    | with_reducible refine callX.by (ppublish_c _ _ _ ?_) ?_
    | with_reducible refine callX.by awc5 ?_
    | with_reducible refine callX.by (prelease_c _ _ _ ?_) ?_
    | with_reducible refine callX.by (kept_c _ _ ?_) ?_
    | with_reducible refine callX.by (rsame_c _ _ _ _ ?_ ?_) ?_
    | with_reducible assumption
    | (with_reducible refine NxK.out hK _ ?_; clear hK K)
    | with_reducible refine NxK.out (by assumption) _ ?_
    | with_reducible refine Nx.out (by assumption) ?_
    | with_reducible refine SpecC.seqW fun K hK => ?_
    | with_reducible refine SpecC.regW T fun K hK => ?_
    | with_reducible refine SpecC.drawW (id := 29) T mixed [([142], [148, 149, 150, 151, 152, 153, 154, 155, 156, 157, 158, 159, 160, 161, 162, 163, 164, 165, 166, 167, 168, 169, 170, 171, 172, 173, 174, 175, 176]), ([143], [152, 153, 154, 155, 156, 157, 158, 159, 160, 161, 162, 163, 164, 165, 166, 167, 168, 169, 170, 171, 172, 173, 174, 175, 176]), ([144], [147, 148, 149, 150, 151, 152, 153, 154, 155, 156, 157, 158, 159, 160, 161, 162, 163, 164, 165, 166, 167, 168, 169, 170, 171, 172, 173, 174, 175, 176]), ([145], [148, 149, 150, 151, 152, 153, 154, 155, 156, 157, 158, 159, 160, 161, 162, 163, 164, 165, 166, 167, 168, 169, 170, 171, 172, 173, 174, 175, 176]), ([146], [152, 153, 154, 155, 156, 157, 158, 159, 160, 161, 162, 163, 164, 165, 166, 167, 168, 169, 170, 171, 172, 173, 174, 175, 176]), ([147], [144, 157, 158, 159, 160, 161, 162, 163, 164, 165, 166, 167, 168, 169, 170, 171, 172, 173, 174, 175, 176]), ([148], [142, 144, 145, 151, 152, 153, 154, 155, 156, 157, 158, 159, 160, 161, 162, 163, 164, 165, 166, 167, 168, 169, 170, 171, 172, 173, 174, 175, 176]), ([149], [142, 144, 145, 152, 153, 154, 155, 156, 157, 158, 159, 160, 161, 162, 163, 164, 165, 166, 167, 168, 169, 170, 171, 172, 173, 174, 175, 176]), ([150], [142, 144, 145, 157, 158, 159, 160, 161, 162, 163, 164, 165, 166, 167, 168, 169, 170, 171, 172, 173, 174, 175, 176]), ([151], [142, 144, 145, 148, 162, 163, 164, 165, 166, 167, 168, 169, 170, 171, 172, 173, 174, 175, 176]), ([152], [142, 143, 144, 145, 146, 148, 149, 153, 156, 157, 158, 159, 160, 161, 162, 163, 164, 165, 166, 167, 168, 169, 170, 171, 172, 173, 174, 175, 176]), ([153], [142, 143, 144, 145, 146, 148, 149, 152, 156, 157, 158, 159, 160, 161, 162, 163, 164, 165, 166, 167, 168, 169, 170, 171, 172, 173, 174, 175, 176]), ([154], [142, 143, 144, 145, 146, 148, 149, 157, 158, 159, 160, 161, 162, 163, 164, 165, 166, 167, 168, 169, 170, 171, 172, 173, 174, 175, 176]), ([155], [142, 143, 144, 145, 146, 148, 149, 162, 163, 164, 165, 166, 167, 168, 169, 170, 171, 172, 173, 174, 175, 176]), ([156], [142, 143, 144, 145, 146, 148, 149, 152, 153, 163, 164, 165, 166, 167, 168, 169, 170, 171, 172, 173, 174, 175, 176]), ([157], [142, 143, 144, 145, 146, 147, 148, 149, 150, 152, 153, 154, 159, 161, 162, 163, 164, 165, 166, 167, 168, 169, 170, 171, 172, 173, 174, 175, 176]), ([158], [142, 143, 144, 145, 146, 147, 148, 149, 150, 152, 153, 154, 159, 163, 164, 165, 166, 167, 168, 169, 170, 171, 172, 173, 174, 175, 176]), ([159], [142, 143, 144, 145, 146, 147, 148, 149, 150, 152, 153, 154, 157, 158, 163, 164, 165, 166, 167, 168, 169, 170, 171, 172, 173, 174, 175, 176]), ([160], [142, 143, 144, 145, 146, 147, 148, 149, 150, 152, 153, 154, 169, 170, 171, 172, 173, 174, 175, 176]), ([161], [142, 143, 144, 145, 146, 147, 148, 149, 150, 152, 153, 154, 157, 169, 170, 171, 172, 173, 174, 175, 176]), ([162], [142, 143, 144, 145, 146, 147, 148, 149, 150, 151, 152, 153, 154, 155, 157, 170, 171, 172, 173, 174, 175, 176]), ([163], [142, 143, 144, 145, 146, 147, 148, 149, 150, 151, 152, 153, 154, 155, 156, 157, 158, 159, 165, 168, 169, 170, 171, 172, 173, 174, 175, 176]), ([164], [142, 143, 144, 145, 146, 147, 148, 149, 150, 151, 152, 153, 154, 155, 156, 157, 158, 159, 165, 170, 171, 172, 173, 174, 175, 176]), ([165], [142, 143, 144, 145, 146, 147, 148, 149, 150, 151, 152, 153, 154, 155, 156, 157, 158, 159, 163, 164, 168, 169, 170, 171, 172, 173, 174, 175, 176]), ([166], [142, 143, 144, 145, 146, 147, 148, 149, 150, 151, 152, 153, 154, 155, 156, 157, 158, 159, 170, 171, 172, 173, 174, 175, 176]), ([167], [142, 143, 144, 145, 146, 147, 148, 149, 150, 151, 152, 153, 154, 155, 156, 157, 158, 159]), ([168], [142, 143, 144, 145, 146, 147, 148, 149, 150, 151, 152, 153, 154, 155, 156, 157, 158, 159, 163, 165]), ([169], [142, 143, 144, 145, 146, 147, 148, 149, 150, 151, 152, 153, 154, 155, 156, 157, 158, 159, 160, 161, 163, 165]), ([170], [142, 143, 144, 145, 146, 147, 148, 149, 150, 151, 152, 153, 154, 155, 156, 157, 158, 159, 160, 161, 162, 163, 164, 165, 166, 172, 173, 174, 176]), ([171], [142, 143, 144, 145, 146, 147, 148, 149, 150, 151, 152, 153, 154, 155, 156, 157, 158, 159, 160, 161, 162, 163, 164, 165, 166, 172, 173, 174]), ([172], [142, 143, 144, 145, 146, 147, 148, 149, 150, 151, 152, 153, 154, 155, 156, 157, 158, 159, 160, 161, 162, 163, 164, 165, 166, 170, 171, 175, 176]), ([173], [142, 143, 144, 145, 146, 147, 148, 149, 150, 151, 152, 153, 154, 155, 156, 157, 158, 159, 160, 161, 162, 163, 164, 165, 166, 170, 171, 176]), ([174], [142, 143, 144, 145, 146, 147, 148, 149, 150, 151, 152, 153, 154, 155, 156, 157, 158, 159, 160, 161, 162, 163, 164, 165, 166, 170, 171]), ([175], [142, 143, 144, 145, 146, 147, 148, 149, 150, 151, 152, 153, 154, 155, 156, 157, 158, 159, 160, 161, 162, 163, 164, 165, 166, 172]), ([176], [142, 143, 144, 145, 146, 147, 148, 149, 150, 151, 152, 153, 154, 155, 156, 157, 158, 159, 160, 161, 162, 163, 164, 165, 166, 170, 172, 173])] (by kernel_rfl) fun K hK => ?_
    | with_reducible refine SpecC.condW fun A B hA hB => ?_
    | with_reducible refine SpecC.block ?_
    | with_reducible refine SpecC.skip ?_
    | with_reducible refine SpecC.label ?_
    | with_reducible refine SpecC.exit ?_
    | with_reducible refine SpecC.goto ?_
    | with_reducible refine SpecC.ret ?_
    | ((with_reducible first | refine condK.split (fun hb => ?_) (fun hb => ?_) | refine gK.split_t (fun hb => ?_) (fun hb => ?_) | refine gK.split_f (fun hb => ?_) (fun hb => ?_)) <;> try simp only [decide_not, ilt_t, ilt_f, ile_t, ile_f, nlt_t, nlt_f, nle_t, nle_f, Bool.not_eq_true', Bool.not_eq_false', Int.ofNat_lt, Int.ofNat_le] at hb)
    | simp only [go_sem, ↓reduceIte, reduceIte, Nat.reduceEqDiff, String.reduceEq, Nat.reduceLT, Nat.reduceLeDiff, Nat.reduceAdd, Nat.reduceMul, Nat.reduceSub, Nat.reduceBEq, reduceCtorEq, *]
    | with_reducible refine fun (bn : Bool) hbn => ?_))
    all_goals simp_all
  by_cases hps : pSane ⟨next, xs⟩ = true
  rotate_left
  · refine CallR.go3 (T := T) Try.call4 Try.func4 rfl Try.ntmps4 (congrArg Array.toList Try.results4) (by decide) fun ts hn h0 h1 h2 => ?_
    (repeat' (first
    | with_reducible refine callX.by awake_c ?_
    | with_reducible refine callX.by (few18_c _ _ ?_ ?_) ?_
    | with_reducible refine callX.by (few4_c _ ?_ ?_) ?_
    | with_reducible refine callX.by (pins1_c _ _ ?_) ?_
    | with_reducible refine callX.by (pSane_c _ _ ?_) ?_
    | with_reducible refine callX.by awc2 ?_
    | with_reducible refine callX.by (ppin_c _ _ ?_) ?_
    | with_reducible refine callX.by awc1 ?_
    | with_reducible refine callX.by awc3 ?_
    | with_reducible refine callX.by (ppublish_c _ _ _ ?_) ?_
    | with_reducible refine callX.by awc5 ?_
    | with_reducible refine callX.by (prelease_c _ _ _ ?_) ?_
    | with_reducible refine callX.by (kept_c _ _ ?_) ?_
    | with_reducible refine callX.by (rsame_c _ _ _ _ ?_ ?_) ?_
    | with_reducible assumption
    | (with_reducible refine NxK.out hK _ ?_; clear hK K)
    | with_reducible refine NxK.out (by assumption) _ ?_
    | with_reducible refine Nx.out (by assumption) ?_
    | with_reducible refine SpecC.seqW fun K hK => ?_
    | with_reducible refine SpecC.regW T fun K hK => ?_
    | with_reducible refine SpecC.drawW (id := 29) T mixed [([142], [148, 149, 150, 151, 152, 153, 154, 155, 156, 157, 158, 159, 160, 161, 162, 163, 164, 165, 166, 167, 168, 169, 170, 171, 172, 173, 174, 175, 176]), ([143], [152, 153, 154, 155, 156, 157, 158, 159, 160, 161, 162, 163, 164, 165, 166, 167, 168, 169, 170, 171, 172, 173, 174, 175, 176]), ([144], [147, 148, 149, 150, 151, 152, 153, 154, 155, 156, 157, 158, 159, 160, 161, 162, 163, 164, 165, 166, 167, 168, 169, 170, 171, 172, 173, 174, 175, 176]), ([145], [148, 149, 150, 151, 152, 153, 154, 155, 156, 157, 158, 159, 160, 161, 162, 163, 164, 165, 166, 167, 168, 169, 170, 171, 172, 173, 174, 175, 176]), ([146], [152, 153, 154, 155, 156, 157, 158, 159, 160, 161, 162, 163, 164, 165, 166, 167, 168, 169, 170, 171, 172, 173, 174, 175, 176]), ([147], [144, 157, 158, 159, 160, 161, 162, 163, 164, 165, 166, 167, 168, 169, 170, 171, 172, 173, 174, 175, 176]), ([148], [142, 144, 145, 151, 152, 153, 154, 155, 156, 157, 158, 159, 160, 161, 162, 163, 164, 165, 166, 167, 168, 169, 170, 171, 172, 173, 174, 175, 176]), ([149], [142, 144, 145, 152, 153, 154, 155, 156, 157, 158, 159, 160, 161, 162, 163, 164, 165, 166, 167, 168, 169, 170, 171, 172, 173, 174, 175, 176]), ([150], [142, 144, 145, 157, 158, 159, 160, 161, 162, 163, 164, 165, 166, 167, 168, 169, 170, 171, 172, 173, 174, 175, 176]), ([151], [142, 144, 145, 148, 162, 163, 164, 165, 166, 167, 168, 169, 170, 171, 172, 173, 174, 175, 176]), ([152], [142, 143, 144, 145, 146, 148, 149, 153, 156, 157, 158, 159, 160, 161, 162, 163, 164, 165, 166, 167, 168, 169, 170, 171, 172, 173, 174, 175, 176]), ([153], [142, 143, 144, 145, 146, 148, 149, 152, 156, 157, 158, 159, 160, 161, 162, 163, 164, 165, 166, 167, 168, 169, 170, 171, 172, 173, 174, 175, 176]), ([154], [142, 143, 144, 145, 146, 148, 149, 157, 158, 159, 160, 161, 162, 163, 164, 165, 166, 167, 168, 169, 170, 171, 172, 173, 174, 175, 176]), ([155], [142, 143, 144, 145, 146, 148, 149, 162, 163, 164, 165, 166, 167, 168, 169, 170, 171, 172, 173, 174, 175, 176]), ([156], [142, 143, 144, 145, 146, 148, 149, 152, 153, 163, 164, 165, 166, 167, 168, 169, 170, 171, 172, 173, 174, 175, 176]), ([157], [142, 143, 144, 145, 146, 147, 148, 149, 150, 152, 153, 154, 159, 161, 162, 163, 164, 165, 166, 167, 168, 169, 170, 171, 172, 173, 174, 175, 176]), ([158], [142, 143, 144, 145, 146, 147, 148, 149, 150, 152, 153, 154, 159, 163, 164, 165, 166, 167, 168, 169, 170, 171, 172, 173, 174, 175, 176]), ([159], [142, 143, 144, 145, 146, 147, 148, 149, 150, 152, 153, 154, 157, 158, 163, 164, 165, 166, 167, 168, 169, 170, 171, 172, 173, 174, 175, 176]), ([160], [142, 143, 144, 145, 146, 147, 148, 149, 150, 152, 153, 154, 169, 170, 171, 172, 173, 174, 175, 176]), ([161], [142, 143, 144, 145, 146, 147, 148, 149, 150, 152, 153, 154, 157, 169, 170, 171, 172, 173, 174, 175, 176]), ([162], [142, 143, 144, 145, 146, 147, 148, 149, 150, 151, 152, 153, 154, 155, 157, 170, 171, 172, 173, 174, 175, 176]), ([163], [142, 143, 144, 145, 146, 147, 148, 149, 150, 151, 152, 153, 154, 155, 156, 157, 158, 159, 165, 168, 169, 170, 171, 172, 173, 174, 175, 176]), ([164], [142, 143, 144, 145, 146, 147, 148, 149, 150, 151, 152, 153, 154, 155, 156, 157, 158, 159, 165, 170, 171, 172, 173, 174, 175, 176]), ([165], [142, 143, 144, 145, 146, 147, 148, 149, 150, 151, 152, 153, 154, 155, 156, 157, 158, 159, 163, 164, 168, 169, 170, 171, 172, 173, 174, 175, 176]), ([166], [142, 143, 144, 145, 146, 147, 148, 149, 150, 151, 152, 153, 154, 155, 156, 157, 158, 159, 170, 171, 172, 173, 174, 175, 176]), ([167], [142, 143, 144, 145, 146, 147, 148, 149, 150, 151, 152, 153, 154, 155, 156, 157, 158, 159]), ([168], [142, 143, 144, 145, 146, 147, 148, 149, 150, 151, 152, 153, 154, 155, 156, 157, 158, 159, 163, 165]), ([169], [142, 143, 144, 145, 146, 147, 148, 149, 150, 151, 152, 153, 154, 155, 156, 157, 158, 159, 160, 161, 163, 165]), ([170], [142, 143, 144, 145, 146, 147, 148, 149, 150, 151, 152, 153, 154, 155, 156, 157, 158, 159, 160, 161, 162, 163, 164, 165, 166, 172, 173, 174, 176]), ([171], [142, 143, 144, 145, 146, 147, 148, 149, 150, 151, 152, 153, 154, 155, 156, 157, 158, 159, 160, 161, 162, 163, 164, 165, 166, 172, 173, 174]), ([172], [142, 143, 144, 145, 146, 147, 148, 149, 150, 151, 152, 153, 154, 155, 156, 157, 158, 159, 160, 161, 162, 163, 164, 165, 166, 170, 171, 175, 176]), ([173], [142, 143, 144, 145, 146, 147, 148, 149, 150, 151, 152, 153, 154, 155, 156, 157, 158, 159, 160, 161, 162, 163, 164, 165, 166, 170, 171, 176]), ([174], [142, 143, 144, 145, 146, 147, 148, 149, 150, 151, 152, 153, 154, 155, 156, 157, 158, 159, 160, 161, 162, 163, 164, 165, 166, 170, 171]), ([175], [142, 143, 144, 145, 146, 147, 148, 149, 150, 151, 152, 153, 154, 155, 156, 157, 158, 159, 160, 161, 162, 163, 164, 165, 166, 172]), ([176], [142, 143, 144, 145, 146, 147, 148, 149, 150, 151, 152, 153, 154, 155, 156, 157, 158, 159, 160, 161, 162, 163, 164, 165, 166, 170, 172, 173])] (by kernel_rfl) fun K hK => ?_
    | with_reducible refine SpecC.condW fun A B hA hB => ?_
    | with_reducible refine SpecC.block ?_
    | with_reducible refine SpecC.skip ?_
    | with_reducible refine SpecC.label ?_
    | with_reducible refine SpecC.exit ?_
    | with_reducible refine SpecC.goto ?_
    | with_reducible refine SpecC.ret ?_
    | ((with_reducible first | refine condK.split (fun hb => ?_) (fun hb => ?_) | refine gK.split_t (fun hb => ?_) (fun hb => ?_) | refine gK.split_f (fun hb => ?_) (fun hb => ?_)) <;> try simp only [decide_not, ilt_t, ilt_f, ile_t, ile_f, nlt_t, nlt_f, nle_t, nle_f, Bool.not_eq_true', Bool.not_eq_false', Int.ofNat_lt, Int.ofNat_le] at hb)
    | simp only [go_sem, ↓reduceIte, reduceIte, Nat.reduceEqDiff, String.reduceEq, Nat.reduceLT, Nat.reduceLeDiff, Nat.reduceAdd, Nat.reduceMul, Nat.reduceSub, Nat.reduceBEq, reduceCtorEq, *]
    | with_reducible refine fun (bn : Bool) hbn => ?_))
    all_goals simp_all
  by_cases he : xs.length = 0
  · refine CallR.go3 (T := T) Try.call4 Try.func4 rfl Try.ntmps4 (congrArg Array.toList Try.results4) (by decide) fun ts hn h0 h1 h2 => ?_
    (repeat' (first
    | with_reducible refine callX.by awake_c ?_
    | with_reducible refine callX.by (few18_c _ _ ?_ ?_) ?_
    | with_reducible refine callX.by (few4_c _ ?_ ?_) ?_
    | with_reducible refine callX.by (pins1_c _ _ ?_) ?_
    | with_reducible refine callX.by (pSane_c _ _ ?_) ?_
    | with_reducible refine callX.by awc2 ?_
    | with_reducible refine callX.by (ppin_c _ _ ?_) ?_
    | with_reducible refine callX.by awc1 ?_
    | with_reducible refine callX.by awc3 ?_
    | with_reducible refine callX.by (ppublish_c _ _ _ ?_) ?_
    | with_reducible refine callX.by awc5 ?_
    | with_reducible refine callX.by (prelease_c _ _ _ ?_) ?_
    | with_reducible refine callX.by (kept_c _ _ ?_) ?_
    | with_reducible refine callX.by (rsame_c _ _ _ _ ?_ ?_) ?_
    | with_reducible assumption
    | (with_reducible refine NxK.out hK _ ?_; clear hK K)
    | with_reducible refine NxK.out (by assumption) _ ?_
    | with_reducible refine Nx.out (by assumption) ?_
    | with_reducible refine SpecC.seqW fun K hK => ?_
    | with_reducible refine SpecC.regW T fun K hK => ?_
    | with_reducible refine SpecC.drawW (id := 29) T mixed [([142], [148, 149, 150, 151, 152, 153, 154, 155, 156, 157, 158, 159, 160, 161, 162, 163, 164, 165, 166, 167, 168, 169, 170, 171, 172, 173, 174, 175, 176]), ([143], [152, 153, 154, 155, 156, 157, 158, 159, 160, 161, 162, 163, 164, 165, 166, 167, 168, 169, 170, 171, 172, 173, 174, 175, 176]), ([144], [147, 148, 149, 150, 151, 152, 153, 154, 155, 156, 157, 158, 159, 160, 161, 162, 163, 164, 165, 166, 167, 168, 169, 170, 171, 172, 173, 174, 175, 176]), ([145], [148, 149, 150, 151, 152, 153, 154, 155, 156, 157, 158, 159, 160, 161, 162, 163, 164, 165, 166, 167, 168, 169, 170, 171, 172, 173, 174, 175, 176]), ([146], [152, 153, 154, 155, 156, 157, 158, 159, 160, 161, 162, 163, 164, 165, 166, 167, 168, 169, 170, 171, 172, 173, 174, 175, 176]), ([147], [144, 157, 158, 159, 160, 161, 162, 163, 164, 165, 166, 167, 168, 169, 170, 171, 172, 173, 174, 175, 176]), ([148], [142, 144, 145, 151, 152, 153, 154, 155, 156, 157, 158, 159, 160, 161, 162, 163, 164, 165, 166, 167, 168, 169, 170, 171, 172, 173, 174, 175, 176]), ([149], [142, 144, 145, 152, 153, 154, 155, 156, 157, 158, 159, 160, 161, 162, 163, 164, 165, 166, 167, 168, 169, 170, 171, 172, 173, 174, 175, 176]), ([150], [142, 144, 145, 157, 158, 159, 160, 161, 162, 163, 164, 165, 166, 167, 168, 169, 170, 171, 172, 173, 174, 175, 176]), ([151], [142, 144, 145, 148, 162, 163, 164, 165, 166, 167, 168, 169, 170, 171, 172, 173, 174, 175, 176]), ([152], [142, 143, 144, 145, 146, 148, 149, 153, 156, 157, 158, 159, 160, 161, 162, 163, 164, 165, 166, 167, 168, 169, 170, 171, 172, 173, 174, 175, 176]), ([153], [142, 143, 144, 145, 146, 148, 149, 152, 156, 157, 158, 159, 160, 161, 162, 163, 164, 165, 166, 167, 168, 169, 170, 171, 172, 173, 174, 175, 176]), ([154], [142, 143, 144, 145, 146, 148, 149, 157, 158, 159, 160, 161, 162, 163, 164, 165, 166, 167, 168, 169, 170, 171, 172, 173, 174, 175, 176]), ([155], [142, 143, 144, 145, 146, 148, 149, 162, 163, 164, 165, 166, 167, 168, 169, 170, 171, 172, 173, 174, 175, 176]), ([156], [142, 143, 144, 145, 146, 148, 149, 152, 153, 163, 164, 165, 166, 167, 168, 169, 170, 171, 172, 173, 174, 175, 176]), ([157], [142, 143, 144, 145, 146, 147, 148, 149, 150, 152, 153, 154, 159, 161, 162, 163, 164, 165, 166, 167, 168, 169, 170, 171, 172, 173, 174, 175, 176]), ([158], [142, 143, 144, 145, 146, 147, 148, 149, 150, 152, 153, 154, 159, 163, 164, 165, 166, 167, 168, 169, 170, 171, 172, 173, 174, 175, 176]), ([159], [142, 143, 144, 145, 146, 147, 148, 149, 150, 152, 153, 154, 157, 158, 163, 164, 165, 166, 167, 168, 169, 170, 171, 172, 173, 174, 175, 176]), ([160], [142, 143, 144, 145, 146, 147, 148, 149, 150, 152, 153, 154, 169, 170, 171, 172, 173, 174, 175, 176]), ([161], [142, 143, 144, 145, 146, 147, 148, 149, 150, 152, 153, 154, 157, 169, 170, 171, 172, 173, 174, 175, 176]), ([162], [142, 143, 144, 145, 146, 147, 148, 149, 150, 151, 152, 153, 154, 155, 157, 170, 171, 172, 173, 174, 175, 176]), ([163], [142, 143, 144, 145, 146, 147, 148, 149, 150, 151, 152, 153, 154, 155, 156, 157, 158, 159, 165, 168, 169, 170, 171, 172, 173, 174, 175, 176]), ([164], [142, 143, 144, 145, 146, 147, 148, 149, 150, 151, 152, 153, 154, 155, 156, 157, 158, 159, 165, 170, 171, 172, 173, 174, 175, 176]), ([165], [142, 143, 144, 145, 146, 147, 148, 149, 150, 151, 152, 153, 154, 155, 156, 157, 158, 159, 163, 164, 168, 169, 170, 171, 172, 173, 174, 175, 176]), ([166], [142, 143, 144, 145, 146, 147, 148, 149, 150, 151, 152, 153, 154, 155, 156, 157, 158, 159, 170, 171, 172, 173, 174, 175, 176]), ([167], [142, 143, 144, 145, 146, 147, 148, 149, 150, 151, 152, 153, 154, 155, 156, 157, 158, 159]), ([168], [142, 143, 144, 145, 146, 147, 148, 149, 150, 151, 152, 153, 154, 155, 156, 157, 158, 159, 163, 165]), ([169], [142, 143, 144, 145, 146, 147, 148, 149, 150, 151, 152, 153, 154, 155, 156, 157, 158, 159, 160, 161, 163, 165]), ([170], [142, 143, 144, 145, 146, 147, 148, 149, 150, 151, 152, 153, 154, 155, 156, 157, 158, 159, 160, 161, 162, 163, 164, 165, 166, 172, 173, 174, 176]), ([171], [142, 143, 144, 145, 146, 147, 148, 149, 150, 151, 152, 153, 154, 155, 156, 157, 158, 159, 160, 161, 162, 163, 164, 165, 166, 172, 173, 174]), ([172], [142, 143, 144, 145, 146, 147, 148, 149, 150, 151, 152, 153, 154, 155, 156, 157, 158, 159, 160, 161, 162, 163, 164, 165, 166, 170, 171, 175, 176]), ([173], [142, 143, 144, 145, 146, 147, 148, 149, 150, 151, 152, 153, 154, 155, 156, 157, 158, 159, 160, 161, 162, 163, 164, 165, 166, 170, 171, 176]), ([174], [142, 143, 144, 145, 146, 147, 148, 149, 150, 151, 152, 153, 154, 155, 156, 157, 158, 159, 160, 161, 162, 163, 164, 165, 166, 170, 171]), ([175], [142, 143, 144, 145, 146, 147, 148, 149, 150, 151, 152, 153, 154, 155, 156, 157, 158, 159, 160, 161, 162, 163, 164, 165, 166, 172]), ([176], [142, 143, 144, 145, 146, 147, 148, 149, 150, 151, 152, 153, 154, 155, 156, 157, 158, 159, 160, 161, 162, 163, 164, 165, 166, 170, 172, 173])] (by kernel_rfl) fun K hK => ?_
    | with_reducible refine SpecC.condW fun A B hA hB => ?_
    | with_reducible refine SpecC.block ?_
    | with_reducible refine SpecC.skip ?_
    | with_reducible refine SpecC.label ?_
    | with_reducible refine SpecC.exit ?_
    | with_reducible refine SpecC.goto ?_
    | with_reducible refine SpecC.ret ?_
    | ((with_reducible first | refine condK.split (fun hb => ?_) (fun hb => ?_) | refine gK.split_t (fun hb => ?_) (fun hb => ?_) | refine gK.split_f (fun hb => ?_) (fun hb => ?_)) <;> try simp only [decide_not, ilt_t, ilt_f, ile_t, ile_f, nlt_t, nlt_f, nle_t, nle_f, Bool.not_eq_true', Bool.not_eq_false', Int.ofNat_lt, Int.ofNat_le] at hb)
    | simp only [go_sem, ↓reduceIte, reduceIte, Nat.reduceEqDiff, String.reduceEq, Nat.reduceLT, Nat.reduceLeDiff, Nat.reduceAdd, Nat.reduceMul, Nat.reduceSub, Nat.reduceBEq, reduceCtorEq, *]
    | with_reducible refine fun (bn : Bool) hbn => ?_))
    all_goals simp_all
  have hi : xs.length - 1 < xs.length := by omega
  have hw : IntKind.i64.wrap ((xs.length : Int) - 1) = ((xs.length - 1 : Nat) : Int) := by
    rw [w64_pred hl]; omega
  obtain ⟨x, hx⟩ : ∃ x, xs[xs.length - 1]'hi = x := ⟨_, rfl⟩
  have hok := (pSane_iff _).1 hps
  have hlen : xs.length ≤ 20 := fewPins_len hf
  obtain ⟨tm, hT, hn⟩ := and15 n
  by_cases hp : 9000 < x.pins
  · clear hok
    refine CallR.go3 (T := T) Try.call4 Try.func4 rfl Try.ntmps4 (congrArg Array.toList Try.results4) (by decide) fun ts hn h0 h1 h2 => ?_
    (repeat' (first
    | with_reducible refine callX.by awake_c ?_
    | with_reducible refine callX.by (few18_c _ _ ?_ ?_) ?_
    | with_reducible refine callX.by (few4_c _ ?_ ?_) ?_
    | with_reducible refine callX.by (pins1_c _ _ ?_) ?_
    | with_reducible refine callX.by (pSane_c _ _ ?_) ?_
    | with_reducible refine callX.by awc2 ?_
    | with_reducible refine callX.by (ppin_c _ _ ?_) ?_
    | with_reducible refine callX.by awc1 ?_
    | with_reducible refine callX.by awc3 ?_
    | with_reducible refine callX.by (ppublish_c _ _ _ ?_) ?_
    | with_reducible refine callX.by awc5 ?_
    | with_reducible refine callX.by (prelease_c _ _ _ ?_) ?_
    | with_reducible refine callX.by (kept_c _ _ ?_) ?_
    | with_reducible refine callX.by (rsame_c _ _ _ _ ?_ ?_) ?_
    | with_reducible assumption
    | (with_reducible refine NxK.out hK _ ?_; clear hK K)
    | with_reducible refine NxK.out (by assumption) _ ?_
    | with_reducible refine Nx.out (by assumption) ?_
    | with_reducible refine SpecC.seqW fun K hK => ?_
    | with_reducible refine SpecC.regW T fun K hK => ?_
    | with_reducible refine SpecC.drawW (id := 29) T mixed [([142], [148, 149, 150, 151, 152, 153, 154, 155, 156, 157, 158, 159, 160, 161, 162, 163, 164, 165, 166, 167, 168, 169, 170, 171, 172, 173, 174, 175, 176]), ([143], [152, 153, 154, 155, 156, 157, 158, 159, 160, 161, 162, 163, 164, 165, 166, 167, 168, 169, 170, 171, 172, 173, 174, 175, 176]), ([144], [147, 148, 149, 150, 151, 152, 153, 154, 155, 156, 157, 158, 159, 160, 161, 162, 163, 164, 165, 166, 167, 168, 169, 170, 171, 172, 173, 174, 175, 176]), ([145], [148, 149, 150, 151, 152, 153, 154, 155, 156, 157, 158, 159, 160, 161, 162, 163, 164, 165, 166, 167, 168, 169, 170, 171, 172, 173, 174, 175, 176]), ([146], [152, 153, 154, 155, 156, 157, 158, 159, 160, 161, 162, 163, 164, 165, 166, 167, 168, 169, 170, 171, 172, 173, 174, 175, 176]), ([147], [144, 157, 158, 159, 160, 161, 162, 163, 164, 165, 166, 167, 168, 169, 170, 171, 172, 173, 174, 175, 176]), ([148], [142, 144, 145, 151, 152, 153, 154, 155, 156, 157, 158, 159, 160, 161, 162, 163, 164, 165, 166, 167, 168, 169, 170, 171, 172, 173, 174, 175, 176]), ([149], [142, 144, 145, 152, 153, 154, 155, 156, 157, 158, 159, 160, 161, 162, 163, 164, 165, 166, 167, 168, 169, 170, 171, 172, 173, 174, 175, 176]), ([150], [142, 144, 145, 157, 158, 159, 160, 161, 162, 163, 164, 165, 166, 167, 168, 169, 170, 171, 172, 173, 174, 175, 176]), ([151], [142, 144, 145, 148, 162, 163, 164, 165, 166, 167, 168, 169, 170, 171, 172, 173, 174, 175, 176]), ([152], [142, 143, 144, 145, 146, 148, 149, 153, 156, 157, 158, 159, 160, 161, 162, 163, 164, 165, 166, 167, 168, 169, 170, 171, 172, 173, 174, 175, 176]), ([153], [142, 143, 144, 145, 146, 148, 149, 152, 156, 157, 158, 159, 160, 161, 162, 163, 164, 165, 166, 167, 168, 169, 170, 171, 172, 173, 174, 175, 176]), ([154], [142, 143, 144, 145, 146, 148, 149, 157, 158, 159, 160, 161, 162, 163, 164, 165, 166, 167, 168, 169, 170, 171, 172, 173, 174, 175, 176]), ([155], [142, 143, 144, 145, 146, 148, 149, 162, 163, 164, 165, 166, 167, 168, 169, 170, 171, 172, 173, 174, 175, 176]), ([156], [142, 143, 144, 145, 146, 148, 149, 152, 153, 163, 164, 165, 166, 167, 168, 169, 170, 171, 172, 173, 174, 175, 176]), ([157], [142, 143, 144, 145, 146, 147, 148, 149, 150, 152, 153, 154, 159, 161, 162, 163, 164, 165, 166, 167, 168, 169, 170, 171, 172, 173, 174, 175, 176]), ([158], [142, 143, 144, 145, 146, 147, 148, 149, 150, 152, 153, 154, 159, 163, 164, 165, 166, 167, 168, 169, 170, 171, 172, 173, 174, 175, 176]), ([159], [142, 143, 144, 145, 146, 147, 148, 149, 150, 152, 153, 154, 157, 158, 163, 164, 165, 166, 167, 168, 169, 170, 171, 172, 173, 174, 175, 176]), ([160], [142, 143, 144, 145, 146, 147, 148, 149, 150, 152, 153, 154, 169, 170, 171, 172, 173, 174, 175, 176]), ([161], [142, 143, 144, 145, 146, 147, 148, 149, 150, 152, 153, 154, 157, 169, 170, 171, 172, 173, 174, 175, 176]), ([162], [142, 143, 144, 145, 146, 147, 148, 149, 150, 151, 152, 153, 154, 155, 157, 170, 171, 172, 173, 174, 175, 176]), ([163], [142, 143, 144, 145, 146, 147, 148, 149, 150, 151, 152, 153, 154, 155, 156, 157, 158, 159, 165, 168, 169, 170, 171, 172, 173, 174, 175, 176]), ([164], [142, 143, 144, 145, 146, 147, 148, 149, 150, 151, 152, 153, 154, 155, 156, 157, 158, 159, 165, 170, 171, 172, 173, 174, 175, 176]), ([165], [142, 143, 144, 145, 146, 147, 148, 149, 150, 151, 152, 153, 154, 155, 156, 157, 158, 159, 163, 164, 168, 169, 170, 171, 172, 173, 174, 175, 176]), ([166], [142, 143, 144, 145, 146, 147, 148, 149, 150, 151, 152, 153, 154, 155, 156, 157, 158, 159, 170, 171, 172, 173, 174, 175, 176]), ([167], [142, 143, 144, 145, 146, 147, 148, 149, 150, 151, 152, 153, 154, 155, 156, 157, 158, 159]), ([168], [142, 143, 144, 145, 146, 147, 148, 149, 150, 151, 152, 153, 154, 155, 156, 157, 158, 159, 163, 165]), ([169], [142, 143, 144, 145, 146, 147, 148, 149, 150, 151, 152, 153, 154, 155, 156, 157, 158, 159, 160, 161, 163, 165]), ([170], [142, 143, 144, 145, 146, 147, 148, 149, 150, 151, 152, 153, 154, 155, 156, 157, 158, 159, 160, 161, 162, 163, 164, 165, 166, 172, 173, 174, 176]), ([171], [142, 143, 144, 145, 146, 147, 148, 149, 150, 151, 152, 153, 154, 155, 156, 157, 158, 159, 160, 161, 162, 163, 164, 165, 166, 172, 173, 174]), ([172], [142, 143, 144, 145, 146, 147, 148, 149, 150, 151, 152, 153, 154, 155, 156, 157, 158, 159, 160, 161, 162, 163, 164, 165, 166, 170, 171, 175, 176]), ([173], [142, 143, 144, 145, 146, 147, 148, 149, 150, 151, 152, 153, 154, 155, 156, 157, 158, 159, 160, 161, 162, 163, 164, 165, 166, 170, 171, 176]), ([174], [142, 143, 144, 145, 146, 147, 148, 149, 150, 151, 152, 153, 154, 155, 156, 157, 158, 159, 160, 161, 162, 163, 164, 165, 166, 170, 171]), ([175], [142, 143, 144, 145, 146, 147, 148, 149, 150, 151, 152, 153, 154, 155, 156, 157, 158, 159, 160, 161, 162, 163, 164, 165, 166, 172]), ([176], [142, 143, 144, 145, 146, 147, 148, 149, 150, 151, 152, 153, 154, 155, 156, 157, 158, 159, 160, 161, 162, 163, 164, 165, 166, 170, 172, 173])] (by kernel_rfl) fun K hK => ?_
    | with_reducible refine SpecC.condW fun A B hA hB => ?_
    | with_reducible refine SpecC.block ?_
    | with_reducible refine SpecC.skip ?_
    | with_reducible refine SpecC.label ?_
    | with_reducible refine SpecC.exit ?_
    | with_reducible refine SpecC.goto ?_
    | with_reducible refine SpecC.ret ?_
    | ((with_reducible first | refine condK.split (fun hb => ?_) (fun hb => ?_) | refine gK.split_t (fun hb => ?_) (fun hb => ?_) | refine gK.split_f (fun hb => ?_) (fun hb => ?_)) <;> try simp only [decide_not, ilt_t, ilt_f, ile_t, ile_f, nlt_t, nlt_f, nle_t, nle_f, Bool.not_eq_true', Bool.not_eq_false', Int.ofNat_lt, Int.ofNat_le] at hb)
    | simp only [go_sem, ↓reduceIte, reduceIte, Nat.reduceEqDiff, String.reduceEq, Nat.reduceLT, Nat.reduceLeDiff, Nat.reduceAdd, Nat.reduceMul, Nat.reduceSub, Nat.reduceBEq, reduceCtorEq, *, binA_andI, hw]
    | with_reducible refine fun (bn : Bool) hbn => ?_))
    all_goals simp_all
  by_cases hnx : 1073741824 < next
  · clear hok
    refine CallR.go3 (T := T) Try.call4 Try.func4 rfl Try.ntmps4 (congrArg Array.toList Try.results4) (by decide) fun ts hn h0 h1 h2 => ?_
    (repeat' (first
    | with_reducible refine callX.by awake_c ?_
    | with_reducible refine callX.by (few18_c _ _ ?_ ?_) ?_
    | with_reducible refine callX.by (few4_c _ ?_ ?_) ?_
    | with_reducible refine callX.by (pins1_c _ _ ?_) ?_
    | with_reducible refine callX.by (pSane_c _ _ ?_) ?_
    | with_reducible refine callX.by awc2 ?_
    | with_reducible refine callX.by (ppin_c _ _ ?_) ?_
    | with_reducible refine callX.by awc1 ?_
    | with_reducible refine callX.by awc3 ?_
    | with_reducible refine callX.by (ppublish_c _ _ _ ?_) ?_
    | with_reducible refine callX.by awc5 ?_
    | with_reducible refine callX.by (prelease_c _ _ _ ?_) ?_
    | with_reducible refine callX.by (kept_c _ _ ?_) ?_
    | with_reducible refine callX.by (rsame_c _ _ _ _ ?_ ?_) ?_
    | with_reducible assumption
    | (with_reducible refine NxK.out hK _ ?_; clear hK K)
    | with_reducible refine NxK.out (by assumption) _ ?_
    | with_reducible refine Nx.out (by assumption) ?_
    | with_reducible refine SpecC.seqW fun K hK => ?_
    | with_reducible refine SpecC.regW T fun K hK => ?_
    | with_reducible refine SpecC.drawW (id := 29) T mixed [([142], [148, 149, 150, 151, 152, 153, 154, 155, 156, 157, 158, 159, 160, 161, 162, 163, 164, 165, 166, 167, 168, 169, 170, 171, 172, 173, 174, 175, 176]), ([143], [152, 153, 154, 155, 156, 157, 158, 159, 160, 161, 162, 163, 164, 165, 166, 167, 168, 169, 170, 171, 172, 173, 174, 175, 176]), ([144], [147, 148, 149, 150, 151, 152, 153, 154, 155, 156, 157, 158, 159, 160, 161, 162, 163, 164, 165, 166, 167, 168, 169, 170, 171, 172, 173, 174, 175, 176]), ([145], [148, 149, 150, 151, 152, 153, 154, 155, 156, 157, 158, 159, 160, 161, 162, 163, 164, 165, 166, 167, 168, 169, 170, 171, 172, 173, 174, 175, 176]), ([146], [152, 153, 154, 155, 156, 157, 158, 159, 160, 161, 162, 163, 164, 165, 166, 167, 168, 169, 170, 171, 172, 173, 174, 175, 176]), ([147], [144, 157, 158, 159, 160, 161, 162, 163, 164, 165, 166, 167, 168, 169, 170, 171, 172, 173, 174, 175, 176]), ([148], [142, 144, 145, 151, 152, 153, 154, 155, 156, 157, 158, 159, 160, 161, 162, 163, 164, 165, 166, 167, 168, 169, 170, 171, 172, 173, 174, 175, 176]), ([149], [142, 144, 145, 152, 153, 154, 155, 156, 157, 158, 159, 160, 161, 162, 163, 164, 165, 166, 167, 168, 169, 170, 171, 172, 173, 174, 175, 176]), ([150], [142, 144, 145, 157, 158, 159, 160, 161, 162, 163, 164, 165, 166, 167, 168, 169, 170, 171, 172, 173, 174, 175, 176]), ([151], [142, 144, 145, 148, 162, 163, 164, 165, 166, 167, 168, 169, 170, 171, 172, 173, 174, 175, 176]), ([152], [142, 143, 144, 145, 146, 148, 149, 153, 156, 157, 158, 159, 160, 161, 162, 163, 164, 165, 166, 167, 168, 169, 170, 171, 172, 173, 174, 175, 176]), ([153], [142, 143, 144, 145, 146, 148, 149, 152, 156, 157, 158, 159, 160, 161, 162, 163, 164, 165, 166, 167, 168, 169, 170, 171, 172, 173, 174, 175, 176]), ([154], [142, 143, 144, 145, 146, 148, 149, 157, 158, 159, 160, 161, 162, 163, 164, 165, 166, 167, 168, 169, 170, 171, 172, 173, 174, 175, 176]), ([155], [142, 143, 144, 145, 146, 148, 149, 162, 163, 164, 165, 166, 167, 168, 169, 170, 171, 172, 173, 174, 175, 176]), ([156], [142, 143, 144, 145, 146, 148, 149, 152, 153, 163, 164, 165, 166, 167, 168, 169, 170, 171, 172, 173, 174, 175, 176]), ([157], [142, 143, 144, 145, 146, 147, 148, 149, 150, 152, 153, 154, 159, 161, 162, 163, 164, 165, 166, 167, 168, 169, 170, 171, 172, 173, 174, 175, 176]), ([158], [142, 143, 144, 145, 146, 147, 148, 149, 150, 152, 153, 154, 159, 163, 164, 165, 166, 167, 168, 169, 170, 171, 172, 173, 174, 175, 176]), ([159], [142, 143, 144, 145, 146, 147, 148, 149, 150, 152, 153, 154, 157, 158, 163, 164, 165, 166, 167, 168, 169, 170, 171, 172, 173, 174, 175, 176]), ([160], [142, 143, 144, 145, 146, 147, 148, 149, 150, 152, 153, 154, 169, 170, 171, 172, 173, 174, 175, 176]), ([161], [142, 143, 144, 145, 146, 147, 148, 149, 150, 152, 153, 154, 157, 169, 170, 171, 172, 173, 174, 175, 176]), ([162], [142, 143, 144, 145, 146, 147, 148, 149, 150, 151, 152, 153, 154, 155, 157, 170, 171, 172, 173, 174, 175, 176]), ([163], [142, 143, 144, 145, 146, 147, 148, 149, 150, 151, 152, 153, 154, 155, 156, 157, 158, 159, 165, 168, 169, 170, 171, 172, 173, 174, 175, 176]), ([164], [142, 143, 144, 145, 146, 147, 148, 149, 150, 151, 152, 153, 154, 155, 156, 157, 158, 159, 165, 170, 171, 172, 173, 174, 175, 176]), ([165], [142, 143, 144, 145, 146, 147, 148, 149, 150, 151, 152, 153, 154, 155, 156, 157, 158, 159, 163, 164, 168, 169, 170, 171, 172, 173, 174, 175, 176]), ([166], [142, 143, 144, 145, 146, 147, 148, 149, 150, 151, 152, 153, 154, 155, 156, 157, 158, 159, 170, 171, 172, 173, 174, 175, 176]), ([167], [142, 143, 144, 145, 146, 147, 148, 149, 150, 151, 152, 153, 154, 155, 156, 157, 158, 159]), ([168], [142, 143, 144, 145, 146, 147, 148, 149, 150, 151, 152, 153, 154, 155, 156, 157, 158, 159, 163, 165]), ([169], [142, 143, 144, 145, 146, 147, 148, 149, 150, 151, 152, 153, 154, 155, 156, 157, 158, 159, 160, 161, 163, 165]), ([170], [142, 143, 144, 145, 146, 147, 148, 149, 150, 151, 152, 153, 154, 155, 156, 157, 158, 159, 160, 161, 162, 163, 164, 165, 166, 172, 173, 174, 176]), ([171], [142, 143, 144, 145, 146, 147, 148, 149, 150, 151, 152, 153, 154, 155, 156, 157, 158, 159, 160, 161, 162, 163, 164, 165, 166, 172, 173, 174]), ([172], [142, 143, 144, 145, 146, 147, 148, 149, 150, 151, 152, 153, 154, 155, 156, 157, 158, 159, 160, 161, 162, 163, 164, 165, 166, 170, 171, 175, 176]), ([173], [142, 143, 144, 145, 146, 147, 148, 149, 150, 151, 152, 153, 154, 155, 156, 157, 158, 159, 160, 161, 162, 163, 164, 165, 166, 170, 171, 176]), ([174], [142, 143, 144, 145, 146, 147, 148, 149, 150, 151, 152, 153, 154, 155, 156, 157, 158, 159, 160, 161, 162, 163, 164, 165, 166, 170, 171]), ([175], [142, 143, 144, 145, 146, 147, 148, 149, 150, 151, 152, 153, 154, 155, 156, 157, 158, 159, 160, 161, 162, 163, 164, 165, 166, 172]), ([176], [142, 143, 144, 145, 146, 147, 148, 149, 150, 151, 152, 153, 154, 155, 156, 157, 158, 159, 160, 161, 162, 163, 164, 165, 166, 170, 172, 173])] (by kernel_rfl) fun K hK => ?_
    | with_reducible refine SpecC.condW fun A B hA hB => ?_
    | with_reducible refine SpecC.block ?_
    | with_reducible refine SpecC.skip ?_
    | with_reducible refine SpecC.label ?_
    | with_reducible refine SpecC.exit ?_
    | with_reducible refine SpecC.goto ?_
    | with_reducible refine SpecC.ret ?_
    | ((with_reducible first | refine condK.split (fun hb => ?_) (fun hb => ?_) | refine gK.split_t (fun hb => ?_) (fun hb => ?_) | refine gK.split_f (fun hb => ?_) (fun hb => ?_)) <;> try simp only [decide_not, ilt_t, ilt_f, ile_t, ile_f, nlt_t, nlt_f, nle_t, nle_f, Bool.not_eq_true', Bool.not_eq_false', Int.ofNat_lt, Int.ofNat_le] at hb)
    | simp only [go_sem, ↓reduceIte, reduceIte, Nat.reduceEqDiff, String.reduceEq, Nat.reduceLT, Nat.reduceLeDiff, Nat.reduceAdd, Nat.reduceMul, Nat.reduceSub, Nat.reduceBEq, reduceCtorEq, *, binA_andI, hw]
    | with_reducible refine fun (bn : Bool) hbn => ?_))
    all_goals simp_all
  obtain ⟨f, g, hf0, hpin, hpub, hra, hrb, hpub0, hrel, hsm, hsg⟩ := often_states (L := l) tm hT hok hi hx (by omega) (by omega) hlen hs hl2 hs2
  clear hok
  obtain ⟨hsT1, hsT2⟩ := hsm tm (Nat.le_refl _)
  obtain ⟨hs01, hs02⟩ := hsm 0 (Nat.zero_le _)
  have hTs : Small tm := by unfold Small; omega
  refine CallR.go3 (T := T) Try.call4 Try.func4 rfl Try.ntmps4 (congrArg Array.toList Try.results4) (by decide) fun ts hn h0 h1 h2 => ?_
  (repeat' (first
    | with_reducible refine callX.by awake_c ?_
    | with_reducible refine callX.by (few18_c _ _ ?_ ?_) ?_
    | with_reducible refine callX.by (few4_c _ ?_ ?_) ?_
    | with_reducible refine callX.by (pins1_c _ _ ?_) ?_
    | with_reducible refine callX.by (pSane_c _ _ ?_) ?_
    | with_reducible refine callX.by awc2 ?_
    | with_reducible refine callX.by (ppin_c _ _ ?_) ?_
    | with_reducible refine callX.by awc1 ?_
    | with_reducible refine callX.by awc3 ?_
    | with_reducible refine callX.by (ppublish_c _ _ _ ?_) ?_
    | with_reducible refine callX.by awc5 ?_
    | with_reducible refine callX.by (prelease_c _ _ _ ?_) ?_
    | with_reducible refine callX.by (kept_c _ _ ?_) ?_
    | with_reducible refine callX.by (rsame_c _ _ _ _ ?_ ?_) ?_
    | with_reducible assumption
    | (with_reducible refine NxK.out hK _ ?_; clear hK K)
    | with_reducible refine NxK.out (by assumption) _ ?_
    | with_reducible refine Nx.out (by assumption) ?_
    | with_reducible refine SpecC.seqW fun K hK => ?_
    | with_reducible refine SpecC.regW T fun K hK => ?_
    | with_reducible refine SpecC.drawW (id := 29) T mixed [([142], [148, 149, 150, 151, 152, 153, 154, 155, 156, 157, 158, 159, 160, 161, 162, 163, 164, 165, 166, 167, 168, 169, 170, 171, 172, 173, 174, 175, 176]), ([143], [152, 153, 154, 155, 156, 157, 158, 159, 160, 161, 162, 163, 164, 165, 166, 167, 168, 169, 170, 171, 172, 173, 174, 175, 176]), ([144], [147, 148, 149, 150, 151, 152, 153, 154, 155, 156, 157, 158, 159, 160, 161, 162, 163, 164, 165, 166, 167, 168, 169, 170, 171, 172, 173, 174, 175, 176]), ([145], [148, 149, 150, 151, 152, 153, 154, 155, 156, 157, 158, 159, 160, 161, 162, 163, 164, 165, 166, 167, 168, 169, 170, 171, 172, 173, 174, 175, 176]), ([146], [152, 153, 154, 155, 156, 157, 158, 159, 160, 161, 162, 163, 164, 165, 166, 167, 168, 169, 170, 171, 172, 173, 174, 175, 176]), ([147], [144, 157, 158, 159, 160, 161, 162, 163, 164, 165, 166, 167, 168, 169, 170, 171, 172, 173, 174, 175, 176]), ([148], [142, 144, 145, 151, 152, 153, 154, 155, 156, 157, 158, 159, 160, 161, 162, 163, 164, 165, 166, 167, 168, 169, 170, 171, 172, 173, 174, 175, 176]), ([149], [142, 144, 145, 152, 153, 154, 155, 156, 157, 158, 159, 160, 161, 162, 163, 164, 165, 166, 167, 168, 169, 170, 171, 172, 173, 174, 175, 176]), ([150], [142, 144, 145, 157, 158, 159, 160, 161, 162, 163, 164, 165, 166, 167, 168, 169, 170, 171, 172, 173, 174, 175, 176]), ([151], [142, 144, 145, 148, 162, 163, 164, 165, 166, 167, 168, 169, 170, 171, 172, 173, 174, 175, 176]), ([152], [142, 143, 144, 145, 146, 148, 149, 153, 156, 157, 158, 159, 160, 161, 162, 163, 164, 165, 166, 167, 168, 169, 170, 171, 172, 173, 174, 175, 176]), ([153], [142, 143, 144, 145, 146, 148, 149, 152, 156, 157, 158, 159, 160, 161, 162, 163, 164, 165, 166, 167, 168, 169, 170, 171, 172, 173, 174, 175, 176]), ([154], [142, 143, 144, 145, 146, 148, 149, 157, 158, 159, 160, 161, 162, 163, 164, 165, 166, 167, 168, 169, 170, 171, 172, 173, 174, 175, 176]), ([155], [142, 143, 144, 145, 146, 148, 149, 162, 163, 164, 165, 166, 167, 168, 169, 170, 171, 172, 173, 174, 175, 176]), ([156], [142, 143, 144, 145, 146, 148, 149, 152, 153, 163, 164, 165, 166, 167, 168, 169, 170, 171, 172, 173, 174, 175, 176]), ([157], [142, 143, 144, 145, 146, 147, 148, 149, 150, 152, 153, 154, 159, 161, 162, 163, 164, 165, 166, 167, 168, 169, 170, 171, 172, 173, 174, 175, 176]), ([158], [142, 143, 144, 145, 146, 147, 148, 149, 150, 152, 153, 154, 159, 163, 164, 165, 166, 167, 168, 169, 170, 171, 172, 173, 174, 175, 176]), ([159], [142, 143, 144, 145, 146, 147, 148, 149, 150, 152, 153, 154, 157, 158, 163, 164, 165, 166, 167, 168, 169, 170, 171, 172, 173, 174, 175, 176]), ([160], [142, 143, 144, 145, 146, 147, 148, 149, 150, 152, 153, 154, 169, 170, 171, 172, 173, 174, 175, 176]), ([161], [142, 143, 144, 145, 146, 147, 148, 149, 150, 152, 153, 154, 157, 169, 170, 171, 172, 173, 174, 175, 176]), ([162], [142, 143, 144, 145, 146, 147, 148, 149, 150, 151, 152, 153, 154, 155, 157, 170, 171, 172, 173, 174, 175, 176]), ([163], [142, 143, 144, 145, 146, 147, 148, 149, 150, 151, 152, 153, 154, 155, 156, 157, 158, 159, 165, 168, 169, 170, 171, 172, 173, 174, 175, 176]), ([164], [142, 143, 144, 145, 146, 147, 148, 149, 150, 151, 152, 153, 154, 155, 156, 157, 158, 159, 165, 170, 171, 172, 173, 174, 175, 176]), ([165], [142, 143, 144, 145, 146, 147, 148, 149, 150, 151, 152, 153, 154, 155, 156, 157, 158, 159, 163, 164, 168, 169, 170, 171, 172, 173, 174, 175, 176]), ([166], [142, 143, 144, 145, 146, 147, 148, 149, 150, 151, 152, 153, 154, 155, 156, 157, 158, 159, 170, 171, 172, 173, 174, 175, 176]), ([167], [142, 143, 144, 145, 146, 147, 148, 149, 150, 151, 152, 153, 154, 155, 156, 157, 158, 159]), ([168], [142, 143, 144, 145, 146, 147, 148, 149, 150, 151, 152, 153, 154, 155, 156, 157, 158, 159, 163, 165]), ([169], [142, 143, 144, 145, 146, 147, 148, 149, 150, 151, 152, 153, 154, 155, 156, 157, 158, 159, 160, 161, 163, 165]), ([170], [142, 143, 144, 145, 146, 147, 148, 149, 150, 151, 152, 153, 154, 155, 156, 157, 158, 159, 160, 161, 162, 163, 164, 165, 166, 172, 173, 174, 176]), ([171], [142, 143, 144, 145, 146, 147, 148, 149, 150, 151, 152, 153, 154, 155, 156, 157, 158, 159, 160, 161, 162, 163, 164, 165, 166, 172, 173, 174]), ([172], [142, 143, 144, 145, 146, 147, 148, 149, 150, 151, 152, 153, 154, 155, 156, 157, 158, 159, 160, 161, 162, 163, 164, 165, 166, 170, 171, 175, 176]), ([173], [142, 143, 144, 145, 146, 147, 148, 149, 150, 151, 152, 153, 154, 155, 156, 157, 158, 159, 160, 161, 162, 163, 164, 165, 166, 170, 171, 176]), ([174], [142, 143, 144, 145, 146, 147, 148, 149, 150, 151, 152, 153, 154, 155, 156, 157, 158, 159, 160, 161, 162, 163, 164, 165, 166, 170, 171]), ([175], [142, 143, 144, 145, 146, 147, 148, 149, 150, 151, 152, 153, 154, 155, 156, 157, 158, 159, 160, 161, 162, 163, 164, 165, 166, 172]), ([176], [142, 143, 144, 145, 146, 147, 148, 149, 150, 151, 152, 153, 154, 155, 156, 157, 158, 159, 160, 161, 162, 163, 164, 165, 166, 170, 172, 173])] (by kernel_rfl) fun K hK => ?_
    | with_reducible refine SpecC.condW fun A B hA hB => ?_
    | with_reducible refine SpecC.block ?_
    | with_reducible refine SpecC.skip ?_
    | with_reducible refine SpecC.label ?_
    | with_reducible refine SpecC.exit ?_
    | with_reducible refine SpecC.goto ?_
    | with_reducible refine SpecC.ret ?_
    | ((with_reducible first | refine condK.split (fun hb => ?_) (fun hb => ?_) | refine gK.split_t (fun hb => ?_) (fun hb => ?_) | refine gK.split_f (fun hb => ?_) (fun hb => ?_)) <;> try simp only [decide_not, ilt_t, ilt_f, ile_t, ile_f, nlt_t, nlt_f, nle_t, nle_f, Bool.not_eq_true', Bool.not_eq_false', Int.ofNat_lt, Int.ofNat_le] at hb)
    | simp only [go_sem, ↓reduceIte, reduceIte, Nat.reduceEqDiff, String.reduceEq, Nat.reduceLT, Nat.reduceLeDiff, Nat.reduceAdd, Nat.reduceMul, Nat.reduceSub, Nat.reduceBEq, reduceCtorEq, *, binA_andI, hw, -hpin, -hra, -hrb, -hsm, -hsg, -hs, -hs2]
    | with_reducible refine fun (bn : Bool) hbn => ?_))
  refine SpecC.loopF [2, 3, 7, 8, 9] (fun m ts' => ∃ (i : Nat), ∃ (u : Nat), m = tm - i ∧ i ≤ tm ∧ ts'.tmp 11 = .int .i64 i ∧ ts'.tmp 10 = .ref 10 u 0 ∧ ts'.gen 10 = u ∧ ts'.obj 10 = .box [.int .i64 next, .slice false (avs (f i))]) tm ?_ ?_
  · refine ⟨0, ts.gen 10 + 1, ?_⟩
    simp only [go_sem, ↓reduceIte, reduceIte, Nat.reduceEqDiff, String.reduceEq, Nat.reduceLT, Nat.reduceLeDiff, Nat.reduceAdd, Nat.reduceMul, Nat.reduceSub, Nat.reduceBEq, reduceCtorEq, *, -hpin, -hra, -hrb, -hsm, -hsg, -hs, -hs2]
  · rintro m A hM ts' hk ⟨i, u, hm, f1, s1, s2, s3, s4⟩
    simp only [go_sem, ↓reduceIte, reduceIte, Nat.reduceEqDiff, String.reduceEq, Nat.reduceLT, Nat.reduceLeDiff, Nat.reduceAdd, Nat.reduceMul, Nat.reduceSub, Nat.reduceBEq, reduceCtorEq, *] at hk
    obtain ⟨hsi1, hsi2⟩ := hsm i f1
    by_cases hlt : i < tm
    · have hpi := hpin i hlt
      obtain ⟨hsj1, hsj2⟩ := hsm (i + 1) hlt
      (repeat' (first
    | with_reducible refine callX.by awake_c ?_
    | with_reducible refine callX.by (few18_c _ _ ?_ ?_) ?_
    | with_reducible refine callX.by (few4_c _ ?_ ?_) ?_
    | with_reducible refine callX.by (pins1_c _ _ ?_) ?_
    | with_reducible refine callX.by (pSane_c _ _ ?_) ?_
    | with_reducible refine callX.by awc2 ?_
    | with_reducible refine callX.by (ppin_c _ _ ?_) ?_
    | with_reducible refine callX.by awc1 ?_
    | with_reducible refine callX.by awc3 ?_
    | with_reducible refine callX.by (ppublish_c _ _ _ ?_) ?_
    | with_reducible refine callX.by awc5 ?_
    | with_reducible refine callX.by (prelease_c _ _ _ ?_) ?_
    | with_reducible refine callX.by (kept_c _ _ ?_) ?_
    | with_reducible refine callX.by (rsame_c _ _ _ _ ?_ ?_) ?_
    | with_reducible assumption
    | (with_reducible refine NxK.out hK _ ?_; clear hK K)
    | with_reducible refine NxK.out (by assumption) _ ?_
    | with_reducible refine Nx.out (by assumption) ?_
    | with_reducible refine SpecC.seqW fun K hK => ?_
    | with_reducible refine SpecC.regW T fun K hK => ?_
    | with_reducible refine SpecC.drawW (id := 29) T mixed [([142], [148, 149, 150, 151, 152, 153, 154, 155, 156, 157, 158, 159, 160, 161, 162, 163, 164, 165, 166, 167, 168, 169, 170, 171, 172, 173, 174, 175, 176]), ([143], [152, 153, 154, 155, 156, 157, 158, 159, 160, 161, 162, 163, 164, 165, 166, 167, 168, 169, 170, 171, 172, 173, 174, 175, 176]), ([144], [147, 148, 149, 150, 151, 152, 153, 154, 155, 156, 157, 158, 159, 160, 161, 162, 163, 164, 165, 166, 167, 168, 169, 170, 171, 172, 173, 174, 175, 176]), ([145], [148, 149, 150, 151, 152, 153, 154, 155, 156, 157, 158, 159, 160, 161, 162, 163, 164, 165, 166, 167, 168, 169, 170, 171, 172, 173, 174, 175, 176]), ([146], [152, 153, 154, 155, 156, 157, 158, 159, 160, 161, 162, 163, 164, 165, 166, 167, 168, 169, 170, 171, 172, 173, 174, 175, 176]), ([147], [144, 157, 158, 159, 160, 161, 162, 163, 164, 165, 166, 167, 168, 169, 170, 171, 172, 173, 174, 175, 176]), ([148], [142, 144, 145, 151, 152, 153, 154, 155, 156, 157, 158, 159, 160, 161, 162, 163, 164, 165, 166, 167, 168, 169, 170, 171, 172, 173, 174, 175, 176]), ([149], [142, 144, 145, 152, 153, 154, 155, 156, 157, 158, 159, 160, 161, 162, 163, 164, 165, 166, 167, 168, 169, 170, 171, 172, 173, 174, 175, 176]), ([150], [142, 144, 145, 157, 158, 159, 160, 161, 162, 163, 164, 165, 166, 167, 168, 169, 170, 171, 172, 173, 174, 175, 176]), ([151], [142, 144, 145, 148, 162, 163, 164, 165, 166, 167, 168, 169, 170, 171, 172, 173, 174, 175, 176]), ([152], [142, 143, 144, 145, 146, 148, 149, 153, 156, 157, 158, 159, 160, 161, 162, 163, 164, 165, 166, 167, 168, 169, 170, 171, 172, 173, 174, 175, 176]), ([153], [142, 143, 144, 145, 146, 148, 149, 152, 156, 157, 158, 159, 160, 161, 162, 163, 164, 165, 166, 167, 168, 169, 170, 171, 172, 173, 174, 175, 176]), ([154], [142, 143, 144, 145, 146, 148, 149, 157, 158, 159, 160, 161, 162, 163, 164, 165, 166, 167, 168, 169, 170, 171, 172, 173, 174, 175, 176]), ([155], [142, 143, 144, 145, 146, 148, 149, 162, 163, 164, 165, 166, 167, 168, 169, 170, 171, 172, 173, 174, 175, 176]), ([156], [142, 143, 144, 145, 146, 148, 149, 152, 153, 163, 164, 165, 166, 167, 168, 169, 170, 171, 172, 173, 174, 175, 176]), ([157], [142, 143, 144, 145, 146, 147, 148, 149, 150, 152, 153, 154, 159, 161, 162, 163, 164, 165, 166, 167, 168, 169, 170, 171, 172, 173, 174, 175, 176]), ([158], [142, 143, 144, 145, 146, 147, 148, 149, 150, 152, 153, 154, 159, 163, 164, 165, 166, 167, 168, 169, 170, 171, 172, 173, 174, 175, 176]), ([159], [142, 143, 144, 145, 146, 147, 148, 149, 150, 152, 153, 154, 157, 158, 163, 164, 165, 166, 167, 168, 169, 170, 171, 172, 173, 174, 175, 176]), ([160], [142, 143, 144, 145, 146, 147, 148, 149, 150, 152, 153, 154, 169, 170, 171, 172, 173, 174, 175, 176]), ([161], [142, 143, 144, 145, 146, 147, 148, 149, 150, 152, 153, 154, 157, 169, 170, 171, 172, 173, 174, 175, 176]), ([162], [142, 143, 144, 145, 146, 147, 148, 149, 150, 151, 152, 153, 154, 155, 157, 170, 171, 172, 173, 174, 175, 176]), ([163], [142, 143, 144, 145, 146, 147, 148, 149, 150, 151, 152, 153, 154, 155, 156, 157, 158, 159, 165, 168, 169, 170, 171, 172, 173, 174, 175, 176]), ([164], [142, 143, 144, 145, 146, 147, 148, 149, 150, 151, 152, 153, 154, 155, 156, 157, 158, 159, 165, 170, 171, 172, 173, 174, 175, 176]), ([165], [142, 143, 144, 145, 146, 147, 148, 149, 150, 151, 152, 153, 154, 155, 156, 157, 158, 159, 163, 164, 168, 169, 170, 171, 172, 173, 174, 175, 176]), ([166], [142, 143, 144, 145, 146, 147, 148, 149, 150, 151, 152, 153, 154, 155, 156, 157, 158, 159, 170, 171, 172, 173, 174, 175, 176]), ([167], [142, 143, 144, 145, 146, 147, 148, 149, 150, 151, 152, 153, 154, 155, 156, 157, 158, 159]), ([168], [142, 143, 144, 145, 146, 147, 148, 149, 150, 151, 152, 153, 154, 155, 156, 157, 158, 159, 163, 165]), ([169], [142, 143, 144, 145, 146, 147, 148, 149, 150, 151, 152, 153, 154, 155, 156, 157, 158, 159, 160, 161, 163, 165]), ([170], [142, 143, 144, 145, 146, 147, 148, 149, 150, 151, 152, 153, 154, 155, 156, 157, 158, 159, 160, 161, 162, 163, 164, 165, 166, 172, 173, 174, 176]), ([171], [142, 143, 144, 145, 146, 147, 148, 149, 150, 151, 152, 153, 154, 155, 156, 157, 158, 159, 160, 161, 162, 163, 164, 165, 166, 172, 173, 174]), ([172], [142, 143, 144, 145, 146, 147, 148, 149, 150, 151, 152, 153, 154, 155, 156, 157, 158, 159, 160, 161, 162, 163, 164, 165, 166, 170, 171, 175, 176]), ([173], [142, 143, 144, 145, 146, 147, 148, 149, 150, 151, 152, 153, 154, 155, 156, 157, 158, 159, 160, 161, 162, 163, 164, 165, 166, 170, 171, 176]), ([174], [142, 143, 144, 145, 146, 147, 148, 149, 150, 151, 152, 153, 154, 155, 156, 157, 158, 159, 160, 161, 162, 163, 164, 165, 166, 170, 171]), ([175], [142, 143, 144, 145, 146, 147, 148, 149, 150, 151, 152, 153, 154, 155, 156, 157, 158, 159, 160, 161, 162, 163, 164, 165, 166, 172]), ([176], [142, 143, 144, 145, 146, 147, 148, 149, 150, 151, 152, 153, 154, 155, 156, 157, 158, 159, 160, 161, 162, 163, 164, 165, 166, 170, 172, 173])] (by kernel_rfl) fun K hK => ?_
    | with_reducible refine SpecC.condW fun A B hA hB => ?_
    | with_reducible refine SpecC.block ?_
    | with_reducible refine SpecC.skip ?_
    | with_reducible refine SpecC.label ?_
    | with_reducible refine SpecC.exit ?_
    | with_reducible refine SpecC.goto ?_
    | with_reducible refine SpecC.ret ?_
    | ((with_reducible first | refine condK.split (fun hb => ?_) (fun hb => ?_) | refine gK.split_t (fun hb => ?_) (fun hb => ?_) | refine gK.split_f (fun hb => ?_) (fun hb => ?_)) <;> try simp only [decide_not, ilt_t, ilt_f, ile_t, ile_f, nlt_t, nlt_f, nle_t, nle_f, Bool.not_eq_true', Bool.not_eq_false', Int.ofNat_lt, Int.ofNat_le] at hb)
    | simp only [go_sem, ↓reduceIte, reduceIte, Nat.reduceEqDiff, String.reduceEq, Nat.reduceLT, Nat.reduceLeDiff, Nat.reduceAdd, Nat.reduceMul, Nat.reduceSub, Nat.reduceBEq, reduceCtorEq, *, -hpin, -hra, -hrb, -hsm, -hsg, -hs, -hs2]
    | with_reducible refine fun (bn : Bool) hbn => ?_))
      all_goals ((repeat clear hK); (repeat clear hA); (repeat clear hB))
      all_goals (refine hM.on (tm - (i + 1)) (by omega) (by simp only [go_sem, ↓reduceIte, reduceIte, Nat.reduceEqDiff, String.reduceEq, Nat.reduceLT, Nat.reduceLeDiff, Nat.reduceAdd, Nat.reduceMul, Nat.reduceSub, Nat.reduceBEq, reduceCtorEq, *, w64_nat hlt hTs, -hpin, -hra, -hrb, -hsm, -hsg, -hs, -hs2]) ⟨i + 1, u, rfl, by omega, ?_⟩; simp only [go_sem, ↓reduceIte, reduceIte, Nat.reduceEqDiff, String.reduceEq, Nat.reduceLT, Nat.reduceLeDiff, Nat.reduceAdd, Nat.reduceMul, Nat.reduceSub, Nat.reduceBEq, reduceCtorEq, *, w64_nat hlt hTs, -hpin, -hra, -hrb, -hsm, -hsg, -hs, -hs2]; done)
    · have hit : i = tm := by omega
      subst hit
      clear hpin hM
      (repeat' (first
    | with_reducible refine callX.by awake_c ?_
    | with_reducible refine callX.by (few18_c _ _ ?_ ?_) ?_
    | with_reducible refine callX.by (few4_c _ ?_ ?_) ?_
    | with_reducible refine callX.by (pins1_c _ _ ?_) ?_
    | with_reducible refine callX.by (pSane_c _ _ ?_) ?_
    | with_reducible refine callX.by awc2 ?_
    | with_reducible refine callX.by (ppin_c _ _ ?_) ?_
    | with_reducible refine callX.by awc1 ?_
    | with_reducible refine callX.by awc3 ?_
    | with_reducible refine callX.by (ppublish_c _ _ _ ?_) ?_
    | with_reducible refine callX.by awc5 ?_
    | with_reducible refine callX.by (prelease_c _ _ _ ?_) ?_
    | with_reducible refine callX.by (kept_c _ _ ?_) ?_
    | with_reducible refine callX.by (rsame_c _ _ _ _ ?_ ?_) ?_
    | with_reducible assumption
    | (with_reducible refine NxK.out hK _ ?_; clear hK K)
    | with_reducible refine NxK.out (by assumption) _ ?_
    | with_reducible refine Nx.out (by assumption) ?_
    | with_reducible refine SpecC.seqW fun K hK => ?_
    | with_reducible refine SpecC.regW T fun K hK => ?_
    | with_reducible refine SpecC.drawW (id := 29) T mixed [([142], [148, 149, 150, 151, 152, 153, 154, 155, 156, 157, 158, 159, 160, 161, 162, 163, 164, 165, 166, 167, 168, 169, 170, 171, 172, 173, 174, 175, 176]), ([143], [152, 153, 154, 155, 156, 157, 158, 159, 160, 161, 162, 163, 164, 165, 166, 167, 168, 169, 170, 171, 172, 173, 174, 175, 176]), ([144], [147, 148, 149, 150, 151, 152, 153, 154, 155, 156, 157, 158, 159, 160, 161, 162, 163, 164, 165, 166, 167, 168, 169, 170, 171, 172, 173, 174, 175, 176]), ([145], [148, 149, 150, 151, 152, 153, 154, 155, 156, 157, 158, 159, 160, 161, 162, 163, 164, 165, 166, 167, 168, 169, 170, 171, 172, 173, 174, 175, 176]), ([146], [152, 153, 154, 155, 156, 157, 158, 159, 160, 161, 162, 163, 164, 165, 166, 167, 168, 169, 170, 171, 172, 173, 174, 175, 176]), ([147], [144, 157, 158, 159, 160, 161, 162, 163, 164, 165, 166, 167, 168, 169, 170, 171, 172, 173, 174, 175, 176]), ([148], [142, 144, 145, 151, 152, 153, 154, 155, 156, 157, 158, 159, 160, 161, 162, 163, 164, 165, 166, 167, 168, 169, 170, 171, 172, 173, 174, 175, 176]), ([149], [142, 144, 145, 152, 153, 154, 155, 156, 157, 158, 159, 160, 161, 162, 163, 164, 165, 166, 167, 168, 169, 170, 171, 172, 173, 174, 175, 176]), ([150], [142, 144, 145, 157, 158, 159, 160, 161, 162, 163, 164, 165, 166, 167, 168, 169, 170, 171, 172, 173, 174, 175, 176]), ([151], [142, 144, 145, 148, 162, 163, 164, 165, 166, 167, 168, 169, 170, 171, 172, 173, 174, 175, 176]), ([152], [142, 143, 144, 145, 146, 148, 149, 153, 156, 157, 158, 159, 160, 161, 162, 163, 164, 165, 166, 167, 168, 169, 170, 171, 172, 173, 174, 175, 176]), ([153], [142, 143, 144, 145, 146, 148, 149, 152, 156, 157, 158, 159, 160, 161, 162, 163, 164, 165, 166, 167, 168, 169, 170, 171, 172, 173, 174, 175, 176]), ([154], [142, 143, 144, 145, 146, 148, 149, 157, 158, 159, 160, 161, 162, 163, 164, 165, 166, 167, 168, 169, 170, 171, 172, 173, 174, 175, 176]), ([155], [142, 143, 144, 145, 146, 148, 149, 162, 163, 164, 165, 166, 167, 168, 169, 170, 171, 172, 173, 174, 175, 176]), ([156], [142, 143, 144, 145, 146, 148, 149, 152, 153, 163, 164, 165, 166, 167, 168, 169, 170, 171, 172, 173, 174, 175, 176]), ([157], [142, 143, 144, 145, 146, 147, 148, 149, 150, 152, 153, 154, 159, 161, 162, 163, 164, 165, 166, 167, 168, 169, 170, 171, 172, 173, 174, 175, 176]), ([158], [142, 143, 144, 145, 146, 147, 148, 149, 150, 152, 153, 154, 159, 163, 164, 165, 166, 167, 168, 169, 170, 171, 172, 173, 174, 175, 176]), ([159], [142, 143, 144, 145, 146, 147, 148, 149, 150, 152, 153, 154, 157, 158, 163, 164, 165, 166, 167, 168, 169, 170, 171, 172, 173, 174, 175, 176]), ([160], [142, 143, 144, 145, 146, 147, 148, 149, 150, 152, 153, 154, 169, 170, 171, 172, 173, 174, 175, 176]), ([161], [142, 143, 144, 145, 146, 147, 148, 149, 150, 152, 153, 154, 157, 169, 170, 171, 172, 173, 174, 175, 176]), ([162], [142, 143, 144, 145, 146, 147, 148, 149, 150, 151, 152, 153, 154, 155, 157, 170, 171, 172, 173, 174, 175, 176]), ([163], [142, 143, 144, 145, 146, 147, 148, 149, 150, 151, 152, 153, 154, 155, 156, 157, 158, 159, 165, 168, 169, 170, 171, 172, 173, 174, 175, 176]), ([164], [142, 143, 144, 145, 146, 147, 148, 149, 150, 151, 152, 153, 154, 155, 156, 157, 158, 159, 165, 170, 171, 172, 173, 174, 175, 176]), ([165], [142, 143, 144, 145, 146, 147, 148, 149, 150, 151, 152, 153, 154, 155, 156, 157, 158, 159, 163, 164, 168, 169, 170, 171, 172, 173, 174, 175, 176]), ([166], [142, 143, 144, 145, 146, 147, 148, 149, 150, 151, 152, 153, 154, 155, 156, 157, 158, 159, 170, 171, 172, 173, 174, 175, 176]), ([167], [142, 143, 144, 145, 146, 147, 148, 149, 150, 151, 152, 153, 154, 155, 156, 157, 158, 159]), ([168], [142, 143, 144, 145, 146, 147, 148, 149, 150, 151, 152, 153, 154, 155, 156, 157, 158, 159, 163, 165]), ([169], [142, 143, 144, 145, 146, 147, 148, 149, 150, 151, 152, 153, 154, 155, 156, 157, 158, 159, 160, 161, 163, 165]), ([170], [142, 143, 144, 145, 146, 147, 148, 149, 150, 151, 152, 153, 154, 155, 156, 157, 158, 159, 160, 161, 162, 163, 164, 165, 166, 172, 173, 174, 176]), ([171], [142, 143, 144, 145, 146, 147, 148, 149, 150, 151, 152, 153, 154, 155, 156, 157, 158, 159, 160, 161, 162, 163, 164, 165, 166, 172, 173, 174]), ([172], [142, 143, 144, 145, 146, 147, 148, 149, 150, 151, 152, 153, 154, 155, 156, 157, 158, 159, 160, 161, 162, 163, 164, 165, 166, 170, 171, 175, 176]), ([173], [142, 143, 144, 145, 146, 147, 148, 149, 150, 151, 152, 153, 154, 155, 156, 157, 158, 159, 160, 161, 162, 163, 164, 165, 166, 170, 171, 176]), ([174], [142, 143, 144, 145, 146, 147, 148, 149, 150, 151, 152, 153, 154, 155, 156, 157, 158, 159, 160, 161, 162, 163, 164, 165, 166, 170, 171]), ([175], [142, 143, 144, 145, 146, 147, 148, 149, 150, 151, 152, 153, 154, 155, 156, 157, 158, 159, 160, 161, 162, 163, 164, 165, 166, 172]), ([176], [142, 143, 144, 145, 146, 147, 148, 149, 150, 151, 152, 153, 154, 155, 156, 157, 158, 159, 160, 161, 162, 163, 164, 165, 166, 170, 172, 173])] (by kernel_rfl) fun K hK => ?_
    | with_reducible refine SpecC.condW fun A B hA hB => ?_
    | with_reducible refine SpecC.block ?_
    | with_reducible refine SpecC.skip ?_
    | with_reducible refine SpecC.label ?_
    | with_reducible refine SpecC.exit ?_
    | with_reducible refine SpecC.goto ?_
    | with_reducible refine SpecC.ret ?_
    | ((with_reducible first | refine condK.split (fun hb => ?_) (fun hb => ?_) | refine gK.split_t (fun hb => ?_) (fun hb => ?_) | refine gK.split_f (fun hb => ?_) (fun hb => ?_)) <;> try simp only [decide_not, ilt_t, ilt_f, ile_t, ile_f, nlt_t, nlt_f, nle_t, nle_f, Bool.not_eq_true', Bool.not_eq_false', Int.ofNat_lt, Int.ofNat_le] at hb)
    | simp only [go_sem, ↓reduceIte, reduceIte, Nat.reduceEqDiff, String.reduceEq, Nat.reduceLT, Nat.reduceLeDiff, Nat.reduceAdd, Nat.reduceMul, Nat.reduceSub, Nat.reduceBEq, reduceCtorEq, *, -hra, -hrb, -hsm, -hsg, -hs, -hs2]
    | with_reducible refine fun (bn : Bool) hbn => ?_))
      refine SpecC.loopF [2, 3, 7, 8, 9, 16, 17] (fun m ts' => ∃ (j : Nat), ∃ (u : Nat), ∃ (v : Nat), m = i - j ∧ j ≤ i ∧ ts'.tmp 19 = .int .i64 j ∧ ts'.tmp 15 = .ref 15 u 0 ∧ ts'.gen 15 = u ∧ ts'.obj 15 = .box [.int .i64 (next + 1), .slice false (avs (g (i - j)))] ∧ ts'.tmp 18 = .ref 18 v 0 ∧ ts'.gen 18 = v ∧ ts'.obj 18 = .box [.int .i64 next, .slice false (avs (f (i - j)))]) i ?_ ?_
      · refine ⟨0, ts'.gen 15 + 1, ts'.gen 18 + 1, ?_⟩
        simp only [go_sem, ↓reduceIte, reduceIte, Nat.reduceEqDiff, String.reduceEq, Nat.reduceLT, Nat.reduceLeDiff, Nat.reduceAdd, Nat.reduceMul, Nat.reduceSub, Nat.reduceBEq, reduceCtorEq, *, -hra, -hrb, -hsm, -hsg, -hs, -hs2]
      · rintro m A hM ts' hk ⟨j, u, v, hm, f1, s1, s2, s3, s4, s5, s6, s7⟩
        simp only [go_sem, ↓reduceIte, reduceIte, Nat.reduceEqDiff, String.reduceEq, Nat.reduceLT, Nat.reduceLeDiff, Nat.reduceAdd, Nat.reduceMul, Nat.reduceSub, Nat.reduceBEq, reduceCtorEq, *] at hk
        by_cases hltj : j < i
        · have e1 : i - (j + 1) + 1 = i - j := by omega
          have hra1 := hra (i - (j + 1)) (by omega)
          have hrb1 := hrb (i - (j + 1)) (by omega)
          rw [e1] at hra1 hrb1
          obtain ⟨hsj1, hsj2⟩ := hsm (i - j) (by omega)
          clear e1
          (repeat' (first
    | with_reducible refine callX.by awake_c ?_
    | with_reducible refine callX.by (few18_c _ _ ?_ ?_) ?_
    | with_reducible refine callX.by (few4_c _ ?_ ?_) ?_
    | with_reducible refine callX.by (pins1_c _ _ ?_) ?_
    | with_reducible refine callX.by (pSane_c _ _ ?_) ?_
    | with_reducible refine callX.by awc2 ?_
    | with_reducible refine callX.by (ppin_c _ _ ?_) ?_
    | with_reducible refine callX.by awc1 ?_
    | with_reducible refine callX.by awc3 ?_
    | with_reducible refine callX.by (ppublish_c _ _ _ ?_) ?_
    | with_reducible refine callX.by awc5 ?_
    | with_reducible refine callX.by (prelease_c _ _ _ ?_) ?_
    | with_reducible refine callX.by (kept_c _ _ ?_) ?_
    | with_reducible refine callX.by (rsame_c _ _ _ _ ?_ ?_) ?_
    | with_reducible assumption
    | (with_reducible refine NxK.out hK _ ?_; clear hK K)
    | with_reducible refine NxK.out (by assumption) _ ?_
    | with_reducible refine Nx.out (by assumption) ?_
    | with_reducible refine SpecC.seqW fun K hK => ?_
    | with_reducible refine SpecC.regW T fun K hK => ?_
    | with_reducible refine SpecC.drawW (id := 29) T mixed [([142], [148, 149, 150, 151, 152, 153, 154, 155, 156, 157, 158, 159, 160, 161, 162, 163, 164, 165, 166, 167, 168, 169, 170, 171, 172, 173, 174, 175, 176]), ([143], [152, 153, 154, 155, 156, 157, 158, 159, 160, 161, 162, 163, 164, 165, 166, 167, 168, 169, 170, 171, 172, 173, 174, 175, 176]), ([144], [147, 148, 149, 150, 151, 152, 153, 154, 155, 156, 157, 158, 159, 160, 161, 162, 163, 164, 165, 166, 167, 168, 169, 170, 171, 172, 173, 174, 175, 176]), ([145], [148, 149, 150, 151, 152, 153, 154, 155, 156, 157, 158, 159, 160, 161, 162, 163, 164, 165, 166, 167, 168, 169, 170, 171, 172, 173, 174, 175, 176]), ([146], [152, 153, 154, 155, 156, 157, 158, 159, 160, 161, 162, 163, 164, 165, 166, 167, 168, 169, 170, 171, 172, 173, 174, 175, 176]), ([147], [144, 157, 158, 159, 160, 161, 162, 163, 164, 165, 166, 167, 168, 169, 170, 171, 172, 173, 174, 175, 176]), ([148], [142, 144, 145, 151, 152, 153, 154, 155, 156, 157, 158, 159, 160, 161, 162, 163, 164, 165, 166, 167, 168, 169, 170, 171, 172, 173, 174, 175, 176]), ([149], [142, 144, 145, 152, 153, 154, 155, 156, 157, 158, 159, 160, 161, 162, 163, 164, 165, 166, 167, 168, 169, 170, 171, 172, 173, 174, 175, 176]), ([150], [142, 144, 145, 157, 158, 159, 160, 161, 162, 163, 164, 165, 166, 167, 168, 169, 170, 171, 172, 173, 174, 175, 176]), ([151], [142, 144, 145, 148, 162, 163, 164, 165, 166, 167, 168, 169, 170, 171, 172, 173, 174, 175, 176]), ([152], [142, 143, 144, 145, 146, 148, 149, 153, 156, 157, 158, 159, 160, 161, 162, 163, 164, 165, 166, 167, 168, 169, 170, 171, 172, 173, 174, 175, 176]), ([153], [142, 143, 144, 145, 146, 148, 149, 152, 156, 157, 158, 159, 160, 161, 162, 163, 164, 165, 166, 167, 168, 169, 170, 171, 172, 173, 174, 175, 176]), ([154], [142, 143, 144, 145, 146, 148, 149, 157, 158, 159, 160, 161, 162, 163, 164, 165, 166, 167, 168, 169, 170, 171, 172, 173, 174, 175, 176]), ([155], [142, 143, 144, 145, 146, 148, 149, 162, 163, 164, 165, 166, 167, 168, 169, 170, 171, 172, 173, 174, 175, 176]), ([156], [142, 143, 144, 145, 146, 148, 149, 152, 153, 163, 164, 165, 166, 167, 168, 169, 170, 171, 172, 173, 174, 175, 176]), ([157], [142, 143, 144, 145, 146, 147, 148, 149, 150, 152, 153, 154, 159, 161, 162, 163, 164, 165, 166, 167, 168, 169, 170, 171, 172, 173, 174, 175, 176]), ([158], [142, 143, 144, 145, 146, 147, 148, 149, 150, 152, 153, 154, 159, 163, 164, 165, 166, 167, 168, 169, 170, 171, 172, 173, 174, 175, 176]), ([159], [142, 143, 144, 145, 146, 147, 148, 149, 150, 152, 153, 154, 157, 158, 163, 164, 165, 166, 167, 168, 169, 170, 171, 172, 173, 174, 175, 176]), ([160], [142, 143, 144, 145, 146, 147, 148, 149, 150, 152, 153, 154, 169, 170, 171, 172, 173, 174, 175, 176]), ([161], [142, 143, 144, 145, 146, 147, 148, 149, 150, 152, 153, 154, 157, 169, 170, 171, 172, 173, 174, 175, 176]), ([162], [142, 143, 144, 145, 146, 147, 148, 149, 150, 151, 152, 153, 154, 155, 157, 170, 171, 172, 173, 174, 175, 176]), ([163], [142, 143, 144, 145, 146, 147, 148, 149, 150, 151, 152, 153, 154, 155, 156, 157, 158, 159, 165, 168, 169, 170, 171, 172, 173, 174, 175, 176]), ([164], [142, 143, 144, 145, 146, 147, 148, 149, 150, 151, 152, 153, 154, 155, 156, 157, 158, 159, 165, 170, 171, 172, 173, 174, 175, 176]), ([165], [142, 143, 144, 145, 146, 147, 148, 149, 150, 151, 152, 153, 154, 155, 156, 157, 158, 159, 163, 164, 168, 169, 170, 171, 172, 173, 174, 175, 176]), ([166], [142, 143, 144, 145, 146, 147, 148, 149, 150, 151, 152, 153, 154, 155, 156, 157, 158, 159, 170, 171, 172, 173, 174, 175, 176]), ([167], [142, 143, 144, 145, 146, 147, 148, 149, 150, 151, 152, 153, 154, 155, 156, 157, 158, 159]), ([168], [142, 143, 144, 145, 146, 147, 148, 149, 150, 151, 152, 153, 154, 155, 156, 157, 158, 159, 163, 165]), ([169], [142, 143, 144, 145, 146, 147, 148, 149, 150, 151, 152, 153, 154, 155, 156, 157, 158, 159, 160, 161, 163, 165]), ([170], [142, 143, 144, 145, 146, 147, 148, 149, 150, 151, 152, 153, 154, 155, 156, 157, 158, 159, 160, 161, 162, 163, 164, 165, 166, 172, 173, 174, 176]), ([171], [142, 143, 144, 145, 146, 147, 148, 149, 150, 151, 152, 153, 154, 155, 156, 157, 158, 159, 160, 161, 162, 163, 164, 165, 166, 172, 173, 174]), ([172], [142, 143, 144, 145, 146, 147, 148, 149, 150, 151, 152, 153, 154, 155, 156, 157, 158, 159, 160, 161, 162, 163, 164, 165, 166, 170, 171, 175, 176]), ([173], [142, 143, 144, 145, 146, 147, 148, 149, 150, 151, 152, 153, 154, 155, 156, 157, 158, 159, 160, 161, 162, 163, 164, 165, 166, 170, 171, 176]), ([174], [142, 143, 144, 145, 146, 147, 148, 149, 150, 151, 152, 153, 154, 155, 156, 157, 158, 159, 160, 161, 162, 163, 164, 165, 166, 170, 171]), ([175], [142, 143, 144, 145, 146, 147, 148, 149, 150, 151, 152, 153, 154, 155, 156, 157, 158, 159, 160, 161, 162, 163, 164, 165, 166, 172]), ([176], [142, 143, 144, 145, 146, 147, 148, 149, 150, 151, 152, 153, 154, 155, 156, 157, 158, 159, 160, 161, 162, 163, 164, 165, 166, 170, 172, 173])] (by kernel_rfl) fun K hK => ?_
    | with_reducible refine SpecC.condW fun A B hA hB => ?_
    | with_reducible refine SpecC.block ?_
    | with_reducible refine SpecC.skip ?_
    | with_reducible refine SpecC.label ?_
    | with_reducible refine SpecC.exit ?_
    | with_reducible refine SpecC.goto ?_
    | with_reducible refine SpecC.ret ?_
    | ((with_reducible first | refine condK.split (fun hb => ?_) (fun hb => ?_) | refine gK.split_t (fun hb => ?_) (fun hb => ?_) | refine gK.split_f (fun hb => ?_) (fun hb => ?_)) <;> try simp only [decide_not, ilt_t, ilt_f, ile_t, ile_f, nlt_t, nlt_f, nle_t, nle_f, Bool.not_eq_true', Bool.not_eq_false', Int.ofNat_lt, Int.ofNat_le] at hb)
    | simp only [go_sem, ↓reduceIte, reduceIte, Nat.reduceEqDiff, String.reduceEq, Nat.reduceLT, Nat.reduceLeDiff, Nat.reduceAdd, Nat.reduceMul, Nat.reduceSub, Nat.reduceBEq, reduceCtorEq, *, -hra, -hrb, -hsm, -hsg, -hs, -hs2]
    | with_reducible refine fun (bn : Bool) hbn => ?_))
          all_goals ((repeat clear hK); (repeat clear hA); (repeat clear hB))
          all_goals (refine hM.on (i - (j + 1)) (by omega) (by simp only [go_sem, ↓reduceIte, reduceIte, Nat.reduceEqDiff, String.reduceEq, Nat.reduceLT, Nat.reduceLeDiff, Nat.reduceAdd, Nat.reduceMul, Nat.reduceSub, Nat.reduceBEq, reduceCtorEq, *, w64_nat hltj hTs, -hra, -hrb, -hsm, -hsg, -hs, -hs2]) ⟨j + 1, u, v, rfl, by omega, ?_⟩; simp only [go_sem, ↓reduceIte, reduceIte, Nat.reduceEqDiff, String.reduceEq, Nat.reduceLT, Nat.reduceLeDiff, Nat.reduceAdd, Nat.reduceMul, Nat.reduceSub, Nat.reduceBEq, reduceCtorEq, *, w64_nat hltj hTs, -hra, -hrb, -hsm, -hsg, -hs, -hs2]; done)
        · have hij : i - j = 0 := by omega
          clear hra hrb
          by_cases hx0 : x.pins = 0
          · rw [if_pos hx0] at hrel
            (repeat' (first
    | with_reducible refine callX.by awake_c ?_
    | with_reducible refine callX.by (few18_c _ _ ?_ ?_) ?_
    | with_reducible refine callX.by (few4_c _ ?_ ?_) ?_
    | with_reducible refine callX.by (pins1_c _ _ ?_) ?_
    | with_reducible refine callX.by (pSane_c _ _ ?_) ?_
    | with_reducible refine callX.by awc2 ?_
    | with_reducible refine callX.by (ppin_c _ _ ?_) ?_
    | with_reducible refine callX.by awc1 ?_
    | with_reducible refine callX.by awc3 ?_
    | with_reducible refine callX.by (ppublish_c _ _ _ ?_) ?_
    | with_reducible refine callX.by awc5 ?_
    | with_reducible refine callX.by (prelease_c _ _ _ ?_) ?_
    | with_reducible refine callX.by (kept_c _ _ ?_) ?_
    | with_reducible refine callX.by (rsame_c _ _ _ _ ?_ ?_) ?_
    | with_reducible assumption
    | (with_reducible refine NxK.out hK _ ?_; clear hK K)
    | with_reducible refine NxK.out (by assumption) _ ?_
    | with_reducible refine Nx.out (by assumption) ?_
    | with_reducible refine SpecC.seqW fun K hK => ?_
    | with_reducible refine SpecC.regW T fun K hK => ?_
    | with_reducible refine SpecC.drawW (id := 29) T mixed [([142], [148, 149, 150, 151, 152, 153, 154, 155, 156, 157, 158, 159, 160, 161, 162, 163, 164, 165, 166, 167, 168, 169, 170, 171, 172, 173, 174, 175, 176]), ([143], [152, 153, 154, 155, 156, 157, 158, 159, 160, 161, 162, 163, 164, 165, 166, 167, 168, 169, 170, 171, 172, 173, 174, 175, 176]), ([144], [147, 148, 149, 150, 151, 152, 153, 154, 155, 156, 157, 158, 159, 160, 161, 162, 163, 164, 165, 166, 167, 168, 169, 170, 171, 172, 173, 174, 175, 176]), ([145], [148, 149, 150, 151, 152, 153, 154, 155, 156, 157, 158, 159, 160, 161, 162, 163, 164, 165, 166, 167, 168, 169, 170, 171, 172, 173, 174, 175, 176]), ([146], [152, 153, 154, 155, 156, 157, 158, 159, 160, 161, 162, 163, 164, 165, 166, 167, 168, 169, 170, 171, 172, 173, 174, 175, 176]), ([147], [144, 157, 158, 159, 160, 161, 162, 163, 164, 165, 166, 167, 168, 169, 170, 171, 172, 173, 174, 175, 176]), ([148], [142, 144, 145, 151, 152, 153, 154, 155, 156, 157, 158, 159, 160, 161, 162, 163, 164, 165, 166, 167, 168, 169, 170, 171, 172, 173, 174, 175, 176]), ([149], [142, 144, 145, 152, 153, 154, 155, 156, 157, 158, 159, 160, 161, 162, 163, 164, 165, 166, 167, 168, 169, 170, 171, 172, 173, 174, 175, 176]), ([150], [142, 144, 145, 157, 158, 159, 160, 161, 162, 163, 164, 165, 166, 167, 168, 169, 170, 171, 172, 173, 174, 175, 176]), ([151], [142, 144, 145, 148, 162, 163, 164, 165, 166, 167, 168, 169, 170, 171, 172, 173, 174, 175, 176]), ([152], [142, 143, 144, 145, 146, 148, 149, 153, 156, 157, 158, 159, 160, 161, 162, 163, 164, 165, 166, 167, 168, 169, 170, 171, 172, 173, 174, 175, 176]), ([153], [142, 143, 144, 145, 146, 148, 149, 152, 156, 157, 158, 159, 160, 161, 162, 163, 164, 165, 166, 167, 168, 169, 170, 171, 172, 173, 174, 175, 176]), ([154], [142, 143, 144, 145, 146, 148, 149, 157, 158, 159, 160, 161, 162, 163, 164, 165, 166, 167, 168, 169, 170, 171, 172, 173, 174, 175, 176]), ([155], [142, 143, 144, 145, 146, 148, 149, 162, 163, 164, 165, 166, 167, 168, 169, 170, 171, 172, 173, 174, 175, 176]), ([156], [142, 143, 144, 145, 146, 148, 149, 152, 153, 163, 164, 165, 166, 167, 168, 169, 170, 171, 172, 173, 174, 175, 176]), ([157], [142, 143, 144, 145, 146, 147, 148, 149, 150, 152, 153, 154, 159, 161, 162, 163, 164, 165, 166, 167, 168, 169, 170, 171, 172, 173, 174, 175, 176]), ([158], [142, 143, 144, 145, 146, 147, 148, 149, 150, 152, 153, 154, 159, 163, 164, 165, 166, 167, 168, 169, 170, 171, 172, 173, 174, 175, 176]), ([159], [142, 143, 144, 145, 146, 147, 148, 149, 150, 152, 153, 154, 157, 158, 163, 164, 165, 166, 167, 168, 169, 170, 171, 172, 173, 174, 175, 176]), ([160], [142, 143, 144, 145, 146, 147, 148, 149, 150, 152, 153, 154, 169, 170, 171, 172, 173, 174, 175, 176]), ([161], [142, 143, 144, 145, 146, 147, 148, 149, 150, 152, 153, 154, 157, 169, 170, 171, 172, 173, 174, 175, 176]), ([162], [142, 143, 144, 145, 146, 147, 148, 149, 150, 151, 152, 153, 154, 155, 157, 170, 171, 172, 173, 174, 175, 176]), ([163], [142, 143, 144, 145, 146, 147, 148, 149, 150, 151, 152, 153, 154, 155, 156, 157, 158, 159, 165, 168, 169, 170, 171, 172, 173, 174, 175, 176]), ([164], [142, 143, 144, 145, 146, 147, 148, 149, 150, 151, 152, 153, 154, 155, 156, 157, 158, 159, 165, 170, 171, 172, 173, 174, 175, 176]), ([165], [142, 143, 144, 145, 146, 147, 148, 149, 150, 151, 152, 153, 154, 155, 156, 157, 158, 159, 163, 164, 168, 169, 170, 171, 172, 173, 174, 175, 176]), ([166], [142, 143, 144, 145, 146, 147, 148, 149, 150, 151, 152, 153, 154, 155, 156, 157, 158, 159, 170, 171, 172, 173, 174, 175, 176]), ([167], [142, 143, 144, 145, 146, 147, 148, 149, 150, 151, 152, 153, 154, 155, 156, 157, 158, 159]), ([168], [142, 143, 144, 145, 146, 147, 148, 149, 150, 151, 152, 153, 154, 155, 156, 157, 158, 159, 163, 165]), ([169], [142, 143, 144, 145, 146, 147, 148, 149, 150, 151, 152, 153, 154, 155, 156, 157, 158, 159, 160, 161, 163, 165]), ([170], [142, 143, 144, 145, 146, 147, 148, 149, 150, 151, 152, 153, 154, 155, 156, 157, 158, 159, 160, 161, 162, 163, 164, 165, 166, 172, 173, 174, 176]), ([171], [142, 143, 144, 145, 146, 147, 148, 149, 150, 151, 152, 153, 154, 155, 156, 157, 158, 159, 160, 161, 162, 163, 164, 165, 166, 172, 173, 174]), ([172], [142, 143, 144, 145, 146, 147, 148, 149, 150, 151, 152, 153, 154, 155, 156, 157, 158, 159, 160, 161, 162, 163, 164, 165, 166, 170, 171, 175, 176]), ([173], [142, 143, 144, 145, 146, 147, 148, 149, 150, 151, 152, 153, 154, 155, 156, 157, 158, 159, 160, 161, 162, 163, 164, 165, 166, 170, 171, 176]), ([174], [142, 143, 144, 145, 146, 147, 148, 149, 150, 151, 152, 153, 154, 155, 156, 157, 158, 159, 160, 161, 162, 163, 164, 165, 166, 170, 171]), ([175], [142, 143, 144, 145, 146, 147, 148, 149, 150, 151, 152, 153, 154, 155, 156, 157, 158, 159, 160, 161, 162, 163, 164, 165, 166, 172]), ([176], [142, 143, 144, 145, 146, 147, 148, 149, 150, 151, 152, 153, 154, 155, 156, 157, 158, 159, 160, 161, 162, 163, 164, 165, 166, 170, 172, 173])] (by kernel_rfl) fun K hK => ?_
    | with_reducible refine SpecC.condW fun A B hA hB => ?_
    | with_reducible refine SpecC.block ?_
    | with_reducible refine SpecC.skip ?_
    | with_reducible refine SpecC.label ?_
    | with_reducible refine SpecC.exit ?_
    | with_reducible refine SpecC.goto ?_
    | with_reducible refine SpecC.ret ?_
    | ((with_reducible first | refine condK.split (fun hb => ?_) (fun hb => ?_) | refine gK.split_t (fun hb => ?_) (fun hb => ?_) | refine gK.split_f (fun hb => ?_) (fun hb => ?_)) <;> try simp only [decide_not, ilt_t, ilt_f, ile_t, ile_f, nlt_t, nlt_f, nle_t, nle_f, Bool.not_eq_true', Bool.not_eq_false', Int.ofNat_lt, Int.ofNat_le] at hb)
    | simp only [go_sem, ↓reduceIte, reduceIte, Nat.reduceEqDiff, String.reduceEq, Nat.reduceLT, Nat.reduceLeDiff, Nat.reduceAdd, Nat.reduceMul, Nat.reduceSub, Nat.reduceBEq, reduceCtorEq, *, -hsm, -hsg, -hs, -hs2]
    | with_reducible refine fun (bn : Bool) hbn => ?_))
            all_goals ((repeat clear hK); (repeat clear hA); (repeat clear hB))
            all_goals first | assumption | (simp [*]; done) | trace_state
          · rw [if_neg hx0] at hrel
            (repeat' (first
    | with_reducible refine callX.by awake_c ?_
    | with_reducible refine callX.by (few18_c _ _ ?_ ?_) ?_
    | with_reducible refine callX.by (few4_c _ ?_ ?_) ?_
    | with_reducible refine callX.by (pins1_c _ _ ?_) ?_
    | with_reducible refine callX.by (pSane_c _ _ ?_) ?_
    | with_reducible refine callX.by awc2 ?_
    | with_reducible refine callX.by (ppin_c _ _ ?_) ?_
    | with_reducible refine callX.by awc1 ?_
    | with_reducible refine callX.by awc3 ?_
    | with_reducible refine callX.by (ppublish_c _ _ _ ?_) ?_
    | with_reducible refine callX.by awc5 ?_
    | with_reducible refine callX.by (prelease_c _ _ _ ?_) ?_
    | with_reducible refine callX.by (kept_c _ _ ?_) ?_
    | with_reducible refine callX.by (rsame_c _ _ _ _ ?_ ?_) ?_
    | with_reducible assumption
    | (with_reducible refine NxK.out hK _ ?_; clear hK K)
    | with_reducible refine NxK.out (by assumption) _ ?_
    | with_reducible refine Nx.out (by assumption) ?_
    | with_reducible refine SpecC.seqW fun K hK => ?_
    | with_reducible refine SpecC.regW T fun K hK => ?_
    | with_reducible refine SpecC.drawW (id := 29) T mixed [([142], [148, 149, 150, 151, 152, 153, 154, 155, 156, 157, 158, 159, 160, 161, 162, 163, 164, 165, 166, 167, 168, 169, 170, 171, 172, 173, 174, 175, 176]), ([143], [152, 153, 154, 155, 156, 157, 158, 159, 160, 161, 162, 163, 164, 165, 166, 167, 168, 169, 170, 171, 172, 173, 174, 175, 176]), ([144], [147, 148, 149, 150, 151, 152, 153, 154, 155, 156, 157, 158, 159, 160, 161, 162, 163, 164, 165, 166, 167, 168, 169, 170, 171, 172, 173, 174, 175, 176]), ([145], [148, 149, 150, 151, 152, 153, 154, 155, 156, 157, 158, 159, 160, 161, 162, 163, 164, 165, 166, 167, 168, 169, 170, 171, 172, 173, 174, 175, 176]), ([146], [152, 153, 154, 155, 156, 157, 158, 159, 160, 161, 162, 163, 164, 165, 166, 167, 168, 169, 170, 171, 172, 173, 174, 175, 176]), ([147], [144, 157, 158, 159, 160, 161, 162, 163, 164, 165, 166, 167, 168, 169, 170, 171, 172, 173, 174, 175, 176]), ([148], [142, 144, 145, 151, 152, 153, 154, 155, 156, 157, 158, 159, 160, 161, 162, 163, 164, 165, 166, 167, 168, 169, 170, 171, 172, 173, 174, 175, 176]), ([149], [142, 144, 145, 152, 153, 154, 155, 156, 157, 158, 159, 160, 161, 162, 163, 164, 165, 166, 167, 168, 169, 170, 171, 172, 173, 174, 175, 176]), ([150], [142, 144, 145, 157, 158, 159, 160, 161, 162, 163, 164, 165, 166, 167, 168, 169, 170, 171, 172, 173, 174, 175, 176]), ([151], [142, 144, 145, 148, 162, 163, 164, 165, 166, 167, 168, 169, 170, 171, 172, 173, 174, 175, 176]), ([152], [142, 143, 144, 145, 146, 148, 149, 153, 156, 157, 158, 159, 160, 161, 162, 163, 164, 165, 166, 167, 168, 169, 170, 171, 172, 173, 174, 175, 176]), ([153], [142, 143, 144, 145, 146, 148, 149, 152, 156, 157, 158, 159, 160, 161, 162, 163, 164, 165, 166, 167, 168, 169, 170, 171, 172, 173, 174, 175, 176]), ([154], [142, 143, 144, 145, 146, 148, 149, 157, 158, 159, 160, 161, 162, 163, 164, 165, 166, 167, 168, 169, 170, 171, 172, 173, 174, 175, 176]), ([155], [142, 143, 144, 145, 146, 148, 149, 162, 163, 164, 165, 166, 167, 168, 169, 170, 171, 172, 173, 174, 175, 176]), ([156], [142, 143, 144, 145, 146, 148, 149, 152, 153, 163, 164, 165, 166, 167, 168, 169, 170, 171, 172, 173, 174, 175, 176]), ([157], [142, 143, 144, 145, 146, 147, 148, 149, 150, 152, 153, 154, 159, 161, 162, 163, 164, 165, 166, 167, 168, 169, 170, 171, 172, 173, 174, 175, 176]), ([158], [142, 143, 144, 145, 146, 147, 148, 149, 150, 152, 153, 154, 159, 163, 164, 165, 166, 167, 168, 169, 170, 171, 172, 173, 174, 175, 176]), ([159], [142, 143, 144, 145, 146, 147, 148, 149, 150, 152, 153, 154, 157, 158, 163, 164, 165, 166, 167, 168, 169, 170, 171, 172, 173, 174, 175, 176]), ([160], [142, 143, 144, 145, 146, 147, 148, 149, 150, 152, 153, 154, 169, 170, 171, 172, 173, 174, 175, 176]), ([161], [142, 143, 144, 145, 146, 147, 148, 149, 150, 152, 153, 154, 157, 169, 170, 171, 172, 173, 174, 175, 176]), ([162], [142, 143, 144, 145, 146, 147, 148, 149, 150, 151, 152, 153, 154, 155, 157, 170, 171, 172, 173, 174, 175, 176]), ([163], [142, 143, 144, 145, 146, 147, 148, 149, 150, 151, 152, 153, 154, 155, 156, 157, 158, 159, 165, 168, 169, 170, 171, 172, 173, 174, 175, 176]), ([164], [142, 143, 144, 145, 146, 147, 148, 149, 150, 151, 152, 153, 154, 155, 156, 157, 158, 159, 165, 170, 171, 172, 173, 174, 175, 176]), ([165], [142, 143, 144, 145, 146, 147, 148, 149, 150, 151, 152, 153, 154, 155, 156, 157, 158, 159, 163, 164, 168, 169, 170, 171, 172, 173, 174, 175, 176]), ([166], [142, 143, 144, 145, 146, 147, 148, 149, 150, 151, 152, 153, 154, 155, 156, 157, 158, 159, 170, 171, 172, 173, 174, 175, 176]), ([167], [142, 143, 144, 145, 146, 147, 148, 149, 150, 151, 152, 153, 154, 155, 156, 157, 158, 159]), ([168], [142, 143, 144, 145, 146, 147, 148, 149, 150, 151, 152, 153, 154, 155, 156, 157, 158, 159, 163, 165]), ([169], [142, 143, 144, 145, 146, 147, 148, 149, 150, 151, 152, 153, 154, 155, 156, 157, 158, 159, 160, 161, 163, 165]), ([170], [142, 143, 144, 145, 146, 147, 148, 149, 150, 151, 152, 153, 154, 155, 156, 157, 158, 159, 160, 161, 162, 163, 164, 165, 166, 172, 173, 174, 176]), ([171], [142, 143, 144, 145, 146, 147, 148, 149, 150, 151, 152, 153, 154, 155, 156, 157, 158, 159, 160, 161, 162, 163, 164, 165, 166, 172, 173, 174]), ([172], [142, 143, 144, 145, 146, 147, 148, 149, 150, 151, 152, 153, 154, 155, 156, 157, 158, 159, 160, 161, 162, 163, 164, 165, 166, 170, 171, 175, 176]), ([173], [142, 143, 144, 145, 146, 147, 148, 149, 150, 151, 152, 153, 154, 155, 156, 157, 158, 159, 160, 161, 162, 163, 164, 165, 166, 170, 171, 176]), ([174], [142, 143, 144, 145, 146, 147, 148, 149, 150, 151, 152, 153, 154, 155, 156, 157, 158, 159, 160, 161, 162, 163, 164, 165, 166, 170, 171]), ([175], [142, 143, 144, 145, 146, 147, 148, 149, 150, 151, 152, 153, 154, 155, 156, 157, 158, 159, 160, 161, 162, 163, 164, 165, 166, 172]), ([176], [142, 143, 144, 145, 146, 147, 148, 149, 150, 151, 152, 153, 154, 155, 156, 157, 158, 159, 160, 161, 162, 163, 164, 165, 166, 170, 172, 173])] (by kernel_rfl) fun K hK => ?_
    | with_reducible refine SpecC.condW fun A B hA hB => ?_
    | with_reducible refine SpecC.block ?_
    | with_reducible refine SpecC.skip ?_
    | with_reducible refine SpecC.label ?_
    | with_reducible refine SpecC.exit ?_
    | with_reducible refine SpecC.goto ?_
    | with_reducible refine SpecC.ret ?_
    | ((with_reducible first | refine condK.split (fun hb => ?_) (fun hb => ?_) | refine gK.split_t (fun hb => ?_) (fun hb => ?_) | refine gK.split_f (fun hb => ?_) (fun hb => ?_)) <;> try simp only [decide_not, ilt_t, ilt_f, ile_t, ile_f, nlt_t, nlt_f, nle_t, nle_f, Bool.not_eq_true', Bool.not_eq_false', Int.ofNat_lt, Int.ofNat_le] at hb)
    | simp only [go_sem, ↓reduceIte, reduceIte, Nat.reduceEqDiff, String.reduceEq, Nat.reduceLT, Nat.reduceLeDiff, Nat.reduceAdd, Nat.reduceMul, Nat.reduceSub, Nat.reduceBEq, reduceCtorEq, *, -hsm, -hsg, -hs, -hs2]
    | with_reducible refine fun (bn : Bool) hbn => ?_))
            all_goals ((repeat clear hK); (repeat clear hA); (repeat clear hB))
            all_goals first | assumption | (simp [*]; done) | trace_state
end Go.Proofs.Ytjmnokbbodcaaaa.Lg
