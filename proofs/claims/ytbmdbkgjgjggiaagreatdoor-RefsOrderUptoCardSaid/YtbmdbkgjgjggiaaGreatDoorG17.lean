/- Parts of the proof, one behind the other. -/
import Derived.Test.YtbmdbkgjgjggiaaGreatDoorG16
namespace Go.Proofs.YtbmdbkgjgjggiaaGreatDoor.Lg
set_option maxRecDepth 100000
set_option linter.unusedVariables false
set_option linter.unusedSimpArgs false
open Go
theorem firstBad_zero {l : List Res} (h : firstBad l = 0) : ∀ r ∈ l, saneR r = 0 := by
  induction l with
  | nil => simp
  | cons r l ih =>
    unfold firstBad at h
    split at h
    · rename_i hs
      intro x hx
      rcases List.mem_cons.1 hx with rfl | hx
      · exact hs
      · exact ih h x hx
    · rename_i hs; exact absurd h hs
theorem upR_iff : ∀ l : List Res, upR l = true ↔ Up (l.map keyOf)
  | [] => by simp [upR, Up]
  | [a] => by simp [upR, Up]
  | a :: b :: l => by
    rw [upR_cons2, Bool.and_eq_true, upR_iff (b :: l), decide_eq_true_eq]
    simp only [List.map_cons]
    constructor
    · rintro ⟨h1, h2⟩
      refine List.pairwise_cons.2 ⟨fun x hx => ?_, h2⟩
      rcases List.mem_cons.1 hx with rfl | hx
      · exact h1
      · exact kcmp_trans _ _ _ h1 ((List.pairwise_cons.1 h2).1 x hx)
    · intro h
      obtain ⟨h1, h2⟩ := List.pairwise_cons.1 h
      exact ⟨h1 _ (by simp), h2⟩
structure Conf (l : List Res) : Prop where
  len : l.length ≤ 64
  sane : ∀ r ∈ l, saneR r = 0
  up : Up (l.map keyOf)
theorem conf_of {l : List Res} (h : tsane l = 0) : Conf l := by
  unfold tsane at h
  split at h
  · cases h
  · rename_i h1
    split at h
    · rename_i h2; exact absurd h h2
    · rename_i h2
      split at h
      · cases h
      · rename_i h3
        exact ⟨by omega, firstBad_zero (by simpa using h2), (upR_iff l).1 (by simpa using h3)⟩
theorem up_nodup {l : List Key} (h : Up l) : l.Nodup := by
  unfold Up at h
  refine h.imp fun {a b} hab e => ?_
  subst e
  exact kcmp_irrefl _ hab
theorem Conf.nodup {l : List Res} (h : Conf l) : (l.map keyOf).Nodup := up_nodup h.up
theorem key_inj {l : List Res} (h : (l.map keyOf).Nodup) {a b : Res} (ha : a ∈ l) (hb : b ∈ l) (e : keyOf a = keyOf b) : a = b := by
  induction l with
  | nil => simp at ha
  | cons r l ih =>
    rw [List.map_cons, List.nodup_cons] at h
    rcases List.mem_cons.1 ha with ha' | ha' <;> rcases List.mem_cons.1 hb with hb' | hb'
    · rw [ha', hb']
    · exact absurd (by rw [← ha', e]; exact List.mem_map_of_mem hb') h.1
    · exact absurd (by rw [← hb', ← e]; exact List.mem_map_of_mem ha') h.1
    · exact ih h.2 ha' hb'
theorem names_get {l : List Res} (h : (l.map keyOf).Nodup) {r : Res} (hr : r ∈ l) : mget (namesM l) (keyOf r) = some (refsR r) := by
  obtain ⟨q, h1, h2⟩ := mget_names l (keyOf r) (List.mem_map_of_mem hr)
  have h3 := mget_mem h2
  obtain ⟨p, hp, he⟩ := List.mem_map.1 h3
  have e1 : keyOf p = keyOf r := (Prod.mk.inj he).1
  have := key_inj h hp hr e1
  subst this
  rw [h2, ← (Prod.mk.inj he).2]
inductive Rch (l : List Res) : Key → Prop
  | base (r : Res) : r ∈ l → r.kind = 0 → Rch l (keyOf r)
  | step (r : Res) (x : Key) : r ∈ l → Rch l (keyOf r) → x ∈ refsR r → x ∈ l.map keyOf → Rch l x
section dfs
variable (T0 : KS) (N : List (Key × List Key))
def succK (k : Key) : List Key := (mget N k).getD []
inductive Way : Key → Key → Prop
  | refl (k : Key) : isIn T0 k = true → Way k k
  | step (k x y : Key) : isIn T0 k = true → x ∈ succK N k → Way x y → Way k y
abbrev Shut (A B : KS) : Prop := ∀ x, isIn B x = true → isIn A x = false → ∀ y ∈ succK N x, isIn T0 y = true → isIn B y = true
theorem dfs (n : Nat) : ∀ (k : Key) (M : KS), muV T0 M ≤ n →
    (isIn T0 k = true → isIn (visF T0 N n k M) k = true) ∧
    (∀ x, isIn (visF T0 N n k M) x = true → isIn M x = false → Way T0 N k x) ∧ Shut T0 N M (visF T0 N n k M) := by
  induction n with
  | zero =>
    intro k M hmu
    have h0 : ∀ k, isIn T0 k = true → isIn M k = true := fun k hk => by
      cases hm : isIn M k with
      | true => rfl
      | false => have := mu_lt hk hm; omega
    exact ⟨h0 k, fun x hx hx' => absurd (Eq.trans (Eq.symm (show isIn M x = true from hx)) hx') (by decide), fun x hx hx' => absurd (Eq.trans (Eq.symm (show isIn M x = true from hx)) hx') (by decide)⟩
  | succ n ih =>
    intro k M hmu
    by_cases hc : isIn T0 k = true ∧ isIn M k = false
    rotate_left
    · have e : visF T0 N (n + 1) k M = M := by rw [visF, if_neg hc]
      rw [e]
      refine ⟨fun hk => ?_, fun x hx hx' => absurd (Eq.trans (Eq.symm hx) hx') (by decide), fun x hx hx' => absurd (Eq.trans (Eq.symm hx) hx') (by decide)⟩
      cases hm : isIn M k with
      | true => rfl
      | false => exact absurd ⟨hk, hm⟩ hc
    · obtain ⟨hk, hm⟩ := hc
      have e : visF T0 N (n + 1) k M = (succK N k).foldl (fun M x => visF T0 N n x M) (mput M k true) := by rw [visF, if_pos ⟨hk, hm⟩]; rfl
      have hmu1 : muV T0 (mput M k true) ≤ n := by have := mu_lt hk hm; omega
      have fold : ∀ (v : List Key) (M1 : KS), muV T0 M1 ≤ n →
          (∀ x, isIn M1 x = true → isIn (v.foldl (fun M x => visF T0 N n x M) M1) x = true) ∧
          (∀ y ∈ v, isIn T0 y = true → isIn (v.foldl (fun M x => visF T0 N n x M) M1) y = true) ∧
          (∀ x, isIn (v.foldl (fun M x => visF T0 N n x M) M1) x = true → isIn M1 x = false → ∃ y ∈ v, Way T0 N y x) ∧
          Shut T0 N M1 (v.foldl (fun M x => visF T0 N n x M) M1) := by
        intro v
        induction v with
        | nil => exact fun M1 _ => ⟨fun x h => h, by simp, fun x h h' => absurd (Eq.trans (Eq.symm (show isIn M1 x = true from h)) h') (by decide), fun x h h' => absurd (Eq.trans (Eq.symm (show isIn M1 x = true from h)) h') (by decide)⟩
        | cons y v ihv =>
          intro M1 h1
          rw [List.foldl_cons]
          obtain ⟨a1, a2, a3⟩ := ih y M1 h1
          have hg : ∀ x, isIn M1 x = true → isIn (visF T0 N n y M1) x = true := fun x hx => visF_grow T0 N n y M1 x hx
          obtain ⟨b1, b2, b3, b4⟩ := ihv (visF T0 N n y M1) (Nat.le_trans (mu_le hg) h1)
          refine ⟨fun x hx => b1 x (hg x hx), fun z hz hzT => ?_, fun x hx hx' => ?_, fun x hx hx' z hz hzT => ?_⟩
          · rcases List.mem_cons.1 hz with rfl | hz
            · exact b1 _ (a1 hzT)
            · exact b2 z hz hzT
          · cases hv : isIn (visF T0 N n y M1) x with
            | true => exact ⟨y, by simp, a2 x hv hx'⟩
            | false => obtain ⟨z, hz, hw⟩ := b3 x hx hv; exact ⟨z, by simp [hz], hw⟩
          · cases hv : isIn (visF T0 N n y M1) x with
            | true => exact b1 _ (a3 x hv hx' z hz hzT)
            | false => exact b4 x hx hv z hz hzT
      obtain ⟨b1, b2, b3, b4⟩ := fold (succK N k) (mput M k true) hmu1
      rw [e]
      refine ⟨fun _ => b1 k (by rw [isIn_put]; simp), fun x hx hx' => ?_, fun x hx hx' y hy hyT => ?_⟩
      · cases hp : isIn (mput M k true) x with
        | true =>
          rw [isIn_put, hx'] at hp
          have : x = k := by simpa using hp
          subst this
          exact .refl _ hk
        | false =>
          obtain ⟨y, hy, hw⟩ := b3 x hx hp
          exact .step k y x hk hy hw
      · cases hp : isIn (mput M k true) x with
        | true =>
          rw [isIn_put, hx'] at hp
          have : x = k := by simpa using hp
          subst this
          exact b2 y hy hyT
        | false => exact b4 x hx hp y hy hyT
theorem reachF_spec (n : Nat) (hn : ∀ M, muV T0 M ≤ n) : ∀ (l : List Res) (M : KS), Shut T0 N [] M →
    Shut T0 N [] (reachF T0 N n l M) ∧ (∀ x, isIn M x = true → isIn (reachF T0 N n l M) x = true) ∧ (∀ r ∈ l, r.kind = 0 → isIn T0 (keyOf r) = true → isIn (reachF T0 N n l M) (keyOf r) = true) ∧
    ∀ x, isIn (reachF T0 N n l M) x = true → isIn M x = true ∨ ∃ r ∈ l, r.kind = 0 ∧ Way T0 N (keyOf r) x
  | [], M, h => ⟨h, fun x hx => hx, by simp, fun x hx => .inl hx⟩
  | r :: l, M, h => by
    have e : reachF T0 N n (r :: l) M = reachF T0 N n l (if r.kind = 0 then visF T0 N n (keyOf r) M else M) := rfl
    rw [e]
    by_cases hk : r.kind = 0
    · rw [if_pos hk]
      obtain ⟨a1, a2, a3⟩ := dfs T0 N n (keyOf r) M (hn M)
      have hg : ∀ x, isIn M x = true → isIn (visF T0 N n (keyOf r) M) x = true := fun x hx => visF_grow T0 N n _ M x hx
      have hs : Shut T0 N [] (visF T0 N n (keyOf r) M) := fun x hx _ y hy hyT => by
        cases hm : isIn M x with
        | true => exact hg _ (h x hm rfl y hy hyT)
        | false => exact a3 x hx hm y hy hyT
      obtain ⟨b1, b2, b3, b4⟩ := reachF_spec n hn l _ hs
      refine ⟨b1, fun x hx => b2 x (hg x hx), fun q hq hq0 hqT => ?_, fun x hx => ?_⟩
      · rcases List.mem_cons.1 hq with rfl | hq
        · exact b2 _ (a1 hqT)
        · exact b3 q hq hq0 hqT
      · rcases b4 x hx with h1 | ⟨q, hq, h1, h2⟩
        · cases hm : isIn M x with
          | true => exact .inl rfl
          | false => exact .inr ⟨r, by simp, hk, a2 x h1 hm⟩
        · exact .inr ⟨q, by simp [hq], h1, h2⟩
    · rw [if_neg hk]
      obtain ⟨b1, b2, b3, b4⟩ := reachF_spec n hn l M h
      refine ⟨b1, b2, fun q hq hq0 hqT => ?_, fun x hx => ?_⟩
      · rcases List.mem_cons.1 hq with rfl | hq
        · exact absurd hq0 hk
        · exact b3 q hq hq0 hqT
      · rcases b4 x hx with h1 | ⟨q, hq, h1, h2⟩
        · exact .inl h1
        · exact .inr ⟨q, by simp [hq], h1, h2⟩
end dfs
theorem isIn_of (l : List Res) (k : Key) : isIn (ofR l []) k = decide (k ∈ l.map keyOf) := by rw [mem_ofR]; simp [isIn]
theorem reached_iff {l : List Res} (h : (l.map keyOf).Nodup) (k : Key) : isIn (reachedM l) k = true ↔ Rch l k := by
  have hT : ∀ k, isIn (ofR l []) k = true ↔ k ∈ l.map keyOf := fun k => by rw [isIn_of]; simp
  obtain ⟨b1, _, b3, b4⟩ := reachF_spec (ofR l []) (namesM l) (ofR l []).length (fun M => List.length_filter_le _ _) l [] (fun x hx => by simp [isIn] at hx)
  have hsucc : ∀ r ∈ l, succK (namesM l) (keyOf r) = refsR r := fun r hr => by unfold succK; rw [names_get h hr]; rfl
  constructor
  · intro hk
    rcases b4 k hk with h1 | ⟨r, hr, h0, hw⟩
    · simp [isIn] at h1
    · have : ∀ {a b : Key}, Way (ofR l []) (namesM l) a b → Rch l a → Rch l b := by
        intro a b hw
        induction hw with
        | refl => exact fun h => h
        | step k x y hk hx hw ih =>
          intro ha
          refine ih ?_
          obtain ⟨q, hq, rfl⟩ := List.mem_map.1 ((hT k).1 hk)
          rw [hsucc q hq] at hx
          refine .step q x hq ha hx ?_
          cases hw with
          | refl _ hx' => exact (hT x).1 hx'
          | step _ _ _ hx' => exact (hT x).1 hx'
      exact this hw (.base r hr h0)
  · intro hk
    induction hk with
    | base r hr h0 => exact b3 r hr h0 ((hT _).2 (List.mem_map_of_mem hr))
    | step r x hr _ hx hx' ih => exact b1 _ ih rfl x (by rw [hsucc r hr]; exact hx) ((hT x).2 hx')
theorem nodup_sub {l m : List Res} (h : (l.map keyOf).Nodup) (hs : m.Sublist l) : (m.map keyOf).Nodup := h.sublist (hs.map _)
end Go.Proofs.YtbmdbkgjgjggiaaGreatDoor.Lg

namespace Go.Proofs.YtbmdbkgjgjggiaaGreatDoor.Lg
set_option maxRecDepth 100000
set_option linter.unusedVariables false
set_option linter.unusedSimpArgs false
open Go
def a6 : Res := ⟨0, [108], 0, 0, [114], [], []⟩
theorem a6s : saneR a6 = 0 := by decide
theorem a6r : refsR a6 = [⟨1, [114]⟩] := by
  unfold refsR
  rw [if_pos a6s]
  have e : baseR a6 ++ keysR a6.rules' = [⟨1, [114]⟩] := by decide
  rw [e]
  have e2 : ksort [⟨1, [114]⟩] = [(⟨1, [114]⟩ : Key)] := by simp [ksort]
  rw [e2]; rfl
theorem a6sm : ∀ r ∈ [a6], SmRes r := by
  intro r hr
  rw [List.mem_singleton] at hr
  subst hr
  exact ⟨by simp [Small, a6], by simp [Small, a6], by simp [Small, a6], by simp [a6], by simp [Small, a6]⟩
theorem a6nd : ([a6].map keyOf).Nodup := by simp
theorem a6m : missK [a6] = [⟨1, [114]⟩] := by
  have e : missR (ofR [a6] []) [a6] = [⟨1, [114]⟩] := by
    rw [missR_cons, a6r]
    have : keepK (ofR [a6] []) [⟨1, [114]⟩] = [⟨1, [114]⟩] := by decide
    rw [this]; rfl
  unfold missK
  rw [e]
  have e2 : ksort [⟨1, [114]⟩] = [(⟨1, [114]⟩ : Key)] := by simp [ksort]
  rw [e2]; rfl
theorem a6re : reachR [a6] = [a6] := by
  unfold reachR
  rw [List.filter_eq_self]
  intro r hr
  rw [reached_iff a6nd]
  rw [List.mem_singleton] at hr
  subst hr
  exact .base a6 (by simp) rfl
theorem a6se : served [a6] = 6 := by
  unfold served
  rw [a6re, if_pos]
  rw [List.any_cons, lacks, a6r]
  decide
theorem a6o : orderK [a6] = [⟨0, [108]⟩] := by decide
abbrev A6 : AV := .slice false [.agg [.int .i64 0, .str [108], .int .i64 0, .int .i64 0, .str [114], .slice false [], .slice false []]]
theorem a6mc : CallR Tryz.prog 27 [A6] (.own 2 [.agg [.int .i64 1, .str [114]]]) := by
  have h := missing_c [a6] (by decide) a6sm
  rw [a6m] at h; exact h
theorem a6sc : CallR Tryz.prog 34 [A6] (.val (.int .i64 6)) := by
  have h := served_c [a6] (by decide) a6sm a6nd
  rw [a6se] at h; exact h
theorem a6oc : CallR Tryz.prog 36 [A6] (.own 2 [.agg [.int .i64 0, .str [108]]]) := by
  have h := order_refs_c [a6] (by decide)
  rw [a6o] at h; exact h
theorem a6rc : CallR Tryz.prog 32 [A6] (.own 7 [.agg [.int .i64 0, .str [108], .int .i64 0, .int .i64 0, .str [114], .slice false [], .slice false []]]) := by
  have h := reach_c [a6] (by decide) a6sm a6nd
  rw [a6re] at h; exact h
set_option maxRecDepth 30000 in
set_option maxHeartbeats 4000000 in
theorem awake6_c : CallR Tryz.prog 25 [] (.val (.bool true)) := by
  refine CallR.go0 (T := T) Tryz.call25 Tryz.func25 rfl Tryz.ntmps25 (congrArg Array.toList Tryz.results25) fun ts hn => ?_
  (repeat' (first
 | with_reducible refine callX.by (a6mc) ?_
 | with_reducible refine callX.by (a6sc) ?_
 | with_reducible refine callX.by (a6oc) ?_
 | with_reducible refine callX.fz (a6rc) ?_
 | with_reducible refine callX.by (missing_c _ ?_ ?_) ?_
 | with_reducible refine callX.by a6mc ?_
 | with_reducible refine callX.by (served_c _ ?_ ?_ ?_) ?_
 | with_reducible refine callX.by a6sc ?_
 | with_reducible refine callX.by (order_refs_c _ ?_) ?_
 | with_reducible refine callX.by a6oc ?_
 | with_reducible refine callX.by (reach_c _ ?_ ?_ ?_) ?_
 | with_reducible refine callX.by a6rc ?_
 | with_reducible assumption
 | (with_reducible refine NxK.out hK _ ?_; clear hK K)
 | with_reducible refine NxK.out (by assumption) _ ?_
 | with_reducible refine Nx.out (by assumption) ?_
 | with_reducible refine SpecC.seqW fun K hK => ?_
 | with_reducible refine SpecC.regW T fun K hK => ?_
 | with_reducible refine SpecC.condW fun A B hA hB => ?_
 | with_reducible refine SpecC.block ?_
 | with_reducible refine SpecC.skip ?_
 | with_reducible refine SpecC.label ?_
 | with_reducible refine SpecC.exit ?_
 | with_reducible refine SpecC.goto ?_
 | with_reducible refine SpecC.ret ?_
 | ((with_reducible first | refine condK.split (fun hb => ?_) (fun hb => ?_) | refine gK.split_t (fun hb => ?_) (fun hb => ?_) | refine gK.split_f (fun hb => ?_) (fun hb => ?_)) <;> try simp only [decide_not, ilt_t, ilt_f, ile_t, ile_f, nlt_t, nlt_f, nle_t, nle_f, Bool.not_eq_true', Bool.not_eq_false', Int.ofNat_lt, Int.ofNat_le] at hb)
 | simp only [go_sem, ↓reduceIte, reduceIte, Nat.reduceEqDiff, String.reduceEq, Nat.reduceLT, Nat.reduceLeDiff, Nat.reduceAdd, Nat.reduceMul, Nat.reduceSub, Nat.reduceBEq, reduceCtorEq, *, Int.toNat_zero, Int.le_refl, List.getD_cons_zero, z01, Nat.zero_lt_one]
 | with_reducible refine fun (bn : Bool) hbn => ?_))
theorem few_len {l : List Res} (h : fewAll l = true) : l.length ≤ 65536 := by
  simp only [fewAll, Bool.and_eq_true, decide_eq_true_eq] at h
  omega
end Go.Proofs.YtbmdbkgjgjggiaaGreatDoor.Lg

namespace Go.Proofs.YtbmdbkgjgjggiaaGreatDoor.Lg
set_option maxRecDepth 100000
set_option linter.unusedVariables false
set_option linter.unusedSimpArgs false
open Go
theorem tget_is (l : List Res) (k : Key) : (tget l k).isSome = decide (k ∈ l.map keyOf) := by
  unfold tget
  rw [Bool.eq_iff_iff, List.find?_isSome, decide_eq_true_eq, List.mem_map]
  simp
theorem tget_in {l : List Res} {k : Key} {r : Res} (h : tget l k = some r) : r ∈ l ∧ keyOf r = k := by
  unfold tget at h
  exact ⟨List.mem_of_find?_eq_some h, by simpa using List.find?_some h⟩
theorem tget_key {l : List Res} (h : (l.map keyOf).Nodup) {r : Res} (hr : r ∈ l) : tget l (keyOf r) = some r := by
  cases e : tget l (keyOf r) with
  | none =>
    have := tget_is l (keyOf r)
    rw [e, decide_eq_true (List.mem_map_of_mem hr)] at this
    cases this
  | some q =>
    obtain ⟨h1, h2⟩ := tget_in e
    rw [key_inj h h1 hr h2]
theorem order_len {l : List Res} (h : ∀ r ∈ l, saneR r = 0) : (orderK l).length = l.length := by
  unfold orderK
  simp only [List.length_map, List.length_append]
  induction l with
  | nil => rfl
  | cons r l ih =>
    have hi := ih fun x hx => h x (by simp [hx])
    have hk := sane_kind (h r (by simp))
    unfold tkind at *
    simp only [List.filter_cons]
    rcases hk with hk | hk | hk | hk <;> simp [hk] <;> omega
theorem mem_order {l : List Res} {x : Key} (hx : x ∈ orderK l) : x ∈ l.map keyOf := by
  unfold orderK tkind at hx
  obtain ⟨r, hr, rfl⟩ := List.mem_map.1 hx
  simp only [List.mem_append, List.mem_filter] at hr
  exact List.mem_map_of_mem (by grind)
theorem tkind_nodup {l : List Res} (h : (l.map keyOf).Nodup) (n : Int) : ((tkind l n).map keyOf).Pairwise fun a b => a ≠ b ∧ b.kind ≤ a.kind := by
  have h1 : ((tkind l n).map keyOf).Nodup := nodup_sub h List.filter_sublist
  have h2 : ∀ x ∈ (tkind l n).map keyOf, x.kind = n := by
    intro x hx
    obtain ⟨r, hr, rfl⟩ := List.mem_map.1 hx
    simpa [keyOf] using (List.mem_filter.1 hr).2
  refine List.Pairwise.imp_of_mem (fun {a b} ha hb hab => ⟨hab, ?_⟩) h1
  rw [h2 a ha, h2 b hb]; exact Int.le_refl _
theorem order_pair {l : List Res} (h : (l.map keyOf).Nodup) : (orderK l).Pairwise fun a b => a ≠ b ∧ b.kind ≤ a.kind := by
  have hk : ∀ n, ∀ x ∈ (tkind l n).map keyOf, x.kind = n := by
    intro n x hx
    obtain ⟨r, hr, rfl⟩ := List.mem_map.1 hx
    simpa [keyOf] using (List.mem_filter.1 hr).2
  have lt : ∀ {a b : Key}, b.kind < a.kind → a ≠ b ∧ b.kind ≤ a.kind := fun {a b} hab => ⟨fun e => by subst e; omega, by omega⟩
  unfold orderK
  simp only [List.map_append]
  refine List.pairwise_append.2 ⟨List.pairwise_append.2 ⟨List.pairwise_append.2 ⟨tkind_nodup h 3, tkind_nodup h 2, fun a ha b hb => lt ?_⟩, tkind_nodup h 1, fun a ha b hb => lt ?_⟩, tkind_nodup h 0, fun a ha b hb => lt ?_⟩
  · rw [hk _ a ha, hk _ b hb]; decide
  · rw [hk _ b hb]
    rcases List.mem_append.1 ha with ha | ha <;> rw [hk _ a ha] <;> decide
  · rw [hk _ b hb]
    rcases List.mem_append.1 ha with ha | ha
    · rcases List.mem_append.1 ha with ha | ha <;> rw [hk _ a ha] <;> decide
    · rw [hk _ a ha]; decide
theorem order_at {l : List Res} (h : Conf l) {i : Nat} (hi : i < (orderK l).length) :
    ∃ r ∈ l, tget l (orderK l)[i] = some r ∧ ¬ (orderK l)[i] ∈ (orderK l).take i ∧ ∀ k ∈ refsR r, ¬ k ∈ (orderK l).drop i := by
  have hp := List.pairwise_iff_getElem.1 (order_pair h.nodup)
  obtain ⟨r, hr, he⟩ := List.mem_map.1 (mem_order (List.getElem_mem hi))
  refine ⟨r, hr, by rw [← he]; exact tget_key h.nodup hr, fun hm => ?_, fun k hk hm => ?_⟩
  · obtain ⟨j, hj, e⟩ := List.getElem_of_mem hm
    have hj' : j < i := by rw [List.length_take] at hj; omega
    rw [List.getElem_take] at e
    exact (hp j i (by omega) hi hj').1 e
  · have h1 := (refs_kind (h.sane r hr) k hk).1
    have h2 : r.kind = (orderK l)[i].kind := by rw [← he]; rfl
    obtain ⟨j, hj, e⟩ := List.getElem_of_mem hm
    rw [List.getElem_drop] at e
    rw [List.length_drop] at hj
    have h3 : (orderK l)[i + j].kind ≤ (orderK l)[i].kind := by
      by_cases h0 : j = 0
      · subst h0; exact Int.le_refl _
      · exact (hp i (i + j) hi (by omega) (by omega)).2
    rw [e] at h3
    omega
end Go.Proofs.YtbmdbkgjgjggiaaGreatDoor.Lg

namespace Go.Proofs.YtbmdbkgjgjggiaaGreatDoor.Lg
set_option maxRecDepth 100000
set_option linter.unusedVariables false
set_option linter.unusedSimpArgs false
open Go
set_option maxRecDepth 30000 in
set_option maxHeartbeats 8000000 in
theorem refsOrder_c (xs : List Res) (hl : Small xs.length) (hs : ∀ r ∈ xs, SmRes r) : CallR Tryz.prog 5 [.slice false (avs xs)] (.val (.bool true)) := by
  by_cases hfa : fewAll xs = true
  rotate_left
  · have hfa : fewAll xs = false := by simpa using hfa
    refine CallR.go1 (T := T) Tryz.call5 Tryz.func5 rfl Tryz.ntmps5 (congrArg Array.toList Tryz.results5) (by decide) fun ts hn h0 => ?_
    (repeat' (first
 | with_reducible refine callX.by awake6_c ?_
 | with_reducible refine callX.by (few4_c _ ?_ ?_) ?_
 | with_reducible refine callX.by (tsane_c _ ?_ ?_) ?_
 | with_reducible refine callX.by (order_refs_c _ ?_) ?_
 | with_reducible refine callX.by a6oc ?_
 | with_reducible refine callX.by (tget_c _ _ _ ?_) ?_
 | with_reducible refine callX.by (refsR_c _ _ _ _ _ _ _ ?_ ?_ ?_) ?_
 | with_reducible refine callX.by awqc ?_
 | with_reducible refine callX.by (has6_c _ _ _ ?_) ?_
 | with_reducible assumption
 | (with_reducible refine NxK.out hK _ ?_; clear hK K)
 | with_reducible refine NxK.out (by assumption) _ ?_
 | with_reducible refine Nx.out (by assumption) ?_
 | with_reducible refine SpecC.seqW fun K hK => ?_
 | with_reducible refine SpecC.regW T fun K hK => ?_
 | with_reducible refine SpecC.drawW (id := 12) T mixed [([44], [47, 48, 49, 50, 51, 52, 53]), ([45], []), ([46], []), ([47], [44, 48, 50, 51, 52, 53]), ([48], [44, 47, 50, 51, 52, 53]), ([49], [44, 50, 51, 52, 53]), ([50], [44, 47, 48, 49, 51]), ([51], [44, 47, 48, 49, 50]), ([52], [44, 47, 48, 49]), ([53], [44, 47, 48, 49])] (by kernel_rfl) fun K hK => ?_
 | with_reducible refine SpecC.drawW (id := 17) T mixed [([62], [63, 65, 66, 67, 68]), ([63], [62, 65, 66, 67, 68]), ([64], [65, 66, 67, 68]), ([65], [62, 63, 64, 66]), ([66], [62, 63, 64, 65]), ([67], [62, 63, 64]), ([68], [62, 63, 64])] (by kernel_rfl) fun K hK => ?_
 | with_reducible refine SpecC.condW fun A B hA hB => ?_
 | with_reducible refine SpecC.block ?_
 | with_reducible refine SpecC.skip ?_
 | with_reducible refine SpecC.label ?_
 | with_reducible refine SpecC.exit ?_
 | with_reducible refine SpecC.goto ?_
 | with_reducible refine SpecC.ret ?_
 | ((with_reducible first | refine condK.split (fun hb => ?_) (fun hb => ?_) | refine gK.split_t (fun hb => ?_) (fun hb => ?_) | refine gK.split_f (fun hb => ?_) (fun hb => ?_)) <;> try simp only [decide_not, ilt_t, ilt_f, ile_t, ile_f, nlt_t, nlt_f, nle_t, nle_f, Bool.not_eq_true', Bool.not_eq_false', Int.ofNat_lt, Int.ofNat_le] at hb)
 | simp only [go_sem, ↓reduceIte, reduceIte, Nat.reduceEqDiff, String.reduceEq, Nat.reduceLT, Nat.reduceLeDiff, Nat.reduceAdd, Nat.reduceMul, Nat.reduceSub, Nat.reduceBEq, reduceCtorEq, *, -hs]
 | with_reducible refine fun (bn : Bool) hbn => ?_))
  have hl2 := few_len hfa
  by_cases hsn : tsane xs = 0
  rotate_left
  · refine CallR.go1 (T := T) Tryz.call5 Tryz.func5 rfl Tryz.ntmps5 (congrArg Array.toList Tryz.results5) (by decide) fun ts hn h0 => ?_
    (repeat' (first
 | with_reducible refine callX.by awake6_c ?_
 | with_reducible refine callX.by (few4_c _ ?_ ?_) ?_
 | with_reducible refine callX.by (tsane_c _ ?_ ?_) ?_
 | with_reducible refine callX.by (order_refs_c _ ?_) ?_
 | with_reducible refine callX.by a6oc ?_
 | with_reducible refine callX.by (tget_c _ _ _ ?_) ?_
 | with_reducible refine callX.by (refsR_c _ _ _ _ _ _ _ ?_ ?_ ?_) ?_
 | with_reducible refine callX.by awqc ?_
 | with_reducible refine callX.by (has6_c _ _ _ ?_) ?_
 | with_reducible assumption
 | (with_reducible refine NxK.out hK _ ?_; clear hK K)
 | with_reducible refine NxK.out (by assumption) _ ?_
 | with_reducible refine Nx.out (by assumption) ?_
 | with_reducible refine SpecC.seqW fun K hK => ?_
 | with_reducible refine SpecC.regW T fun K hK => ?_
 | with_reducible refine SpecC.drawW (id := 12) T mixed [([44], [47, 48, 49, 50, 51, 52, 53]), ([45], []), ([46], []), ([47], [44, 48, 50, 51, 52, 53]), ([48], [44, 47, 50, 51, 52, 53]), ([49], [44, 50, 51, 52, 53]), ([50], [44, 47, 48, 49, 51]), ([51], [44, 47, 48, 49, 50]), ([52], [44, 47, 48, 49]), ([53], [44, 47, 48, 49])] (by kernel_rfl) fun K hK => ?_
 | with_reducible refine SpecC.drawW (id := 17) T mixed [([62], [63, 65, 66, 67, 68]), ([63], [62, 65, 66, 67, 68]), ([64], [65, 66, 67, 68]), ([65], [62, 63, 64, 66]), ([66], [62, 63, 64, 65]), ([67], [62, 63, 64]), ([68], [62, 63, 64])] (by kernel_rfl) fun K hK => ?_
 | with_reducible refine SpecC.condW fun A B hA hB => ?_
 | with_reducible refine SpecC.block ?_
 | with_reducible refine SpecC.skip ?_
 | with_reducible refine SpecC.label ?_
 | with_reducible refine SpecC.exit ?_
 | with_reducible refine SpecC.goto ?_
 | with_reducible refine SpecC.ret ?_
 | ((with_reducible first | refine condK.split (fun hb => ?_) (fun hb => ?_) | refine gK.split_t (fun hb => ?_) (fun hb => ?_) | refine gK.split_f (fun hb => ?_) (fun hb => ?_)) <;> try simp only [decide_not, ilt_t, ilt_f, ile_t, ile_f, nlt_t, nlt_f, nle_t, nle_f, Bool.not_eq_true', Bool.not_eq_false', Int.ofNat_lt, Int.ofNat_le] at hb)
 | simp only [go_sem, ↓reduceIte, reduceIte, Nat.reduceEqDiff, String.reduceEq, Nat.reduceLT, Nat.reduceLeDiff, Nat.reduceAdd, Nat.reduceMul, Nat.reduceSub, Nat.reduceBEq, reduceCtorEq, *, -hs]
 | with_reducible refine fun (bn : Bool) hbn => ?_))
  have hc := conf_of hsn
  have hat : ∀ (i : Nat) (h : i < (orderK xs).length), _ := fun i h => order_at hc h
  have hol := order_len hc.sane
  have hoc := order_refs_c xs hl2
  generalize orderK xs = O at *
  clear hc
  have hOl : Small O.length := by rw [hol]; exact hl
  have hOi : (O.length : Int) = (xs.length : Int) := by omega
  refine CallR.go1 (T := T) Tryz.call5 Tryz.func5 rfl Tryz.ntmps5 (congrArg Array.toList Tryz.results5) (by decide) fun ts hn h0 => ?_
  (repeat' (first
 | with_reducible refine callX.by (hoc) ?_
 | with_reducible refine callX.by awake6_c ?_
 | with_reducible refine callX.by (few4_c _ ?_ ?_) ?_
 | with_reducible refine callX.by (tsane_c _ ?_ ?_) ?_
 | with_reducible refine callX.by (order_refs_c _ ?_) ?_
 | with_reducible refine callX.by a6oc ?_
 | with_reducible refine callX.by (tget_c _ _ _ ?_) ?_
 | with_reducible refine callX.by (refsR_c _ _ _ _ _ _ _ ?_ ?_ ?_) ?_
 | with_reducible refine callX.by awqc ?_
 | with_reducible refine callX.by (has6_c _ _ _ ?_) ?_
 | with_reducible assumption
 | (with_reducible refine NxK.out hK _ ?_; clear hK K)
 | with_reducible refine NxK.out (by assumption) _ ?_
 | with_reducible refine Nx.out (by assumption) ?_
 | with_reducible refine SpecC.seqW fun K hK => ?_
 | with_reducible refine SpecC.regW T fun K hK => ?_
 | with_reducible refine SpecC.drawW (id := 12) T mixed [([44], [47, 48, 49, 50, 51, 52, 53]), ([45], []), ([46], []), ([47], [44, 48, 50, 51, 52, 53]), ([48], [44, 47, 50, 51, 52, 53]), ([49], [44, 50, 51, 52, 53]), ([50], [44, 47, 48, 49, 51]), ([51], [44, 47, 48, 49, 50]), ([52], [44, 47, 48, 49]), ([53], [44, 47, 48, 49])] (by kernel_rfl) fun K hK => ?_
 | with_reducible refine SpecC.drawW (id := 17) T mixed [([62], [63, 65, 66, 67, 68]), ([63], [62, 65, 66, 67, 68]), ([64], [65, 66, 67, 68]), ([65], [62, 63, 64, 66]), ([66], [62, 63, 64, 65]), ([67], [62, 63, 64]), ([68], [62, 63, 64])] (by kernel_rfl) fun K hK => ?_
 | with_reducible refine SpecC.condW fun A B hA hB => ?_
 | with_reducible refine SpecC.block ?_
 | with_reducible refine SpecC.skip ?_
 | with_reducible refine SpecC.label ?_
 | with_reducible refine SpecC.exit ?_
 | with_reducible refine SpecC.goto ?_
 | with_reducible refine SpecC.ret ?_
 | ((with_reducible first | refine condK.split (fun hb => ?_) (fun hb => ?_) | refine gK.split_t (fun hb => ?_) (fun hb => ?_) | refine gK.split_f (fun hb => ?_) (fun hb => ?_)) <;> try simp only [decide_not, ilt_t, ilt_f, ile_t, ile_f, nlt_t, nlt_f, nle_t, nle_f, Bool.not_eq_true', Bool.not_eq_false', Int.ofNat_lt, Int.ofNat_le] at hb)
 | simp only [go_sem, ↓reduceIte, reduceIte, Nat.reduceEqDiff, String.reduceEq, Nat.reduceLT, Nat.reduceLeDiff, Nat.reduceAdd, Nat.reduceMul, Nat.reduceSub, Nat.reduceBEq, reduceCtorEq, *, -hs, -hat, -hoc, -hol]
 | with_reducible refine fun (bn : Bool) hbn => ?_))
  clear hOi hoc hol
  refine SpecC.ent (Ent.frz 4 (d := 21) (g := ts.gen 21 + 1) (len := O.length) (sz := 2) (xs := avs O) (by simp only [go_sem, ↓reduceIte, reduceIte, Nat.reduceEqDiff, String.reduceEq, Nat.reduceLT, Nat.reduceLeDiff, Nat.reduceAdd, Nat.reduceMul, Nat.reduceSub, Nat.reduceBEq, reduceCtorEq, *, -hs, -hat]; done) (by simp only [go_sem, ↓reduceIte, reduceIte, Nat.reduceEqDiff, String.reduceEq, Nat.reduceLT, Nat.reduceLeDiff, Nat.reduceAdd, Nat.reduceMul, Nat.reduceSub, Nat.reduceBEq, reduceCtorEq, *, -hs, -hat]; done) (by simp only [go_sem, ↓reduceIte, reduceIte, Nat.reduceEqDiff, String.reduceEq, Nat.reduceLT, Nat.reduceLeDiff, Nat.reduceAdd, Nat.reduceMul, Nat.reduceSub, Nat.reduceBEq, reduceCtorEq, *, -hs, -hat]; done) (by simp only [go_sem, ↓reduceIte, reduceIte, Nat.reduceEqDiff, String.reduceEq, Nat.reduceLT, Nat.reduceLeDiff, Nat.reduceAdd, Nat.reduceMul, Nat.reduceSub, Nat.reduceBEq, reduceCtorEq, *, -hs, -hat]; done)) ?_
  refine SpecC.loopF [0, 3, 4] (fun m ts' => ∃ (i : Nat), m = O.length - i ∧ i ≤ O.length ∧ ts'.tmp 5 = .int .i64 i) O.length ?_ ?_
  · refine ⟨0, rfl, Nat.zero_le _, ?_⟩
    simp only [go_sem, ↓reduceIte, reduceIte, Nat.reduceEqDiff, String.reduceEq, Nat.reduceLT, Nat.reduceLeDiff, Nat.reduceAdd, Nat.reduceMul, Nat.reduceSub, Nat.reduceBEq, reduceCtorEq, *, -hs, -hat]
  · rintro m A hM ts' hk ⟨i, hm, f1, s1⟩
    simp only [go_sem, ↓reduceIte, reduceIte, Nat.reduceEqDiff, String.reduceEq, Nat.reduceLT, Nat.reduceLeDiff, Nat.reduceAdd, Nat.reduceMul, Nat.reduceSub, Nat.reduceBEq, reduceCtorEq, *] at hk
    by_cases hlt : i < O.length
    · obtain ⟨r, hr, hg1, hg2, hg3⟩ := hat i hlt
      obtain ⟨_, _, hx1, hx2, hx3⟩ := hs _ hr
      have hrl := refs_len r
      have hrs : Small (refsR r).length := by unfold Small; omega
      have hrc := refsR_c r.kind r.name r.ver r.port r.to' r.rules' r.hosts hx1 hx3 hx2
      have htl : Small (O.take i).length := by rw [List.length_take]; unfold Small at *; omega
      have hdl : Small (O.drop i).length := by rw [List.length_drop]; unfold Small at *; omega
      have hle : i ≤ O.length := by omega
      generalize refsR r = R at *
      (repeat' (first
 | with_reducible refine callX.by (hrc) ?_
 | with_reducible refine callX.by awake6_c ?_
 | with_reducible refine callX.by (few4_c _ ?_ ?_) ?_
 | with_reducible refine callX.by (tsane_c _ ?_ ?_) ?_
 | with_reducible refine callX.by (order_refs_c _ ?_) ?_
 | with_reducible refine callX.by a6oc ?_
 | with_reducible refine callX.by (tget_c _ _ _ ?_) ?_
 | with_reducible refine callX.by (refsR_c _ _ _ _ _ _ _ ?_ ?_ ?_) ?_
 | with_reducible refine callX.by awqc ?_
 | with_reducible refine callX.by (has6_c _ _ _ ?_) ?_
 | with_reducible assumption
 | (with_reducible refine NxK.out hK _ ?_; clear hK K)
 | with_reducible refine NxK.out (by assumption) _ ?_
 | with_reducible refine Nx.out (by assumption) ?_
 | with_reducible refine SpecC.seqW fun K hK => ?_
 | with_reducible refine SpecC.regW T fun K hK => ?_
 | with_reducible refine SpecC.drawW (id := 12) T mixed [([44], [47, 48, 49, 50, 51, 52, 53]), ([45], []), ([46], []), ([47], [44, 48, 50, 51, 52, 53]), ([48], [44, 47, 50, 51, 52, 53]), ([49], [44, 50, 51, 52, 53]), ([50], [44, 47, 48, 49, 51]), ([51], [44, 47, 48, 49, 50]), ([52], [44, 47, 48, 49]), ([53], [44, 47, 48, 49])] (by kernel_rfl) fun K hK => ?_
 | with_reducible refine SpecC.drawW (id := 17) T mixed [([62], [63, 65, 66, 67, 68]), ([63], [62, 65, 66, 67, 68]), ([64], [65, 66, 67, 68]), ([65], [62, 63, 64, 66]), ([66], [62, 63, 64, 65]), ([67], [62, 63, 64]), ([68], [62, 63, 64])] (by kernel_rfl) fun K hK => ?_
 | with_reducible refine SpecC.condW fun A B hA hB => ?_
 | with_reducible refine SpecC.block ?_
 | with_reducible refine SpecC.skip ?_
 | with_reducible refine SpecC.label ?_
 | with_reducible refine SpecC.exit ?_
 | with_reducible refine SpecC.goto ?_
 | with_reducible refine SpecC.ret ?_
 | ((with_reducible first | refine condK.split (fun hb => ?_) (fun hb => ?_) | refine gK.split_t (fun hb => ?_) (fun hb => ?_) | refine gK.split_f (fun hb => ?_) (fun hb => ?_)) <;> try simp only [decide_not, ilt_t, ilt_f, ile_t, ile_f, nlt_t, nlt_f, nle_t, nle_f, Bool.not_eq_true', Bool.not_eq_false', Int.ofNat_lt, Int.ofNat_le] at hb)
 | simp only [go_sem, ↓reduceIte, reduceIte, Nat.reduceEqDiff, String.reduceEq, Nat.reduceLT, Nat.reduceLeDiff, Nat.reduceAdd, Nat.reduceMul, Nat.reduceSub, Nat.reduceBEq, reduceCtorEq, *, -hs, -hat, -hg3, -hrl, -hrc, Option.getD_some, Option.isSome_some, Int.toNat_zero, List.drop_zero, Int.le_refl]
 | with_reducible refine fun (bn : Bool) hbn => ?_))
      refine SpecC.ent (Ent.frz 8 (d := 43) (g := ts'.gen 43 + 1) (len := R.length) (sz := 2) (xs := avs R) (by simp only [go_sem, ↓reduceIte, reduceIte, Nat.reduceEqDiff, String.reduceEq, Nat.reduceLT, Nat.reduceLeDiff, Nat.reduceAdd, Nat.reduceMul, Nat.reduceSub, Nat.reduceBEq, reduceCtorEq, *, -hs, -hat, -hg3, -hrl, -hrc]; done) (by simp only [go_sem, ↓reduceIte, reduceIte, Nat.reduceEqDiff, String.reduceEq, Nat.reduceLT, Nat.reduceLeDiff, Nat.reduceAdd, Nat.reduceMul, Nat.reduceSub, Nat.reduceBEq, reduceCtorEq, *, -hs, -hat, -hg3, -hrl, -hrc]; done) (by simp only [go_sem, ↓reduceIte, reduceIte, Nat.reduceEqDiff, String.reduceEq, Nat.reduceLT, Nat.reduceLeDiff, Nat.reduceAdd, Nat.reduceMul, Nat.reduceSub, Nat.reduceBEq, reduceCtorEq, *, -hs, -hat, -hg3, -hrl, -hrc]; done) (by simp only [go_sem, ↓reduceIte, reduceIte, Nat.reduceEqDiff, String.reduceEq, Nat.reduceLT, Nat.reduceLeDiff, Nat.reduceAdd, Nat.reduceMul, Nat.reduceSub, Nat.reduceBEq, reduceCtorEq, *, -hs, -hat, -hg3, -hrl, -hrc]; done)) ?_
      refine SpecC.loopF [0, 3, 4, 5, 8] (fun m ts' => ∃ (j : Nat), m = R.length - j ∧ j ≤ R.length ∧ ts'.tmp 9 = .int .i64 j) R.length ?_ ?_
      · refine ⟨0, rfl, Nat.zero_le _, ?_⟩
        simp only [go_sem, ↓reduceIte, reduceIte, Nat.reduceEqDiff, String.reduceEq, Nat.reduceLT, Nat.reduceLeDiff, Nat.reduceAdd, Nat.reduceMul, Nat.reduceSub, Nat.reduceBEq, reduceCtorEq, *, -hs, -hat, -hg3, -hrl, -hrc]
      · revert hM
        intro hM1
        rintro m A hM ts' hk ⟨j, hm, f1, s1⟩
        simp only [go_sem, ↓reduceIte, reduceIte, Nat.reduceEqDiff, String.reduceEq, Nat.reduceLT, Nat.reduceLeDiff, Nat.reduceAdd, Nat.reduceMul, Nat.reduceSub, Nat.reduceBEq, reduceCtorEq, *] at hk
        by_cases hjt : j < R.length
        · have hg4 := hg3 R[j] (List.getElem_mem hjt)
          (repeat' (first
 | with_reducible refine callX.by awake6_c ?_
 | with_reducible refine callX.by (few4_c _ ?_ ?_) ?_
 | with_reducible refine callX.by (tsane_c _ ?_ ?_) ?_
 | with_reducible refine callX.by (order_refs_c _ ?_) ?_
 | with_reducible refine callX.by a6oc ?_
 | with_reducible refine callX.by (tget_c _ _ _ ?_) ?_
 | with_reducible refine callX.by (refsR_c _ _ _ _ _ _ _ ?_ ?_ ?_) ?_
 | with_reducible refine callX.by awqc ?_
 | with_reducible refine callX.by (has6_c _ _ _ ?_) ?_
 | with_reducible assumption
 | (with_reducible refine NxK.out hK _ ?_; clear hK K)
 | with_reducible refine NxK.out (by assumption) _ ?_
 | with_reducible refine Nx.out (by assumption) ?_
 | with_reducible refine SpecC.seqW fun K hK => ?_
 | with_reducible refine SpecC.regW T fun K hK => ?_
 | with_reducible refine SpecC.drawW (id := 12) T mixed [([44], [47, 48, 49, 50, 51, 52, 53]), ([45], []), ([46], []), ([47], [44, 48, 50, 51, 52, 53]), ([48], [44, 47, 50, 51, 52, 53]), ([49], [44, 50, 51, 52, 53]), ([50], [44, 47, 48, 49, 51]), ([51], [44, 47, 48, 49, 50]), ([52], [44, 47, 48, 49]), ([53], [44, 47, 48, 49])] (by kernel_rfl) fun K hK => ?_
 | with_reducible refine SpecC.drawW (id := 17) T mixed [([62], [63, 65, 66, 67, 68]), ([63], [62, 65, 66, 67, 68]), ([64], [65, 66, 67, 68]), ([65], [62, 63, 64, 66]), ([66], [62, 63, 64, 65]), ([67], [62, 63, 64]), ([68], [62, 63, 64])] (by kernel_rfl) fun K hK => ?_
 | with_reducible refine SpecC.condW fun A B hA hB => ?_
 | with_reducible refine SpecC.block ?_
 | with_reducible refine SpecC.skip ?_
 | with_reducible refine SpecC.label ?_
 | with_reducible refine SpecC.exit ?_
 | with_reducible refine SpecC.goto ?_
 | with_reducible refine SpecC.ret ?_
 | ((with_reducible first | refine condK.split (fun hb => ?_) (fun hb => ?_) | refine gK.split_t (fun hb => ?_) (fun hb => ?_) | refine gK.split_f (fun hb => ?_) (fun hb => ?_)) <;> try simp only [decide_not, ilt_t, ilt_f, ile_t, ile_f, nlt_t, nlt_f, nle_t, nle_f, Bool.not_eq_true', Bool.not_eq_false', Int.ofNat_lt, Int.ofNat_le] at hb)
 | simp only [go_sem, ↓reduceIte, reduceIte, Nat.reduceEqDiff, String.reduceEq, Nat.reduceLT, Nat.reduceLeDiff, Nat.reduceAdd, Nat.reduceMul, Nat.reduceSub, Nat.reduceBEq, reduceCtorEq, *, -hs, -hat, -hg3, -hrl, -hrc]
 | with_reducible refine fun (bn : Bool) hbn => ?_))
          all_goals ((repeat clear hK); (repeat clear hA); (repeat clear hB))
          (refine hM.on (R.length - (j + 1)) (by omega) (by simp only [go_sem, ↓reduceIte, reduceIte, Nat.reduceEqDiff, String.reduceEq, Nat.reduceLT, Nat.reduceLeDiff, Nat.reduceAdd, Nat.reduceMul, Nat.reduceSub, Nat.reduceBEq, reduceCtorEq, *, w64_nat hjt hrs, -hs, -hat, -hg3, -hrl, -hrc]) ⟨j + 1, rfl, by omega, ?_⟩; simp only [go_sem, ↓reduceIte, reduceIte, Nat.reduceEqDiff, String.reduceEq, Nat.reduceLT, Nat.reduceLeDiff, Nat.reduceAdd, Nat.reduceMul, Nat.reduceSub, Nat.reduceBEq, reduceCtorEq, *, w64_nat hjt hrs, -hs, -hat, -hg3, -hrl, -hrc]; done)
        · (repeat' (first
 | with_reducible refine callX.by awake6_c ?_
 | with_reducible refine callX.by (few4_c _ ?_ ?_) ?_
 | with_reducible refine callX.by (tsane_c _ ?_ ?_) ?_
 | with_reducible refine callX.by (order_refs_c _ ?_) ?_
 | with_reducible refine callX.by a6oc ?_
 | with_reducible refine callX.by (tget_c _ _ _ ?_) ?_
 | with_reducible refine callX.by (refsR_c _ _ _ _ _ _ _ ?_ ?_ ?_) ?_
 | with_reducible refine callX.by awqc ?_
 | with_reducible refine callX.by (has6_c _ _ _ ?_) ?_
 | with_reducible assumption
 | (with_reducible refine NxK.out hK _ ?_; clear hK K)
 | with_reducible refine NxK.out (by assumption) _ ?_
 | with_reducible refine Nx.out (by assumption) ?_
 | with_reducible refine SpecC.seqW fun K hK => ?_
 | with_reducible refine SpecC.regW T fun K hK => ?_
 | with_reducible refine SpecC.drawW (id := 12) T mixed [([44], [47, 48, 49, 50, 51, 52, 53]), ([45], []), ([46], []), ([47], [44, 48, 50, 51, 52, 53]), ([48], [44, 47, 50, 51, 52, 53]), ([49], [44, 50, 51, 52, 53]), ([50], [44, 47, 48, 49, 51]), ([51], [44, 47, 48, 49, 50]), ([52], [44, 47, 48, 49]), ([53], [44, 47, 48, 49])] (by kernel_rfl) fun K hK => ?_
 | with_reducible refine SpecC.drawW (id := 17) T mixed [([62], [63, 65, 66, 67, 68]), ([63], [62, 65, 66, 67, 68]), ([64], [65, 66, 67, 68]), ([65], [62, 63, 64, 66]), ([66], [62, 63, 64, 65]), ([67], [62, 63, 64]), ([68], [62, 63, 64])] (by kernel_rfl) fun K hK => ?_
 | with_reducible refine SpecC.condW fun A B hA hB => ?_
 | with_reducible refine SpecC.block ?_
 | with_reducible refine SpecC.skip ?_
 | with_reducible refine SpecC.label ?_
 | with_reducible refine SpecC.exit ?_
 | with_reducible refine SpecC.goto ?_
 | with_reducible refine SpecC.ret ?_
 | ((with_reducible first | refine condK.split (fun hb => ?_) (fun hb => ?_) | refine gK.split_t (fun hb => ?_) (fun hb => ?_) | refine gK.split_f (fun hb => ?_) (fun hb => ?_)) <;> try simp only [decide_not, ilt_t, ilt_f, ile_t, ile_f, nlt_t, nlt_f, nle_t, nle_f, Bool.not_eq_true', Bool.not_eq_false', Int.ofNat_lt, Int.ofNat_le] at hb)
 | simp only [go_sem, ↓reduceIte, reduceIte, Nat.reduceEqDiff, String.reduceEq, Nat.reduceLT, Nat.reduceLeDiff, Nat.reduceAdd, Nat.reduceMul, Nat.reduceSub, Nat.reduceBEq, reduceCtorEq, *, -hs, -hat, -hg3, -hrl, -hrc]
 | with_reducible refine fun (bn : Bool) hbn => ?_))
          all_goals ((repeat clear hK); (repeat clear hA); (repeat clear hB))
          all_goals (clear hM; revert hM1; intro hM)
          (refine hM.on (O.length - (i + 1)) (by omega) (by simp only [go_sem, ↓reduceIte, reduceIte, Nat.reduceEqDiff, String.reduceEq, Nat.reduceLT, Nat.reduceLeDiff, Nat.reduceAdd, Nat.reduceMul, Nat.reduceSub, Nat.reduceBEq, reduceCtorEq, *, w64_nat hlt hOl, -hs, -hat, -hg3, -hrl, -hrc]) ⟨i + 1, rfl, by omega, ?_⟩; simp only [go_sem, ↓reduceIte, reduceIte, Nat.reduceEqDiff, String.reduceEq, Nat.reduceLT, Nat.reduceLeDiff, Nat.reduceAdd, Nat.reduceMul, Nat.reduceSub, Nat.reduceBEq, reduceCtorEq, *, w64_nat hlt hOl, -hs, -hat, -hg3, -hrl, -hrc]; done)
    · (repeat' (first
 | with_reducible refine callX.by awake6_c ?_
 | with_reducible refine callX.by (few4_c _ ?_ ?_) ?_
 | with_reducible refine callX.by (tsane_c _ ?_ ?_) ?_
 | with_reducible refine callX.by (order_refs_c _ ?_) ?_
 | with_reducible refine callX.by a6oc ?_
 | with_reducible refine callX.by (tget_c _ _ _ ?_) ?_
 | with_reducible refine callX.by (refsR_c _ _ _ _ _ _ _ ?_ ?_ ?_) ?_
 | with_reducible refine callX.by awqc ?_
 | with_reducible refine callX.by (has6_c _ _ _ ?_) ?_
 | with_reducible assumption
 | (with_reducible refine NxK.out hK _ ?_; clear hK K)
 | with_reducible refine NxK.out (by assumption) _ ?_
 | with_reducible refine Nx.out (by assumption) ?_
 | with_reducible refine SpecC.seqW fun K hK => ?_
 | with_reducible refine SpecC.regW T fun K hK => ?_
 | with_reducible refine SpecC.drawW (id := 12) T mixed [([44], [47, 48, 49, 50, 51, 52, 53]), ([45], []), ([46], []), ([47], [44, 48, 50, 51, 52, 53]), ([48], [44, 47, 50, 51, 52, 53]), ([49], [44, 50, 51, 52, 53]), ([50], [44, 47, 48, 49, 51]), ([51], [44, 47, 48, 49, 50]), ([52], [44, 47, 48, 49]), ([53], [44, 47, 48, 49])] (by kernel_rfl) fun K hK => ?_
 | with_reducible refine SpecC.drawW (id := 17) T mixed [([62], [63, 65, 66, 67, 68]), ([63], [62, 65, 66, 67, 68]), ([64], [65, 66, 67, 68]), ([65], [62, 63, 64, 66]), ([66], [62, 63, 64, 65]), ([67], [62, 63, 64]), ([68], [62, 63, 64])] (by kernel_rfl) fun K hK => ?_
 | with_reducible refine SpecC.condW fun A B hA hB => ?_
 | with_reducible refine SpecC.block ?_
 | with_reducible refine SpecC.skip ?_
 | with_reducible refine SpecC.label ?_
 | with_reducible refine SpecC.exit ?_
 | with_reducible refine SpecC.goto ?_
 | with_reducible refine SpecC.ret ?_
 | ((with_reducible first | refine condK.split (fun hb => ?_) (fun hb => ?_) | refine gK.split_t (fun hb => ?_) (fun hb => ?_) | refine gK.split_f (fun hb => ?_) (fun hb => ?_)) <;> try simp only [decide_not, ilt_t, ilt_f, ile_t, ile_f, nlt_t, nlt_f, nle_t, nle_f, Bool.not_eq_true', Bool.not_eq_false', Int.ofNat_lt, Int.ofNat_le] at hb)
 | simp only [go_sem, ↓reduceIte, reduceIte, Nat.reduceEqDiff, String.reduceEq, Nat.reduceLT, Nat.reduceLeDiff, Nat.reduceAdd, Nat.reduceMul, Nat.reduceSub, Nat.reduceBEq, reduceCtorEq, *, -hs, -hat]
 | with_reducible refine fun (bn : Bool) hbn => ?_))
end Go.Proofs.YtbmdbkgjgjggiaaGreatDoor.Lg
