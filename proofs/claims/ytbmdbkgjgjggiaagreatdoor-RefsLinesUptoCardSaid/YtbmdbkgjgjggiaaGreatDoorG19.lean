/- Parts of the proof, one behind the other. -/
import Derived.Test.YtbmdbkgjgjggiaaGreatDoorG18
namespace Go.Proofs.YtbmdbkgjgjggiaaGreatDoor.Lg
set_option maxRecDepth 100000
set_option linter.unusedVariables false
set_option linter.unusedSimpArgs false
open Go
theorem firstBad_zero {l : List Res} (h : firstBad l = 0) : ∀ r ∈ l, saneR r = 0 := by
  induction l with
  | nil => simp
  | cons r l ih =>
    unfold firstBad at h
    split at h
    · rename_i hs
      intro x hx
      rcases List.mem_cons.1 hx with rfl | hx
      · exact hs
      · exact ih h x hx
    · rename_i hs; exact absurd h hs
theorem upR_iff : ∀ l : List Res, upR l = true ↔ Up (l.map keyOf)
  | [] => by simp [upR, Up]
  | [a] => by simp [upR, Up]
  | a :: b :: l => by
    rw [upR_cons2, Bool.and_eq_true, upR_iff (b :: l), decide_eq_true_eq]
    simp only [List.map_cons]
    constructor
    · rintro ⟨h1, h2⟩
      refine List.pairwise_cons.2 ⟨fun x hx => ?_, h2⟩
      rcases List.mem_cons.1 hx with rfl | hx
      · exact h1
      · exact kcmp_trans _ _ _ h1 ((List.pairwise_cons.1 h2).1 x hx)
    · intro h
      obtain ⟨h1, h2⟩ := List.pairwise_cons.1 h
      exact ⟨h1 _ (by simp), h2⟩
structure Conf (l : List Res) : Prop where
  len : l.length ≤ 64
  sane : ∀ r ∈ l, saneR r = 0
  up : Up (l.map keyOf)
theorem conf_of {l : List Res} (h : tsane l = 0) : Conf l := by
  unfold tsane at h
  split at h
  · cases h
  · rename_i h1
    split at h
    · rename_i h2; exact absurd h h2
    · rename_i h2
      split at h
      · cases h
      · rename_i h3
        exact ⟨by omega, firstBad_zero (by simpa using h2), (upR_iff l).1 (by simpa using h3)⟩
theorem up_nodup {l : List Key} (h : Up l) : l.Nodup := by
  unfold Up at h
  refine h.imp fun {a b} hab e => ?_
  subst e
  exact kcmp_irrefl _ hab
theorem Conf.nodup {l : List Res} (h : Conf l) : (l.map keyOf).Nodup := up_nodup h.up
theorem key_inj {l : List Res} (h : (l.map keyOf).Nodup) {a b : Res} (ha : a ∈ l) (hb : b ∈ l) (e : keyOf a = keyOf b) : a = b := by
  induction l with
  | nil => simp at ha
  | cons r l ih =>
    rw [List.map_cons, List.nodup_cons] at h
    rcases List.mem_cons.1 ha with ha' | ha' <;> rcases List.mem_cons.1 hb with hb' | hb'
    · rw [ha', hb']
    · exact absurd (by rw [← ha', e]; exact List.mem_map_of_mem hb') h.1
    · exact absurd (by rw [← hb', ← e]; exact List.mem_map_of_mem ha') h.1
    · exact ih h.2 ha' hb'
theorem names_get {l : List Res} (h : (l.map keyOf).Nodup) {r : Res} (hr : r ∈ l) : mget (namesM l) (keyOf r) = some (refsR r) := by
  obtain ⟨q, h1, h2⟩ := mget_names l (keyOf r) (List.mem_map_of_mem hr)
  have h3 := mget_mem h2
  obtain ⟨p, hp, he⟩ := List.mem_map.1 h3
  have e1 : keyOf p = keyOf r := (Prod.mk.inj he).1
  have := key_inj h hp hr e1
  subst this
  rw [h2, ← (Prod.mk.inj he).2]
inductive Rch (l : List Res) : Key → Prop
  | base (r : Res) : r ∈ l → r.kind = 0 → Rch l (keyOf r)
  | step (r : Res) (x : Key) : r ∈ l → Rch l (keyOf r) → x ∈ refsR r → x ∈ l.map keyOf → Rch l x
theorem Rch.mem {l : List Res} {k : Key} (h : Rch l k) : k ∈ l.map keyOf := by
  cases h with
  | base r hr _ => exact List.mem_map_of_mem hr
  | step r x _ _ _ h => exact h
section dfs
variable (T0 : KS) (N : List (Key × List Key))
def succK (k : Key) : List Key := (mget N k).getD []
inductive Way : Key → Key → Prop
  | refl (k : Key) : isIn T0 k = true → Way k k
  | step (k x y : Key) : isIn T0 k = true → x ∈ succK N k → Way x y → Way k y
abbrev Shut (A B : KS) : Prop := ∀ x, isIn B x = true → isIn A x = false → ∀ y ∈ succK N x, isIn T0 y = true → isIn B y = true
theorem dfs (n : Nat) : ∀ (k : Key) (M : KS), muV T0 M ≤ n →
    (isIn T0 k = true → isIn (visF T0 N n k M) k = true) ∧
    (∀ x, isIn (visF T0 N n k M) x = true → isIn M x = false → Way T0 N k x) ∧ Shut T0 N M (visF T0 N n k M) := by
  induction n with
  | zero =>
    intro k M hmu
    have h0 : ∀ k, isIn T0 k = true → isIn M k = true := fun k hk => by
      cases hm : isIn M k with
      | true => rfl
      | false => have := mu_lt hk hm; omega
    exact ⟨h0 k, fun x hx hx' => absurd (Eq.trans (Eq.symm (show isIn M x = true from hx)) hx') (by decide), fun x hx hx' => absurd (Eq.trans (Eq.symm (show isIn M x = true from hx)) hx') (by decide)⟩
  | succ n ih =>
    intro k M hmu
    by_cases hc : isIn T0 k = true ∧ isIn M k = false
    rotate_left
    · have e : visF T0 N (n + 1) k M = M := by rw [visF, if_neg hc]
      rw [e]
      refine ⟨fun hk => ?_, fun x hx hx' => absurd (Eq.trans (Eq.symm hx) hx') (by decide), fun x hx hx' => absurd (Eq.trans (Eq.symm hx) hx') (by decide)⟩
      cases hm : isIn M k with
      | true => rfl
      | false => exact absurd ⟨hk, hm⟩ hc
    · obtain ⟨hk, hm⟩ := hc
      have e : visF T0 N (n + 1) k M = (succK N k).foldl (fun M x => visF T0 N n x M) (mput M k true) := by rw [visF, if_pos ⟨hk, hm⟩]; rfl
      have hmu1 : muV T0 (mput M k true) ≤ n := by have := mu_lt hk hm; omega
      have fold : ∀ (v : List Key) (M1 : KS), muV T0 M1 ≤ n →
          (∀ x, isIn M1 x = true → isIn (v.foldl (fun M x => visF T0 N n x M) M1) x = true) ∧
          (∀ y ∈ v, isIn T0 y = true → isIn (v.foldl (fun M x => visF T0 N n x M) M1) y = true) ∧
          (∀ x, isIn (v.foldl (fun M x => visF T0 N n x M) M1) x = true → isIn M1 x = false → ∃ y ∈ v, Way T0 N y x) ∧
          Shut T0 N M1 (v.foldl (fun M x => visF T0 N n x M) M1) := by
        intro v
        induction v with
        | nil => exact fun M1 _ => ⟨fun x h => h, by simp, fun x h h' => absurd (Eq.trans (Eq.symm (show isIn M1 x = true from h)) h') (by decide), fun x h h' => absurd (Eq.trans (Eq.symm (show isIn M1 x = true from h)) h') (by decide)⟩
        | cons y v ihv =>
          intro M1 h1
          rw [List.foldl_cons]
          obtain ⟨a1, a2, a3⟩ := ih y M1 h1
          have hg : ∀ x, isIn M1 x = true → isIn (visF T0 N n y M1) x = true := fun x hx => visF_grow T0 N n y M1 x hx
          obtain ⟨b1, b2, b3, b4⟩ := ihv (visF T0 N n y M1) (Nat.le_trans (mu_le hg) h1)
          refine ⟨fun x hx => b1 x (hg x hx), fun z hz hzT => ?_, fun x hx hx' => ?_, fun x hx hx' z hz hzT => ?_⟩
          · rcases List.mem_cons.1 hz with rfl | hz
            · exact b1 _ (a1 hzT)
            · exact b2 z hz hzT
          · cases hv : isIn (visF T0 N n y M1) x with
            | true => exact ⟨y, by simp, a2 x hv hx'⟩
            | false => obtain ⟨z, hz, hw⟩ := b3 x hx hv; exact ⟨z, by simp [hz], hw⟩
          · cases hv : isIn (visF T0 N n y M1) x with
            | true => exact b1 _ (a3 x hv hx' z hz hzT)
            | false => exact b4 x hx hv z hz hzT
      obtain ⟨b1, b2, b3, b4⟩ := fold (succK N k) (mput M k true) hmu1
      rw [e]
      refine ⟨fun _ => b1 k (by rw [isIn_put]; simp), fun x hx hx' => ?_, fun x hx hx' y hy hyT => ?_⟩
      · cases hp : isIn (mput M k true) x with
        | true =>
          rw [isIn_put, hx'] at hp
          have : x = k := by simpa using hp
          subst this
          exact .refl _ hk
        | false =>
          obtain ⟨y, hy, hw⟩ := b3 x hx hp
          exact .step k y x hk hy hw
      · cases hp : isIn (mput M k true) x with
        | true =>
          rw [isIn_put, hx'] at hp
          have : x = k := by simpa using hp
          subst this
          exact b2 y hy hyT
        | false => exact b4 x hx hp y hy hyT
theorem reachF_spec (n : Nat) (hn : ∀ M, muV T0 M ≤ n) : ∀ (l : List Res) (M : KS), Shut T0 N [] M →
    Shut T0 N [] (reachF T0 N n l M) ∧ (∀ x, isIn M x = true → isIn (reachF T0 N n l M) x = true) ∧ (∀ r ∈ l, r.kind = 0 → isIn T0 (keyOf r) = true → isIn (reachF T0 N n l M) (keyOf r) = true) ∧
    ∀ x, isIn (reachF T0 N n l M) x = true → isIn M x = true ∨ ∃ r ∈ l, r.kind = 0 ∧ Way T0 N (keyOf r) x
  | [], M, h => ⟨h, fun x hx => hx, by simp, fun x hx => .inl hx⟩
  | r :: l, M, h => by
    have e : reachF T0 N n (r :: l) M = reachF T0 N n l (if r.kind = 0 then visF T0 N n (keyOf r) M else M) := rfl
    rw [e]
    by_cases hk : r.kind = 0
    · rw [if_pos hk]
      obtain ⟨a1, a2, a3⟩ := dfs T0 N n (keyOf r) M (hn M)
      have hg : ∀ x, isIn M x = true → isIn (visF T0 N n (keyOf r) M) x = true := fun x hx => visF_grow T0 N n _ M x hx
      have hs : Shut T0 N [] (visF T0 N n (keyOf r) M) := fun x hx _ y hy hyT => by
        cases hm : isIn M x with
        | true => exact hg _ (h x hm rfl y hy hyT)
        | false => exact a3 x hx hm y hy hyT
      obtain ⟨b1, b2, b3, b4⟩ := reachF_spec n hn l _ hs
      refine ⟨b1, fun x hx => b2 x (hg x hx), fun q hq hq0 hqT => ?_, fun x hx => ?_⟩
      · rcases List.mem_cons.1 hq with rfl | hq
        · exact b2 _ (a1 hqT)
        · exact b3 q hq hq0 hqT
      · rcases b4 x hx with h1 | ⟨q, hq, h1, h2⟩
        · cases hm : isIn M x with
          | true => exact .inl rfl
          | false => exact .inr ⟨r, by simp, hk, a2 x h1 hm⟩
        · exact .inr ⟨q, by simp [hq], h1, h2⟩
    · rw [if_neg hk]
      obtain ⟨b1, b2, b3, b4⟩ := reachF_spec n hn l M h
      refine ⟨b1, b2, fun q hq hq0 hqT => ?_, fun x hx => ?_⟩
      · rcases List.mem_cons.1 hq with rfl | hq
        · exact absurd hq0 hk
        · exact b3 q hq hq0 hqT
      · rcases b4 x hx with h1 | ⟨q, hq, h1, h2⟩
        · exact .inl h1
        · exact .inr ⟨q, by simp [hq], h1, h2⟩
end dfs
theorem isIn_of (l : List Res) (k : Key) : isIn (ofR l []) k = decide (k ∈ l.map keyOf) := by rw [mem_ofR]; simp [isIn]
theorem reached_iff {l : List Res} (h : (l.map keyOf).Nodup) (k : Key) : isIn (reachedM l) k = true ↔ Rch l k := by
  have hT : ∀ k, isIn (ofR l []) k = true ↔ k ∈ l.map keyOf := fun k => by rw [isIn_of]; simp
  obtain ⟨b1, _, b3, b4⟩ := reachF_spec (ofR l []) (namesM l) (ofR l []).length (fun M => List.length_filter_le _ _) l [] (fun x hx => by simp [isIn] at hx)
  have hsucc : ∀ r ∈ l, succK (namesM l) (keyOf r) = refsR r := fun r hr => by unfold succK; rw [names_get h hr]; rfl
  constructor
  · intro hk
    rcases b4 k hk with h1 | ⟨r, hr, h0, hw⟩
    · simp [isIn] at h1
    · have : ∀ {a b : Key}, Way (ofR l []) (namesM l) a b → Rch l a → Rch l b := by
        intro a b hw
        induction hw with
        | refl => exact fun h => h
        | step k x y hk hx hw ih =>
          intro ha
          refine ih ?_
          obtain ⟨q, hq, rfl⟩ := List.mem_map.1 ((hT k).1 hk)
          rw [hsucc q hq] at hx
          refine .step q x hq ha hx ?_
          cases hw with
          | refl _ hx' => exact (hT x).1 hx'
          | step _ _ _ hx' => exact (hT x).1 hx'
      exact this hw (.base r hr h0)
  · intro hk
    induction hk with
    | base r hr h0 => exact b3 r hr h0 ((hT _).2 (List.mem_map_of_mem hr))
    | step r x hr _ hx hx' ih => exact b1 _ ih rfl x (by rw [hsucc r hr]; exact hx) ((hT x).2 hx')
theorem mem_reachR {l : List Res} (h : (l.map keyOf).Nodup) (r : Res) : r ∈ reachR l ↔ r ∈ l ∧ Rch l (keyOf r) := by
  unfold reachR
  rw [List.mem_filter, reached_iff h]
theorem nodup_sub {l m : List Res} (h : (l.map keyOf).Nodup) (hs : m.Sublist l) : (m.map keyOf).Nodup := h.sublist (hs.map _)
theorem reachR_sub (l : List Res) : (reachR l).Sublist l := List.filter_sublist
theorem rch_key {l : List Res} (h : (l.map keyOf).Nodup) {k : Key} (hk : Rch l k) : k ∈ (reachR l).map keyOf := by
  obtain ⟨r, hr, rfl⟩ := List.mem_map.1 hk.mem
  exact List.mem_map_of_mem ((mem_reachR h r).2 ⟨hr, hk⟩)
theorem rch_reach {l : List Res} (h : (l.map keyOf).Nodup) {k : Key} (hk : Rch l k) : Rch (reachR l) k := by
  induction hk with
  | base r hr h0 => exact .base r ((mem_reachR h r).2 ⟨hr, .base r hr h0⟩) h0
  | step r x hr hk hx hx' ih => exact .step r x ((mem_reachR h r).2 ⟨hr, hk⟩) ih hx (rch_key h (.step r x hr hk hx hx'))
theorem reach_reach {l : List Res} (h : (l.map keyOf).Nodup) : reachR (reachR l) = reachR l := by
  have h2 := nodup_sub h (reachR_sub l)
  show (reachR l).filter (fun r => isIn (reachedM (reachR l)) (keyOf r)) = reachR l
  refine List.filter_eq_self.2 fun r hr => ?_
  rw [reached_iff h2]
  exact rch_reach h ((mem_reachR h r).1 hr).2
theorem reach_named {l : List Res} (h : (l.map keyOf).Nodup) {r : Res} (hr : r ∈ reachR l) (hk : r.kind ≠ 0) : 0 < (referrers (reachR l) (keyOf r)).length := by
  obtain ⟨h1, h2⟩ := (mem_reachR h r).1 hr
  generalize hkk : keyOf r = k at h2
  cases h2 with
  | base q hq h0 => exact absurd (by have := congrArg Key.kind hkk; simpa [keyOf, h0] using this) hk
  | step q x hq hqr hx _ =>
    unfold referrers
    rw [List.length_map]
    refine List.length_pos_of_mem (List.mem_filter.2 ⟨(mem_reachR h q).2 ⟨hq, hqr⟩, List.any_eq_true.2 ⟨_, hx, by simp⟩⟩)
end Go.Proofs.YtbmdbkgjgjggiaaGreatDoor.Lg

namespace Go.Proofs.YtbmdbkgjgjggiaaGreatDoor.Lg
set_option maxRecDepth 100000
set_option linter.unusedVariables false
set_option linter.unusedSimpArgs false
open Go
def a6 : Res := ⟨0, [108], 0, 0, [114], [], []⟩
theorem a6s : saneR a6 = 0 := by decide
theorem a6r : refsR a6 = [⟨1, [114]⟩] := by
  unfold refsR
  rw [if_pos a6s]
  have e : baseR a6 ++ keysR a6.rules' = [⟨1, [114]⟩] := by decide
  rw [e]
  have e2 : ksort [⟨1, [114]⟩] = [(⟨1, [114]⟩ : Key)] := by simp [ksort]
  rw [e2]; rfl
theorem a6sm : ∀ r ∈ [a6], SmRes r := by
  intro r hr
  rw [List.mem_singleton] at hr
  subst hr
  exact ⟨by simp [Small, a6], by simp [Small, a6], by simp [Small, a6], by simp [a6], by simp [Small, a6]⟩
theorem a6nd : ([a6].map keyOf).Nodup := by simp
theorem a6m : missK [a6] = [⟨1, [114]⟩] := by
  have e : missR (ofR [a6] []) [a6] = [⟨1, [114]⟩] := by
    rw [missR_cons, a6r]
    have : keepK (ofR [a6] []) [⟨1, [114]⟩] = [⟨1, [114]⟩] := by decide
    rw [this]; rfl
  unfold missK
  rw [e]
  have e2 : ksort [⟨1, [114]⟩] = [(⟨1, [114]⟩ : Key)] := by simp [ksort]
  rw [e2]; rfl
theorem a6re : reachR [a6] = [a6] := by
  unfold reachR
  rw [List.filter_eq_self]
  intro r hr
  rw [reached_iff a6nd]
  rw [List.mem_singleton] at hr
  subst hr
  exact .base a6 (by simp) rfl
theorem a6se : served [a6] = 6 := by
  unfold served
  rw [a6re, if_pos]
  rw [List.any_cons, lacks, a6r]
  decide
theorem a6o : orderK [a6] = [⟨0, [108]⟩] := by decide
abbrev A6 : AV := .slice false [.agg [.int .i64 0, .str [108], .int .i64 0, .int .i64 0, .str [114], .slice false [], .slice false []]]
theorem a6mc : CallR Tryz.prog 27 [A6] (.own 2 [.agg [.int .i64 1, .str [114]]]) := by
  have h := missing_c [a6] (by decide) a6sm
  rw [a6m] at h; exact h
theorem a6sc : CallR Tryz.prog 34 [A6] (.val (.int .i64 6)) := by
  have h := served_c [a6] (by decide) a6sm a6nd
  rw [a6se] at h; exact h
theorem a6oc : CallR Tryz.prog 36 [A6] (.own 2 [.agg [.int .i64 0, .str [108]]]) := by
  have h := order_refs_c [a6] (by decide)
  rw [a6o] at h; exact h
theorem a6rc : CallR Tryz.prog 32 [A6] (.own 7 [.agg [.int .i64 0, .str [108], .int .i64 0, .int .i64 0, .str [114], .slice false [], .slice false []]]) := by
  have h := reach_c [a6] (by decide) a6sm a6nd
  rw [a6re] at h; exact h
set_option maxRecDepth 30000 in
set_option maxHeartbeats 4000000 in
theorem awake6_c : CallR Tryz.prog 25 [] (.val (.bool true)) := by
  refine CallR.go0 (T := T) Tryz.call25 Tryz.func25 rfl Tryz.ntmps25 (congrArg Array.toList Tryz.results25) fun ts hn => ?_
  (repeat' (first
 | with_reducible refine callX.by (a6mc) ?_
 | with_reducible refine callX.by (a6sc) ?_
 | with_reducible refine callX.by (a6oc) ?_
 | with_reducible refine callX.fz (a6rc) ?_
 | with_reducible refine callX.by (missing_c _ ?_ ?_) ?_
 | with_reducible refine callX.by a6mc ?_
 | with_reducible refine callX.by (served_c _ ?_ ?_ ?_) ?_
 | with_reducible refine callX.by a6sc ?_
 | with_reducible refine callX.by (order_refs_c _ ?_) ?_
 | with_reducible refine callX.by a6oc ?_
 | with_reducible refine callX.by (reach_c _ ?_ ?_ ?_) ?_
 | with_reducible refine callX.by a6rc ?_
 | with_reducible assumption
 | (with_reducible refine NxK.out hK _ ?_; clear hK K)
 | with_reducible refine NxK.out (by assumption) _ ?_
 | with_reducible refine Nx.out (by assumption) ?_
 | with_reducible refine SpecC.seqW fun K hK => ?_
 | with_reducible refine SpecC.regW T fun K hK => ?_
 | with_reducible refine SpecC.condW fun A B hA hB => ?_
 | with_reducible refine SpecC.block ?_
 | with_reducible refine SpecC.skip ?_
 | with_reducible refine SpecC.label ?_
 | with_reducible refine SpecC.exit ?_
 | with_reducible refine SpecC.goto ?_
 | with_reducible refine SpecC.ret ?_
 | ((with_reducible first | refine condK.split (fun hb => ?_) (fun hb => ?_) | refine gK.split_t (fun hb => ?_) (fun hb => ?_) | refine gK.split_f (fun hb => ?_) (fun hb => ?_)) <;> try simp only [decide_not, ilt_t, ilt_f, ile_t, ile_f, nlt_t, nlt_f, nle_t, nle_f, Bool.not_eq_true', Bool.not_eq_false', Int.ofNat_lt, Int.ofNat_le] at hb)
 | simp only [go_sem, ↓reduceIte, reduceIte, Nat.reduceEqDiff, String.reduceEq, Nat.reduceLT, Nat.reduceLeDiff, Nat.reduceAdd, Nat.reduceMul, Nat.reduceSub, Nat.reduceBEq, reduceCtorEq, *, Int.toNat_zero, Int.le_refl, List.getD_cons_zero, z01, Nat.zero_lt_one]
 | with_reducible refine fun (bn : Bool) hbn => ?_))
theorem few_len {l : List Res} (h : fewAll l = true) : l.length ≤ 65536 := by
  simp only [fewAll, Bool.and_eq_true, decide_eq_true_eq] at h
  omega
end Go.Proofs.YtbmdbkgjgjggiaaGreatDoor.Lg

namespace Go.Proofs.YtbmdbkgjgjggiaaGreatDoor.Lg
set_option maxRecDepth 100000
set_option linter.unusedVariables false
set_option linter.unusedSimpArgs false
open Go
theorem tget_is (l : List Res) (k : Key) : (tget l k).isSome = decide (k ∈ l.map keyOf) := by
  unfold tget
  rw [Bool.eq_iff_iff, List.find?_isSome, decide_eq_true_eq, List.mem_map]
  simp
theorem tget_in {l : List Res} {k : Key} {r : Res} (h : tget l k = some r) : r ∈ l ∧ keyOf r = k := by
  unfold tget at h
  exact ⟨List.mem_of_find?_eq_some h, by simpa using List.find?_some h⟩
theorem tget_key {l : List Res} (h : (l.map keyOf).Nodup) {r : Res} (hr : r ∈ l) : tget l (keyOf r) = some r := by
  cases e : tget l (keyOf r) with
  | none =>
    have := tget_is l (keyOf r)
    rw [e, decide_eq_true (List.mem_map_of_mem hr)] at this
    cases this
  | some q =>
    obtain ⟨h1, h2⟩ := tget_in e
    rw [key_inj h h1 hr h2]
theorem get_reach {l : List Res} (h : (l.map keyOf).Nodup) {r : Res} (hr : r ∈ reachR l) {k : Key} (hk : k ∈ refsR r) : tget (reachR l) k = tget l k := by
  obtain ⟨h1, h2⟩ := (mem_reachR h r).1 hr
  cases e : tget l k with
  | none =>
    cases e2 : tget (reachR l) k with
    | none => rfl
    | some q =>
      obtain ⟨a, b⟩ := tget_in e2
      have := tget_is l k
      rw [e, decide_eq_true (by rw [← b]; exact List.mem_map_of_mem ((reachR_sub l).subset a))] at this
      cases this
  | some q =>
    obtain ⟨a, b⟩ := tget_in e
    subst b
    exact tget_key (nodup_sub h (reachR_sub l)) ((mem_reachR h q).2 ⟨a, .step r _ h1 h2 hk (List.mem_map_of_mem a)⟩)
theorem reach_by {l : List Res} (h : Conf l) {k : Key} (hm : k ∈ (reachR l).map keyOf) (hk : k.kind ≠ 0) :
    ∃ y ys, referrers (reachR l) k = y :: ys ∧ y ∈ (reachR l).map keyOf ∧ y.kind = k.kind - 1 := by
  obtain ⟨r, hr, rfl⟩ := List.mem_map.1 hm
  have hp := reach_named h.nodup hr hk
  cases e : referrers (reachR l) (keyOf r) with
  | nil => rw [e] at hp; simp at hp
  | cons y ys =>
    refine ⟨y, ys, rfl, ?_⟩
    have hy : y ∈ referrers (reachR l) (keyOf r) := by rw [e]; simp
    unfold referrers at hy
    obtain ⟨q, hq, rfl⟩ := List.mem_map.1 hy
    obtain ⟨h1, h2⟩ := List.mem_filter.1 hq
    obtain ⟨x, hx, he⟩ := List.any_eq_true.1 h2
    have : keyOf r = x := by simpa using he
    rw [← this] at hx
    refine ⟨List.mem_map_of_mem h1, ?_⟩
    have h3 := (refs_kind (h.sane q ((reachR_sub l).subset h1)) _ hx).1
    rw [h3]; simp [keyOf]
end Go.Proofs.YtbmdbkgjgjggiaaGreatDoor.Lg

namespace Go.Proofs.YtbmdbkgjgjggiaaGreatDoor.Lg
set_option maxRecDepth 100000
set_option linter.unusedVariables false
set_option linter.unusedSimpArgs false
open Go
set_option maxRecDepth 30000 in
set_option maxHeartbeats 8000000 in
theorem refsLines_c (xs : List Res) (hl : Small xs.length) (hs : ∀ r ∈ xs, SmRes r) : CallR Tryz.prog 9 [.slice false (avs xs)] (.val (.bool true)) := by
  by_cases hfa : fewAll xs = true
  rotate_left
  · have hfa : fewAll xs = false := by simpa using hfa
    refine CallR.go1 (T := T) Tryz.call9 Tryz.func9 rfl Tryz.ntmps9 (congrArg Array.toList Tryz.results9) (by decide) fun ts hn h0 => ?_
    (repeat' (first
 | with_reducible refine callX.by awake6_c ?_
 | with_reducible refine callX.by (few4_c _ ?_ ?_) ?_
 | with_reducible refine callX.by (tsane_c _ ?_ ?_) ?_
 | with_reducible refine callX.by (reach_c _ ?_ ?_ ?_) ?_
 | with_reducible refine callX.by a6rc ?_
 | with_reducible refine callX.by (refsR_c _ _ _ _ _ _ _ ?_ ?_ ?_) ?_
 | with_reducible refine callX.by awqc ?_
 | with_reducible refine callX.by (tget_c _ _ _ ?_) ?_
 | with_reducible refine callX.by (sameP_c _ _ _ _ _ _ _ _ _ _ _ _ _ _ ?_ ?_ ?_) ?_
 | with_reducible refine callX.by awqm ?_
 | with_reducible refine callX.by (rkey_c _ _ _ _ _ _ _) ?_
 | with_reducible refine callX.by (referrers_c _ _ _ ?_ ?_) ?_
 | with_reducible refine callX.by (tkeys_c _ ?_) ?_
 | with_reducible refine callX.by (keys3_c _ _ ?_) ?_
 | with_reducible assumption
 | (with_reducible refine NxK.out hK _ ?_; clear hK K)
 | with_reducible refine NxK.out (by assumption) _ ?_
 | with_reducible refine Nx.out (by assumption) ?_
 | with_reducible refine SpecC.seqW fun K hK => ?_
 | with_reducible refine SpecC.regW T fun K hK => ?_
 | with_reducible refine SpecC.drawW (id := 21) T mixed [([91], [94, 95, 96, 97, 98, 99, 100, 101]), ([92], [95, 96, 97, 98, 99, 100, 101]), ([93], []), ([94], [91]), ([95], [91, 92, 98, 99, 100, 101]), ([96], [91, 92, 99, 100, 101]), ([97], [91, 92, 99, 100, 101]), ([98], [91, 92, 95, 99, 100, 101]), ([99], [91, 92, 95, 96, 97, 98]), ([100], [91, 92, 95, 96, 97, 98]), ([101], [91, 92, 95, 96, 97, 98])] (by kernel_rfl) fun K hK => ?_
 | with_reducible refine SpecC.condW fun A B hA hB => ?_
 | with_reducible refine SpecC.block ?_
 | with_reducible refine SpecC.skip ?_
 | with_reducible refine SpecC.label ?_
 | with_reducible refine SpecC.exit ?_
 | with_reducible refine SpecC.goto ?_
 | with_reducible refine SpecC.ret ?_
 | ((with_reducible first | refine condK.split (fun hb => ?_) (fun hb => ?_) | refine gK.split_t (fun hb => ?_) (fun hb => ?_) | refine gK.split_f (fun hb => ?_) (fun hb => ?_)) <;> try simp only [decide_not, ilt_t, ilt_f, ile_t, ile_f, nlt_t, nlt_f, nle_t, nle_f, Bool.not_eq_true', Bool.not_eq_false', Int.ofNat_lt, Int.ofNat_le] at hb)
 | simp only [go_sem, ↓reduceIte, reduceIte, Nat.reduceEqDiff, String.reduceEq, Nat.reduceLT, Nat.reduceLeDiff, Nat.reduceAdd, Nat.reduceMul, Nat.reduceSub, Nat.reduceBEq, reduceCtorEq, *, -hs]
 | with_reducible refine fun (bn : Bool) hbn => ?_))
  have hl2 := few_len hfa
  by_cases hsn : tsane xs = 0
  rotate_left
  · refine CallR.go1 (T := T) Tryz.call9 Tryz.func9 rfl Tryz.ntmps9 (congrArg Array.toList Tryz.results9) (by decide) fun ts hn h0 => ?_
    (repeat' (first
 | with_reducible refine callX.by awake6_c ?_
 | with_reducible refine callX.by (few4_c _ ?_ ?_) ?_
 | with_reducible refine callX.by (tsane_c _ ?_ ?_) ?_
 | with_reducible refine callX.by (reach_c _ ?_ ?_ ?_) ?_
 | with_reducible refine callX.by a6rc ?_
 | with_reducible refine callX.by (refsR_c _ _ _ _ _ _ _ ?_ ?_ ?_) ?_
 | with_reducible refine callX.by awqc ?_
 | with_reducible refine callX.by (tget_c _ _ _ ?_) ?_
 | with_reducible refine callX.by (sameP_c _ _ _ _ _ _ _ _ _ _ _ _ _ _ ?_ ?_ ?_) ?_
 | with_reducible refine callX.by awqm ?_
 | with_reducible refine callX.by (rkey_c _ _ _ _ _ _ _) ?_
 | with_reducible refine callX.by (referrers_c _ _ _ ?_ ?_) ?_
 | with_reducible refine callX.by (tkeys_c _ ?_) ?_
 | with_reducible refine callX.by (keys3_c _ _ ?_) ?_
 | with_reducible assumption
 | (with_reducible refine NxK.out hK _ ?_; clear hK K)
 | with_reducible refine NxK.out (by assumption) _ ?_
 | with_reducible refine Nx.out (by assumption) ?_
 | with_reducible refine SpecC.seqW fun K hK => ?_
 | with_reducible refine SpecC.regW T fun K hK => ?_
 | with_reducible refine SpecC.drawW (id := 21) T mixed [([91], [94, 95, 96, 97, 98, 99, 100, 101]), ([92], [95, 96, 97, 98, 99, 100, 101]), ([93], []), ([94], [91]), ([95], [91, 92, 98, 99, 100, 101]), ([96], [91, 92, 99, 100, 101]), ([97], [91, 92, 99, 100, 101]), ([98], [91, 92, 95, 99, 100, 101]), ([99], [91, 92, 95, 96, 97, 98]), ([100], [91, 92, 95, 96, 97, 98]), ([101], [91, 92, 95, 96, 97, 98])] (by kernel_rfl) fun K hK => ?_
 | with_reducible refine SpecC.condW fun A B hA hB => ?_
 | with_reducible refine SpecC.block ?_
 | with_reducible refine SpecC.skip ?_
 | with_reducible refine SpecC.label ?_
 | with_reducible refine SpecC.exit ?_
 | with_reducible refine SpecC.goto ?_
 | with_reducible refine SpecC.ret ?_
 | ((with_reducible first | refine condK.split (fun hb => ?_) (fun hb => ?_) | refine gK.split_t (fun hb => ?_) (fun hb => ?_) | refine gK.split_f (fun hb => ?_) (fun hb => ?_)) <;> try simp only [decide_not, ilt_t, ilt_f, ile_t, ile_f, nlt_t, nlt_f, nle_t, nle_f, Bool.not_eq_true', Bool.not_eq_false', Int.ofNat_lt, Int.ofNat_le] at hb)
 | simp only [go_sem, ↓reduceIte, reduceIte, Nat.reduceEqDiff, String.reduceEq, Nat.reduceLT, Nat.reduceLeDiff, Nat.reduceAdd, Nat.reduceMul, Nat.reduceSub, Nat.reduceBEq, reduceCtorEq, *, -hs]
 | with_reducible refine fun (bn : Bool) hbn => ?_))
  have hc := conf_of hsn
  have hnd := hc.nodup
  have hby : ∀ k ∈ (reachR xs).map keyOf, k.kind ≠ 0 → _ := fun k hm hk => reach_by hc hm hk
  have hge : ∀ r ∈ reachR xs, ∀ k ∈ refsR r, tget (reachR xs) k = tget xs k := fun r hr k hk => get_reach hnd hr hk
  have hkd : ∀ r ∈ reachR xs, 0 ≤ r.kind ∧ r.kind ≤ 3 := fun r hr => by have := sane_kind (hc.sane r ((reachR_sub xs).subset hr)); omega
  have hr := reach_c xs hl2 hs hnd
  have hsr : ∀ r ∈ reachR xs, SmRes r := fun r hr => hs r ((reachR_sub xs).subset hr)
  have hrl := reachR_len xs
  have hrr := reach_c (reachR xs) (by omega) hsr (nodup_sub hnd (reachR_sub xs))
  rw [reach_reach hnd] at hrr
  generalize reachR xs = R at *
  have hR2 : R.length ≤ 65536 := by omega
  have hRs : Small R.length := small_le hR2
  have htk : List.take R.length (List.map keyOf R) = List.map keyOf R := List.take_of_length_le (by simp)
  have hkl : Small (List.map keyOf R).length := by simpa using hRs
  clear hc hrl hnd
  refine CallR.go1 (T := T) Tryz.call9 Tryz.func9 rfl Tryz.ntmps9 (congrArg Array.toList Tryz.results9) (by decide) fun ts hn h0 => ?_
  (repeat' (first
 | with_reducible refine callX.by (hr) ?_
 | with_reducible refine callX.by awake6_c ?_
 | with_reducible refine callX.by (few4_c _ ?_ ?_) ?_
 | with_reducible refine callX.by (tsane_c _ ?_ ?_) ?_
 | with_reducible refine callX.by (reach_c _ ?_ ?_ ?_) ?_
 | with_reducible refine callX.by a6rc ?_
 | with_reducible refine callX.by (refsR_c _ _ _ _ _ _ _ ?_ ?_ ?_) ?_
 | with_reducible refine callX.by awqc ?_
 | with_reducible refine callX.by (tget_c _ _ _ ?_) ?_
 | with_reducible refine callX.by (sameP_c _ _ _ _ _ _ _ _ _ _ _ _ _ _ ?_ ?_ ?_) ?_
 | with_reducible refine callX.by awqm ?_
 | with_reducible refine callX.by (rkey_c _ _ _ _ _ _ _) ?_
 | with_reducible refine callX.by (referrers_c _ _ _ ?_ ?_) ?_
 | with_reducible refine callX.by (tkeys_c _ ?_) ?_
 | with_reducible refine callX.by (keys3_c _ _ ?_) ?_
 | with_reducible assumption
 | (with_reducible refine NxK.out hK _ ?_; clear hK K)
 | with_reducible refine NxK.out (by assumption) _ ?_
 | with_reducible refine Nx.out (by assumption) ?_
 | with_reducible refine SpecC.seqW fun K hK => ?_
 | with_reducible refine SpecC.regW T fun K hK => ?_
 | with_reducible refine SpecC.drawW (id := 21) T mixed [([91], [94, 95, 96, 97, 98, 99, 100, 101]), ([92], [95, 96, 97, 98, 99, 100, 101]), ([93], []), ([94], [91]), ([95], [91, 92, 98, 99, 100, 101]), ([96], [91, 92, 99, 100, 101]), ([97], [91, 92, 99, 100, 101]), ([98], [91, 92, 95, 99, 100, 101]), ([99], [91, 92, 95, 96, 97, 98]), ([100], [91, 92, 95, 96, 97, 98]), ([101], [91, 92, 95, 96, 97, 98])] (by kernel_rfl) fun K hK => ?_
 | with_reducible refine SpecC.condW fun A B hA hB => ?_
 | with_reducible refine SpecC.block ?_
 | with_reducible refine SpecC.skip ?_
 | with_reducible refine SpecC.label ?_
 | with_reducible refine SpecC.exit ?_
 | with_reducible refine SpecC.goto ?_
 | with_reducible refine SpecC.ret ?_
 | ((with_reducible first | refine condK.split (fun hb => ?_) (fun hb => ?_) | refine gK.split_t (fun hb => ?_) (fun hb => ?_) | refine gK.split_f (fun hb => ?_) (fun hb => ?_)) <;> try simp only [decide_not, ilt_t, ilt_f, ile_t, ile_f, nlt_t, nlt_f, nle_t, nle_f, Bool.not_eq_true', Bool.not_eq_false', Int.ofNat_lt, Int.ofNat_le] at hb)
 | simp only [go_sem, ↓reduceIte, reduceIte, Nat.reduceEqDiff, String.reduceEq, Nat.reduceLT, Nat.reduceLeDiff, Nat.reduceAdd, Nat.reduceMul, Nat.reduceSub, Nat.reduceBEq, reduceCtorEq, *, -hs, -hsr, -hby, -hge, -hkd, -hrr, -hr]
 | with_reducible refine fun (bn : Bool) hbn => ?_))
  clear hr
  refine SpecC.ent (Ent.frz 4 (d := 26) (g := ts.gen 26 + 1) (len := R.length) (sz := 7) (xs := avs R) (by simp only [go_sem, ↓reduceIte, reduceIte, Nat.reduceEqDiff, String.reduceEq, Nat.reduceLT, Nat.reduceLeDiff, Nat.reduceAdd, Nat.reduceMul, Nat.reduceSub, Nat.reduceBEq, reduceCtorEq, *, -hs, -hsr, -hby, -hge, -hkd, -hrr]; done) (by simp only [go_sem, ↓reduceIte, reduceIte, Nat.reduceEqDiff, String.reduceEq, Nat.reduceLT, Nat.reduceLeDiff, Nat.reduceAdd, Nat.reduceMul, Nat.reduceSub, Nat.reduceBEq, reduceCtorEq, *, -hs, -hsr, -hby, -hge, -hkd, -hrr]; done) (by simp only [go_sem, ↓reduceIte, reduceIte, Nat.reduceEqDiff, String.reduceEq, Nat.reduceLT, Nat.reduceLeDiff, Nat.reduceAdd, Nat.reduceMul, Nat.reduceSub, Nat.reduceBEq, reduceCtorEq, *, -hs, -hsr, -hby, -hge, -hkd, -hrr]; done) (by simp only [go_sem, ↓reduceIte, reduceIte, Nat.reduceEqDiff, String.reduceEq, Nat.reduceLT, Nat.reduceLeDiff, Nat.reduceAdd, Nat.reduceMul, Nat.reduceSub, Nat.reduceBEq, reduceCtorEq, *, -hs, -hsr, -hby, -hge, -hkd, -hrr]; done)) ?_
  refine SpecC.loopF [0, 3, 4] (fun m ts' => ∃ (i : Nat), m = R.length - i ∧ i ≤ R.length ∧ ts'.tmp 5 = .int .i64 i) R.length ?_ ?_
  · refine ⟨0, rfl, Nat.zero_le _, ?_⟩
    simp only [go_sem, ↓reduceIte, reduceIte, Nat.reduceEqDiff, String.reduceEq, Nat.reduceLT, Nat.reduceLeDiff, Nat.reduceAdd, Nat.reduceMul, Nat.reduceSub, Nat.reduceBEq, reduceCtorEq, *, -hs, -hsr, -hby, -hge, -hkd, -hrr]
  · rintro m A hM ts' hk ⟨i, hm, f1, s1⟩
    simp only [go_sem, ↓reduceIte, reduceIte, Nat.reduceEqDiff, String.reduceEq, Nat.reduceLT, Nat.reduceLeDiff, Nat.reduceAdd, Nat.reduceMul, Nat.reduceSub, Nat.reduceBEq, reduceCtorEq, *] at hk
    by_cases hlt : i < R.length
    · obtain ⟨_, _, hx1, hx2, hx3⟩ := hsr _ (List.getElem_mem hlt)
      have hrl := refs_len R[i]
      have hrs : Small (refsR R[i]).length := by unfold Small; omega
      have hgi := hge _ (List.getElem_mem hlt)
      have hrc := refsR_c R[i].kind R[i].name R[i].ver R[i].port R[i].to' R[i].rules' R[i].hosts hx1 hx3 hx2
      have hki := hkd _ (List.getElem_mem hlt)
      have hmi : keyOf R[i] ∈ R.map keyOf := List.mem_map_of_mem (List.getElem_mem hlt)
      have hmk : refsR ⟨R[i].kind, R[i].name, R[i].ver, R[i].port, R[i].to', R[i].rules', R[i].hosts⟩ = refsR R[i] := rfl
      rw [hmk] at hrc
      clear hmk hge hkd
      generalize refsR R[i] = K0 at *
      (repeat' (first
 | with_reducible refine callX.by (hrc) ?_
 | with_reducible refine callX.by awake6_c ?_
 | with_reducible refine callX.by (few4_c _ ?_ ?_) ?_
 | with_reducible refine callX.by (tsane_c _ ?_ ?_) ?_
 | with_reducible refine callX.by (reach_c _ ?_ ?_ ?_) ?_
 | with_reducible refine callX.by a6rc ?_
 | with_reducible refine callX.by (refsR_c _ _ _ _ _ _ _ ?_ ?_ ?_) ?_
 | with_reducible refine callX.by awqc ?_
 | with_reducible refine callX.by (tget_c _ _ _ ?_) ?_
 | with_reducible refine callX.by (sameP_c _ _ _ _ _ _ _ _ _ _ _ _ _ _ ?_ ?_ ?_) ?_
 | with_reducible refine callX.by awqm ?_
 | with_reducible refine callX.by (rkey_c _ _ _ _ _ _ _) ?_
 | with_reducible refine callX.by (referrers_c _ _ _ ?_ ?_) ?_
 | with_reducible refine callX.by (tkeys_c _ ?_) ?_
 | with_reducible refine callX.by (keys3_c _ _ ?_) ?_
 | with_reducible assumption
 | (with_reducible refine NxK.out hK _ ?_; clear hK K)
 | with_reducible refine NxK.out (by assumption) _ ?_
 | with_reducible refine Nx.out (by assumption) ?_
 | with_reducible refine SpecC.seqW fun K hK => ?_
 | with_reducible refine SpecC.regW T fun K hK => ?_
 | with_reducible refine SpecC.drawW (id := 21) T mixed [([91], [94, 95, 96, 97, 98, 99, 100, 101]), ([92], [95, 96, 97, 98, 99, 100, 101]), ([93], []), ([94], [91]), ([95], [91, 92, 98, 99, 100, 101]), ([96], [91, 92, 99, 100, 101]), ([97], [91, 92, 99, 100, 101]), ([98], [91, 92, 95, 99, 100, 101]), ([99], [91, 92, 95, 96, 97, 98]), ([100], [91, 92, 95, 96, 97, 98]), ([101], [91, 92, 95, 96, 97, 98])] (by kernel_rfl) fun K hK => ?_
 | with_reducible refine SpecC.condW fun A B hA hB => ?_
 | with_reducible refine SpecC.block ?_
 | with_reducible refine SpecC.skip ?_
 | with_reducible refine SpecC.label ?_
 | with_reducible refine SpecC.exit ?_
 | with_reducible refine SpecC.goto ?_
 | with_reducible refine SpecC.ret ?_
 | ((with_reducible first | refine condK.split (fun hb => ?_) (fun hb => ?_) | refine gK.split_t (fun hb => ?_) (fun hb => ?_) | refine gK.split_f (fun hb => ?_) (fun hb => ?_)) <;> try simp only [decide_not, ilt_t, ilt_f, ile_t, ile_f, nlt_t, nlt_f, nle_t, nle_f, Bool.not_eq_true', Bool.not_eq_false', Int.ofNat_lt, Int.ofNat_le] at hb)
 | simp only [go_sem, ↓reduceIte, reduceIte, Nat.reduceEqDiff, String.reduceEq, Nat.reduceLT, Nat.reduceLeDiff, Nat.reduceAdd, Nat.reduceMul, Nat.reduceSub, Nat.reduceBEq, reduceCtorEq, *, -hs, -hsr, -hby, -hrr, -hgi, -hrc, -hmi, -hki, -hx2]
 | with_reducible refine fun (bn : Bool) hbn => ?_))
      refine SpecC.ent (Ent.frz 6 (d := 37) (g := ts'.gen 37 + 1) (len := K0.length) (sz := 2) (xs := avs K0) (by simp only [go_sem, ↓reduceIte, reduceIte, Nat.reduceEqDiff, String.reduceEq, Nat.reduceLT, Nat.reduceLeDiff, Nat.reduceAdd, Nat.reduceMul, Nat.reduceSub, Nat.reduceBEq, reduceCtorEq, *, -hs, -hsr, -hby, -hrr, -hgi, -hrc, -hmi, -hki, -hx2]; done) (by simp only [go_sem, ↓reduceIte, reduceIte, Nat.reduceEqDiff, String.reduceEq, Nat.reduceLT, Nat.reduceLeDiff, Nat.reduceAdd, Nat.reduceMul, Nat.reduceSub, Nat.reduceBEq, reduceCtorEq, *, -hs, -hsr, -hby, -hrr, -hgi, -hrc, -hmi, -hki, -hx2]; done) (by simp only [go_sem, ↓reduceIte, reduceIte, Nat.reduceEqDiff, String.reduceEq, Nat.reduceLT, Nat.reduceLeDiff, Nat.reduceAdd, Nat.reduceMul, Nat.reduceSub, Nat.reduceBEq, reduceCtorEq, *, -hs, -hsr, -hby, -hrr, -hgi, -hrc, -hmi, -hki, -hx2]; done) (by simp only [go_sem, ↓reduceIte, reduceIte, Nat.reduceEqDiff, String.reduceEq, Nat.reduceLT, Nat.reduceLeDiff, Nat.reduceAdd, Nat.reduceMul, Nat.reduceSub, Nat.reduceBEq, reduceCtorEq, *, -hs, -hsr, -hby, -hrr, -hgi, -hrc, -hmi, -hki, -hx2]; done)) ?_
      clear hrc
      refine SpecC.loopF [0, 3, 4, 5, 6] (fun m ts' => ∃ (j : Nat), m = K0.length - j ∧ j ≤ K0.length ∧ ts'.tmp 7 = .int .i64 j) K0.length ?_ ?_
      · refine ⟨0, rfl, Nat.zero_le _, ?_⟩
        simp only [go_sem, ↓reduceIte, reduceIte, Nat.reduceEqDiff, String.reduceEq, Nat.reduceLT, Nat.reduceLeDiff, Nat.reduceAdd, Nat.reduceMul, Nat.reduceSub, Nat.reduceBEq, reduceCtorEq, *, -hs, -hsr, -hby, -hrr, -hgi, -hmi, -hki, -hx2]
      · revert hM
        intro hM1
        rintro m A hM ts' hk ⟨j, hm, f1, s1⟩
        simp only [go_sem, ↓reduceIte, reduceIte, Nat.reduceEqDiff, String.reduceEq, Nat.reduceLT, Nat.reduceLeDiff, Nat.reduceAdd, Nat.reduceMul, Nat.reduceSub, Nat.reduceBEq, reduceCtorEq, *] at hk
        by_cases hjt : j < K0.length
        · have hgj := hgi K0[j] (List.getElem_mem hjt)
          cases hgx : tget xs K0[j] with
          | none =>
            (repeat' (first
 | with_reducible refine callX.by awake6_c ?_
 | with_reducible refine callX.by (few4_c _ ?_ ?_) ?_
 | with_reducible refine callX.by (tsane_c _ ?_ ?_) ?_
 | with_reducible refine callX.by (reach_c _ ?_ ?_ ?_) ?_
 | with_reducible refine callX.by a6rc ?_
 | with_reducible refine callX.by (refsR_c _ _ _ _ _ _ _ ?_ ?_ ?_) ?_
 | with_reducible refine callX.by awqc ?_
 | with_reducible refine callX.by (tget_c _ _ _ ?_) ?_
 | with_reducible refine callX.by (sameP_c _ _ _ _ _ _ _ _ _ _ _ _ _ _ ?_ ?_ ?_) ?_
 | with_reducible refine callX.by awqm ?_
 | with_reducible refine callX.by (rkey_c _ _ _ _ _ _ _) ?_
 | with_reducible refine callX.by (referrers_c _ _ _ ?_ ?_) ?_
 | with_reducible refine callX.by (tkeys_c _ ?_) ?_
 | with_reducible refine callX.by (keys3_c _ _ ?_) ?_
 | with_reducible assumption
 | (with_reducible refine NxK.out hK _ ?_; clear hK K)
 | with_reducible refine NxK.out (by assumption) _ ?_
 | with_reducible refine Nx.out (by assumption) ?_
 | with_reducible refine SpecC.seqW fun K hK => ?_
 | with_reducible refine SpecC.regW T fun K hK => ?_
 | with_reducible refine SpecC.drawW (id := 21) T mixed [([91], [94, 95, 96, 97, 98, 99, 100, 101]), ([92], [95, 96, 97, 98, 99, 100, 101]), ([93], []), ([94], [91]), ([95], [91, 92, 98, 99, 100, 101]), ([96], [91, 92, 99, 100, 101]), ([97], [91, 92, 99, 100, 101]), ([98], [91, 92, 95, 99, 100, 101]), ([99], [91, 92, 95, 96, 97, 98]), ([100], [91, 92, 95, 96, 97, 98]), ([101], [91, 92, 95, 96, 97, 98])] (by kernel_rfl) fun K hK => ?_
 | with_reducible refine SpecC.condW fun A B hA hB => ?_
 | with_reducible refine SpecC.block ?_
 | with_reducible refine SpecC.skip ?_
 | with_reducible refine SpecC.label ?_
 | with_reducible refine SpecC.exit ?_
 | with_reducible refine SpecC.goto ?_
 | with_reducible refine SpecC.ret ?_
 | ((with_reducible first | refine condK.split (fun hb => ?_) (fun hb => ?_) | refine gK.split_t (fun hb => ?_) (fun hb => ?_) | refine gK.split_f (fun hb => ?_) (fun hb => ?_)) <;> try simp only [decide_not, ilt_t, ilt_f, ile_t, ile_f, nlt_t, nlt_f, nle_t, nle_f, Bool.not_eq_true', Bool.not_eq_false', Int.ofNat_lt, Int.ofNat_le] at hb)
 | simp only [go_sem, ↓reduceIte, reduceIte, Nat.reduceEqDiff, String.reduceEq, Nat.reduceLT, Nat.reduceLeDiff, Nat.reduceAdd, Nat.reduceMul, Nat.reduceSub, Nat.reduceBEq, reduceCtorEq, *, -hs, -hsr, -hby, -hrr, -hgi, -hmi, -hki, -hx2, Option.getD_none, Option.isSome_none]
 | with_reducible refine fun (bn : Bool) hbn => ?_))
            all_goals ((repeat clear hK); (repeat clear hA); (repeat clear hB))
            (refine hM.on (K0.length - (j + 1)) (by omega) (by simp only [go_sem, ↓reduceIte, reduceIte, Nat.reduceEqDiff, String.reduceEq, Nat.reduceLT, Nat.reduceLeDiff, Nat.reduceAdd, Nat.reduceMul, Nat.reduceSub, Nat.reduceBEq, reduceCtorEq, *, w64_nat hjt hrs, -hs, -hsr, -hby, -hrr, -hgi, -hmi, -hki, -hx2]) ⟨j + 1, rfl, by omega, ?_⟩; simp only [go_sem, ↓reduceIte, reduceIte, Nat.reduceEqDiff, String.reduceEq, Nat.reduceLT, Nat.reduceLeDiff, Nat.reduceAdd, Nat.reduceMul, Nat.reduceSub, Nat.reduceBEq, reduceCtorEq, *, w64_nat hjt hrs, -hs, -hsr, -hby, -hrr, -hgi, -hmi, -hki, -hx2]; done)
          | some y =>
            obtain ⟨_, _, hy1, hy2, hy3⟩ := hs y (tget_in hgx).1
            have hsm := sameP_c y.kind y.name y.ver y.port y.to' y.rules' y.hosts y.kind y.name y.ver y.port y.to' y.rules' y.hosts hy3 hy1 hy2
            rw [decide_eq_true rfl] at hsm
            (repeat' (first
 | with_reducible refine callX.by (hsm) ?_
 | with_reducible refine callX.by awake6_c ?_
 | with_reducible refine callX.by (few4_c _ ?_ ?_) ?_
 | with_reducible refine callX.by (tsane_c _ ?_ ?_) ?_
 | with_reducible refine callX.by (reach_c _ ?_ ?_ ?_) ?_
 | with_reducible refine callX.by a6rc ?_
 | with_reducible refine callX.by (refsR_c _ _ _ _ _ _ _ ?_ ?_ ?_) ?_
 | with_reducible refine callX.by awqc ?_
 | with_reducible refine callX.by (tget_c _ _ _ ?_) ?_
 | with_reducible refine callX.by (sameP_c _ _ _ _ _ _ _ _ _ _ _ _ _ _ ?_ ?_ ?_) ?_
 | with_reducible refine callX.by awqm ?_
 | with_reducible refine callX.by (rkey_c _ _ _ _ _ _ _) ?_
 | with_reducible refine callX.by (referrers_c _ _ _ ?_ ?_) ?_
 | with_reducible refine callX.by (tkeys_c _ ?_) ?_
 | with_reducible refine callX.by (keys3_c _ _ ?_) ?_
 | with_reducible assumption
 | (with_reducible refine NxK.out hK _ ?_; clear hK K)
 | with_reducible refine NxK.out (by assumption) _ ?_
 | with_reducible refine Nx.out (by assumption) ?_
 | with_reducible refine SpecC.seqW fun K hK => ?_
 | with_reducible refine SpecC.regW T fun K hK => ?_
 | with_reducible refine SpecC.drawW (id := 21) T mixed [([91], [94, 95, 96, 97, 98, 99, 100, 101]), ([92], [95, 96, 97, 98, 99, 100, 101]), ([93], []), ([94], [91]), ([95], [91, 92, 98, 99, 100, 101]), ([96], [91, 92, 99, 100, 101]), ([97], [91, 92, 99, 100, 101]), ([98], [91, 92, 95, 99, 100, 101]), ([99], [91, 92, 95, 96, 97, 98]), ([100], [91, 92, 95, 96, 97, 98]), ([101], [91, 92, 95, 96, 97, 98])] (by kernel_rfl) fun K hK => ?_
 | with_reducible refine SpecC.condW fun A B hA hB => ?_
 | with_reducible refine SpecC.block ?_
 | with_reducible refine SpecC.skip ?_
 | with_reducible refine SpecC.label ?_
 | with_reducible refine SpecC.exit ?_
 | with_reducible refine SpecC.goto ?_
 | with_reducible refine SpecC.ret ?_
 | ((with_reducible first | refine condK.split (fun hb => ?_) (fun hb => ?_) | refine gK.split_t (fun hb => ?_) (fun hb => ?_) | refine gK.split_f (fun hb => ?_) (fun hb => ?_)) <;> try simp only [decide_not, ilt_t, ilt_f, ile_t, ile_f, nlt_t, nlt_f, nle_t, nle_f, Bool.not_eq_true', Bool.not_eq_false', Int.ofNat_lt, Int.ofNat_le] at hb)
 | simp only [go_sem, ↓reduceIte, reduceIte, Nat.reduceEqDiff, String.reduceEq, Nat.reduceLT, Nat.reduceLeDiff, Nat.reduceAdd, Nat.reduceMul, Nat.reduceSub, Nat.reduceBEq, reduceCtorEq, *, -hs, -hsr, -hby, -hrr, -hgi, -hmi, -hki, -hx2, -hsm, Option.getD_some, Option.isSome_some]
 | with_reducible refine fun (bn : Bool) hbn => ?_))
            all_goals ((repeat clear hK); (repeat clear hA); (repeat clear hB))
            (refine hM.on (K0.length - (j + 1)) (by omega) (by simp only [go_sem, ↓reduceIte, reduceIte, Nat.reduceEqDiff, String.reduceEq, Nat.reduceLT, Nat.reduceLeDiff, Nat.reduceAdd, Nat.reduceMul, Nat.reduceSub, Nat.reduceBEq, reduceCtorEq, *, w64_nat hjt hrs, -hs, -hsr, -hby, -hrr, -hgi, -hmi, -hki, -hx2, -hsm]) ⟨j + 1, rfl, by omega, ?_⟩; simp only [go_sem, ↓reduceIte, reduceIte, Nat.reduceEqDiff, String.reduceEq, Nat.reduceLT, Nat.reduceLeDiff, Nat.reduceAdd, Nat.reduceMul, Nat.reduceSub, Nat.reduceBEq, reduceCtorEq, *, w64_nat hjt hrs, -hs, -hsr, -hby, -hrr, -hgi, -hmi, -hki, -hx2, -hsm]; done)
        · clear hgi
          (repeat' (first
 | with_reducible refine callX.by awake6_c ?_
 | with_reducible refine callX.by (few4_c _ ?_ ?_) ?_
 | with_reducible refine callX.by (tsane_c _ ?_ ?_) ?_
 | with_reducible refine callX.by (reach_c _ ?_ ?_ ?_) ?_
 | with_reducible refine callX.by a6rc ?_
 | with_reducible refine callX.by (refsR_c _ _ _ _ _ _ _ ?_ ?_ ?_) ?_
 | with_reducible refine callX.by awqc ?_
 | with_reducible refine callX.by (tget_c _ _ _ ?_) ?_
 | with_reducible refine callX.by (sameP_c _ _ _ _ _ _ _ _ _ _ _ _ _ _ ?_ ?_ ?_) ?_
 | with_reducible refine callX.by awqm ?_
 | with_reducible refine callX.by (rkey_c _ _ _ _ _ _ _) ?_
 | with_reducible refine callX.by (referrers_c _ _ _ ?_ ?_) ?_
 | with_reducible refine callX.by (tkeys_c _ ?_) ?_
 | with_reducible refine callX.by (keys3_c _ _ ?_) ?_
 | with_reducible assumption
 | (with_reducible refine NxK.out hK _ ?_; clear hK K)
 | with_reducible refine NxK.out (by assumption) _ ?_
 | with_reducible refine Nx.out (by assumption) ?_
 | with_reducible refine SpecC.seqW fun K hK => ?_
 | with_reducible refine SpecC.regW T fun K hK => ?_
 | with_reducible refine SpecC.drawW (id := 21) T mixed [([91], [94, 95, 96, 97, 98, 99, 100, 101]), ([92], [95, 96, 97, 98, 99, 100, 101]), ([93], []), ([94], [91]), ([95], [91, 92, 98, 99, 100, 101]), ([96], [91, 92, 99, 100, 101]), ([97], [91, 92, 99, 100, 101]), ([98], [91, 92, 95, 99, 100, 101]), ([99], [91, 92, 95, 96, 97, 98]), ([100], [91, 92, 95, 96, 97, 98]), ([101], [91, 92, 95, 96, 97, 98])] (by kernel_rfl) fun K hK => ?_
 | with_reducible refine SpecC.condW fun A B hA hB => ?_
 | with_reducible refine SpecC.block ?_
 | with_reducible refine SpecC.skip ?_
 | with_reducible refine SpecC.label ?_
 | with_reducible refine SpecC.exit ?_
 | with_reducible refine SpecC.goto ?_
 | with_reducible refine SpecC.ret ?_
 | ((with_reducible first | refine condK.split (fun hb => ?_) (fun hb => ?_) | refine gK.split_t (fun hb => ?_) (fun hb => ?_) | refine gK.split_f (fun hb => ?_) (fun hb => ?_)) <;> try simp only [decide_not, ilt_t, ilt_f, ile_t, ile_f, nlt_t, nlt_f, nle_t, nle_f, Bool.not_eq_true', Bool.not_eq_false', Int.ofNat_lt, Int.ofNat_le] at hb)
 | simp only [go_sem, ↓reduceIte, reduceIte, Nat.reduceEqDiff, String.reduceEq, Nat.reduceLT, Nat.reduceLeDiff, Nat.reduceAdd, Nat.reduceMul, Nat.reduceSub, Nat.reduceBEq, reduceCtorEq, *, -hs, -hsr, -hby, -hrr, -hmi, -hki, -hx2]
 | with_reducible refine fun (bn : Bool) hbn => ?_))
          all_goals (clear hM; revert hM1; intro hM)
          refine SpecC.loopF [0, 3, 4, 5] (fun m ts' => ∃ (n : Nat), ∃ (a : Int), ∃ (s : List UInt8), ∃ (g : Nat), m = 4 - n ∧ n ≤ 4 ∧ 0 ≤ a ∧ a + n ≤ 3 ∧ (⟨a, s⟩ : Key) ∈ R.map keyOf ∧ ts'.tmp 13 = .int .i64 n ∧ ts'.tmp 12 = .ref 12 g 0 ∧ ts'.gen 12 = g ∧ ts'.obj 12 = .box [.int .i64 a, .str s]) 4 ?_ ?_
          · refine ⟨0, R[i].kind, R[i].name, ts'.gen 12 + 1, rfl, by omega, hki.1, by omega, hmi, ?_⟩
            simp only [go_sem, ↓reduceIte, reduceIte, Nat.reduceEqDiff, String.reduceEq, Nat.reduceLT, Nat.reduceLeDiff, Nat.reduceAdd, Nat.reduceMul, Nat.reduceSub, Nat.reduceBEq, reduceCtorEq, *, -hs, -hsr, -hby, -hrr, -hmi, -hki, -hx2]
          · revert hM
            intro hM1
            rintro m A hM ts' hk ⟨n, a, s, g, hm, f1, f2, f3, f4, s1, s2, s3, s4⟩
            simp only [go_sem, ↓reduceIte, reduceIte, Nat.reduceEqDiff, String.reduceEq, Nat.reduceLT, Nat.reduceLeDiff, Nat.reduceAdd, Nat.reduceMul, Nat.reduceSub, Nat.reduceBEq, reduceCtorEq, *] at hk
            have hn : (n : Int) < 4 := by omega
            by_cases ha : a = 0
            · subst ha
              (repeat' (first
 | with_reducible refine callX.by awake6_c ?_
 | with_reducible refine callX.by (few4_c _ ?_ ?_) ?_
 | with_reducible refine callX.by (tsane_c _ ?_ ?_) ?_
 | with_reducible refine callX.by (reach_c _ ?_ ?_ ?_) ?_
 | with_reducible refine callX.by a6rc ?_
 | with_reducible refine callX.by (refsR_c _ _ _ _ _ _ _ ?_ ?_ ?_) ?_
 | with_reducible refine callX.by awqc ?_
 | with_reducible refine callX.by (tget_c _ _ _ ?_) ?_
 | with_reducible refine callX.by (sameP_c _ _ _ _ _ _ _ _ _ _ _ _ _ _ ?_ ?_ ?_) ?_
 | with_reducible refine callX.by awqm ?_
 | with_reducible refine callX.by (rkey_c _ _ _ _ _ _ _) ?_
 | with_reducible refine callX.by (referrers_c _ _ _ ?_ ?_) ?_
 | with_reducible refine callX.by (tkeys_c _ ?_) ?_
 | with_reducible refine callX.by (keys3_c _ _ ?_) ?_
 | with_reducible assumption
 | (with_reducible refine NxK.out hK _ ?_; clear hK K)
 | with_reducible refine NxK.out (by assumption) _ ?_
 | with_reducible refine Nx.out (by assumption) ?_
 | with_reducible refine SpecC.seqW fun K hK => ?_
 | with_reducible refine SpecC.regW T fun K hK => ?_
 | with_reducible refine SpecC.drawW (id := 21) T mixed [([91], [94, 95, 96, 97, 98, 99, 100, 101]), ([92], [95, 96, 97, 98, 99, 100, 101]), ([93], []), ([94], [91]), ([95], [91, 92, 98, 99, 100, 101]), ([96], [91, 92, 99, 100, 101]), ([97], [91, 92, 99, 100, 101]), ([98], [91, 92, 95, 99, 100, 101]), ([99], [91, 92, 95, 96, 97, 98]), ([100], [91, 92, 95, 96, 97, 98]), ([101], [91, 92, 95, 96, 97, 98])] (by kernel_rfl) fun K hK => ?_
 | with_reducible refine SpecC.condW fun A B hA hB => ?_
 | with_reducible refine SpecC.block ?_
 | with_reducible refine SpecC.skip ?_
 | with_reducible refine SpecC.label ?_
 | with_reducible refine SpecC.exit ?_
 | with_reducible refine SpecC.goto ?_
 | with_reducible refine SpecC.ret ?_
 | ((with_reducible first | refine condK.split (fun hb => ?_) (fun hb => ?_) | refine gK.split_t (fun hb => ?_) (fun hb => ?_) | refine gK.split_f (fun hb => ?_) (fun hb => ?_)) <;> try simp only [decide_not, ilt_t, ilt_f, ile_t, ile_f, nlt_t, nlt_f, nle_t, nle_f, Bool.not_eq_true', Bool.not_eq_false', Int.ofNat_lt, Int.ofNat_le] at hb)
 | simp only [go_sem, ↓reduceIte, reduceIte, Nat.reduceEqDiff, String.reduceEq, Nat.reduceLT, Nat.reduceLeDiff, Nat.reduceAdd, Nat.reduceMul, Nat.reduceSub, Nat.reduceBEq, reduceCtorEq, *, -hs, -hsr, -hby, -hrr, -hmi, -hki, -hx2]
 | with_reducible refine fun (bn : Bool) hbn => ?_))
              all_goals ((repeat clear hK); (repeat clear hA); (repeat clear hB))
              all_goals (clear hM; revert hM1; intro hM)
              (refine hM.on (R.length - (i + 1)) (by omega) (by simp only [go_sem, ↓reduceIte, reduceIte, Nat.reduceEqDiff, String.reduceEq, Nat.reduceLT, Nat.reduceLeDiff, Nat.reduceAdd, Nat.reduceMul, Nat.reduceSub, Nat.reduceBEq, reduceCtorEq, *, w64_nat hlt hRs, -hs, -hsr, -hby, -hrr, -hmi, -hki, -hx2]) ⟨i + 1, rfl, by omega, ?_⟩; simp only [go_sem, ↓reduceIte, reduceIte, Nat.reduceEqDiff, String.reduceEq, Nat.reduceLT, Nat.reduceLeDiff, Nat.reduceAdd, Nat.reduceMul, Nat.reduceSub, Nat.reduceBEq, reduceCtorEq, *, w64_nat hlt hRs, -hs, -hsr, -hby, -hrr, -hmi, -hki, -hx2]; done)
            · obtain ⟨y, ys, hy1, hy2, hy3⟩ := hby ⟨a, s⟩ f4 ha
              have hrf := referrers_c R a s hR2 hsr
              have hB0 : 0 < (referrers R ⟨a, s⟩).length := by rw [hy1]; simp
              have hB1 : (referrers R ⟨a, s⟩)[0] ∈ R.map keyOf := by simp only [hy1, List.getElem_cons_zero]; exact hy2
              have hB2 : (referrers R ⟨a, s⟩)[0].kind = a - 1 := by simp only [hy1, List.getElem_cons_zero]; exact hy3
              clear hy1 hy2 hy3
              generalize referrers R ⟨a, s⟩ = Y0 at *
              have hB3 : (0 : Int) < (Y0.length : Int) := by omega
              have hB4 : ¬ Y0.length = 0 := by omega
              have hw : IntKind.i64.wrap (a - 1) = a - 1 := IntWalk.i64_in _ (by omega)
              have hw2 : IntKind.i64.wrap ((n : Int) + 1) = ((n + 1 : Nat) : Int) := by rw [show (n : Int) + 1 = ((n + 1 : Nat) : Int) by omega]; exact IntWalk.i64_in _ (by omega)
              (repeat' (first
 | with_reducible refine callX.by (hrf) ?_
 | with_reducible refine callX.by awake6_c ?_
 | with_reducible refine callX.by (few4_c _ ?_ ?_) ?_
 | with_reducible refine callX.by (tsane_c _ ?_ ?_) ?_
 | with_reducible refine callX.by (reach_c _ ?_ ?_ ?_) ?_
 | with_reducible refine callX.by a6rc ?_
 | with_reducible refine callX.by (refsR_c _ _ _ _ _ _ _ ?_ ?_ ?_) ?_
 | with_reducible refine callX.by awqc ?_
 | with_reducible refine callX.by (tget_c _ _ _ ?_) ?_
 | with_reducible refine callX.by (sameP_c _ _ _ _ _ _ _ _ _ _ _ _ _ _ ?_ ?_ ?_) ?_
 | with_reducible refine callX.by awqm ?_
 | with_reducible refine callX.by (rkey_c _ _ _ _ _ _ _) ?_
 | with_reducible refine callX.by (referrers_c _ _ _ ?_ ?_) ?_
 | with_reducible refine callX.by (tkeys_c _ ?_) ?_
 | with_reducible refine callX.by (keys3_c _ _ ?_) ?_
 | with_reducible assumption
 | (with_reducible refine NxK.out hK _ ?_; clear hK K)
 | with_reducible refine NxK.out (by assumption) _ ?_
 | with_reducible refine Nx.out (by assumption) ?_
 | with_reducible refine SpecC.seqW fun K hK => ?_
 | with_reducible refine SpecC.regW T fun K hK => ?_
 | with_reducible refine SpecC.drawW (id := 21) T mixed [([91], [94, 95, 96, 97, 98, 99, 100, 101]), ([92], [95, 96, 97, 98, 99, 100, 101]), ([93], []), ([94], [91]), ([95], [91, 92, 98, 99, 100, 101]), ([96], [91, 92, 99, 100, 101]), ([97], [91, 92, 99, 100, 101]), ([98], [91, 92, 95, 99, 100, 101]), ([99], [91, 92, 95, 96, 97, 98]), ([100], [91, 92, 95, 96, 97, 98]), ([101], [91, 92, 95, 96, 97, 98])] (by kernel_rfl) fun K hK => ?_
 | with_reducible refine SpecC.condW fun A B hA hB => ?_
 | with_reducible refine SpecC.block ?_
 | with_reducible refine SpecC.skip ?_
 | with_reducible refine SpecC.label ?_
 | with_reducible refine SpecC.exit ?_
 | with_reducible refine SpecC.goto ?_
 | with_reducible refine SpecC.ret ?_
 | ((with_reducible first | refine condK.split (fun hb => ?_) (fun hb => ?_) | refine gK.split_t (fun hb => ?_) (fun hb => ?_) | refine gK.split_f (fun hb => ?_) (fun hb => ?_)) <;> try simp only [decide_not, ilt_t, ilt_f, ile_t, ile_f, nlt_t, nlt_f, nle_t, nle_f, Bool.not_eq_true', Bool.not_eq_false', Int.ofNat_lt, Int.ofNat_le] at hb)
 | simp only [go_sem, ↓reduceIte, reduceIte, Nat.reduceEqDiff, String.reduceEq, Nat.reduceLT, Nat.reduceLeDiff, Nat.reduceAdd, Nat.reduceMul, Nat.reduceSub, Nat.reduceBEq, reduceCtorEq, *, -hs, -hsr, -hby, -hrr, -hmi, -hki, -hx2, -hrf, -hB1, Int.toNat_zero, Int.le_refl]
 | with_reducible refine fun (bn : Bool) hbn => ?_))
              all_goals ((repeat clear hK); (repeat clear hA); (repeat clear hB))
              (refine hM.on (4 - (n + 1)) (by omega) (by simp only [go_sem, ↓reduceIte, reduceIte, Nat.reduceEqDiff, String.reduceEq, Nat.reduceLT, Nat.reduceLeDiff, Nat.reduceAdd, Nat.reduceMul, Nat.reduceSub, Nat.reduceBEq, reduceCtorEq, *, -hs, -hsr, -hby, -hrr, -hmi, -hki, -hx2, -hB1, -hB2]) ⟨n + 1, a - 1, Y0[0].name, g, rfl, by omega, by omega, by omega, by have h9 := hB1; rw [show Y0[0] = (⟨a - 1, Y0[0].name⟩ : Key) from by rw [← hB2]] at h9; exact h9, ?_⟩; simp only [go_sem, ↓reduceIte, reduceIte, Nat.reduceEqDiff, String.reduceEq, Nat.reduceLT, Nat.reduceLeDiff, Nat.reduceAdd, Nat.reduceMul, Nat.reduceSub, Nat.reduceBEq, reduceCtorEq, *, -hs, -hsr, -hby, -hrr, -hmi, -hki, -hx2, -hB1, -hB2]; done)
    · (repeat' (first
 | with_reducible refine callX.by (hrr) ?_
 | with_reducible refine callX.by awake6_c ?_
 | with_reducible refine callX.by (few4_c _ ?_ ?_) ?_
 | with_reducible refine callX.by (tsane_c _ ?_ ?_) ?_
 | with_reducible refine callX.by (reach_c _ ?_ ?_ ?_) ?_
 | with_reducible refine callX.by a6rc ?_
 | with_reducible refine callX.by (refsR_c _ _ _ _ _ _ _ ?_ ?_ ?_) ?_
 | with_reducible refine callX.by awqc ?_
 | with_reducible refine callX.by (tget_c _ _ _ ?_) ?_
 | with_reducible refine callX.by (sameP_c _ _ _ _ _ _ _ _ _ _ _ _ _ _ ?_ ?_ ?_) ?_
 | with_reducible refine callX.by awqm ?_
 | with_reducible refine callX.by (rkey_c _ _ _ _ _ _ _) ?_
 | with_reducible refine callX.by (referrers_c _ _ _ ?_ ?_) ?_
 | with_reducible refine callX.by (tkeys_c _ ?_) ?_
 | with_reducible refine callX.by (keys3_c _ _ ?_) ?_
 | with_reducible assumption
 | (with_reducible refine NxK.out hK _ ?_; clear hK K)
 | with_reducible refine NxK.out (by assumption) _ ?_
 | with_reducible refine Nx.out (by assumption) ?_
 | with_reducible refine SpecC.seqW fun K hK => ?_
 | with_reducible refine SpecC.regW T fun K hK => ?_
 | with_reducible refine SpecC.drawW (id := 21) T mixed [([91], [94, 95, 96, 97, 98, 99, 100, 101]), ([92], [95, 96, 97, 98, 99, 100, 101]), ([93], []), ([94], [91]), ([95], [91, 92, 98, 99, 100, 101]), ([96], [91, 92, 99, 100, 101]), ([97], [91, 92, 99, 100, 101]), ([98], [91, 92, 95, 99, 100, 101]), ([99], [91, 92, 95, 96, 97, 98]), ([100], [91, 92, 95, 96, 97, 98]), ([101], [91, 92, 95, 96, 97, 98])] (by kernel_rfl) fun K hK => ?_
 | with_reducible refine SpecC.condW fun A B hA hB => ?_
 | with_reducible refine SpecC.block ?_
 | with_reducible refine SpecC.skip ?_
 | with_reducible refine SpecC.label ?_
 | with_reducible refine SpecC.exit ?_
 | with_reducible refine SpecC.goto ?_
 | with_reducible refine SpecC.ret ?_
 | ((with_reducible first | refine condK.split (fun hb => ?_) (fun hb => ?_) | refine gK.split_t (fun hb => ?_) (fun hb => ?_) | refine gK.split_f (fun hb => ?_) (fun hb => ?_)) <;> try simp only [decide_not, ilt_t, ilt_f, ile_t, ile_f, nlt_t, nlt_f, nle_t, nle_f, Bool.not_eq_true', Bool.not_eq_false', Int.ofNat_lt, Int.ofNat_le] at hb)
 | simp only [go_sem, ↓reduceIte, reduceIte, Nat.reduceEqDiff, String.reduceEq, Nat.reduceLT, Nat.reduceLeDiff, Nat.reduceAdd, Nat.reduceMul, Nat.reduceSub, Nat.reduceBEq, reduceCtorEq, *, -hs, -hsr, -hby, -hge, -hkd, -hrr]
 | with_reducible refine fun (bn : Bool) hbn => ?_))
end Go.Proofs.YtbmdbkgjgjggiaaGreatDoor.Lg
