/- Parts of the proof, one behind the other. -/
import Derived.Test.YtbmdbkgjgjggiaaGreatDoorG16
namespace Go.Proofs.YtbmdbkgjgjggiaaGreatDoor.Lg
set_option maxRecDepth 100000
set_option linter.unusedVariables false
set_option linter.unusedSimpArgs false
open Go
theorem firstBad_zero {l : List Res} (h : firstBad l = 0) : ∀ r ∈ l, saneR r = 0 := by
  induction l with
  | nil => simp
  | cons r l ih =>
    unfold firstBad at h
    split at h
    · rename_i hs
      intro x hx
      rcases List.mem_cons.1 hx with rfl | hx
      · exact hs
      · exact ih h x hx
    · rename_i hs; exact absurd h hs
theorem upR_iff : ∀ l : List Res, upR l = true ↔ Up (l.map keyOf)
  | [] => by simp [upR, Up]
  | [a] => by simp [upR, Up]
  | a :: b :: l => by
    rw [upR_cons2, Bool.and_eq_true, upR_iff (b :: l), decide_eq_true_eq]
    simp only [List.map_cons]
    constructor
    · rintro ⟨h1, h2⟩
      refine List.pairwise_cons.2 ⟨fun x hx => ?_, h2⟩
      rcases List.mem_cons.1 hx with rfl | hx
      · exact h1
      · exact kcmp_trans _ _ _ h1 ((List.pairwise_cons.1 h2).1 x hx)
    · intro h
      obtain ⟨h1, h2⟩ := List.pairwise_cons.1 h
      exact ⟨h1 _ (by simp), h2⟩
structure Conf (l : List Res) : Prop where
  len : l.length ≤ 64
  sane : ∀ r ∈ l, saneR r = 0
  up : Up (l.map keyOf)
theorem conf_of {l : List Res} (h : tsane l = 0) : Conf l := by
  unfold tsane at h
  split at h
  · cases h
  · rename_i h1
    split at h
    · rename_i h2; exact absurd h h2
    · rename_i h2
      split at h
      · cases h
      · rename_i h3
        exact ⟨by omega, firstBad_zero (by simpa using h2), (upR_iff l).1 (by simpa using h3)⟩
theorem up_nodup {l : List Key} (h : Up l) : l.Nodup := by
  unfold Up at h
  refine h.imp fun {a b} hab e => ?_
  subst e
  exact kcmp_irrefl _ hab
theorem Conf.nodup {l : List Res} (h : Conf l) : (l.map keyOf).Nodup := up_nodup h.up
theorem key_inj {l : List Res} (h : (l.map keyOf).Nodup) {a b : Res} (ha : a ∈ l) (hb : b ∈ l) (e : keyOf a = keyOf b) : a = b := by
  induction l with
  | nil => simp at ha
  | cons r l ih =>
    rw [List.map_cons, List.nodup_cons] at h
    rcases List.mem_cons.1 ha with ha' | ha' <;> rcases List.mem_cons.1 hb with hb' | hb'
    · rw [ha', hb']
    · exact absurd (by rw [← ha', e]; exact List.mem_map_of_mem hb') h.1
    · exact absurd (by rw [← hb', ← e]; exact List.mem_map_of_mem ha') h.1
    · exact ih h.2 ha' hb'
theorem names_get {l : List Res} (h : (l.map keyOf).Nodup) {r : Res} (hr : r ∈ l) : mget (namesM l) (keyOf r) = some (refsR r) := by
  obtain ⟨q, h1, h2⟩ := mget_names l (keyOf r) (List.mem_map_of_mem hr)
  have h3 := mget_mem h2
  obtain ⟨p, hp, he⟩ := List.mem_map.1 h3
  have e1 : keyOf p = keyOf r := (Prod.mk.inj he).1
  have := key_inj h hp hr e1
  subst this
  rw [h2, ← (Prod.mk.inj he).2]
inductive Rch (l : List Res) : Key → Prop
  | base (r : Res) : r ∈ l → r.kind = 0 → Rch l (keyOf r)
  | step (r : Res) (x : Key) : r ∈ l → Rch l (keyOf r) → x ∈ refsR r → x ∈ l.map keyOf → Rch l x
section dfs
variable (T0 : KS) (N : List (Key × List Key))
def succK (k : Key) : List Key := (mget N k).getD []
inductive Way : Key → Key → Prop
  | refl (k : Key) : isIn T0 k = true → Way k k
  | step (k x y : Key) : isIn T0 k = true → x ∈ succK N k → Way x y → Way k y
abbrev Shut (A B : KS) : Prop := ∀ x, isIn B x = true → isIn A x = false → ∀ y ∈ succK N x, isIn T0 y = true → isIn B y = true
theorem dfs (n : Nat) : ∀ (k : Key) (M : KS), muV T0 M ≤ n →
    (isIn T0 k = true → isIn (visF T0 N n k M) k = true) ∧
    (∀ x, isIn (visF T0 N n k M) x = true → isIn M x = false → Way T0 N k x) ∧ Shut T0 N M (visF T0 N n k M) := by
  induction n with
  | zero =>
    intro k M hmu
    have h0 : ∀ k, isIn T0 k = true → isIn M k = true := fun k hk => by
      cases hm : isIn M k with
      | true => rfl
      | false => have := mu_lt hk hm; omega
    exact ⟨h0 k, fun x hx hx' => absurd (Eq.trans (Eq.symm (show isIn M x = true from hx)) hx') (by decide), fun x hx hx' => absurd (Eq.trans (Eq.symm (show isIn M x = true from hx)) hx') (by decide)⟩
  | succ n ih =>
    intro k M hmu
    by_cases hc : isIn T0 k = true ∧ isIn M k = false
    rotate_left
    · have e : visF T0 N (n + 1) k M = M := by rw [visF, if_neg hc]
      rw [e]
      refine ⟨fun hk => ?_, fun x hx hx' => absurd (Eq.trans (Eq.symm hx) hx') (by decide), fun x hx hx' => absurd (Eq.trans (Eq.symm hx) hx') (by decide)⟩
      cases hm : isIn M k with
      | true => rfl
      | false => exact absurd ⟨hk, hm⟩ hc
    · obtain ⟨hk, hm⟩ := hc
      have e : visF T0 N (n + 1) k M = (succK N k).foldl (fun M x => visF T0 N n x M) (mput M k true) := by rw [visF, if_pos ⟨hk, hm⟩]; rfl
      have hmu1 : muV T0 (mput M k true) ≤ n := by have := mu_lt hk hm; omega
      have fold : ∀ (v : List Key) (M1 : KS), muV T0 M1 ≤ n →
          (∀ x, isIn M1 x = true → isIn (v.foldl (fun M x => visF T0 N n x M) M1) x = true) ∧
          (∀ y ∈ v, isIn T0 y = true → isIn (v.foldl (fun M x => visF T0 N n x M) M1) y = true) ∧
          (∀ x, isIn (v.foldl (fun M x => visF T0 N n x M) M1) x = true → isIn M1 x = false → ∃ y ∈ v, Way T0 N y x) ∧
          Shut T0 N M1 (v.foldl (fun M x => visF T0 N n x M) M1) := by
        intro v
        induction v with
        | nil => exact fun M1 _ => ⟨fun x h => h, by simp, fun x h h' => absurd (Eq.trans (Eq.symm (show isIn M1 x = true from h)) h') (by decide), fun x h h' => absurd (Eq.trans (Eq.symm (show isIn M1 x = true from h)) h') (by decide)⟩
        | cons y v ihv =>
          intro M1 h1
          rw [List.foldl_cons]
          obtain ⟨a1, a2, a3⟩ := ih y M1 h1
          have hg : ∀ x, isIn M1 x = true → isIn (visF T0 N n y M1) x = true := fun x hx => visF_grow T0 N n y M1 x hx
          obtain ⟨b1, b2, b3, b4⟩ := ihv (visF T0 N n y M1) (Nat.le_trans (mu_le hg) h1)
          refine ⟨fun x hx => b1 x (hg x hx), fun z hz hzT => ?_, fun x hx hx' => ?_, fun x hx hx' z hz hzT => ?_⟩
          · rcases List.mem_cons.1 hz with rfl | hz
            · exact b1 _ (a1 hzT)
            · exact b2 z hz hzT
          · cases hv : isIn (visF T0 N n y M1) x with
            | true => exact ⟨y, by simp, a2 x hv hx'⟩
            | false => obtain ⟨z, hz, hw⟩ := b3 x hx hv; exact ⟨z, by simp [hz], hw⟩
          · cases hv : isIn (visF T0 N n y M1) x with
            | true => exact b1 _ (a3 x hv hx' z hz hzT)
            | false => exact b4 x hx hv z hz hzT
      obtain ⟨b1, b2, b3, b4⟩ := fold (succK N k) (mput M k true) hmu1
      rw [e]
      refine ⟨fun _ => b1 k (by rw [isIn_put]; simp), fun x hx hx' => ?_, fun x hx hx' y hy hyT => ?_⟩
      · cases hp : isIn (mput M k true) x with
        | true =>
          rw [isIn_put, hx'] at hp
          have : x = k := by simpa using hp
          subst this
          exact .refl _ hk
        | false =>
          obtain ⟨y, hy, hw⟩ := b3 x hx hp
          exact .step k y x hk hy hw
      · cases hp : isIn (mput M k true) x with
        | true =>
          rw [isIn_put, hx'] at hp
          have : x = k := by simpa using hp
          subst this
          exact b2 y hy hyT
        | false => exact b4 x hx hp y hy hyT
theorem reachF_spec (n : Nat) (hn : ∀ M, muV T0 M ≤ n) : ∀ (l : List Res) (M : KS), Shut T0 N [] M →
    Shut T0 N [] (reachF T0 N n l M) ∧ (∀ x, isIn M x = true → isIn (reachF T0 N n l M) x = true) ∧ (∀ r ∈ l, r.kind = 0 → isIn T0 (keyOf r) = true → isIn (reachF T0 N n l M) (keyOf r) = true) ∧
    ∀ x, isIn (reachF T0 N n l M) x = true → isIn M x = true ∨ ∃ r ∈ l, r.kind = 0 ∧ Way T0 N (keyOf r) x
  | [], M, h => ⟨h, fun x hx => hx, by simp, fun x hx => .inl hx⟩
  | r :: l, M, h => by
    have e : reachF T0 N n (r :: l) M = reachF T0 N n l (if r.kind = 0 then visF T0 N n (keyOf r) M else M) := rfl
    rw [e]
    by_cases hk : r.kind = 0
    · rw [if_pos hk]
      obtain ⟨a1, a2, a3⟩ := dfs T0 N n (keyOf r) M (hn M)
      have hg : ∀ x, isIn M x = true → isIn (visF T0 N n (keyOf r) M) x = true := fun x hx => visF_grow T0 N n _ M x hx
      have hs : Shut T0 N [] (visF T0 N n (keyOf r) M) := fun x hx _ y hy hyT => by
        cases hm : isIn M x with
        | true => exact hg _ (h x hm rfl y hy hyT)
        | false => exact a3 x hx hm y hy hyT
      obtain ⟨b1, b2, b3, b4⟩ := reachF_spec n hn l _ hs
      refine ⟨b1, fun x hx => b2 x (hg x hx), fun q hq hq0 hqT => ?_, fun x hx => ?_⟩
      · rcases List.mem_cons.1 hq with rfl | hq
        · exact b2 _ (a1 hqT)
        · exact b3 q hq hq0 hqT
      · rcases b4 x hx with h1 | ⟨q, hq, h1, h2⟩
        · cases hm : isIn M x with
          | true => exact .inl rfl
          | false => exact .inr ⟨r, by simp, hk, a2 x h1 hm⟩
        · exact .inr ⟨q, by simp [hq], h1, h2⟩
    · rw [if_neg hk]
      obtain ⟨b1, b2, b3, b4⟩ := reachF_spec n hn l M h
      refine ⟨b1, b2, fun q hq hq0 hqT => ?_, fun x hx => ?_⟩
      · rcases List.mem_cons.1 hq with rfl | hq
        · exact absurd hq0 hk
        · exact b3 q hq hq0 hqT
      · rcases b4 x hx with h1 | ⟨q, hq, h1, h2⟩
        · exact .inl h1
        · exact .inr ⟨q, by simp [hq], h1, h2⟩
end dfs
theorem isIn_of (l : List Res) (k : Key) : isIn (ofR l []) k = decide (k ∈ l.map keyOf) := by rw [mem_ofR]; simp [isIn]
theorem reached_iff {l : List Res} (h : (l.map keyOf).Nodup) (k : Key) : isIn (reachedM l) k = true ↔ Rch l k := by
  have hT : ∀ k, isIn (ofR l []) k = true ↔ k ∈ l.map keyOf := fun k => by rw [isIn_of]; simp
  obtain ⟨b1, _, b3, b4⟩ := reachF_spec (ofR l []) (namesM l) (ofR l []).length (fun M => List.length_filter_le _ _) l [] (fun x hx => by simp [isIn] at hx)
  have hsucc : ∀ r ∈ l, succK (namesM l) (keyOf r) = refsR r := fun r hr => by unfold succK; rw [names_get h hr]; rfl
  constructor
  · intro hk
    rcases b4 k hk with h1 | ⟨r, hr, h0, hw⟩
    · simp [isIn] at h1
    · have : ∀ {a b : Key}, Way (ofR l []) (namesM l) a b → Rch l a → Rch l b := by
        intro a b hw
        induction hw with
        | refl => exact fun h => h
        | step k x y hk hx hw ih =>
          intro ha
          refine ih ?_
          obtain ⟨q, hq, rfl⟩ := List.mem_map.1 ((hT k).1 hk)
          rw [hsucc q hq] at hx
          refine .step q x hq ha hx ?_
          cases hw with
          | refl _ hx' => exact (hT x).1 hx'
          | step _ _ _ hx' => exact (hT x).1 hx'
      exact this hw (.base r hr h0)
  · intro hk
    induction hk with
    | base r hr h0 => exact b3 r hr h0 ((hT _).2 (List.mem_map_of_mem hr))
    | step r x hr _ hx hx' ih => exact b1 _ ih rfl x (by rw [hsucc r hr]; exact hx) ((hT x).2 hx')
theorem mem_reachR {l : List Res} (h : (l.map keyOf).Nodup) (r : Res) : r ∈ reachR l ↔ r ∈ l ∧ Rch l (keyOf r) := by
  unfold reachR
  rw [List.mem_filter, reached_iff h]
theorem nodup_sub {l m : List Res} (h : (l.map keyOf).Nodup) (hs : m.Sublist l) : (m.map keyOf).Nodup := h.sublist (hs.map _)
theorem reachR_sub (l : List Res) : (reachR l).Sublist l := List.filter_sublist
end Go.Proofs.YtbmdbkgjgjggiaaGreatDoor.Lg

namespace Go.Proofs.YtbmdbkgjgjggiaaGreatDoor.Lg
set_option maxRecDepth 100000
set_option linter.unusedVariables false
set_option linter.unusedSimpArgs false
open Go
def a6 : Res := ⟨0, [108], 0, 0, [114], [], []⟩
theorem a6s : saneR a6 = 0 := by decide
theorem a6r : refsR a6 = [⟨1, [114]⟩] := by
  unfold refsR
  rw [if_pos a6s]
  have e : baseR a6 ++ keysR a6.rules' = [⟨1, [114]⟩] := by decide
  rw [e]
  have e2 : ksort [⟨1, [114]⟩] = [(⟨1, [114]⟩ : Key)] := by simp [ksort]
  rw [e2]; rfl
theorem a6sm : ∀ r ∈ [a6], SmRes r := by
  intro r hr
  rw [List.mem_singleton] at hr
  subst hr
  exact ⟨by simp [Small, a6], by simp [Small, a6], by simp [Small, a6], by simp [a6], by simp [Small, a6]⟩
theorem a6nd : ([a6].map keyOf).Nodup := by simp
theorem a6m : missK [a6] = [⟨1, [114]⟩] := by
  have e : missR (ofR [a6] []) [a6] = [⟨1, [114]⟩] := by
    rw [missR_cons, a6r]
    have : keepK (ofR [a6] []) [⟨1, [114]⟩] = [⟨1, [114]⟩] := by decide
    rw [this]; rfl
  unfold missK
  rw [e]
  have e2 : ksort [⟨1, [114]⟩] = [(⟨1, [114]⟩ : Key)] := by simp [ksort]
  rw [e2]; rfl
theorem a6re : reachR [a6] = [a6] := by
  unfold reachR
  rw [List.filter_eq_self]
  intro r hr
  rw [reached_iff a6nd]
  rw [List.mem_singleton] at hr
  subst hr
  exact .base a6 (by simp) rfl
theorem a6se : served [a6] = 6 := by
  unfold served
  rw [a6re, if_pos]
  rw [List.any_cons, lacks, a6r]
  decide
theorem a6o : orderK [a6] = [⟨0, [108]⟩] := by decide
abbrev A6 : AV := .slice false [.agg [.int .i64 0, .str [108], .int .i64 0, .int .i64 0, .str [114], .slice false [], .slice false []]]
theorem a6mc : CallR Tryz.prog 27 [A6] (.own 2 [.agg [.int .i64 1, .str [114]]]) := by
  have h := missing_c [a6] (by decide) a6sm
  rw [a6m] at h; exact h
theorem a6sc : CallR Tryz.prog 34 [A6] (.val (.int .i64 6)) := by
  have h := served_c [a6] (by decide) a6sm a6nd
  rw [a6se] at h; exact h
theorem a6oc : CallR Tryz.prog 36 [A6] (.own 2 [.agg [.int .i64 0, .str [108]]]) := by
  have h := order_refs_c [a6] (by decide)
  rw [a6o] at h; exact h
theorem a6rc : CallR Tryz.prog 32 [A6] (.own 7 [.agg [.int .i64 0, .str [108], .int .i64 0, .int .i64 0, .str [114], .slice false [], .slice false []]]) := by
  have h := reach_c [a6] (by decide) a6sm a6nd
  rw [a6re] at h; exact h
set_option maxRecDepth 30000 in
set_option maxHeartbeats 4000000 in
theorem awake6_c : CallR Tryz.prog 25 [] (.val (.bool true)) := by
  refine CallR.go0 (T := T) Tryz.call25 Tryz.func25 rfl Tryz.ntmps25 (congrArg Array.toList Tryz.results25) fun ts hn => ?_
  (repeat' (first
 | with_reducible refine callX.by (a6mc) ?_
 | with_reducible refine callX.by (a6sc) ?_
 | with_reducible refine callX.by (a6oc) ?_
 | with_reducible refine callX.fz (a6rc) ?_
 | with_reducible refine callX.by (missing_c _ ?_ ?_) ?_
 | with_reducible refine callX.by a6mc ?_
 | with_reducible refine callX.by (served_c _ ?_ ?_ ?_) ?_
 | with_reducible refine callX.by a6sc ?_
 | with_reducible refine callX.by (order_refs_c _ ?_) ?_
 | with_reducible refine callX.by a6oc ?_
 | with_reducible refine callX.by (reach_c _ ?_ ?_ ?_) ?_
 | with_reducible refine callX.by a6rc ?_
 | with_reducible assumption
 | (with_reducible refine NxK.out hK _ ?_; clear hK K)
 | with_reducible refine NxK.out (by assumption) _ ?_
 | with_reducible refine Nx.out (by assumption) ?_
 | with_reducible refine SpecC.seqW fun K hK => ?_
 | with_reducible refine SpecC.regW T fun K hK => ?_
 | with_reducible refine SpecC.condW fun A B hA hB => ?_
 | with_reducible refine SpecC.block ?_
 | with_reducible refine SpecC.skip ?_
 | with_reducible refine SpecC.label ?_
 | with_reducible refine SpecC.exit ?_
 | with_reducible refine SpecC.goto ?_
 | with_reducible refine SpecC.ret ?_
 | ((with_reducible first | refine condK.split (fun hb => ?_) (fun hb => ?_) | refine gK.split_t (fun hb => ?_) (fun hb => ?_) | refine gK.split_f (fun hb => ?_) (fun hb => ?_)) <;> try simp only [decide_not, ilt_t, ilt_f, ile_t, ile_f, nlt_t, nlt_f, nle_t, nle_f, Bool.not_eq_true', Bool.not_eq_false', Int.ofNat_lt, Int.ofNat_le] at hb)
 | simp only [go_sem, ↓reduceIte, reduceIte, Nat.reduceEqDiff, String.reduceEq, Nat.reduceLT, Nat.reduceLeDiff, Nat.reduceAdd, Nat.reduceMul, Nat.reduceSub, Nat.reduceBEq, reduceCtorEq, *, Int.toNat_zero, Int.le_refl, List.getD_cons_zero, z01, Nat.zero_lt_one]
 | with_reducible refine fun (bn : Bool) hbn => ?_))
theorem few_len {l : List Res} (h : fewAll l = true) : l.length ≤ 65536 := by
  simp only [fewAll, Bool.and_eq_true, decide_eq_true_eq] at h
  omega
end Go.Proofs.YtbmdbkgjgjggiaaGreatDoor.Lg

namespace Go.Proofs.YtbmdbkgjgjggiaaGreatDoor.Lg
set_option maxRecDepth 100000
set_option linter.unusedVariables false
set_option linter.unusedSimpArgs false
open Go
theorem mem_missK (l : List Res) (x : Key) : x ∈ missK l ↔ (∃ r ∈ l, x ∈ refsR r) ∧ ¬ x ∈ l.map keyOf := by
  unfold missK
  rw [(kcompact_up (ksort_le _)).2, ksort_mem]
  unfold missR keepK
  rw [List.mem_flatMap]
  have hi : ∀ k, (mget (ofR l []) k).getD false = decide (k ∈ l.map keyOf) := fun k => isIn_of l k
  constructor
  · rintro ⟨r, hr, hx⟩
    obtain ⟨h1, h2⟩ := List.mem_filter.1 hx
    rw [hi] at h2
    exact ⟨⟨r, hr, h1⟩, by simpa using h2⟩
  · rintro ⟨⟨r, hr, h1⟩, h2⟩
    refine ⟨r, hr, List.mem_filter.2 ⟨h1, ?_⟩⟩
    rw [hi, decide_eq_false h2]; rfl
theorem kcT_len : ∀ l : List Key, (kcT l).length ≤ l.length - 1
  | [] => by simp [kcT]
  | [a] => by simp [kcT]
  | a :: b :: l => by
    have := kcT_len (b :: l)
    unfold kcT
    split <;> simp only [List.length_cons] at * <;> omega
theorem kcompact_len (l : List Key) : (kcompact l).length ≤ l.length := by
  unfold kcompact
  have := kcT_len l
  rw [List.length_append, List.length_take]
  omega
theorem missK_len (l : List Res) : (missK l).length ≤ 33 * l.length := by
  unfold missK
  refine Nat.le_trans (kcompact_len _) ?_
  rw [ksort_length]
  unfold missR
  generalize ofR l [] = M
  induction l with
  | nil => simp
  | cons r l ih =>
    rw [List.flatMap_cons, List.length_append, List.length_cons]
    have h1 : (keepK M (refsR r)).length ≤ (refsR r).length := List.length_filter_le _ _
    have h2 := refs_len r
    omega
theorem ref_pos (l : List Res) (k : Key) : 0 < (referrers l k).length ↔ ∃ r ∈ l, k ∈ refsR r := by
  unfold referrers
  rw [List.length_map, List.length_pos_iff_exists_mem]
  constructor
  · rintro ⟨r, hr⟩
    obtain ⟨h1, h2⟩ := List.mem_filter.1 hr
    obtain ⟨x, hx, he⟩ := List.any_eq_true.1 h2
    have : k = x := by simpa using he
    subst this
    exact ⟨r, h1, hx⟩
  · rintro ⟨r, hr, hx⟩
    exact ⟨r, List.mem_filter.2 ⟨hr, List.any_eq_true.2 ⟨k, hx, by simp⟩⟩⟩
theorem lacks_iff (l : List Res) (r : Res) : lacks (ofR l []) r = true ↔ ∃ k ∈ refsR r, ¬ k ∈ l.map keyOf := by
  unfold lacks
  rw [List.any_eq_true]
  constructor
  · rintro ⟨k, hk, h⟩
    rw [isIn_of] at h
    exact ⟨k, hk, by simpa using h⟩
  · rintro ⟨k, hk, h⟩
    refine ⟨k, hk, ?_⟩
    rw [isIn_of, decide_eq_false h]; rfl
theorem mem_without {l : List Res} {k : Key} {r : Res} : r ∈ twithout l k ↔ r ∈ l ∧ keyOf r ≠ k := by
  unfold twithout
  rw [List.mem_filter]
  simp
theorem without_keys {l : List Res} {k x : Key} (hx : x ≠ k) : x ∈ (twithout l k).map keyOf ↔ x ∈ l.map keyOf := by
  simp only [List.mem_map, mem_without]
  constructor
  · rintro ⟨r, ⟨h1, _⟩, rfl⟩; exact ⟨r, h1, rfl⟩
  · rintro ⟨r, h1, rfl⟩; exact ⟨r, ⟨h1, hx⟩, rfl⟩
theorem without_miss {l : List Res} {k : Key} (h : ¬ 0 < (referrers l k).length) : ∀ x ∈ missK (twithout l k), x ∈ missK l := by
  intro x hx
  obtain ⟨⟨r, hr, h1⟩, h2⟩ := (mem_missK _ x).1 hx
  have hr' := (mem_without.1 hr).1
  have hxk : x ≠ k := by rintro rfl; exact h ((ref_pos l _).2 ⟨r, hr', h1⟩)
  exact (mem_missK l x).2 ⟨⟨r, hr', h1⟩, fun hc => h2 ((without_keys hxk).2 hc)⟩
theorem without_nodup {l : List Res} (h : (l.map keyOf).Nodup) (k : Key) : ((twithout l k).map keyOf).Nodup := nodup_sub h List.filter_sublist
theorem without_rch {l : List Res} {k x : Key} (h : Rch (twithout l k) x) : Rch l x := by
  induction h with
  | base r hr h0 => exact .base r (mem_without.1 hr).1 h0
  | step r x hr _ hx hx' ih =>
    refine .step r x (mem_without.1 hr).1 ih hx ?_
    obtain ⟨q, hq, rfl⟩ := List.mem_map.1 hx'
    exact List.mem_map_of_mem (mem_without.1 hq).1
theorem served_ok {l : List Res} : served l = 0 ↔ (∀ r ∈ reachR l, ∀ k ∈ refsR r, k ∈ l.map keyOf) ∧ ∀ r ∈ reachR l, bare r = false := by
  unfold served
  by_cases h1 : (reachR l).any (lacks (ofR l [])) = true
  · rw [if_pos h1]
    obtain ⟨r, hr, hl⟩ := List.any_eq_true.1 h1
    obtain ⟨k, hk, hn⟩ := (lacks_iff l r).1 hl
    exact ⟨fun h => absurd h (by decide), fun h => absurd (h.1 r hr k hk) hn⟩
  · rw [if_neg h1]
    have h1' : ∀ r ∈ reachR l, ∀ k ∈ refsR r, k ∈ l.map keyOf := fun r hr k hk => by
      by_cases hn : k ∈ l.map keyOf
      · exact hn
      · exact absurd (List.any_eq_true.2 ⟨r, hr, (lacks_iff l r).2 ⟨k, hk, hn⟩⟩) h1
    by_cases h2 : (reachR l).any bare = true
    · rw [if_pos h2]
      obtain ⟨r, hr, hb⟩ := List.any_eq_true.1 h2
      exact ⟨fun h => absurd h (by decide), fun h => by rw [h.2 r hr] at hb; cases hb⟩
    · rw [if_neg h2]
      exact ⟨fun _ => ⟨h1', fun r hr => by simpa using fun hb => h2 (List.any_eq_true.2 ⟨r, hr, hb⟩)⟩, fun _ => rfl⟩
theorem without_served {l : List Res} (hnd : (l.map keyOf).Nodup) {k : Key} (h : ¬ 0 < (referrers l k).length) (hs : served l = 0) : served (twithout l k) = 0 := by
  obtain ⟨h1, h2⟩ := served_ok.1 hs
  have hsub : ∀ r ∈ reachR (twithout l k), r ∈ reachR l := fun r hr => by
    obtain ⟨a, b⟩ := (mem_reachR (without_nodup hnd k) r).1 hr
    exact (mem_reachR hnd r).2 ⟨(mem_without.1 a).1, without_rch b⟩
  refine served_ok.2 ⟨fun r hr x hx => ?_, fun r hr => h2 r (hsub r hr)⟩
  have hrl := (reachR_sub l).subset (hsub r hr)
  have hxk : x ≠ k := by rintro rfl; exact h ((ref_pos l _).2 ⟨r, hrl, hx⟩)
  exact (without_keys hxk).2 (h1 r (hsub r hr) x hx)
end Go.Proofs.YtbmdbkgjgjggiaaGreatDoor.Lg

namespace Go.Proofs.YtbmdbkgjgjggiaaGreatDoor.Lg
set_option maxRecDepth 100000
set_option linter.unusedVariables false
set_option linter.unusedSimpArgs false
open Go
set_option maxRecDepth 30000 in
set_option maxHeartbeats 8000000 in
theorem refsTaken_c (xs : List Res) (k_kind : Int) (k_name : List UInt8) (hl : Small xs.length) (hs : ∀ r ∈ xs, SmRes r) : CallR Tryz.prog 7 [.slice false (avs xs), .agg [.int .i64 k_kind, .str k_name]] (.val (.bool true)) := by
  by_cases hfa : fewAll xs = true
  rotate_left
  · have hfa : fewAll xs = false := by simpa using hfa
    refine CallR.go2 (T := T) Tryz.call7 Tryz.func7 rfl Tryz.ntmps7 (congrArg Array.toList Tryz.results7) (by decide) fun ts hn h0 h1 => ?_
    (repeat' (first
 | with_reducible refine callX.by awake6_c ?_
 | with_reducible refine callX.by (few4_c _ ?_ ?_) ?_
 | with_reducible refine callX.by (tsane_c _ ?_ ?_) ?_
 | with_reducible refine callX.by (referrers_c _ _ _ ?_ ?_) ?_
 | with_reducible refine callX.by (twithout_c _ _ _ ?_) ?_
 | with_reducible refine callX.by (missing_c _ ?_ ?_) ?_
 | with_reducible refine callX.by a6mc ?_
 | with_reducible refine callX.by (served_c _ ?_ ?_ ?_) ?_
 | with_reducible refine callX.by a6sc ?_
 | with_reducible assumption
 | (with_reducible refine NxK.out hK _ ?_; clear hK K)
 | with_reducible refine NxK.out (by assumption) _ ?_
 | with_reducible refine Nx.out (by assumption) ?_
 | with_reducible refine SpecC.seqW fun K hK => ?_
 | with_reducible refine SpecC.regW T fun K hK => ?_
 | with_reducible refine SpecC.drawW (id := 14) T mixed [([48], []), ([49], []), ([50], [51, 54, 55, 56, 57]), ([51], [50, 54, 55, 56, 57]), ([52], [54, 55, 56, 57]), ([53], [54, 55, 56, 57]), ([54], [50, 51, 52, 53, 55]), ([55], [50, 51, 52, 53, 54]), ([56], [50, 51, 52, 53]), ([57], [50, 51, 52, 53])] (by kernel_rfl) fun K hK => ?_
 | with_reducible refine SpecC.condW fun A B hA hB => ?_
 | with_reducible refine SpecC.block ?_
 | with_reducible refine SpecC.skip ?_
 | with_reducible refine SpecC.label ?_
 | with_reducible refine SpecC.exit ?_
 | with_reducible refine SpecC.goto ?_
 | with_reducible refine SpecC.ret ?_
 | ((with_reducible first | refine condK.split (fun hb => ?_) (fun hb => ?_) | refine gK.split_t (fun hb => ?_) (fun hb => ?_) | refine gK.split_f (fun hb => ?_) (fun hb => ?_)) <;> try simp only [decide_not, ilt_t, ilt_f, ile_t, ile_f, nlt_t, nlt_f, nle_t, nle_f, Bool.not_eq_true', Bool.not_eq_false', Int.ofNat_lt, Int.ofNat_le] at hb)
 | simp only [go_sem, ↓reduceIte, reduceIte, Nat.reduceEqDiff, String.reduceEq, Nat.reduceLT, Nat.reduceLeDiff, Nat.reduceAdd, Nat.reduceMul, Nat.reduceSub, Nat.reduceBEq, reduceCtorEq, *, -hs]
 | with_reducible refine fun (bn : Bool) hbn => ?_))
  have hl2 := few_len hfa
  by_cases hsn : tsane xs = 0
  rotate_left
  · refine CallR.go2 (T := T) Tryz.call7 Tryz.func7 rfl Tryz.ntmps7 (congrArg Array.toList Tryz.results7) (by decide) fun ts hn h0 h1 => ?_
    (repeat' (first
 | with_reducible refine callX.by awake6_c ?_
 | with_reducible refine callX.by (few4_c _ ?_ ?_) ?_
 | with_reducible refine callX.by (tsane_c _ ?_ ?_) ?_
 | with_reducible refine callX.by (referrers_c _ _ _ ?_ ?_) ?_
 | with_reducible refine callX.by (twithout_c _ _ _ ?_) ?_
 | with_reducible refine callX.by (missing_c _ ?_ ?_) ?_
 | with_reducible refine callX.by a6mc ?_
 | with_reducible refine callX.by (served_c _ ?_ ?_ ?_) ?_
 | with_reducible refine callX.by a6sc ?_
 | with_reducible assumption
 | (with_reducible refine NxK.out hK _ ?_; clear hK K)
 | with_reducible refine NxK.out (by assumption) _ ?_
 | with_reducible refine Nx.out (by assumption) ?_
 | with_reducible refine SpecC.seqW fun K hK => ?_
 | with_reducible refine SpecC.regW T fun K hK => ?_
 | with_reducible refine SpecC.drawW (id := 14) T mixed [([48], []), ([49], []), ([50], [51, 54, 55, 56, 57]), ([51], [50, 54, 55, 56, 57]), ([52], [54, 55, 56, 57]), ([53], [54, 55, 56, 57]), ([54], [50, 51, 52, 53, 55]), ([55], [50, 51, 52, 53, 54]), ([56], [50, 51, 52, 53]), ([57], [50, 51, 52, 53])] (by kernel_rfl) fun K hK => ?_
 | with_reducible refine SpecC.condW fun A B hA hB => ?_
 | with_reducible refine SpecC.block ?_
 | with_reducible refine SpecC.skip ?_
 | with_reducible refine SpecC.label ?_
 | with_reducible refine SpecC.exit ?_
 | with_reducible refine SpecC.goto ?_
 | with_reducible refine SpecC.ret ?_
 | ((with_reducible first | refine condK.split (fun hb => ?_) (fun hb => ?_) | refine gK.split_t (fun hb => ?_) (fun hb => ?_) | refine gK.split_f (fun hb => ?_) (fun hb => ?_)) <;> try simp only [decide_not, ilt_t, ilt_f, ile_t, ile_f, nlt_t, nlt_f, nle_t, nle_f, Bool.not_eq_true', Bool.not_eq_false', Int.ofNat_lt, Int.ofNat_le] at hb)
 | simp only [go_sem, ↓reduceIte, reduceIte, Nat.reduceEqDiff, String.reduceEq, Nat.reduceLT, Nat.reduceLeDiff, Nat.reduceAdd, Nat.reduceMul, Nat.reduceSub, Nat.reduceBEq, reduceCtorEq, *, -hs]
 | with_reducible refine fun (bn : Bool) hbn => ?_))
  by_cases hrf : 0 < (referrers xs (⟨k_kind, k_name⟩ : Key)).length
  · have hrf2 : (0 : Int) < ((referrers xs (⟨k_kind, k_name⟩ : Key)).length : Int) := by omega
    refine CallR.go2 (T := T) Tryz.call7 Tryz.func7 rfl Tryz.ntmps7 (congrArg Array.toList Tryz.results7) (by decide) fun ts hn h0 h1 => ?_
    (repeat' (first
 | with_reducible refine callX.by awake6_c ?_
 | with_reducible refine callX.by (few4_c _ ?_ ?_) ?_
 | with_reducible refine callX.by (tsane_c _ ?_ ?_) ?_
 | with_reducible refine callX.by (referrers_c _ _ _ ?_ ?_) ?_
 | with_reducible refine callX.by (twithout_c _ _ _ ?_) ?_
 | with_reducible refine callX.by (missing_c _ ?_ ?_) ?_
 | with_reducible refine callX.by a6mc ?_
 | with_reducible refine callX.by (served_c _ ?_ ?_ ?_) ?_
 | with_reducible refine callX.by a6sc ?_
 | with_reducible assumption
 | (with_reducible refine NxK.out hK _ ?_; clear hK K)
 | with_reducible refine NxK.out (by assumption) _ ?_
 | with_reducible refine Nx.out (by assumption) ?_
 | with_reducible refine SpecC.seqW fun K hK => ?_
 | with_reducible refine SpecC.regW T fun K hK => ?_
 | with_reducible refine SpecC.drawW (id := 14) T mixed [([48], []), ([49], []), ([50], [51, 54, 55, 56, 57]), ([51], [50, 54, 55, 56, 57]), ([52], [54, 55, 56, 57]), ([53], [54, 55, 56, 57]), ([54], [50, 51, 52, 53, 55]), ([55], [50, 51, 52, 53, 54]), ([56], [50, 51, 52, 53]), ([57], [50, 51, 52, 53])] (by kernel_rfl) fun K hK => ?_
 | with_reducible refine SpecC.condW fun A B hA hB => ?_
 | with_reducible refine SpecC.block ?_
 | with_reducible refine SpecC.skip ?_
 | with_reducible refine SpecC.label ?_
 | with_reducible refine SpecC.exit ?_
 | with_reducible refine SpecC.goto ?_
 | with_reducible refine SpecC.ret ?_
 | ((with_reducible first | refine condK.split (fun hb => ?_) (fun hb => ?_) | refine gK.split_t (fun hb => ?_) (fun hb => ?_) | refine gK.split_f (fun hb => ?_) (fun hb => ?_)) <;> try simp only [decide_not, ilt_t, ilt_f, ile_t, ile_f, nlt_t, nlt_f, nle_t, nle_f, Bool.not_eq_true', Bool.not_eq_false', Int.ofNat_lt, Int.ofNat_le] at hb)
 | simp only [go_sem, ↓reduceIte, reduceIte, Nat.reduceEqDiff, String.reduceEq, Nat.reduceLT, Nat.reduceLeDiff, Nat.reduceAdd, Nat.reduceMul, Nat.reduceSub, Nat.reduceBEq, reduceCtorEq, *, -hs]
 | with_reducible refine fun (bn : Bool) hbn => ?_))
  have hrf2 : ¬ (0 : Int) < ((referrers xs (⟨k_kind, k_name⟩ : Key)).length : Int) := by omega
  have hc := conf_of hsn
  have hnd := hc.nodup
  have hws : ∀ r ∈ twithout xs (⟨k_kind, k_name⟩ : Key), SmRes r := fun r hr => hs r (mem_without.1 hr).1
  have hwl : (twithout xs (⟨k_kind, k_name⟩ : Key)).length ≤ xs.length := List.length_filter_le _ _
  have hwt := twithout_c xs k_kind k_name hl
  have hmx := missing_c xs hl2 hs
  have hmy := missing_c (twithout xs (⟨k_kind, k_name⟩ : Key)) (by omega) hws
  have hsx := served_c xs hl2 hs hnd
  have hsy := served_c (twithout xs (⟨k_kind, k_name⟩ : Key)) (by omega) hws (without_nodup hnd _)
  have hsub := without_miss hrf
  have hsv := without_served hnd hrf
  have hxl : Small (missK xs).length := by have := missK_len xs; unfold Small; omega
  have hyl : Small (missK (twithout xs (⟨k_kind, k_name⟩ : Key))).length := by have := missK_len (twithout xs (⟨k_kind, k_name⟩ : Key)); unfold Small; omega
  have hwl2 : (twithout xs (⟨k_kind, k_name⟩ : Key)).length ≤ 65536 := by omega
  have hwl3 := small_le hwl2
  clear hc hnd hwl
  generalize missK xs = X at *
  generalize missK (twithout xs (⟨k_kind, k_name⟩ : Key)) = Y at *
  generalize twithout xs (⟨k_kind, k_name⟩ : Key) = M at *
  generalize served M = vM at *
  refine CallR.go2 (T := T) Tryz.call7 Tryz.func7 rfl Tryz.ntmps7 (congrArg Array.toList Tryz.results7) (by decide) fun ts hn h0 h1 => ?_
  (repeat' (first
 | with_reducible refine callX.by (hwt) ?_
 | with_reducible refine callX.by (hmx) ?_
 | with_reducible refine callX.by (hmy) ?_
 | with_reducible refine callX.by awake6_c ?_
 | with_reducible refine callX.by (few4_c _ ?_ ?_) ?_
 | with_reducible refine callX.by (tsane_c _ ?_ ?_) ?_
 | with_reducible refine callX.by (referrers_c _ _ _ ?_ ?_) ?_
 | with_reducible refine callX.by (twithout_c _ _ _ ?_) ?_
 | with_reducible refine callX.by (missing_c _ ?_ ?_) ?_
 | with_reducible refine callX.by a6mc ?_
 | with_reducible refine callX.by (served_c _ ?_ ?_ ?_) ?_
 | with_reducible refine callX.by a6sc ?_
 | with_reducible assumption
 | (with_reducible refine NxK.out hK _ ?_; clear hK K)
 | with_reducible refine NxK.out (by assumption) _ ?_
 | with_reducible refine Nx.out (by assumption) ?_
 | with_reducible refine SpecC.seqW fun K hK => ?_
 | with_reducible refine SpecC.regW T fun K hK => ?_
 | with_reducible refine SpecC.drawW (id := 14) T mixed [([48], []), ([49], []), ([50], [51, 54, 55, 56, 57]), ([51], [50, 54, 55, 56, 57]), ([52], [54, 55, 56, 57]), ([53], [54, 55, 56, 57]), ([54], [50, 51, 52, 53, 55]), ([55], [50, 51, 52, 53, 54]), ([56], [50, 51, 52, 53]), ([57], [50, 51, 52, 53])] (by kernel_rfl) fun K hK => ?_
 | with_reducible refine SpecC.condW fun A B hA hB => ?_
 | with_reducible refine SpecC.block ?_
 | with_reducible refine SpecC.skip ?_
 | with_reducible refine SpecC.label ?_
 | with_reducible refine SpecC.exit ?_
 | with_reducible refine SpecC.goto ?_
 | with_reducible refine SpecC.ret ?_
 | ((with_reducible first | refine condK.split (fun hb => ?_) (fun hb => ?_) | refine gK.split_t (fun hb => ?_) (fun hb => ?_) | refine gK.split_f (fun hb => ?_) (fun hb => ?_)) <;> try simp only [decide_not, ilt_t, ilt_f, ile_t, ile_f, nlt_t, nlt_f, nle_t, nle_f, Bool.not_eq_true', Bool.not_eq_false', Int.ofNat_lt, Int.ofNat_le] at hb)
 | simp only [go_sem, ↓reduceIte, reduceIte, Nat.reduceEqDiff, String.reduceEq, Nat.reduceLT, Nat.reduceLeDiff, Nat.reduceAdd, Nat.reduceMul, Nat.reduceSub, Nat.reduceBEq, reduceCtorEq, *, -hs, -hws, -hsub, -hwt, -hmx, -hmy, -hsx, -hsy]
 | with_reducible refine fun (bn : Bool) hbn => ?_))
  refine SpecC.ent (Ent.frz 6 (d := 31) (g := ts.gen 31 + 1) (len := M.length) (sz := 7) (xs := avs M) (by simp only [go_sem, ↓reduceIte, reduceIte, Nat.reduceEqDiff, String.reduceEq, Nat.reduceLT, Nat.reduceLeDiff, Nat.reduceAdd, Nat.reduceMul, Nat.reduceSub, Nat.reduceBEq, reduceCtorEq, *, -hs, -hws, -hsub, -hwt, -hmx, -hmy, -hsx, -hsy]; done) (by simp only [go_sem, ↓reduceIte, reduceIte, Nat.reduceEqDiff, String.reduceEq, Nat.reduceLT, Nat.reduceLeDiff, Nat.reduceAdd, Nat.reduceMul, Nat.reduceSub, Nat.reduceBEq, reduceCtorEq, *, -hs, -hws, -hsub, -hwt, -hmx, -hmy, -hsx, -hsy]; done) (by simp only [go_sem, ↓reduceIte, reduceIte, Nat.reduceEqDiff, String.reduceEq, Nat.reduceLT, Nat.reduceLeDiff, Nat.reduceAdd, Nat.reduceMul, Nat.reduceSub, Nat.reduceBEq, reduceCtorEq, *, -hs, -hws, -hsub, -hwt, -hmx, -hmy, -hsx, -hsy]; done) (by simp only [go_sem, ↓reduceIte, reduceIte, Nat.reduceEqDiff, String.reduceEq, Nat.reduceLT, Nat.reduceLeDiff, Nat.reduceAdd, Nat.reduceMul, Nat.reduceSub, Nat.reduceBEq, reduceCtorEq, *, -hs, -hws, -hsub, -hwt, -hmx, -hmy, -hsx, -hsy]; done)) ?_
  refine SpecC.ent (Ent.frz 7 (d := 33) (g := ts.gen 33 + 1) (len := X.length) (sz := 2) (xs := avs X) (by simp only [go_sem, ↓reduceIte, reduceIte, Nat.reduceEqDiff, String.reduceEq, Nat.reduceLT, Nat.reduceLeDiff, Nat.reduceAdd, Nat.reduceMul, Nat.reduceSub, Nat.reduceBEq, reduceCtorEq, *, -hs, -hws, -hsub, -hwt, -hmx, -hmy, -hsx, -hsy]; done) (by simp only [go_sem, ↓reduceIte, reduceIte, Nat.reduceEqDiff, String.reduceEq, Nat.reduceLT, Nat.reduceLeDiff, Nat.reduceAdd, Nat.reduceMul, Nat.reduceSub, Nat.reduceBEq, reduceCtorEq, *, -hs, -hws, -hsub, -hwt, -hmx, -hmy, -hsx, -hsy]; done) (by simp only [go_sem, ↓reduceIte, reduceIte, Nat.reduceEqDiff, String.reduceEq, Nat.reduceLT, Nat.reduceLeDiff, Nat.reduceAdd, Nat.reduceMul, Nat.reduceSub, Nat.reduceBEq, reduceCtorEq, *, -hs, -hws, -hsub, -hwt, -hmx, -hmy, -hsx, -hsy]; done) (by simp only [go_sem, ↓reduceIte, reduceIte, Nat.reduceEqDiff, String.reduceEq, Nat.reduceLT, Nat.reduceLeDiff, Nat.reduceAdd, Nat.reduceMul, Nat.reduceSub, Nat.reduceBEq, reduceCtorEq, *, -hs, -hws, -hsub, -hwt, -hmx, -hmy, -hsx, -hsy]; done)) ?_
  refine SpecC.ent (Ent.frz 8 (d := 35) (g := ts.gen 35 + 1) (len := Y.length) (sz := 2) (xs := avs Y) (by simp only [go_sem, ↓reduceIte, reduceIte, Nat.reduceEqDiff, String.reduceEq, Nat.reduceLT, Nat.reduceLeDiff, Nat.reduceAdd, Nat.reduceMul, Nat.reduceSub, Nat.reduceBEq, reduceCtorEq, *, -hs, -hws, -hsub, -hwt, -hmx, -hmy, -hsx, -hsy]; done) (by simp only [go_sem, ↓reduceIte, reduceIte, Nat.reduceEqDiff, String.reduceEq, Nat.reduceLT, Nat.reduceLeDiff, Nat.reduceAdd, Nat.reduceMul, Nat.reduceSub, Nat.reduceBEq, reduceCtorEq, *, -hs, -hws, -hsub, -hwt, -hmx, -hmy, -hsx, -hsy]; done) (by simp only [go_sem, ↓reduceIte, reduceIte, Nat.reduceEqDiff, String.reduceEq, Nat.reduceLT, Nat.reduceLeDiff, Nat.reduceAdd, Nat.reduceMul, Nat.reduceSub, Nat.reduceBEq, reduceCtorEq, *, -hs, -hws, -hsub, -hwt, -hmx, -hmy, -hsx, -hsy]; done) (by simp only [go_sem, ↓reduceIte, reduceIte, Nat.reduceEqDiff, String.reduceEq, Nat.reduceLT, Nat.reduceLeDiff, Nat.reduceAdd, Nat.reduceMul, Nat.reduceSub, Nat.reduceBEq, reduceCtorEq, *, -hs, -hws, -hsub, -hwt, -hmx, -hmy, -hsx, -hsy]; done)) ?_
  clear hwt hmx hmy
  refine SpecC.loopF [0, 5, 6, 7, 8] (fun m ts' => ∃ (i : Nat), m = Y.length - i ∧ i ≤ Y.length ∧ ts'.tmp 9 = .int .i64 i) Y.length ?_ ?_
  · refine ⟨0, rfl, Nat.zero_le _, ?_⟩
    simp only [go_sem, ↓reduceIte, reduceIte, Nat.reduceEqDiff, String.reduceEq, Nat.reduceLT, Nat.reduceLeDiff, Nat.reduceAdd, Nat.reduceMul, Nat.reduceSub, Nat.reduceBEq, reduceCtorEq, *, -hs, -hws, -hsub, -hsx, -hsy]
  · rintro m A hM ts' hk ⟨i, hm, f1, s1⟩
    simp only [go_sem, ↓reduceIte, reduceIte, Nat.reduceEqDiff, String.reduceEq, Nat.reduceLT, Nat.reduceLeDiff, Nat.reduceAdd, Nat.reduceMul, Nat.reduceSub, Nat.reduceBEq, reduceCtorEq, *] at hk
    by_cases hlt : i < Y.length
    · (repeat' (first
 | with_reducible refine callX.by awake6_c ?_
 | with_reducible refine callX.by (few4_c _ ?_ ?_) ?_
 | with_reducible refine callX.by (tsane_c _ ?_ ?_) ?_
 | with_reducible refine callX.by (referrers_c _ _ _ ?_ ?_) ?_
 | with_reducible refine callX.by (twithout_c _ _ _ ?_) ?_
 | with_reducible refine callX.by (missing_c _ ?_ ?_) ?_
 | with_reducible refine callX.by a6mc ?_
 | with_reducible refine callX.by (served_c _ ?_ ?_ ?_) ?_
 | with_reducible refine callX.by a6sc ?_
 | with_reducible assumption
 | (with_reducible refine NxK.out hK _ ?_; clear hK K)
 | with_reducible refine NxK.out (by assumption) _ ?_
 | with_reducible refine Nx.out (by assumption) ?_
 | with_reducible refine SpecC.seqW fun K hK => ?_
 | with_reducible refine SpecC.regW T fun K hK => ?_
 | with_reducible refine SpecC.drawW (id := 14) T mixed [([48], []), ([49], []), ([50], [51, 54, 55, 56, 57]), ([51], [50, 54, 55, 56, 57]), ([52], [54, 55, 56, 57]), ([53], [54, 55, 56, 57]), ([54], [50, 51, 52, 53, 55]), ([55], [50, 51, 52, 53, 54]), ([56], [50, 51, 52, 53]), ([57], [50, 51, 52, 53])] (by kernel_rfl) fun K hK => ?_
 | with_reducible refine SpecC.condW fun A B hA hB => ?_
 | with_reducible refine SpecC.block ?_
 | with_reducible refine SpecC.skip ?_
 | with_reducible refine SpecC.label ?_
 | with_reducible refine SpecC.exit ?_
 | with_reducible refine SpecC.goto ?_
 | with_reducible refine SpecC.ret ?_
 | ((with_reducible first | refine condK.split (fun hb => ?_) (fun hb => ?_) | refine gK.split_t (fun hb => ?_) (fun hb => ?_) | refine gK.split_f (fun hb => ?_) (fun hb => ?_)) <;> try simp only [decide_not, ilt_t, ilt_f, ile_t, ile_f, nlt_t, nlt_f, nle_t, nle_f, Bool.not_eq_true', Bool.not_eq_false', Int.ofNat_lt, Int.ofNat_le] at hb)
 | simp only [go_sem, ↓reduceIte, reduceIte, Nat.reduceEqDiff, String.reduceEq, Nat.reduceLT, Nat.reduceLeDiff, Nat.reduceAdd, Nat.reduceMul, Nat.reduceSub, Nat.reduceBEq, reduceCtorEq, *, -hs, -hws, -hsub, -hsx, -hsy]
 | with_reducible refine fun (bn : Bool) hbn => ?_))
      refine SpecC.loopF [0, 5, 6, 7, 8, 9] (fun m ts' => ∃ (j : Nat), ∃ (b : Bool), m = X.length - j ∧ j ≤ X.length ∧ b = decide (Y[i] ∈ X.take j) ∧ ts'.tmp 10 = .bool b ∧ ts'.tmp 11 = .int .i64 j) X.length ?_ ?_
      · refine ⟨0, false, rfl, Nat.zero_le _, by simp, ?_⟩
        simp only [go_sem, ↓reduceIte, reduceIte, Nat.reduceEqDiff, String.reduceEq, Nat.reduceLT, Nat.reduceLeDiff, Nat.reduceAdd, Nat.reduceMul, Nat.reduceSub, Nat.reduceBEq, reduceCtorEq, *, -hs, -hws, -hsub, -hsx, -hsy]
      · revert hM
        intro hM1
        rintro m A hM ts' hk ⟨j, b, hm, f1, f2, s1, s2⟩
        simp only [go_sem, ↓reduceIte, reduceIte, Nat.reduceEqDiff, String.reduceEq, Nat.reduceLT, Nat.reduceLeDiff, Nat.reduceAdd, Nat.reduceMul, Nat.reduceSub, Nat.reduceBEq, reduceCtorEq, *] at hk
        by_cases hjt : j < X.length
        · have hns : ∀ y, (y ∈ X.take (j + 1)) = (y ∈ X.take j ∨ y = X[j]) := fun y => by rw [List.take_succ_eq_append_getElem hjt, List.mem_append, List.mem_singleton]
          cases b
          · by_cases he : X[j] = Y[i]
            · have he2 := he
              rw [ext_Key] at he2
              (repeat' (first
 | with_reducible refine callX.by awake6_c ?_
 | with_reducible refine callX.by (few4_c _ ?_ ?_) ?_
 | with_reducible refine callX.by (tsane_c _ ?_ ?_) ?_
 | with_reducible refine callX.by (referrers_c _ _ _ ?_ ?_) ?_
 | with_reducible refine callX.by (twithout_c _ _ _ ?_) ?_
 | with_reducible refine callX.by (missing_c _ ?_ ?_) ?_
 | with_reducible refine callX.by a6mc ?_
 | with_reducible refine callX.by (served_c _ ?_ ?_ ?_) ?_
 | with_reducible refine callX.by a6sc ?_
 | with_reducible assumption
 | (with_reducible refine NxK.out hK _ ?_; clear hK K)
 | with_reducible refine NxK.out (by assumption) _ ?_
 | with_reducible refine Nx.out (by assumption) ?_
 | with_reducible refine SpecC.seqW fun K hK => ?_
 | with_reducible refine SpecC.regW T fun K hK => ?_
 | with_reducible refine SpecC.drawW (id := 14) T mixed [([48], []), ([49], []), ([50], [51, 54, 55, 56, 57]), ([51], [50, 54, 55, 56, 57]), ([52], [54, 55, 56, 57]), ([53], [54, 55, 56, 57]), ([54], [50, 51, 52, 53, 55]), ([55], [50, 51, 52, 53, 54]), ([56], [50, 51, 52, 53]), ([57], [50, 51, 52, 53])] (by kernel_rfl) fun K hK => ?_
 | with_reducible refine SpecC.condW fun A B hA hB => ?_
 | with_reducible refine SpecC.block ?_
 | with_reducible refine SpecC.skip ?_
 | with_reducible refine SpecC.label ?_
 | with_reducible refine SpecC.exit ?_
 | with_reducible refine SpecC.goto ?_
 | with_reducible refine SpecC.ret ?_
 | ((with_reducible first | refine condK.split (fun hb => ?_) (fun hb => ?_) | refine gK.split_t (fun hb => ?_) (fun hb => ?_) | refine gK.split_f (fun hb => ?_) (fun hb => ?_)) <;> try simp only [decide_not, ilt_t, ilt_f, ile_t, ile_f, nlt_t, nlt_f, nle_t, nle_f, Bool.not_eq_true', Bool.not_eq_false', Int.ofNat_lt, Int.ofNat_le] at hb)
 | simp only [go_sem, ↓reduceIte, reduceIte, Nat.reduceEqDiff, String.reduceEq, Nat.reduceLT, Nat.reduceLeDiff, Nat.reduceAdd, Nat.reduceMul, Nat.reduceSub, Nat.reduceBEq, reduceCtorEq, *, -hs, -hws, -hsub, -hsx, -hsy, -f2, -hns, -he]
 | with_reducible refine fun (bn : Bool) hbn => ?_))
              all_goals ((repeat clear hK); (repeat clear hA); (repeat clear hB))
              (refine hM.on (X.length - (j + 1)) (by omega) (by simp only [go_sem, ↓reduceIte, reduceIte, Nat.reduceEqDiff, String.reduceEq, Nat.reduceLT, Nat.reduceLeDiff, Nat.reduceAdd, Nat.reduceMul, Nat.reduceSub, Nat.reduceBEq, reduceCtorEq, *, w64_nat hjt hxl, -hs, -hws, -hsub, -hsx, -hsy, -f2, -hns, -he]) ⟨j + 1, true, rfl, by omega, by exact (decide_eq_true (by rw [hns]; exact .inr he.symm)).symm, ?_⟩; simp only [go_sem, ↓reduceIte, reduceIte, Nat.reduceEqDiff, String.reduceEq, Nat.reduceLT, Nat.reduceLeDiff, Nat.reduceAdd, Nat.reduceMul, Nat.reduceSub, Nat.reduceBEq, reduceCtorEq, *, w64_nat hjt hxl, -hs, -hws, -hsub, -hsx, -hsy, -f2, -hns, -he]; done)
            · have he2 := he
              rw [ext_Key] at he2
              have he3 : (decide (X[j].kind = Y[i].kind) && decide (X[j].name = Y[i].name)) = false := by rw [Bool.eq_false_iff]; intro h7; exact he2 (by simpa using h7)
              (repeat' (first
 | with_reducible refine callX.by awake6_c ?_
 | with_reducible refine callX.by (few4_c _ ?_ ?_) ?_
 | with_reducible refine callX.by (tsane_c _ ?_ ?_) ?_
 | with_reducible refine callX.by (referrers_c _ _ _ ?_ ?_) ?_
 | with_reducible refine callX.by (twithout_c _ _ _ ?_) ?_
 | with_reducible refine callX.by (missing_c _ ?_ ?_) ?_
 | with_reducible refine callX.by a6mc ?_
 | with_reducible refine callX.by (served_c _ ?_ ?_ ?_) ?_
 | with_reducible refine callX.by a6sc ?_
 | with_reducible assumption
 | (with_reducible refine NxK.out hK _ ?_; clear hK K)
 | with_reducible refine NxK.out (by assumption) _ ?_
 | with_reducible refine Nx.out (by assumption) ?_
 | with_reducible refine SpecC.seqW fun K hK => ?_
 | with_reducible refine SpecC.regW T fun K hK => ?_
 | with_reducible refine SpecC.drawW (id := 14) T mixed [([48], []), ([49], []), ([50], [51, 54, 55, 56, 57]), ([51], [50, 54, 55, 56, 57]), ([52], [54, 55, 56, 57]), ([53], [54, 55, 56, 57]), ([54], [50, 51, 52, 53, 55]), ([55], [50, 51, 52, 53, 54]), ([56], [50, 51, 52, 53]), ([57], [50, 51, 52, 53])] (by kernel_rfl) fun K hK => ?_
 | with_reducible refine SpecC.condW fun A B hA hB => ?_
 | with_reducible refine SpecC.block ?_
 | with_reducible refine SpecC.skip ?_
 | with_reducible refine SpecC.label ?_
 | with_reducible refine SpecC.exit ?_
 | with_reducible refine SpecC.goto ?_
 | with_reducible refine SpecC.ret ?_
 | ((with_reducible first | refine condK.split (fun hb => ?_) (fun hb => ?_) | refine gK.split_t (fun hb => ?_) (fun hb => ?_) | refine gK.split_f (fun hb => ?_) (fun hb => ?_)) <;> try simp only [decide_not, ilt_t, ilt_f, ile_t, ile_f, nlt_t, nlt_f, nle_t, nle_f, Bool.not_eq_true', Bool.not_eq_false', Int.ofNat_lt, Int.ofNat_le] at hb)
 | simp only [go_sem, ↓reduceIte, reduceIte, Nat.reduceEqDiff, String.reduceEq, Nat.reduceLT, Nat.reduceLeDiff, Nat.reduceAdd, Nat.reduceMul, Nat.reduceSub, Nat.reduceBEq, reduceCtorEq, *, -hs, -hws, -hsub, -hsx, -hsy, -f2, -hns, -he]
 | with_reducible refine fun (bn : Bool) hbn => ?_))
              all_goals ((repeat clear hK); (repeat clear hA); (repeat clear hB))
              (refine hM.on (X.length - (j + 1)) (by omega) (by simp only [go_sem, ↓reduceIte, reduceIte, Nat.reduceEqDiff, String.reduceEq, Nat.reduceLT, Nat.reduceLeDiff, Nat.reduceAdd, Nat.reduceMul, Nat.reduceSub, Nat.reduceBEq, reduceCtorEq, *, w64_nat hjt hxl, -hs, -hws, -hsub, -hsx, -hsy, -f2, -hns, -he]) ⟨j + 1, false, rfl, by omega, by have h5 := of_decide_eq_false f2.symm; exact (decide_eq_false (by rw [hns]; rintro (h6 | h6); exact h5 h6; exact he h6.symm)).symm, ?_⟩; simp only [go_sem, ↓reduceIte, reduceIte, Nat.reduceEqDiff, String.reduceEq, Nat.reduceLT, Nat.reduceLeDiff, Nat.reduceAdd, Nat.reduceMul, Nat.reduceSub, Nat.reduceBEq, reduceCtorEq, *, w64_nat hjt hxl, -hs, -hws, -hsub, -hsx, -hsy, -f2, -hns, -he]; done)
          · (repeat' (first
 | with_reducible refine callX.by awake6_c ?_
 | with_reducible refine callX.by (few4_c _ ?_ ?_) ?_
 | with_reducible refine callX.by (tsane_c _ ?_ ?_) ?_
 | with_reducible refine callX.by (referrers_c _ _ _ ?_ ?_) ?_
 | with_reducible refine callX.by (twithout_c _ _ _ ?_) ?_
 | with_reducible refine callX.by (missing_c _ ?_ ?_) ?_
 | with_reducible refine callX.by a6mc ?_
 | with_reducible refine callX.by (served_c _ ?_ ?_ ?_) ?_
 | with_reducible refine callX.by a6sc ?_
 | with_reducible assumption
 | (with_reducible refine NxK.out hK _ ?_; clear hK K)
 | with_reducible refine NxK.out (by assumption) _ ?_
 | with_reducible refine Nx.out (by assumption) ?_
 | with_reducible refine SpecC.seqW fun K hK => ?_
 | with_reducible refine SpecC.regW T fun K hK => ?_
 | with_reducible refine SpecC.drawW (id := 14) T mixed [([48], []), ([49], []), ([50], [51, 54, 55, 56, 57]), ([51], [50, 54, 55, 56, 57]), ([52], [54, 55, 56, 57]), ([53], [54, 55, 56, 57]), ([54], [50, 51, 52, 53, 55]), ([55], [50, 51, 52, 53, 54]), ([56], [50, 51, 52, 53]), ([57], [50, 51, 52, 53])] (by kernel_rfl) fun K hK => ?_
 | with_reducible refine SpecC.condW fun A B hA hB => ?_
 | with_reducible refine SpecC.block ?_
 | with_reducible refine SpecC.skip ?_
 | with_reducible refine SpecC.label ?_
 | with_reducible refine SpecC.exit ?_
 | with_reducible refine SpecC.goto ?_
 | with_reducible refine SpecC.ret ?_
 | ((with_reducible first | refine condK.split (fun hb => ?_) (fun hb => ?_) | refine gK.split_t (fun hb => ?_) (fun hb => ?_) | refine gK.split_f (fun hb => ?_) (fun hb => ?_)) <;> try simp only [decide_not, ilt_t, ilt_f, ile_t, ile_f, nlt_t, nlt_f, nle_t, nle_f, Bool.not_eq_true', Bool.not_eq_false', Int.ofNat_lt, Int.ofNat_le] at hb)
 | simp only [go_sem, ↓reduceIte, reduceIte, Nat.reduceEqDiff, String.reduceEq, Nat.reduceLT, Nat.reduceLeDiff, Nat.reduceAdd, Nat.reduceMul, Nat.reduceSub, Nat.reduceBEq, reduceCtorEq, *, -hs, -hws, -hsub, -hsx, -hsy, -f2, -hns]
 | with_reducible refine fun (bn : Bool) hbn => ?_))
            all_goals ((repeat clear hK); (repeat clear hA); (repeat clear hB))
            (refine hM.on (X.length - (j + 1)) (by omega) (by simp only [go_sem, ↓reduceIte, reduceIte, Nat.reduceEqDiff, String.reduceEq, Nat.reduceLT, Nat.reduceLeDiff, Nat.reduceAdd, Nat.reduceMul, Nat.reduceSub, Nat.reduceBEq, reduceCtorEq, *, w64_nat hjt hxl, -hs, -hws, -hsub, -hsx, -hsy, -f2, -hns]) ⟨j + 1, true, rfl, by omega, by have h5 := of_decide_eq_true f2.symm; exact (decide_eq_true (by rw [hns]; exact .inl h5)).symm, ?_⟩; simp only [go_sem, ↓reduceIte, reduceIte, Nat.reduceEqDiff, String.reduceEq, Nat.reduceLT, Nat.reduceLeDiff, Nat.reduceAdd, Nat.reduceMul, Nat.reduceSub, Nat.reduceBEq, reduceCtorEq, *, w64_nat hjt hxl, -hs, -hws, -hsub, -hsx, -hsy, -f2, -hns]; done)
        · have hb1 : b = true := by rw [f2, List.take_of_length_le (by omega)]; exact decide_eq_true (hsub _ (List.getElem_mem hlt))
          subst hb1
          clear f2
          (repeat' (first
 | with_reducible refine callX.by awake6_c ?_
 | with_reducible refine callX.by (few4_c _ ?_ ?_) ?_
 | with_reducible refine callX.by (tsane_c _ ?_ ?_) ?_
 | with_reducible refine callX.by (referrers_c _ _ _ ?_ ?_) ?_
 | with_reducible refine callX.by (twithout_c _ _ _ ?_) ?_
 | with_reducible refine callX.by (missing_c _ ?_ ?_) ?_
 | with_reducible refine callX.by a6mc ?_
 | with_reducible refine callX.by (served_c _ ?_ ?_ ?_) ?_
 | with_reducible refine callX.by a6sc ?_
 | with_reducible assumption
 | (with_reducible refine NxK.out hK _ ?_; clear hK K)
 | with_reducible refine NxK.out (by assumption) _ ?_
 | with_reducible refine Nx.out (by assumption) ?_
 | with_reducible refine SpecC.seqW fun K hK => ?_
 | with_reducible refine SpecC.regW T fun K hK => ?_
 | with_reducible refine SpecC.drawW (id := 14) T mixed [([48], []), ([49], []), ([50], [51, 54, 55, 56, 57]), ([51], [50, 54, 55, 56, 57]), ([52], [54, 55, 56, 57]), ([53], [54, 55, 56, 57]), ([54], [50, 51, 52, 53, 55]), ([55], [50, 51, 52, 53, 54]), ([56], [50, 51, 52, 53]), ([57], [50, 51, 52, 53])] (by kernel_rfl) fun K hK => ?_
 | with_reducible refine SpecC.condW fun A B hA hB => ?_
 | with_reducible refine SpecC.block ?_
 | with_reducible refine SpecC.skip ?_
 | with_reducible refine SpecC.label ?_
 | with_reducible refine SpecC.exit ?_
 | with_reducible refine SpecC.goto ?_
 | with_reducible refine SpecC.ret ?_
 | ((with_reducible first | refine condK.split (fun hb => ?_) (fun hb => ?_) | refine gK.split_t (fun hb => ?_) (fun hb => ?_) | refine gK.split_f (fun hb => ?_) (fun hb => ?_)) <;> try simp only [decide_not, ilt_t, ilt_f, ile_t, ile_f, nlt_t, nlt_f, nle_t, nle_f, Bool.not_eq_true', Bool.not_eq_false', Int.ofNat_lt, Int.ofNat_le] at hb)
 | simp only [go_sem, ↓reduceIte, reduceIte, Nat.reduceEqDiff, String.reduceEq, Nat.reduceLT, Nat.reduceLeDiff, Nat.reduceAdd, Nat.reduceMul, Nat.reduceSub, Nat.reduceBEq, reduceCtorEq, *, -hs, -hws, -hsub, -hsx, -hsy]
 | with_reducible refine fun (bn : Bool) hbn => ?_))
          all_goals ((repeat clear hK); (repeat clear hA); (repeat clear hB))
          all_goals (clear hM; revert hM1; intro hM)
          (refine hM.on (Y.length - (i + 1)) (by omega) (by simp only [go_sem, ↓reduceIte, reduceIte, Nat.reduceEqDiff, String.reduceEq, Nat.reduceLT, Nat.reduceLeDiff, Nat.reduceAdd, Nat.reduceMul, Nat.reduceSub, Nat.reduceBEq, reduceCtorEq, *, w64_nat hlt hyl, -hs, -hws, -hsub, -hsx, -hsy]) ⟨i + 1, rfl, by omega, ?_⟩; simp only [go_sem, ↓reduceIte, reduceIte, Nat.reduceEqDiff, String.reduceEq, Nat.reduceLT, Nat.reduceLeDiff, Nat.reduceAdd, Nat.reduceMul, Nat.reduceSub, Nat.reduceBEq, reduceCtorEq, *, w64_nat hlt hyl, -hs, -hws, -hsub, -hsx, -hsy]; done)
    · (repeat' (first
 | with_reducible refine callX.by (hsx) ?_
 | with_reducible refine callX.by (hsy) ?_
 | with_reducible refine callX.by awake6_c ?_
 | with_reducible refine callX.by (few4_c _ ?_ ?_) ?_
 | with_reducible refine callX.by (tsane_c _ ?_ ?_) ?_
 | with_reducible refine callX.by (referrers_c _ _ _ ?_ ?_) ?_
 | with_reducible refine callX.by (twithout_c _ _ _ ?_) ?_
 | with_reducible refine callX.by (missing_c _ ?_ ?_) ?_
 | with_reducible refine callX.by a6mc ?_
 | with_reducible refine callX.by (served_c _ ?_ ?_ ?_) ?_
 | with_reducible refine callX.by a6sc ?_
 | with_reducible assumption
 | (with_reducible refine NxK.out hK _ ?_; clear hK K)
 | with_reducible refine NxK.out (by assumption) _ ?_
 | with_reducible refine Nx.out (by assumption) ?_
 | with_reducible refine SpecC.seqW fun K hK => ?_
 | with_reducible refine SpecC.regW T fun K hK => ?_
 | with_reducible refine SpecC.drawW (id := 14) T mixed [([48], []), ([49], []), ([50], [51, 54, 55, 56, 57]), ([51], [50, 54, 55, 56, 57]), ([52], [54, 55, 56, 57]), ([53], [54, 55, 56, 57]), ([54], [50, 51, 52, 53, 55]), ([55], [50, 51, 52, 53, 54]), ([56], [50, 51, 52, 53]), ([57], [50, 51, 52, 53])] (by kernel_rfl) fun K hK => ?_
 | with_reducible refine SpecC.condW fun A B hA hB => ?_
 | with_reducible refine SpecC.block ?_
 | with_reducible refine SpecC.skip ?_
 | with_reducible refine SpecC.label ?_
 | with_reducible refine SpecC.exit ?_
 | with_reducible refine SpecC.goto ?_
 | with_reducible refine SpecC.ret ?_
 | ((with_reducible first | refine condK.split (fun hb => ?_) (fun hb => ?_) | refine gK.split_t (fun hb => ?_) (fun hb => ?_) | refine gK.split_f (fun hb => ?_) (fun hb => ?_)) <;> try simp only [decide_not, ilt_t, ilt_f, ile_t, ile_f, nlt_t, nlt_f, nle_t, nle_f, Bool.not_eq_true', Bool.not_eq_false', Int.ofNat_lt, Int.ofNat_le] at hb)
 | simp only [go_sem, ↓reduceIte, reduceIte, Nat.reduceEqDiff, String.reduceEq, Nat.reduceLT, Nat.reduceLeDiff, Nat.reduceAdd, Nat.reduceMul, Nat.reduceSub, Nat.reduceBEq, reduceCtorEq, *, -hs, -hws, -hsub, -hsx, -hsy]
 | with_reducible refine fun (bn : Bool) hbn => ?_))
      all_goals ((repeat clear hK); (repeat clear hA); (repeat clear hB))
      all_goals (clear hM; first | omega | (have := hsv; simp_all; done) | (have := hsv; simp_all; omega))
end Go.Proofs.YtbmdbkgjgjggiaaGreatDoor.Lg
