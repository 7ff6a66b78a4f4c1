/- Parts of the proof, one behind the other. -/
import Derived.Test.YtdhbkffionmmaaaGreatDoorG17
namespace Go.Proofs.YtdhbkffionmmaaaGreatDoor.Lg
set_option maxRecDepth 100000
set_option linter.unusedVariables false
set_option linter.unusedSimpArgs false
open Go
theorem tget_is (l : List Res) (k : Key) : (tget l k).isSome = decide (k ∈ l.map keyOf) := by
  unfold tget
  rw [Bool.eq_iff_iff, List.find?_isSome, decide_eq_true_eq, List.mem_map]
  simp
theorem tget_in {l : List Res} {k : Key} {r : Res} (h : tget l k = some r) : r ∈ l ∧ keyOf r = k := by
  unfold tget at h
  exact ⟨List.mem_of_find?_eq_some h, by simpa using List.find?_some h⟩
theorem tget_key {l : List Res} (h : (l.map keyOf).Nodup) {r : Res} (hr : r ∈ l) : tget l (keyOf r) = some r := by
  cases e : tget l (keyOf r) with
  | none =>
    have := tget_is l (keyOf r)
    rw [e, decide_eq_true (List.mem_map_of_mem hr)] at this
    cases this
  | some q =>
    obtain ⟨h1, h2⟩ := tget_in e
    rw [key_inj h h1 hr h2]
theorem lacks_iff (l : List Res) (r : Res) : lacks (ofR l []) r = true ↔ ∃ k ∈ refsR r, ¬ k ∈ l.map keyOf := by
  unfold lacks
  rw [List.any_eq_true]
  constructor
  · rintro ⟨k, hk, h⟩
    rw [isIn_of] at h
    exact ⟨k, hk, by simpa using h⟩
  · rintro ⟨k, hk, h⟩
    refine ⟨k, hk, ?_⟩
    rw [isIn_of, decide_eq_false h]; rfl
theorem served_ok {l : List Res} : served l = 0 ↔ (∀ r ∈ reachR l, ∀ k ∈ refsR r, k ∈ l.map keyOf) ∧ ∀ r ∈ reachR l, bare r = false := by
  unfold served
  by_cases h1 : (reachR l).any (lacks (ofR l [])) = true
  · rw [if_pos h1]
    obtain ⟨r, hr, hl⟩ := List.any_eq_true.1 h1
    obtain ⟨k, hk, hn⟩ := (lacks_iff l r).1 hl
    exact ⟨fun h => absurd h (by decide), fun h => absurd (h.1 r hr k hk) hn⟩
  · rw [if_neg h1]
    have h1' : ∀ r ∈ reachR l, ∀ k ∈ refsR r, k ∈ l.map keyOf := fun r hr k hk => by
      by_cases hn : k ∈ l.map keyOf
      · exact hn
      · exact absurd (List.any_eq_true.2 ⟨r, hr, (lacks_iff l r).2 ⟨k, hk, hn⟩⟩) h1
    by_cases h2 : (reachR l).any bare = true
    · rw [if_pos h2]
      obtain ⟨r, hr, hb⟩ := List.any_eq_true.1 h2
      exact ⟨fun h => absurd h (by decide), fun h => by rw [h.2 r hr] at hb; cases hb⟩
    · rw [if_neg h2]
      exact ⟨fun _ => ⟨h1', fun r hr => by simpa using fun hb => h2 (List.any_eq_true.2 ⟨r, hr, hb⟩)⟩, fun _ => rfl⟩
theorem get_reach {l : List Res} (h : (l.map keyOf).Nodup) {r : Res} (hr : r ∈ reachR l) {k : Key} (hk : k ∈ refsR r) : tget (reachR l) k = tget l k := by
  obtain ⟨h1, h2⟩ := (mem_reachR h r).1 hr
  cases e : tget l k with
  | none =>
    cases e2 : tget (reachR l) k with
    | none => rfl
    | some q =>
      obtain ⟨a, b⟩ := tget_in e2
      have := tget_is l k
      rw [e, decide_eq_true (by rw [← b]; exact List.mem_map_of_mem ((reachR_sub l).subset a))] at this
      cases this
  | some q =>
    obtain ⟨a, b⟩ := tget_in e
    subst b
    exact tget_key (nodup_sub h (reachR_sub l)) ((mem_reachR h q).2 ⟨a, .step r _ h1 h2 hk (List.mem_map_of_mem a)⟩)
end Go.Proofs.YtdhbkffionmmaaaGreatDoor.Lg

namespace Go.Proofs.YtdhbkffionmmaaaGreatDoor.Lg
set_option maxRecDepth 100000
set_option linter.unusedVariables false
set_option linter.unusedSimpArgs false
open Go
theorem sngR_weighs : ∀ (l p : List Rule), sngR p l = true → ∀ x ∈ l, weighsR x = true
  | [], _, _, x, hx => by simp at hx
  | a :: l, p, h, x, hx => by
    rw [sngR, Bool.and_eq_true, Bool.and_eq_true] at h
    rcases List.mem_cons.1 hx with rfl | hx
    · exact h.1
    · exact sngR_weighs l _ h.2.2 x hx
end Go.Proofs.YtdhbkffionmmaaaGreatDoor.Lg

namespace Go.Proofs.YtdhbkffionmmaaaGreatDoor.Lg
set_option maxRecDepth 100000
set_option linter.unusedVariables false
set_option linter.unusedSimpArgs false
open Go
theorem find_congr {α : Type} {p q : α → Bool} : ∀ {l : List α}, (∀ x ∈ l, p x = q x) → l.find? p = l.find? q
  | [], _ => rfl
  | x :: l, h => by
    rw [List.find?_cons, List.find?_cons, h x (by simp), find_congr fun y hy => h y (by simp [hy])]
theorem chooseW_some : ∀ (l : List Weight) (n : Int), 0 ≤ n → n < totW l → ∃ y ∈ l, 0 < cw y ∧ chooseW l n = some y.cluster
  | [], n, h0, h => by simp [totW] at h; omega
  | y :: l, n, h0, h => by
    rw [totW_cons] at h
    rw [chooseW]
    by_cases hn : n - cw y < 0
    · rw [if_pos hn]; exact ⟨y, by simp, by omega, rfl⟩
    · rw [if_neg hn]
      obtain ⟨z, hz, h1, h2⟩ := chooseW_some l (n - cw y) (by omega) (by omega)
      exact ⟨z, by simp [hz], h1, h2⟩
theorem totW_pos {l : List Weight} {y : Weight} (hy : y ∈ l) (hw : 0 < y.w) : 0 < totW l := by
  induction l with
  | nil => simp at hy
  | cons z l ih =>
    rw [totW_cons]
    have h1 := (totW_rng l).1
    have h2 := cw_rng z
    rcases List.mem_cons.1 hy with rfl | hy
    · have : 0 < cw y := by unfold cw; omega
      omega
    · have := ih hy; omega
theorem pickC_some {l : List Weight} {y : Weight} (hy : y ∈ l) (hw : 0 < y.w) (draw : Int) : ∃ z ∈ l, 0 < z.w ∧ pickC l draw = some z.cluster := by
  have hp := totW_pos hy hw
  obtain ⟨z, hz, h1, h2⟩ := chooseW_some l ((max 0 draw).tmod (totW l)) (Int.tmod_nonneg _ (by omega)) (Int.tmod_lt_of_pos _ hp)
  refine ⟨z, hz, by unfold cw at h1; omega, ?_⟩
  unfold pickC
  rw [if_neg (by omega)]
  exact h2
theorem pickH_some {l : List Int} (h : 0 < l.length) (draw : Int) : ∃ x ∈ l, pickH l draw = some x := by
  have h1 : 0 ≤ (max 0 draw).tmod (l.length : Int) := Int.tmod_nonneg _ (by omega)
  have h2 : (max 0 draw).tmod (l.length : Int) < l.length := Int.tmod_lt_of_pos _ (by omega)
  have h3 : ((max 0 draw).tmod (l.length : Int)).toNat < l.length := by omega
  exact ⟨_, List.getElem_mem h3, by unfold pickH; rw [List.getElem?_eq_getElem h3]⟩
theorem listen_in {l : List Res} {p : Int} {x : Res} (h : listen l p = some x) : x ∈ l ∧ x.kind = 0 ∧ x.port = p := by
  unfold listen at h
  have h1 := List.find?_some h
  simp only [Bool.and_eq_true, decide_eq_true_eq] at h1
  exact ⟨List.mem_of_find?_eq_some h, h1.1, h1.2⟩
theorem listen_reach {l : List Res} (h : (l.map keyOf).Nodup) (p : Int) : listen (reachR l) p = listen l p := by
  unfold listen reachR
  rw [List.find?_filter]
  refine find_congr fun x hx => ?_
  by_cases hk : x.kind = 0
  · rw [(reached_iff h (keyOf x)).2 (.base x hx hk)]; simp
  · simp [hk]
section
variable {l : List Res} (hc : Conf l) (hv : served l = 0)
include hc
theorem step_reach {r q : Res} {k : Key} (hr : r ∈ reachR l) (hk : k ∈ refsR r) (hq : tget l k = some q) : q ∈ reachR l := by
  obtain ⟨h1, h2⟩ := (mem_reachR hc.nodup r).1 hr
  obtain ⟨h3, h4⟩ := tget_in hq
  subst h4
  exact (mem_reachR hc.nodup q).2 ⟨h3, .step r _ h1 h2 hk (List.mem_map_of_mem h3)⟩
include hv
theorem served_get {r : Res} {k : Key} (hr : r ∈ reachR l) (hk : k ∈ refsR r) : ∃ q, tget l k = some q := by
  have := (served_ok.1 hv).1 r hr k hk
  obtain ⟨q, hq, rfl⟩ := List.mem_map.1 this
  exact ⟨q, tget_key hc.nodup hq⟩
theorem good_cases (a : Ask) : (listen l a.port = none ∧ ansE l a = ⟨1, [], 0⟩) ∨
    (∃ x, listen l a.port = some x ∧ x ∈ reachR l ∧ ⟨1, x.to'⟩ ∈ refsR x ∧ ruleE l x.to' a.host a.path = none ∧ ansE l a = ⟨2, [], 0⟩) ∨
    ∃ x rt r c d e h, listen l a.port = some x ∧ x ∈ reachR l ∧ ⟨1, x.to'⟩ ∈ refsR x ∧ tget l ⟨1, x.to'⟩ = some rt ∧ rt ∈ reachR l ∧ pickR rt.rules' a.host a.path = some r ∧ ruleE l x.to' a.host a.path = some r ∧
      pickC r.split a.first = some c ∧ ⟨2, c⟩ ∈ refsR rt ∧ tget l ⟨2, c⟩ = some d ∧ d ∈ reachR l ∧ ⟨3, d.to'⟩ ∈ refsR d ∧ tget l ⟨3, d.to'⟩ = some e ∧ endsE l c = (e.hosts, true) ∧ pickH e.hosts a.other = some h ∧ h ∈ e.hosts ∧ ansE l a = ⟨3, c, h⟩ := by
  cases h1 : listen l a.port with
  | none => exact .inl ⟨rfl, by unfold ansE; rw [h1]⟩
  | some x =>
    refine .inr ?_
    obtain ⟨hx, hx0, _⟩ := listen_in h1
    have hxr : x ∈ reachR l := (mem_reachR hc.nodup x).2 ⟨hx, .base x hx hx0⟩
    have hx1 : (⟨1, x.to'⟩ : Key) ∈ refsR x := by rw [refs_one (hc.sane x hx) (.inl hx0), hx0]; simp
    obtain ⟨rt, hrt⟩ := served_get hc hv hxr hx1
    have hrr := step_reach hc hxr hx1 hrt
    have e1 : ruleE l x.to' a.host a.path = pickR rt.rules' a.host a.path := by unfold ruleE; rw [hrt]
    cases h2 : pickR rt.rules' a.host a.path with
    | none => exact .inl ⟨x, rfl, hxr, hx1, by rw [e1, h2], by unfold ansE; rw [h1]; simp only [e1, h2]⟩
    | some r =>
      refine .inr ?_
      have hrl := (reachR_sub l).subset hrr
      have hsr := hc.sane rt hrl
      have hrm := pickR_mem h2
      have hsg := ((saneR_ok rt).1 hsr).2.2.2.2.2
      simp only [singleR, Bool.and_eq_true] at hsg
      obtain ⟨y, hy, hyw⟩ := List.any_eq_true.1 (sngR_weighs _ _ hsg.1 r hrm)
      obtain ⟨z, hz, hzw, hpc⟩ := pickC_some hy (of_decide_eq_true hyw) a.first
      have hcr : (⟨2, z.cluster⟩ : Key) ∈ refsR rt := by
        rw [(refs_up hsr).2, List.mem_append]
        exact .inr (mem_keysR.2 ⟨r, hrm, z, hz, hzw, rfl⟩)
      obtain ⟨d, hd⟩ := served_get hc hv hrr hcr
      have hdr := step_reach hc hrr hcr hd
      obtain ⟨hdl, hdk⟩ := tget_in hd
      have hd2 : d.kind = 2 := congrArg Key.kind hdk
      have hd3 : (⟨3, d.to'⟩ : Key) ∈ refsR d := by rw [refs_one (hc.sane d hdl) (.inr hd2), hd2]; simp
      obtain ⟨e, he⟩ := served_get hc hv hdr hd3
      have her := step_reach hc hdr hd3 he
      have hek : e.kind = 3 := congrArg Key.kind (tget_in he).2
      have hb := (served_ok.1 hv).2 e her
      have hne : 0 < e.hosts.length := by
        have : ¬ e.hosts.length = 0 := fun h0 => by simp [bare, hek, h0] at hb
        omega
      obtain ⟨h, hh, hph⟩ := pickH_some hne a.other
      have e2 : endsE l z.cluster = (e.hosts, true) := by unfold endsE; rw [hd]; simp only [he]
      exact ⟨x, rt, r, z.cluster, d, e, h, rfl, hxr, hx1, hrt, hrr, h2, by rw [e1, h2], hpc, hcr, hd, hdr, hd3, he, e2, hph, hh, by unfold ansE; rw [h1]; simp only [e1, h2, hpc, e2, hph]⟩
theorem good_ready (a : Ask) : ¬ (ansE l a).what = 0 := by
  rcases good_cases hc hv a with ⟨_, h⟩ | ⟨_, _, _, _, _, h⟩ | ⟨x, rt, r, c, d, e, h, _, _, _, _, _, _, _, _, _, _, _, _, _, _, _, _, hh⟩
  · rw [h]; decide
  · rw [h]; decide
  · rw [hh]; simp
theorem good_listens (a : Ask) : (ansE l a).what = 1 ↔ listen l a.port = none := by
  rcases good_cases hc hv a with ⟨h0, h⟩ | ⟨x, hx, _, _, _, h⟩ | ⟨x, rt, r, c, d, e, h, hx, _, _, _, _, _, _, _, _, _, _, _, _, _, _, _, hh⟩
  · rw [h, h0]; simp
  · rw [h, hx]; simp
  · rw [hh, hx]; simp
theorem ans_same (m : List Res) (a : Ask) (hlis : listen m a.port = listen l a.port) (hget : ∀ r ∈ reachR l, ∀ k ∈ refsR r, tget m k = tget l k) : ansE m a = ansE l a ∧ withinE m (ansE l a) = true := by
  rcases good_cases hc hv a with ⟨h0, h⟩ | ⟨x, hx, hxr, hx1, h0, h⟩ | ⟨x, rt, r, c, d, e, h, hx, hxr, hx1, hrt, hrr, hpr, hre, hpc, hcr, hd, hdr, hd3, he, hen, hph, hh, ha⟩
  · rw [h]
    refine ⟨?_, by simp [withinE]⟩
    unfold ansE
    rw [hlis, h0]
  · rw [h]
    refine ⟨?_, by simp [withinE]⟩
    have e1 : ruleE m x.to' a.host a.path = none := by
      unfold ruleE at h0 ⊢
      rw [hget x hxr _ hx1]; exact h0
    unfold ansE
    rw [hlis, hx]
    simp only [e1]
  · have e1 : ruleE m x.to' a.host a.path = some r := by unfold ruleE; rw [hget x hxr _ hx1, hrt]; exact hpr
    have e2 : endsE m c = (e.hosts, true) := by unfold endsE; rw [hget rt hrr _ hcr, hd]; simp only [hget d hdr _ hd3, he]
    rw [ha]
    constructor
    · unfold ansE
      rw [hlis, hx]
      simp only [e1, hpc, e2, hph]
    · simp only [withinE, e2]
      simp [hh]
theorem good_within (a : Ask) : withinE l (ansE l a) = true := (ans_same hc hv l a rfl fun _ _ _ _ => rfl).2
theorem good_reach (a : Ask) : ansE (reachR l) a = ansE l a ∧ withinE (reachR l) (ansE l a) = true :=
  ans_same hc hv _ a (listen_reach hc.nodup _) fun _ hr _ hk => get_reach hc.nodup hr hk
end
end Go.Proofs.YtdhbkffionmmaaaGreatDoor.Lg
