/- Parts of the proof, one behind the other. -/
import Derived.Test.YtndnkbekhmndhaaGreatDoorG17
namespace Go.Proofs.YtndnkbekhmndhaaGreatDoor.Lg
set_option maxRecDepth 100000
set_option linter.unusedVariables false
set_option linter.unusedSimpArgs false
open Go
theorem chooseW_some : ∀ (l : List Weight) (n : Int), 0 ≤ n → n < totW l → ∃ y ∈ l, 0 < cw y ∧ chooseW l n = some y.cluster
  | [], n, h0, h => by simp [totW] at h; omega
  | y :: l, n, h0, h => by
    rw [totW_cons] at h
    rw [chooseW]
    by_cases hn : n - cw y < 0
    · rw [if_pos hn]; exact ⟨y, by simp, by omega, rfl⟩
    · rw [if_neg hn]
      obtain ⟨z, hz, h1, h2⟩ := chooseW_some l (n - cw y) (by omega) (by omega)
      exact ⟨z, by simp [hz], h1, h2⟩
theorem totW_pos {l : List Weight} {y : Weight} (hy : y ∈ l) (hw : 0 < y.w) : 0 < totW l := by
  induction l with
  | nil => simp at hy
  | cons z l ih =>
    rw [totW_cons]
    have h1 := (totW_rng l).1
    have h2 := cw_rng z
    rcases List.mem_cons.1 hy with rfl | hy
    · have : 0 < cw y := by unfold cw; omega
      omega
    · have := ih hy; omega
theorem pickC_some {l : List Weight} {y : Weight} (hy : y ∈ l) (hw : 0 < y.w) (draw : Int) : ∃ z ∈ l, 0 < z.w ∧ pickC l draw = some z.cluster := by
  have hp := totW_pos hy hw
  obtain ⟨z, hz, h1, h2⟩ := chooseW_some l ((max 0 draw).tmod (totW l)) (Int.tmod_nonneg _ (by omega)) (Int.tmod_lt_of_pos _ hp)
  refine ⟨z, hz, by unfold cw at h1; omega, ?_⟩
  unfold pickC
  rw [if_neg (by omega)]
  exact h2
theorem pickH_some {l : List Int} (h : 0 < l.length) (draw : Int) : ∃ x ∈ l, pickH l draw = some x := by
  have h1 : 0 ≤ (max 0 draw).tmod (l.length : Int) := Int.tmod_nonneg _ (by omega)
  have h2 : (max 0 draw).tmod (l.length : Int) < l.length := Int.tmod_lt_of_pos _ (by omega)
  have h3 : ((max 0 draw).tmod (l.length : Int)).toNat < l.length := by omega
  exact ⟨_, List.getElem_mem h3, by unfold pickH; rw [List.getElem?_eq_getElem h3]⟩
theorem listen_in {l : List Res} {p : Int} {x : Res} (h : listen l p = some x) : x ∈ l ∧ x.kind = 0 ∧ x.port = p := by
  unfold listen at h
  have h1 := List.find?_some h
  simp only [Bool.and_eq_true, decide_eq_true_eq] at h1
  exact ⟨List.mem_of_find?_eq_some h, h1.1, h1.2⟩
section
variable {l : List Res} (hc : Conf l) (hv : served l = 0)
include hc
theorem step_reach {r q : Res} {k : Key} (hr : r ∈ reachR l) (hk : k ∈ refsR r) (hq : tget l k = some q) : q ∈ reachR l := by
  obtain ⟨h1, h2⟩ := (mem_reachR hc.nodup r).1 hr
  obtain ⟨h3, h4⟩ := tget_in hq
  subst h4
  exact (mem_reachR hc.nodup q).2 ⟨h3, .step r _ h1 h2 hk (List.mem_map_of_mem h3)⟩
include hv
theorem served_get {r : Res} {k : Key} (hr : r ∈ reachR l) (hk : k ∈ refsR r) : ∃ q, tget l k = some q := by
  have := (served_ok.1 hv).1 r hr k hk
  obtain ⟨q, hq, rfl⟩ := List.mem_map.1 this
  exact ⟨q, tget_key hc.nodup hq⟩
theorem good_cases (a : Ask) : (listen l a.port = none ∧ ansE l a = ⟨1, [], 0⟩) ∨
    (∃ x, listen l a.port = some x ∧ x ∈ reachR l ∧ ⟨1, x.to'⟩ ∈ refsR x ∧ ruleE l x.to' a.host a.path = none ∧ ansE l a = ⟨2, [], 0⟩) ∨
    ∃ x rt r c d e h, listen l a.port = some x ∧ x ∈ reachR l ∧ ⟨1, x.to'⟩ ∈ refsR x ∧ tget l ⟨1, x.to'⟩ = some rt ∧ rt ∈ reachR l ∧ pickR rt.rules' a.host a.path = some r ∧ ruleE l x.to' a.host a.path = some r ∧
      pickC r.split a.first = some c ∧ ⟨2, c⟩ ∈ refsR rt ∧ tget l ⟨2, c⟩ = some d ∧ d ∈ reachR l ∧ ⟨3, d.to'⟩ ∈ refsR d ∧ tget l ⟨3, d.to'⟩ = some e ∧ endsE l c = (e.hosts, true) ∧ pickH e.hosts a.other = some h ∧ h ∈ e.hosts ∧ ansE l a = ⟨3, c, h⟩ := by
  cases h1 : listen l a.port with
  | none => exact .inl ⟨rfl, by unfold ansE; rw [h1]⟩
  | some x =>
    refine .inr ?_
    obtain ⟨hx, hx0, _⟩ := listen_in h1
    have hxr : x ∈ reachR l := (mem_reachR hc.nodup x).2 ⟨hx, .base x hx hx0⟩
    have hx1 : (⟨1, x.to'⟩ : Key) ∈ refsR x := by rw [refs_one (hc.sane x hx) (.inl hx0), hx0]; simp
    obtain ⟨rt, hrt⟩ := served_get hc hv hxr hx1
    have hrr := step_reach hc hxr hx1 hrt
    have e1 : ruleE l x.to' a.host a.path = pickR rt.rules' a.host a.path := by unfold ruleE; rw [hrt]
    cases h2 : pickR rt.rules' a.host a.path with
    | none => exact .inl ⟨x, rfl, hxr, hx1, by rw [e1, h2], by unfold ansE; rw [h1]; simp only [e1, h2]⟩
    | some r =>
      refine .inr ?_
      have hrl := (reachR_sub l).subset hrr
      have hsr := hc.sane rt hrl
      have hrm := pickR_mem h2
      have hsg := ((saneR_ok rt).1 hsr).2.2.2.2.2
      simp only [singleR, Bool.and_eq_true] at hsg
      obtain ⟨y, hy, hyw⟩ := List.any_eq_true.1 (sngR_weighs _ _ hsg.1 r hrm)
      obtain ⟨z, hz, hzw, hpc⟩ := pickC_some hy (of_decide_eq_true hyw) a.first
      have hcr : (⟨2, z.cluster⟩ : Key) ∈ refsR rt := by
        rw [(refs_up hsr).2, List.mem_append]
        exact .inr (mem_keysR.2 ⟨r, hrm, z, hz, hzw, rfl⟩)
      obtain ⟨d, hd⟩ := served_get hc hv hrr hcr
      have hdr := step_reach hc hrr hcr hd
      obtain ⟨hdl, hdk⟩ := tget_in hd
      have hd2 : d.kind = 2 := congrArg Key.kind hdk
      have hd3 : (⟨3, d.to'⟩ : Key) ∈ refsR d := by rw [refs_one (hc.sane d hdl) (.inr hd2), hd2]; simp
      obtain ⟨e, he⟩ := served_get hc hv hdr hd3
      have her := step_reach hc hdr hd3 he
      have hek : e.kind = 3 := congrArg Key.kind (tget_in he).2
      have hb := (served_ok.1 hv).2 e her
      have hne : 0 < e.hosts.length := by
        have : ¬ e.hosts.length = 0 := fun h0 => by simp [bare, hek, h0] at hb
        omega
      obtain ⟨h, hh, hph⟩ := pickH_some hne a.other
      have e2 : endsE l z.cluster = (e.hosts, true) := by unfold endsE; rw [hd]; simp only [he]
      exact ⟨x, rt, r, z.cluster, d, e, h, rfl, hxr, hx1, hrt, hrr, h2, by rw [e1, h2], hpc, hcr, hd, hdr, hd3, he, e2, hph, hh, by unfold ansE; rw [h1]; simp only [e1, h2, hpc, e2, hph]⟩
theorem ans_same (m : List Res) (a : Ask) (hlis : listen m a.port = listen l a.port) (hget : ∀ r ∈ reachR l, ∀ k ∈ refsR r, tget m k = tget l k) : ansE m a = ansE l a ∧ withinE m (ansE l a) = true := by
  rcases good_cases hc hv a with ⟨h0, h⟩ | ⟨x, hx, hxr, hx1, h0, h⟩ | ⟨x, rt, r, c, d, e, h, hx, hxr, hx1, hrt, hrr, hpr, hre, hpc, hcr, hd, hdr, hd3, he, hen, hph, hh, ha⟩
  · rw [h]
    refine ⟨?_, by simp [withinE]⟩
    unfold ansE
    rw [hlis, h0]
  · rw [h]
    refine ⟨?_, by simp [withinE]⟩
    have e1 : ruleE m x.to' a.host a.path = none := by
      unfold ruleE at h0 ⊢
      rw [hget x hxr _ hx1]; exact h0
    unfold ansE
    rw [hlis, hx]
    simp only [e1]
  · have e1 : ruleE m x.to' a.host a.path = some r := by unfold ruleE; rw [hget x hxr _ hx1, hrt]; exact hpr
    have e2 : endsE m c = (e.hosts, true) := by unfold endsE; rw [hget rt hrr _ hcr, hd]; simp only [hget d hdr _ hd3, he]
    rw [ha]
    constructor
    · unfold ansE
      rw [hlis, hx]
      simp only [e1, hpc, e2, hph]
    · simp only [withinE, e2]
      simp [hh]
end
end Go.Proofs.YtndnkbekhmndhaaGreatDoor.Lg
