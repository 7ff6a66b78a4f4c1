/- Plain law for PinsKeep: what holds from step to step. -/
import Derived.Test.YtjmnokbbodcaaaaP17
namespace Go.Proofs.Ytjmnokbbodcaaaa.Lg
set_option linter.unusedVariables false
set_option linter.unusedSimpArgs false
open Go

structure KInv (p : Pins) (id cnt : Int) (was : List Res) (k : Nat) : Prop where
  ok : OkP p
  nx : p.next' ≤ k
  ln : p.snaps.length ≤ k
  pn : ∀ x ∈ p.snaps, x.pins ≤ k
  cur : ∀ s, p.snaps.getLast? = some s → s.id = p.next'
  nil : p.snaps = [] → p.next' = 0
  c0 : 0 ≤ cnt
  at' : (⟨id, cnt, was⟩ : Snap) ∈ p.snaps ∨ ((∀ x ∈ p.snaps, x.id ≠ id) ∧ cnt = 0)

theorem kinv0 (id : Int) : KInv ⟨0, []⟩ id 0 [] 0 :=
  ⟨okP_empty, by simp, by simp, by simp, by simp, by simp, by simp, .inr ⟨by simp, rfl⟩⟩

theorem kcur {p : Pins} {id cnt : Int} {was : List Res} {k : Nat} (h : KInv p id cnt was k) : (rcurrent p).1 = p.next' ∧ ((rcurrent p).2.2 = true ↔ p.snaps ≠ []) := by
  unfold rcurrent
  rw [rsane_of h.ok]
  cases hg : p.snaps.getLast? with
  | none =>
    have e : p.snaps = [] := List.getLast?_eq_none_iff.1 hg
    exact ⟨(h.nil e).symm, by simp [e]⟩
  | some s =>
    have hne : p.snaps ≠ [] := by intro e; rw [e] at hg; simp at hg
    exact ⟨h.cur s hg, by simp [hne]⟩

theorem kget {p : Pins} {id cnt : Int} {was : List Res} {k : Nat} (h : KInv p id cnt was k) :
    (rget p id).2 = (decide (0 < cnt) || ((rcurrent p).2.2 && decide ((rcurrent p).1 = id))) ∧ ((rget p id).2 = true → (rget p id).1 = was) := by
  obtain ⟨c1, c2⟩ := kcur h
  rw [c1]
  rcases h.at' with hm | ⟨hn, hc⟩
  · obtain ⟨j, hj, e⟩ := List.getElem_of_mem hm
    have hg := rget_at h.ok hj
    rw [e] at hg
    rw [hg]
    refine ⟨?_, fun _ => rfl⟩
    by_cases h0 : 0 < cnt
    · simp [h0]
    · have hlast : j + 1 = p.snaps.length := by
        by_cases hl : j + 1 < p.snaps.length
        · have := (mem_dropLast_iff _).1 h.ok.pos j hl
          rw [e] at this
          exact absurd this h0
        · omega
      have hlt : p.snaps.getLast? = some ⟨id, cnt, was⟩ := by
        rw [List.getLast?_eq_getElem?, List.getElem?_eq_getElem (by omega)]
        congr 1
        rw [← e]; congr 1; omega
      have h1 := h.cur _ hlt
      have h2 : (rcurrent p).2.2 = true := c2.2 (by intro e2; rw [e2] at hj; simp at hj)
      simp only at h1
      simp [h2, ← h1]
  · rw [rget_none h.ok hn]
    refine ⟨?_, by simp⟩
    by_cases he : p.snaps = []
    · have h2 : (rcurrent p).2.2 = false := by
        cases hh : (rcurrent p).2.2 with
        | false => rfl
        | true => exact absurd he (c2.1 hh)
      simp [hc, h2]
    · obtain ⟨s, hs⟩ : ∃ s, p.snaps.getLast? = some s := ⟨p.snaps.getLast he, List.getLast?_eq_some_getLast he⟩
      have h1 := h.cur s hs
      have h3 := hn s (List.mem_of_getLast? hs)
      rw [h1] at h3
      simp [hc, h3]

theorem kpub {p : Pins} {id cnt : Int} {was L : List Res} {k : Nat} (h : KInv p id cnt was k) (hk : k < 1000) :
    ∃ p', rpublish p L = (p', p.next' + 1, 0) ∧ KInv p' id cnt (if p.next' + 1 = id then L else was) (k + 1) := by
  have hnx := h.nx
  have hln := h.ln
  have he := rpublish_ok (l := L) h.ok (by omega) (by omega)
  have ho := okP_publish p L
  rw [he] at ho
  have hfl := List.length_filter_le (fun x : Snap => decide (0 < x.pins)) p.snaps
  refine ⟨_, he, ho, ?_, ?_, ?_, ?_, ?_, h.c0, ?_⟩
  · simp only; omega
  · simp only [List.length_append, List.length_cons, List.length_nil]; omega
  · intro x hx
    rcases List.mem_append.1 hx with hx | hx
    · have := h.pn x (List.mem_filter.1 hx).1; omega
    · simp only [List.mem_singleton] at hx; subst hx; simp only; omega
  · intro s hs
    simp only [List.getLast?_append, List.getLast?_singleton, Option.some_or, Option.some.injEq] at hs
    subst hs; rfl
  · intro e; simp at e
  · rcases h.at' with hm | ⟨hn, hc⟩
    · have hb := h.ok.mem _ hm
      simp only at hb
      rw [if_neg (by omega)]
      by_cases h0 : 0 < cnt
      · exact .inl (List.mem_append_left _ (List.mem_filter.2 ⟨hm, by simpa using h0⟩))
      · refine .inr ⟨fun x hx e => ?_, by omega⟩
        rcases List.mem_append.1 hx with hx | hx
        · obtain ⟨hx1, hx2⟩ := List.mem_filter.1 hx
          obtain ⟨i, hi, rfl⟩ := List.getElem_of_mem hx1
          obtain ⟨j, hj, e2⟩ := List.getElem_of_mem hm
          have := up_one h.ok.up hi hj (by rw [e, e2])
          subst this
          rw [e2] at hx2
          simp at hx2; omega
        · simp only [List.mem_singleton] at hx; subst hx; simp only at e; omega
    · by_cases hid : p.next' + 1 = id
      · rw [if_pos hid, hc]
        exact .inl (List.mem_append_right _ (by simp [hid]))
      · rw [if_neg hid]
        refine .inr ⟨fun x hx => ?_, hc⟩
        rcases List.mem_append.1 hx with hx | hx
        · exact hn x (List.mem_filter.1 hx).1
        · simp only [List.mem_singleton] at hx; subst hx; exact hid

theorem set_mem {l : List Snap} {k j : Nat} {s : Snap} (hj : j < l.length) (h : j ≠ k) : l[j] ∈ l.set k s := by
  have hj' : j < (l.set k s).length := by simpa using hj
  have e : (l.set k s)[j] = l[j] := by rw [List.getElem_set, if_neg (by omega)]
  rw [← e]; exact List.getElem_mem hj'
theorem set_mem_self {l : List Snap} {k : Nat} {s : Snap} (hk : k < l.length) : s ∈ l.set k s := by
  have hj' : k < (l.set k s).length := by simpa using hk
  have e : (l.set k s)[k] = s := by simp
  have := List.getElem_mem hj'
  rwa [e] at this

/-- One is set anew, its id as it was. -/
theorem kset {p : Pins} {id cnt cnt' : Int} {was : List Res} {k j : Nat} {q : Int} (h : KInv p id cnt was k) (hj : j < p.snaps.length) (h0 : 0 ≤ q) (h1 : q ≤ k + 1) (h3 : q ≤ 10000) (h2 : 0 < q ∨ j + 1 = p.snaps.length)
    (hc : cnt' = if p.snaps[j].id = id then q else cnt) : KInv ⟨p.next', p.snaps.set j ⟨p.snaps[j].id, q, p.snaps[j].l⟩⟩ id cnt' was (k + 1) := by
  have ho := okP_with h.ok (s := ⟨p.snaps[j].id, q, p.snaps[j].l⟩) hj rfl h0 h3
  rw [rwith_set hj h2] at ho
  have hnx := h.nx
  refine ⟨ho, by simp only; omega, by simp only [List.length_set]; have := h.ln; omega, ?_, ?_, ?_, by rw [hc]; split; exact h0; exact h.c0, ?_⟩
  · intro x hx
    rcases List.mem_or_eq_of_mem_set hx with hx | rfl
    · have := h.pn x hx; omega
    · simp only; omega
  · intro s hs
    obtain ⟨hl, e⟩ := getLast_at hs
    simp only [List.length_set, List.getElem_set] at e hl
    have hlast : p.snaps.getLast? = some p.snaps[p.snaps.length - 1] := by rw [List.getLast?_eq_getElem?, List.getElem?_eq_getElem hl]
    have hcur := h.cur _ hlast
    split at e
    · rename_i hjl
      rw [← e]; simp only; rw [← hcur]; congr 2
    · rw [← e]; exact hcur
  · intro e
    rw [List.set_eq_nil_iff] at e
    exact h.nil e
  · rcases h.at' with hm | ⟨hn, h4⟩
    · obtain ⟨i, hi, e⟩ := List.getElem_of_mem hm
      by_cases hid : p.snaps[j].id = id
      · have := up_one h.ok.up hi hj (by rw [e, hid])
        subst this
        rw [hc, if_pos hid]
        left
        have := set_mem_self (l := p.snaps) (s := ⟨p.snaps[i].id, q, p.snaps[i].l⟩) hi
        rw [e] at this ⊢
        simpa using this
      · rw [hc, if_neg hid]
        left
        have hne : i ≠ j := by
          rintro rfl
          rw [e] at hid; exact hid rfl
        have := set_mem (k := j) (s := ⟨p.snaps[j].id, q, p.snaps[j].l⟩) hi hne
        rw [e] at this
        exact this
    · have hid := hn _ (List.getElem_mem hj)
      rw [hc, if_neg hid]
      refine .inr ⟨fun x hx => ?_, h4⟩
      rcases List.mem_or_eq_of_mem_set hx with hx | rfl
      · exact hn x hx
      · exact hid

theorem kpin {p : Pins} {id cnt : Int} {was : List Res} {k : Nat} (h : KInv p id cnt was k) (hk : k < 1000) :
    (p.next' = 0 ∧ rpin p = (p, 0, 10) ∧ KInv p id cnt was (k + 1)) ∨ (∃ p', rpin p = (p', p.next', 0) ∧ KInv p' id (if p.next' = id then cnt + 1 else cnt) was (k + 1)) := by
  cases hg : p.snaps.getLast? with
  | none =>
    have e : p.snaps = [] := List.getLast?_eq_none_iff.1 hg
    left
    refine ⟨h.nil e, ?_, ⟨h.ok, by have := h.nx; omega, by have := h.ln; omega, fun x hx => by have := h.pn x hx; omega, h.cur, h.nil, h.c0, h.at'⟩⟩
    unfold rpin
    rw [rsane_of h.ok]
    simp only [hg]
  | some s =>
    right
    have hcur := h.cur s hg
    obtain ⟨hl, e⟩ := getLast_at hg
    have hb := h.ok.mem _ (List.getElem_mem hl)
    have hp := h.pn _ (List.getElem_mem hl)
    rw [e] at hb hp
    have hw : IntKind.i64.wrap (s.pins + 1) = s.pins + 1 := IntWalk.i64_in _ (by omega)
    refine ⟨⟨p.next', p.snaps.set (p.snaps.length - 1) ⟨s.id, s.pins + 1, s.l⟩⟩, ?_, ?_⟩
    · unfold rpin
      rw [rsane_of h.ok]
      simp only [hg]
      rw [if_neg (by omega), rwith_set hl (.inr (by omega)), hw, hcur]
    · have := kset (cnt' := if p.next' = id then cnt + 1 else cnt) (q := s.pins + 1) h hl (by omega) (by omega) (by omega) (.inr (by omega)) (by
        rw [e, hcur]
        by_cases hid : p.next' = id
        · rw [if_pos hid, if_pos hid]
          rcases h.at' with hm | ⟨hn, h4⟩
          · obtain ⟨i, hi, e2⟩ := List.getElem_of_mem hm
            have := up_one h.ok.up hi hl (by rw [e2, e, hcur, hid])
            subst this
            rw [e2] at e
            subst e; rfl
          · have := hn s (List.mem_of_getLast? hg)
            omega
        · rw [if_neg hid, if_neg hid])
      rw [e] at this
      exact this

theorem krel {p : Pins} {id cnt : Int} {was : List Res} {k : Nat} (rid : Int) (h : KInv p id cnt was k) (hk : k < 1000) :
    ∃ p' e, rrelease p rid = (p', e) ∧ KInv p' id (if rid = id then max 0 (cnt - 1) else cnt) was (k + 1) ∧ (rid = id → (e = 0 ↔ 0 < cnt)) := by
  have hc0 := h.c0
  have hsame : ∀ c', c' = cnt → KInv p id c' was (k + 1) := fun c' hc => by
    subst hc
    exact ⟨h.ok, by have := h.nx; omega, by have := h.ln; omega, fun x hx => by have := h.pn x hx; omega, h.cur, h.nil, h.c0, h.at'⟩
  rcases has_id p.snaps rid with hn | ⟨j, hj, rfl⟩
  · refine ⟨p, 10, rrelease_none h.ok hn, hsame _ ?_, ?_⟩
    · split
      · rename_i hid
        subst hid
        rcases h.at' with hm | ⟨_, h4⟩
        · exact absurd rfl (hn _ hm)
        · omega
      · rfl
    · rintro rfl
      rcases h.at' with hm | ⟨_, h4⟩
      · exact absurd rfl (hn _ hm)
      · omega
  · have hr := rrelease_at h.ok hj
    have hb := h.ok.mem _ (List.getElem_mem hj)
    have hp := h.pn _ (List.getElem_mem hj)
    have hcnt : p.snaps[j].id = id → p.snaps[j].pins = cnt := fun hid => by
      rcases h.at' with hm | ⟨hn, h4⟩
      · obtain ⟨i, hi, e2⟩ := List.getElem_of_mem hm
        have := up_one h.ok.up hi hj (by rw [e2, hid])
        subst this
        rw [e2]
      · exact absurd hid (hn _ (List.getElem_mem hj))
    by_cases h0 : p.snaps[j].pins = 0
    · rw [if_pos h0] at hr
      refine ⟨p, 15, hr, hsame _ ?_, fun hid => ?_⟩
      · split
        · rename_i hid
          have := hcnt hid; omega
        · rfl
      · have := hcnt hid; omega
    · rw [if_neg h0] at hr
      by_cases hd : 0 < p.snaps[j].pins - 1 ∨ j + 1 = p.snaps.length
      · rw [rwith_set hj hd] at hr
        refine ⟨_, 0, hr, kset h hj (by omega) (by omega) (by omega) hd ?_, fun hid => ?_⟩
        · split
          · rename_i hid
            have := hcnt hid; omega
          · rfl
        · have := hcnt hid; omega
      · have ho := okP_with h.ok (s := ⟨p.snaps[j].id, p.snaps[j].pins - 1, p.snaps[j].l⟩) hj rfl (by simp only; omega) (by simp only; omega)
        rw [rwith_del hd] at hr ho
        refine ⟨_, 0, hr, ⟨ho, by simp only; have := h.nx; omega, ?_, ?_, ?_, ?_, ?_, ?_⟩, fun hid => ?_⟩
        · simp only [List.length_eraseIdx]; have := h.ln; split <;> omega
        · intro x hx
          have := h.pn x (List.mem_of_mem_eraseIdx hx); omega
        · intro s hs
          obtain ⟨hl, e⟩ := getLast_at hs
          simp only [List.length_eraseIdx, if_pos hj, List.getElem_eraseIdx] at e hl
          rw [dif_neg (by omega)] at e
          have hl2 : p.snaps.length - 1 < p.snaps.length := by omega
          have hlast : p.snaps.getLast? = some p.snaps[p.snaps.length - 1] := by rw [List.getLast?_eq_getElem?, List.getElem?_eq_getElem hl2]
          have hcur := h.cur _ hlast
          rw [← e, ← hcur]
          congr 2
          omega
        · intro e
          have := congrArg List.length e
          simp only [List.length_eraseIdx, if_pos hj, List.length_nil] at this
          omega
        · split
          · omega
          · exact hc0
        · by_cases hid : p.snaps[j].id = id
          · have := hcnt hid
            rw [if_pos hid]
            refine .inr ⟨fun x hx e => ?_, by omega⟩
            obtain ⟨i, hi, hne, rfl⟩ := List.mem_eraseIdx_iff_getElem.1 hx
            have := up_one h.ok.up hi hj (by rw [e, hid])
            omega
          · rw [if_neg hid]
            rcases h.at' with hm | ⟨hn, h4⟩
            · obtain ⟨i, hi, e2⟩ := List.getElem_of_mem hm
              left
              refine List.mem_eraseIdx_iff_getElem.2 ⟨i, hi, ?_, e2⟩
              rintro rfl
              rw [e2] at hid; exact hid rfl
            · exact .inr ⟨fun x hx => hn x (List.mem_of_mem_eraseIdx hx), h4⟩
        · have := hcnt hid; omega
end Go.Proofs.Ytjmnokbbodcaaaa.Lg
