/- Parts of the proof, one behind the other. -/
import Derived.Test.YtdolbhcmdkcpnaaGreatDoorG20
namespace Go.Proofs.YtdolbhcmdkcpnaaGreatDoor.Lg
set_option maxRecDepth 100000
set_option linter.unusedVariables false
set_option linter.unusedSimpArgs false
open Go
theorem mem_missK (l : List Res) (x : Key) : x ∈ missK l ↔ (∃ r ∈ l, x ∈ refsR r) ∧ ¬ x ∈ l.map keyOf := by
  unfold missK
  rw [(kcompact_up (ksort_le _)).2, ksort_mem]
  unfold missR keepK
  rw [List.mem_flatMap]
  have hi : ∀ k, (mget (ofR l []) k).getD false = decide (k ∈ l.map keyOf) := fun k => isIn_of l k
  constructor
  · rintro ⟨r, hr, hx⟩
    obtain ⟨h1, h2⟩ := List.mem_filter.1 hx
    rw [hi] at h2
    exact ⟨⟨r, hr, h1⟩, by simpa using h2⟩
  · rintro ⟨⟨r, hr, h1⟩, h2⟩
    refine ⟨r, hr, List.mem_filter.2 ⟨h1, ?_⟩⟩
    rw [hi, decide_eq_false h2]; rfl
theorem lacks_iff (l : List Res) (r : Res) : lacks (ofR l []) r = true ↔ ∃ k ∈ refsR r, ¬ k ∈ l.map keyOf := by
  unfold lacks
  rw [List.any_eq_true]
  constructor
  · rintro ⟨k, hk, h⟩
    rw [isIn_of] at h
    exact ⟨k, hk, by simpa using h⟩
  · rintro ⟨k, hk, h⟩
    refine ⟨k, hk, ?_⟩
    rw [isIn_of, decide_eq_false h]; rfl
theorem served_ok {l : List Res} : served l = 0 ↔ (∀ r ∈ reachR l, ∀ k ∈ refsR r, k ∈ l.map keyOf) ∧ ∀ r ∈ reachR l, bare r = false := by
  unfold served
  by_cases h1 : (reachR l).any (lacks (ofR l [])) = true
  · rw [if_pos h1]
    obtain ⟨r, hr, hl⟩ := List.any_eq_true.1 h1
    obtain ⟨k, hk, hn⟩ := (lacks_iff l r).1 hl
    exact ⟨fun h => absurd h (by decide), fun h => absurd (h.1 r hr k hk) hn⟩
  · rw [if_neg h1]
    have h1' : ∀ r ∈ reachR l, ∀ k ∈ refsR r, k ∈ l.map keyOf := fun r hr k hk => by
      by_cases hn : k ∈ l.map keyOf
      · exact hn
      · exact absurd (List.any_eq_true.2 ⟨r, hr, (lacks_iff l r).2 ⟨k, hk, hn⟩⟩) h1
    by_cases h2 : (reachR l).any bare = true
    · rw [if_pos h2]
      obtain ⟨r, hr, hb⟩ := List.any_eq_true.1 h2
      exact ⟨fun h => absurd h (by decide), fun h => by rw [h.2 r hr] at hb; cases hb⟩
    · rw [if_neg h2]
      exact ⟨fun _ => ⟨h1', fun r hr => by simpa using fun hb => h2 (List.any_eq_true.2 ⟨r, hr, hb⟩)⟩, fun _ => rfl⟩
end Go.Proofs.YtdolbhcmdkcpnaaGreatDoor.Lg

namespace Go.Proofs.YtdolbhcmdkcpnaaGreatDoor.Lg
set_option maxRecDepth 100000
set_option linter.unusedVariables false
set_option linter.unusedSimpArgs false
open Go
end Go.Proofs.YtdolbhcmdkcpnaaGreatDoor.Lg

namespace Go.Proofs.YtdolbhcmdkcpnaaGreatDoor.Lg
set_option maxRecDepth 100000
set_option linter.unusedVariables false
set_option linter.unusedSimpArgs false
open Go
section
variable {l : List Res} (hc : Conf l) (hv : served l = 0)
include hc
include hv
end
end Go.Proofs.YtdolbhcmdkcpnaaGreatDoor.Lg

namespace Go.Proofs.YtdolbhcmdkcpnaaGreatDoor.Lg
set_option maxRecDepth 100000
set_option linter.unusedVariables false
set_option linter.unusedSimpArgs false
open Go
theorem tkind0_reach {l : List Res} (h : (l.map keyOf).Nodup) : tkind (reachR l) 0 = tkind l 0 := by
  unfold tkind reachR
  rw [List.filter_filter]
  refine List.filter_congr fun r hr => ?_
  by_cases hk : r.kind = 0
  · rw [(reached_iff h (keyOf r)).2 (.base r hr hk)]; simp
  · simp [hk]
theorem tsane_parts {l : List Res} (h : tsane l = 0) : portsM (tkind l 0) [] = true := by
  unfold tsane at h
  split at h
  · cases h
  · split at h
    · rename_i h2; exact absurd h h2
    · split at h
      · cases h
      · split at h
        · cases h
        · rename_i h4; simpa using h4
theorem tsane_of {l : List Res} (h1 : l.length ≤ 64) (h2 : ∀ r ∈ l, saneR r = 0) (h3 : Up (l.map keyOf)) (h4 : portsM (tkind l 0) [] = true) : tsane l = 0 := by
  unfold tsane
  rw [if_neg (by omega), if_neg (by rw [firstBad_of h2]; simp), if_neg (by rw [(upR_iff l).2 h3]; simp), if_neg (by rw [h4]; simp)]
theorem tsane_reach {l : List Res} (h : tsane l = 0) : tsane (reachR l) = 0 := by
  have hc := conf_of h
  refine tsane_of (Nat.le_trans (reachR_len l) hc.len) (fun r hr => hc.sane r ((reachR_sub l).subset hr)) (hc.up.sublist ((reachR_sub l).map _)) ?_
  rw [tkind0_reach hc.nodup]
  exact tsane_parts h
theorem good_reach_good {l : List Res} (h : tsane l = 0) (hv : served l = 0) : goodE (reachR l) = true := by
  unfold goodE
  rw [tsane_reach h, served_reach (conf_of h).nodup, hv]; rfl
end Go.Proofs.YtdolbhcmdkcpnaaGreatDoor.Lg
