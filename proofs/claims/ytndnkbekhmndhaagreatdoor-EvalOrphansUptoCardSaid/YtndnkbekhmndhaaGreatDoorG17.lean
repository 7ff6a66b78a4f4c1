/- Parts of the proof, one behind the other. -/
import Derived.Test.YtndnkbekhmndhaaGreatDoorG16
namespace Go.Proofs.YtndnkbekhmndhaaGreatDoor.Lg
set_option maxRecDepth 100000
set_option linter.unusedVariables false
set_option linter.unusedSimpArgs false
open Go
set_option maxRecDepth 30000 in
theorem listen1_c (r_kind : Int) (r_name : List UInt8) (r_ver : Int) (r_port : Int) (r_to : List UInt8) (r_rules : List Rule) (r_hosts : List Int) (k : Int) : CallR Tryz.prog 130 [.agg [.int .i64 r_kind, .str r_name, .int .i64 r_ver, .int .i64 r_port, .str r_to, .slice false (avs r_rules), .slice false (avs r_hosts)], .ro [.int .i64 k]] (.val (.bool (decide (r_kind = 0) && decide (r_port = k)))) := by
  refine CallR.go2 (T := T) Tryz.call130 Tryz.func130 rfl Tryz.ntmps130 (congrArg Array.toList Tryz.results130) (by decide) fun ts hn h0 h1 => ?_
  (repeat' (first
 | (with_reducible first | assumption | (refine NxK.out hK _ ?_; clear hK K) | refine NxK.out (by assumption) _ ?_ | refine Nx.out (by assumption) ?_ | refine SpecC.seqW fun K hK => ?_ | refine SpecC.regW T fun K hK => ?_ | refine SpecC.condW fun A B hA hB => ?_ | refine SpecC.block ?_ | refine SpecC.skip ?_ | refine SpecC.label ?_ | refine SpecC.exit ?_ | refine SpecC.goto ?_ | refine SpecC.ret ?_)
 | ((with_reducible first | refine condK.split (fun hb => ?_) (fun hb => ?_) | refine gK.split_t (fun hb => ?_) (fun hb => ?_) | refine gK.split_f (fun hb => ?_) (fun hb => ?_)) <;> try simp only [decide_not, ilt_t, ilt_f, ile_t, ile_f, nlt_t, nlt_f, nle_t, nle_f, Bool.not_eq_true', Bool.not_eq_false', Int.ofNat_lt, Int.ofNat_le] at hb)
 | simp only [go_sem, ↓reduceIte, reduceIte, Nat.reduceEqDiff, String.reduceEq, Nat.reduceLT, Nat.reduceLeDiff, Nat.reduceAdd, Nat.reduceMul, Nat.reduceSub, Nat.reduceBEq, reduceCtorEq, *]
 | with_reducible refine fun (bn : Bool) hbn => ?_))
  all_goals simp_all
def listen (l : List Res) (k : Int) : Option Res := l.find? fun r => decide (r.kind = 0) && decide (r.port = k)
set_option maxRecDepth 30000 in
theorem listen_c (xs : List Res) (k : Int) (hl : Small xs.length) : CallR Tryz.prog 95 [.slice false (avs xs), .int .i64 k] (.val (.tup [Dat.av ((listen xs k).getD zRes), .bool (listen xs k).isSome])) := by
  have hi := idxFRes_c 130 [.ro [.int .i64 k]] (caps_int k) (fun r => decide (r.kind = 0) && decide (r.port = k)) xs (fun x _ => listen1_c x.kind x.name x.ver x.port x.to' x.rules' x.hosts k) hl
  have hng : (-1 : Int) < 0 := by decide
  rcases idxF_find (fun r : Res => decide (r.kind = 0) && decide (r.port = k)) xs with ⟨e1, e2⟩ | ⟨j, hj, e1, e2⟩
  · rw [e1] at hi
    have e3 : listen xs k = none := e2
    rw [e3]
    refine CallR.go2 (T := T) Tryz.call95 Tryz.func95 rfl Tryz.ntmps95 (congrArg Array.toList Tryz.results95) (by decide) fun ts hn h0 h1 => ?_
    (repeat' (first
 | (with_reducible first | refine callX.by (hi) ?_ | refine callX.by (idxFRes_c _ _ ?_ _ _ ?_ ?_) ?_ | assumption | (refine NxK.out hK _ ?_; clear hK K) | refine NxK.out (by assumption) _ ?_ | refine Nx.out (by assumption) ?_ | refine SpecC.seqW fun K hK => ?_ | refine SpecC.regW T fun K hK => ?_ | refine SpecC.condW fun A B hA hB => ?_ | refine SpecC.block ?_ | refine SpecC.skip ?_ | refine SpecC.label ?_ | refine SpecC.exit ?_ | refine SpecC.goto ?_ | refine SpecC.ret ?_)
 | ((with_reducible first | refine condK.split (fun hb => ?_) (fun hb => ?_) | refine gK.split_t (fun hb => ?_) (fun hb => ?_) | refine gK.split_f (fun hb => ?_) (fun hb => ?_)) <;> try simp only [decide_not, ilt_t, ilt_f, ile_t, ile_f, nlt_t, nlt_f, nle_t, nle_f, Bool.not_eq_true', Bool.not_eq_false', Int.ofNat_lt, Int.ofNat_le] at hb)
 | simp only [go_sem, ↓reduceIte, reduceIte, Nat.reduceEqDiff, String.reduceEq, Nat.reduceLT, Nat.reduceLeDiff, Nat.reduceAdd, Nat.reduceMul, Nat.reduceSub, Nat.reduceBEq, reduceCtorEq, *, -hi, Option.getD_none, Option.isSome_none, zRes, avs_nil]
 | with_reducible refine fun (bn : Bool) hbn => ?_))
  · rw [e1] at hi
    have e3 : listen xs k = some xs[j] := e2
    rw [e3]
    have hj0 : ¬ (j : Int) < 0 := by omega
    refine CallR.go2 (T := T) Tryz.call95 Tryz.func95 rfl Tryz.ntmps95 (congrArg Array.toList Tryz.results95) (by decide) fun ts hn h0 h1 => ?_
    (repeat' (first
 | (with_reducible first | refine callX.by (hi) ?_ | refine callX.by (idxFRes_c _ _ ?_ _ _ ?_ ?_) ?_ | assumption | (refine NxK.out hK _ ?_; clear hK K) | refine NxK.out (by assumption) _ ?_ | refine Nx.out (by assumption) ?_ | refine SpecC.seqW fun K hK => ?_ | refine SpecC.regW T fun K hK => ?_ | refine SpecC.condW fun A B hA hB => ?_ | refine SpecC.block ?_ | refine SpecC.skip ?_ | refine SpecC.label ?_ | refine SpecC.exit ?_ | refine SpecC.goto ?_ | refine SpecC.ret ?_)
 | ((with_reducible first | refine condK.split (fun hb => ?_) (fun hb => ?_) | refine gK.split_t (fun hb => ?_) (fun hb => ?_) | refine gK.split_f (fun hb => ?_) (fun hb => ?_)) <;> try simp only [decide_not, ilt_t, ilt_f, ile_t, ile_f, nlt_t, nlt_f, nle_t, nle_f, Bool.not_eq_true', Bool.not_eq_false', Int.ofNat_lt, Int.ofNat_le] at hb)
 | simp only [go_sem, ↓reduceIte, reduceIte, Nat.reduceEqDiff, String.reduceEq, Nat.reduceLT, Nat.reduceLeDiff, Nat.reduceAdd, Nat.reduceMul, Nat.reduceSub, Nat.reduceBEq, reduceCtorEq, *, -hi, Option.getD_some, Option.isSome_some]
 | with_reducible refine fun (bn : Bool) hbn => ?_))
set_option maxRecDepth 30000 in
theorem enamed1_c (kind : Int) (name : List UInt8) (xs : List Res) (hl : Small xs.length) : CallR Tryz.prog 173 [.int .i64 kind, .str name, .ro [.slice false (avs xs)]] (.val (.tup [Dat.av ((tget xs ⟨kind, name⟩).getD zRes), .bool (tget xs ⟨kind, name⟩).isSome])) := by
  refine CallR.go3 (T := T) Tryz.call173 Tryz.func173 rfl Tryz.ntmps173 (congrArg Array.toList Tryz.results173) (by decide) fun ts hn h0 h1 h2 => ?_
  (repeat' (first
 | (with_reducible first | refine callX.by (tget_c _ _ _ ?_) ?_ | assumption | (refine NxK.out hK _ ?_; clear hK K) | refine NxK.out (by assumption) _ ?_ | refine Nx.out (by assumption) ?_ | refine SpecC.seqW fun K hK => ?_ | refine SpecC.regW T fun K hK => ?_ | refine SpecC.condW fun A B hA hB => ?_ | refine SpecC.block ?_ | refine SpecC.skip ?_ | refine SpecC.label ?_ | refine SpecC.exit ?_ | refine SpecC.goto ?_ | refine SpecC.ret ?_)
 | ((with_reducible first | refine condK.split (fun hb => ?_) (fun hb => ?_) | refine gK.split_t (fun hb => ?_) (fun hb => ?_) | refine gK.split_f (fun hb => ?_) (fun hb => ?_)) <;> try simp only [decide_not, ilt_t, ilt_f, ile_t, ile_f, nlt_t, nlt_f, nle_t, nle_f, Bool.not_eq_true', Bool.not_eq_false', Int.ofNat_lt, Int.ofNat_le] at hb)
 | simp only [go_sem, ↓reduceIte, reduceIte, Nat.reduceEqDiff, String.reduceEq, Nat.reduceLT, Nat.reduceLeDiff, Nat.reduceAdd, Nat.reduceMul, Nat.reduceSub, Nat.reduceBEq, reduceCtorEq, *]
 | with_reducible refine fun (bn : Bool) hbn => ?_))
set_option maxRecDepth 30000 in
theorem enamed_c (xs : List Res) : CallR Tryz.prog 131 [.slice false (avs xs)] (.val (.clo (.func 173) [] [.ro [.slice false (avs xs)]])) := by
  refine CallR.go1 (T := T) Tryz.call131 Tryz.func131 rfl Tryz.ntmps131 (congrArg Array.toList Tryz.results131) (by decide) fun ts hn h0 => ?_
  (repeat' (first
 | (with_reducible first | assumption | (refine NxK.out hK _ ?_; clear hK K) | refine NxK.out (by assumption) _ ?_ | refine Nx.out (by assumption) ?_ | refine SpecC.seqW fun K hK => ?_ | refine SpecC.regW T fun K hK => ?_ | refine SpecC.condW fun A B hA hB => ?_ | refine SpecC.block ?_ | refine SpecC.skip ?_ | refine SpecC.label ?_ | refine SpecC.exit ?_ | refine SpecC.goto ?_ | refine SpecC.ret ?_)
 | ((with_reducible first | refine condK.split (fun hb => ?_) (fun hb => ?_) | refine gK.split_t (fun hb => ?_) (fun hb => ?_) | refine gK.split_f (fun hb => ?_) (fun hb => ?_)) <;> try simp only [decide_not, ilt_t, ilt_f, ile_t, ile_f, nlt_t, nlt_f, nle_t, nle_f, Bool.not_eq_true', Bool.not_eq_false', Int.ofNat_lt, Int.ofNat_le] at hb)
 | simp only [go_sem, ↓reduceIte, reduceIte, Nat.reduceEqDiff, String.reduceEq, Nat.reduceLT, Nat.reduceLeDiff, Nat.reduceAdd, Nat.reduceMul, Nat.reduceSub, Nat.reduceBEq, reduceCtorEq, *]
 | with_reducible refine fun (bn : Bool) hbn => ?_))
def ruleE (l : List Res) (to' : List UInt8) (h pa : List UInt8) : Option Rule := match tget l ⟨1, to'⟩ with
  | none => none
  | some r => pickR r.rules' h pa
set_option maxRecDepth 30000 in
theorem ruleE_c (xs : List Res) (to' : List UInt8) (a_port : Int) (a_host : List UInt8) (a_path : List UInt8) (a_first : Int) (a_other : Int) (hl : Small xs.length) (hs : ∀ r ∈ xs, SmRes r) (hh : Small a_host.length) : CallR Tryz.prog 96 [.slice false (avs xs), .str to', .agg [.int .i64 a_port, .str a_host, .str a_path, .int .i64 a_first, .int .i64 a_other]] (.val (.tup [Dat.av ((ruleE xs to' a_host a_path).getD zRule), .bool (ruleE xs to' a_host a_path).isSome])) := by
  cases hg : tget xs ⟨1, to'⟩ with
  | none =>
    have e : ruleE xs to' a_host a_path = none := by unfold ruleE; rw [hg]
    rw [e]
    refine CallR.go3 (T := T) Tryz.call96 Tryz.func96 rfl Tryz.ntmps96 (congrArg Array.toList Tryz.results96) (by decide) fun ts hn h0 h1 h2 => ?_
    (repeat' (first
 | (with_reducible first | refine callX.by (enamed1_c _ _ _ ?_) ?_ | refine callX.by (enamed_c _) ?_ | refine callX.by (pickR_c _ _ _ ?_ ?_ ?_) ?_ | assumption | (refine NxK.out hK _ ?_; clear hK K) | refine NxK.out (by assumption) _ ?_ | refine Nx.out (by assumption) ?_ | refine SpecC.seqW fun K hK => ?_ | refine SpecC.regW T fun K hK => ?_ | refine SpecC.condW fun A B hA hB => ?_ | refine SpecC.block ?_ | refine SpecC.skip ?_ | refine SpecC.label ?_ | refine SpecC.exit ?_ | refine SpecC.goto ?_ | refine SpecC.ret ?_)
 | ((with_reducible first | refine condK.split (fun hb => ?_) (fun hb => ?_) | refine gK.split_t (fun hb => ?_) (fun hb => ?_) | refine gK.split_f (fun hb => ?_) (fun hb => ?_)) <;> try simp only [decide_not, ilt_t, ilt_f, ile_t, ile_f, nlt_t, nlt_f, nle_t, nle_f, Bool.not_eq_true', Bool.not_eq_false', Int.ofNat_lt, Int.ofNat_le] at hb)
 | simp only [go_sem, ↓reduceIte, reduceIte, Nat.reduceEqDiff, String.reduceEq, Nat.reduceLT, Nat.reduceLeDiff, Nat.reduceAdd, Nat.reduceMul, Nat.reduceSub, Nat.reduceBEq, reduceCtorEq, *, -hs, Option.getD_none, Option.isSome_none, zRule, avs_nil]
 | with_reducible refine fun (bn : Bool) hbn => ?_))
  | some r =>
    have e : ruleE xs to' a_host a_path = pickR r.rules' a_host a_path := by unfold ruleE; rw [hg]
    rw [e]
    obtain ⟨_, _, hx1, hx2, hx3⟩ := hs r (List.mem_of_find?_eq_some hg)
    have hp := pickR_c r.rules' a_host a_path hx1 hx2 hh
    refine CallR.go3 (T := T) Tryz.call96 Tryz.func96 rfl Tryz.ntmps96 (congrArg Array.toList Tryz.results96) (by decide) fun ts hn h0 h1 h2 => ?_
    (repeat' (first
 | (with_reducible first | refine callX.by (hp) ?_ | refine callX.by (enamed1_c _ _ _ ?_) ?_ | refine callX.by (enamed_c _) ?_ | refine callX.by (pickR_c _ _ _ ?_ ?_ ?_) ?_ | assumption | (refine NxK.out hK _ ?_; clear hK K) | refine NxK.out (by assumption) _ ?_ | refine Nx.out (by assumption) ?_ | refine SpecC.seqW fun K hK => ?_ | refine SpecC.regW T fun K hK => ?_ | refine SpecC.condW fun A B hA hB => ?_ | refine SpecC.block ?_ | refine SpecC.skip ?_ | refine SpecC.label ?_ | refine SpecC.exit ?_ | refine SpecC.goto ?_ | refine SpecC.ret ?_)
 | ((with_reducible first | refine condK.split (fun hb => ?_) (fun hb => ?_) | refine gK.split_t (fun hb => ?_) (fun hb => ?_) | refine gK.split_f (fun hb => ?_) (fun hb => ?_)) <;> try simp only [decide_not, ilt_t, ilt_f, ile_t, ile_f, nlt_t, nlt_f, nle_t, nle_f, Bool.not_eq_true', Bool.not_eq_false', Int.ofNat_lt, Int.ofNat_le] at hb)
 | simp only [go_sem, ↓reduceIte, reduceIte, Nat.reduceEqDiff, String.reduceEq, Nat.reduceLT, Nat.reduceLeDiff, Nat.reduceAdd, Nat.reduceMul, Nat.reduceSub, Nat.reduceBEq, reduceCtorEq, *, -hs, -hx2, -hp, Option.getD_some, Option.isSome_some]
 | with_reducible refine fun (bn : Bool) hbn => ?_))
def endsE (l : List Res) (c : List UInt8) : List Int × Bool := match tget l ⟨2, c⟩ with
  | none => ([], false)
  | some r => match tget l ⟨3, r.to'⟩ with
    | none => ([], false)
    | some e => (e.hosts, true)
set_option maxRecDepth 30000 in
theorem endsE_c (xs : List Res) (c : List UInt8) (hl : Small xs.length) : CallR Tryz.prog 98 [.slice false (avs xs), .str c] (.val (.tup [.slice false (avs (endsE xs c).1), .bool (endsE xs c).2])) := by
  cases hg : tget xs ⟨2, c⟩ with
  | none =>
    have e : endsE xs c = ([], false) := by unfold endsE; rw [hg]
    rw [e]
    refine CallR.go2 (T := T) Tryz.call98 Tryz.func98 rfl Tryz.ntmps98 (congrArg Array.toList Tryz.results98) (by decide) fun ts hn h0 h1 => ?_
    (repeat' (first
 | (with_reducible first | refine callX.by (enamed1_c _ _ _ ?_) ?_ | refine callX.by (enamed_c _) ?_ | assumption | (refine NxK.out hK _ ?_; clear hK K) | refine NxK.out (by assumption) _ ?_ | refine Nx.out (by assumption) ?_ | refine SpecC.seqW fun K hK => ?_ | refine SpecC.regW T fun K hK => ?_ | refine SpecC.condW fun A B hA hB => ?_ | refine SpecC.block ?_ | refine SpecC.skip ?_ | refine SpecC.label ?_ | refine SpecC.exit ?_ | refine SpecC.goto ?_ | refine SpecC.ret ?_)
 | ((with_reducible first | refine condK.split (fun hb => ?_) (fun hb => ?_) | refine gK.split_t (fun hb => ?_) (fun hb => ?_) | refine gK.split_f (fun hb => ?_) (fun hb => ?_)) <;> try simp only [decide_not, ilt_t, ilt_f, ile_t, ile_f, nlt_t, nlt_f, nle_t, nle_f, Bool.not_eq_true', Bool.not_eq_false', Int.ofNat_lt, Int.ofNat_le] at hb)
 | simp only [go_sem, ↓reduceIte, reduceIte, Nat.reduceEqDiff, String.reduceEq, Nat.reduceLT, Nat.reduceLeDiff, Nat.reduceAdd, Nat.reduceMul, Nat.reduceSub, Nat.reduceBEq, reduceCtorEq, *, Option.getD_none, Option.isSome_none, zRes, avs_nil]
 | with_reducible refine fun (bn : Bool) hbn => ?_))
  | some r =>
    cases hg2 : tget xs ⟨3, r.to'⟩ with
    | none =>
      have e : endsE xs c = ([], false) := by unfold endsE; rw [hg]; simp only [hg2]
      rw [e]
      refine CallR.go2 (T := T) Tryz.call98 Tryz.func98 rfl Tryz.ntmps98 (congrArg Array.toList Tryz.results98) (by decide) fun ts hn h0 h1 => ?_
      (repeat' (first
 | (with_reducible first | refine callX.by (enamed1_c _ _ _ ?_) ?_ | refine callX.by (enamed_c _) ?_ | assumption | (refine NxK.out hK _ ?_; clear hK K) | refine NxK.out (by assumption) _ ?_ | refine Nx.out (by assumption) ?_ | refine SpecC.seqW fun K hK => ?_ | refine SpecC.regW T fun K hK => ?_ | refine SpecC.condW fun A B hA hB => ?_ | refine SpecC.block ?_ | refine SpecC.skip ?_ | refine SpecC.label ?_ | refine SpecC.exit ?_ | refine SpecC.goto ?_ | refine SpecC.ret ?_)
 | ((with_reducible first | refine condK.split (fun hb => ?_) (fun hb => ?_) | refine gK.split_t (fun hb => ?_) (fun hb => ?_) | refine gK.split_f (fun hb => ?_) (fun hb => ?_)) <;> try simp only [decide_not, ilt_t, ilt_f, ile_t, ile_f, nlt_t, nlt_f, nle_t, nle_f, Bool.not_eq_true', Bool.not_eq_false', Int.ofNat_lt, Int.ofNat_le] at hb)
 | simp only [go_sem, ↓reduceIte, reduceIte, Nat.reduceEqDiff, String.reduceEq, Nat.reduceLT, Nat.reduceLeDiff, Nat.reduceAdd, Nat.reduceMul, Nat.reduceSub, Nat.reduceBEq, reduceCtorEq, *, Option.getD_none, Option.isSome_none, Option.getD_some, Option.isSome_some, zRes, avs_nil]
 | with_reducible refine fun (bn : Bool) hbn => ?_))
    | some q =>
      have e : endsE xs c = (q.hosts, true) := by unfold endsE; rw [hg]; simp only [hg2]
      rw [e]
      refine CallR.go2 (T := T) Tryz.call98 Tryz.func98 rfl Tryz.ntmps98 (congrArg Array.toList Tryz.results98) (by decide) fun ts hn h0 h1 => ?_
      (repeat' (first
 | (with_reducible first | refine callX.by (enamed1_c _ _ _ ?_) ?_ | refine callX.by (enamed_c _) ?_ | assumption | (refine NxK.out hK _ ?_; clear hK K) | refine NxK.out (by assumption) _ ?_ | refine Nx.out (by assumption) ?_ | refine SpecC.seqW fun K hK => ?_ | refine SpecC.regW T fun K hK => ?_ | refine SpecC.condW fun A B hA hB => ?_ | refine SpecC.block ?_ | refine SpecC.skip ?_ | refine SpecC.label ?_ | refine SpecC.exit ?_ | refine SpecC.goto ?_ | refine SpecC.ret ?_)
 | ((with_reducible first | refine condK.split (fun hb => ?_) (fun hb => ?_) | refine gK.split_t (fun hb => ?_) (fun hb => ?_) | refine gK.split_f (fun hb => ?_) (fun hb => ?_)) <;> try simp only [decide_not, ilt_t, ilt_f, ile_t, ile_f, nlt_t, nlt_f, nle_t, nle_f, Bool.not_eq_true', Bool.not_eq_false', Int.ofNat_lt, Int.ofNat_le] at hb)
 | simp only [go_sem, ↓reduceIte, reduceIte, Nat.reduceEqDiff, String.reduceEq, Nat.reduceLT, Nat.reduceLeDiff, Nat.reduceAdd, Nat.reduceMul, Nat.reduceSub, Nat.reduceBEq, reduceCtorEq, *, Option.getD_some, Option.isSome_some]
 | with_reducible refine fun (bn : Bool) hbn => ?_))
end Go.Proofs.YtndnkbekhmndhaaGreatDoor.Lg

namespace Go.Proofs.YtndnkbekhmndhaaGreatDoor.Lg
set_option maxRecDepth 100000
set_option linter.unusedVariables false
set_option linter.unusedSimpArgs false
open Go
theorem bestR_mem (p : Rule → Bool) : ∀ (xs : List Rule) (o : Option Rule) (r : Rule), bestR p xs o = some r → r ∈ xs ∨ o = some r
  | [], o, r, h => .inr h
  | x :: l, o, r, h => by
    rw [bestR] at h
    rcases bestR_mem p l _ r h with h1 | h1
    · exact .inl (by simp [h1])
    · split at h1
      · cases h1; exact .inl (by simp)
      · exact .inr h1
theorem pickR_mem {xs : List Rule} {h pa : List UInt8} {r : Rule} (e : pickR xs h pa = some r) : r ∈ xs := by
  rcases bestR_mem _ _ _ _ e with h1 | h1
  · exact h1
  · cases h1
theorem ruleE_sm {xs : List Res} {to' h pa : List UInt8} {r : Rule} (hs : ∀ r ∈ xs, SmRes r) (e : ruleE xs to' h pa = some r) : SmRule r := by
  unfold ruleE at e
  split at e
  · cases e
  · rename_i q hq
    exact (hs q (List.mem_of_find?_eq_some hq)).2.2.2.1 r (pickR_mem e)
theorem endsE_sm {xs : List Res} {c : List UInt8} (hs : ∀ r ∈ xs, SmRes r) : Small (endsE xs c).1.length := by
  unfold endsE
  split
  · simp [Small]
  · split
    · simp [Small]
    · rename_i q hq
      exact (hs q (List.mem_of_find?_eq_some hq)).2.2.2.2
def ansE (l : List Res) (a : Ask) : Answer := match listen l a.port with
  | none => ⟨1, [], 0⟩
  | some x => match ruleE l x.to' a.host a.path with
    | none => ⟨2, [], 0⟩
    | some r => match pickC r.split a.first with
      | none => ⟨0, [], 0⟩
      | some c => match pickH (endsE l c).1 a.other with
        | none => ⟨0, [], 0⟩
        | some h => ⟨3, c, h⟩
set_option maxRecDepth 30000 in
theorem ansF_c (xs : List Res) (a_port : Int) (a_host : List UInt8) (a_path : List UInt8) (a_first : Int) (a_other : Int) : CallR Tryz.prog 42 [.slice false (avs xs), .bool false, .agg [.int .i64 a_port, .str a_host, .str a_path, .int .i64 a_first, .int .i64 a_other]] (.val (.agg [.int .i64 0, .str [], .int .i64 0])) := by
  refine CallR.go3 (T := T) Tryz.call42 Tryz.func42 rfl Tryz.ntmps42 (congrArg Array.toList Tryz.results42) (by decide) fun ts hn h0 h1 h2 => ?_
  (repeat' (first
 | (with_reducible first | refine callX.by (listen_c _ _ ?_) ?_ | refine callX.by (listen_c _ _ ?_) ?_ | refine callX.by (ruleE_c _ _ _ _ _ _ _ ?_ ?_ ?_) ?_ | refine callX.by (pickC_c _ _ ?_) ?_ | refine callX.by (endsE_c _ _ ?_) ?_ | refine callX.by (pickH_c _ _ ?_) ?_ | assumption | (refine NxK.out hK _ ?_; clear hK K) | refine NxK.out (by assumption) _ ?_ | refine Nx.out (by assumption) ?_ | refine SpecC.seqW fun K hK => ?_ | refine SpecC.regW T fun K hK => ?_ | refine SpecC.condW fun A B hA hB => ?_ | refine SpecC.block ?_ | refine SpecC.skip ?_ | refine SpecC.label ?_ | refine SpecC.exit ?_ | refine SpecC.goto ?_ | refine SpecC.ret ?_)
 | ((with_reducible first | refine condK.split (fun hb => ?_) (fun hb => ?_) | refine gK.split_t (fun hb => ?_) (fun hb => ?_) | refine gK.split_f (fun hb => ?_) (fun hb => ?_)) <;> try simp only [decide_not, ilt_t, ilt_f, ile_t, ile_f, nlt_t, nlt_f, nle_t, nle_f, Bool.not_eq_true', Bool.not_eq_false', Int.ofNat_lt, Int.ofNat_le] at hb)
 | simp only [go_sem, ↓reduceIte, reduceIte, Nat.reduceEqDiff, String.reduceEq, Nat.reduceLT, Nat.reduceLeDiff, Nat.reduceAdd, Nat.reduceMul, Nat.reduceSub, Nat.reduceBEq, reduceCtorEq, *]
 | with_reducible refine fun (bn : Bool) hbn => ?_))
set_option maxRecDepth 30000 in
set_option maxHeartbeats 4000000 in
theorem ansE_c (xs : List Res) (a_port : Int) (a_host : List UInt8) (a_path : List UInt8) (a_first : Int) (a_other : Int) (hl : Small xs.length) (hs : ∀ r ∈ xs, SmRes r) (hh : Small a_host.length) : CallR Tryz.prog 42 [.slice false (avs xs), .bool true, .agg [.int .i64 a_port, .str a_host, .str a_path, .int .i64 a_first, .int .i64 a_other]] (.val (Dat.av (ansE xs (⟨a_port, a_host, a_path, a_first, a_other⟩ : Ask)))) := by
  cases h1 : listen xs a_port with
  | none =>
    have e : ansE xs (⟨a_port, a_host, a_path, a_first, a_other⟩ : Ask) = ⟨1, [], 0⟩ := by unfold ansE; rw [h1]
    rw [e]
    refine CallR.go3 (T := T) Tryz.call42 Tryz.func42 rfl Tryz.ntmps42 (congrArg Array.toList Tryz.results42) (by decide) fun ts hn h0 h1 h2 => ?_
    (repeat' (first
 | (with_reducible first | refine callX.by (listen_c _ _ ?_) ?_ | refine callX.by (listen_c _ _ ?_) ?_ | refine callX.by (ruleE_c _ _ _ _ _ _ _ ?_ ?_ ?_) ?_ | refine callX.by (pickC_c _ _ ?_) ?_ | refine callX.by (endsE_c _ _ ?_) ?_ | refine callX.by (pickH_c _ _ ?_) ?_ | assumption | (refine NxK.out hK _ ?_; clear hK K) | refine NxK.out (by assumption) _ ?_ | refine Nx.out (by assumption) ?_ | refine SpecC.seqW fun K hK => ?_ | refine SpecC.regW T fun K hK => ?_ | refine SpecC.condW fun A B hA hB => ?_ | refine SpecC.block ?_ | refine SpecC.skip ?_ | refine SpecC.label ?_ | refine SpecC.exit ?_ | refine SpecC.goto ?_ | refine SpecC.ret ?_)
 | ((with_reducible first | refine condK.split (fun hb => ?_) (fun hb => ?_) | refine gK.split_t (fun hb => ?_) (fun hb => ?_) | refine gK.split_f (fun hb => ?_) (fun hb => ?_)) <;> try simp only [decide_not, ilt_t, ilt_f, ile_t, ile_f, nlt_t, nlt_f, nle_t, nle_f, Bool.not_eq_true', Bool.not_eq_false', Int.ofNat_lt, Int.ofNat_le] at hb)
 | simp only [go_sem, ↓reduceIte, reduceIte, Nat.reduceEqDiff, String.reduceEq, Nat.reduceLT, Nat.reduceLeDiff, Nat.reduceAdd, Nat.reduceMul, Nat.reduceSub, Nat.reduceBEq, reduceCtorEq, *, -hs, Option.getD_none, Option.isSome_none, zRes, avs_nil]
 | with_reducible refine fun (bn : Bool) hbn => ?_))
  | some x =>
    cases h2 : ruleE xs x.to' a_host a_path with
    | none =>
      have e : ansE xs (⟨a_port, a_host, a_path, a_first, a_other⟩ : Ask) = ⟨2, [], 0⟩ := by unfold ansE; rw [h1]; simp only [h2]
      rw [e]
      refine CallR.go3 (T := T) Tryz.call42 Tryz.func42 rfl Tryz.ntmps42 (congrArg Array.toList Tryz.results42) (by decide) fun ts hn h0 h1 h2 => ?_
      (repeat' (first
 | (with_reducible first | refine callX.by (listen_c _ _ ?_) ?_ | refine callX.by (listen_c _ _ ?_) ?_ | refine callX.by (ruleE_c _ _ _ _ _ _ _ ?_ ?_ ?_) ?_ | refine callX.by (pickC_c _ _ ?_) ?_ | refine callX.by (endsE_c _ _ ?_) ?_ | refine callX.by (pickH_c _ _ ?_) ?_ | assumption | (refine NxK.out hK _ ?_; clear hK K) | refine NxK.out (by assumption) _ ?_ | refine Nx.out (by assumption) ?_ | refine SpecC.seqW fun K hK => ?_ | refine SpecC.regW T fun K hK => ?_ | refine SpecC.condW fun A B hA hB => ?_ | refine SpecC.block ?_ | refine SpecC.skip ?_ | refine SpecC.label ?_ | refine SpecC.exit ?_ | refine SpecC.goto ?_ | refine SpecC.ret ?_)
 | ((with_reducible first | refine condK.split (fun hb => ?_) (fun hb => ?_) | refine gK.split_t (fun hb => ?_) (fun hb => ?_) | refine gK.split_f (fun hb => ?_) (fun hb => ?_)) <;> try simp only [decide_not, ilt_t, ilt_f, ile_t, ile_f, nlt_t, nlt_f, nle_t, nle_f, Bool.not_eq_true', Bool.not_eq_false', Int.ofNat_lt, Int.ofNat_le] at hb)
 | simp only [go_sem, ↓reduceIte, reduceIte, Nat.reduceEqDiff, String.reduceEq, Nat.reduceLT, Nat.reduceLeDiff, Nat.reduceAdd, Nat.reduceMul, Nat.reduceSub, Nat.reduceBEq, reduceCtorEq, *, -hs, Option.getD_none, Option.isSome_none, Option.getD_some, Option.isSome_some, zRule, avs_nil]
 | with_reducible refine fun (bn : Bool) hbn => ?_))
    | some r =>
      have hr3 : Small r.split.length := (ruleE_sm hs h2).2.2.1
      cases h3 : pickC r.split a_first with
      | none =>
        have e : ansE xs (⟨a_port, a_host, a_path, a_first, a_other⟩ : Ask) = ⟨0, [], 0⟩ := by unfold ansE; rw [h1]; simp only [h2, h3]
        rw [e]
        refine CallR.go3 (T := T) Tryz.call42 Tryz.func42 rfl Tryz.ntmps42 (congrArg Array.toList Tryz.results42) (by decide) fun ts hn h0 h1 h2 => ?_
        (repeat' (first
 | (with_reducible first | refine callX.by (listen_c _ _ ?_) ?_ | refine callX.by (listen_c _ _ ?_) ?_ | refine callX.by (ruleE_c _ _ _ _ _ _ _ ?_ ?_ ?_) ?_ | refine callX.by (pickC_c _ _ ?_) ?_ | refine callX.by (endsE_c _ _ ?_) ?_ | refine callX.by (pickH_c _ _ ?_) ?_ | assumption | (refine NxK.out hK _ ?_; clear hK K) | refine NxK.out (by assumption) _ ?_ | refine Nx.out (by assumption) ?_ | refine SpecC.seqW fun K hK => ?_ | refine SpecC.regW T fun K hK => ?_ | refine SpecC.condW fun A B hA hB => ?_ | refine SpecC.block ?_ | refine SpecC.skip ?_ | refine SpecC.label ?_ | refine SpecC.exit ?_ | refine SpecC.goto ?_ | refine SpecC.ret ?_)
 | ((with_reducible first | refine condK.split (fun hb => ?_) (fun hb => ?_) | refine gK.split_t (fun hb => ?_) (fun hb => ?_) | refine gK.split_f (fun hb => ?_) (fun hb => ?_)) <;> try simp only [decide_not, ilt_t, ilt_f, ile_t, ile_f, nlt_t, nlt_f, nle_t, nle_f, Bool.not_eq_true', Bool.not_eq_false', Int.ofNat_lt, Int.ofNat_le] at hb)
 | simp only [go_sem, ↓reduceIte, reduceIte, Nat.reduceEqDiff, String.reduceEq, Nat.reduceLT, Nat.reduceLeDiff, Nat.reduceAdd, Nat.reduceMul, Nat.reduceSub, Nat.reduceBEq, reduceCtorEq, *, -hs, Option.getD_none, Option.isSome_none, Option.getD_some, Option.isSome_some]
 | with_reducible refine fun (bn : Bool) hbn => ?_))
      | some c =>
        have he3 := endsE_sm (c := c) hs
        cases h4 : pickH (endsE xs c).1 a_other with
        | none =>
          have e : ansE xs (⟨a_port, a_host, a_path, a_first, a_other⟩ : Ask) = ⟨0, [], 0⟩ := by unfold ansE; rw [h1]; simp only [h2, h3, h4]
          rw [e]
          refine CallR.go3 (T := T) Tryz.call42 Tryz.func42 rfl Tryz.ntmps42 (congrArg Array.toList Tryz.results42) (by decide) fun ts hn h0 h1 h2 => ?_
          (repeat' (first
 | (with_reducible first | refine callX.by (listen_c _ _ ?_) ?_ | refine callX.by (listen_c _ _ ?_) ?_ | refine callX.by (ruleE_c _ _ _ _ _ _ _ ?_ ?_ ?_) ?_ | refine callX.by (pickC_c _ _ ?_) ?_ | refine callX.by (endsE_c _ _ ?_) ?_ | refine callX.by (pickH_c _ _ ?_) ?_ | assumption | (refine NxK.out hK _ ?_; clear hK K) | refine NxK.out (by assumption) _ ?_ | refine Nx.out (by assumption) ?_ | refine SpecC.seqW fun K hK => ?_ | refine SpecC.regW T fun K hK => ?_ | refine SpecC.condW fun A B hA hB => ?_ | refine SpecC.block ?_ | refine SpecC.skip ?_ | refine SpecC.label ?_ | refine SpecC.exit ?_ | refine SpecC.goto ?_ | refine SpecC.ret ?_)
 | ((with_reducible first | refine condK.split (fun hb => ?_) (fun hb => ?_) | refine gK.split_t (fun hb => ?_) (fun hb => ?_) | refine gK.split_f (fun hb => ?_) (fun hb => ?_)) <;> try simp only [decide_not, ilt_t, ilt_f, ile_t, ile_f, nlt_t, nlt_f, nle_t, nle_f, Bool.not_eq_true', Bool.not_eq_false', Int.ofNat_lt, Int.ofNat_le] at hb)
 | simp only [go_sem, ↓reduceIte, reduceIte, Nat.reduceEqDiff, String.reduceEq, Nat.reduceLT, Nat.reduceLeDiff, Nat.reduceAdd, Nat.reduceMul, Nat.reduceSub, Nat.reduceBEq, reduceCtorEq, *, -hs, Option.getD_none, Option.isSome_none, Option.getD_some, Option.isSome_some]
 | with_reducible refine fun (bn : Bool) hbn => ?_))
        | some h =>
          have e : ansE xs (⟨a_port, a_host, a_path, a_first, a_other⟩ : Ask) = ⟨3, c, h⟩ := by unfold ansE; rw [h1]; simp only [h2, h3, h4]
          rw [e]
          refine CallR.go3 (T := T) Tryz.call42 Tryz.func42 rfl Tryz.ntmps42 (congrArg Array.toList Tryz.results42) (by decide) fun ts hn h0 h1 h2 => ?_
          (repeat' (first
 | (with_reducible first | refine callX.by (listen_c _ _ ?_) ?_ | refine callX.by (listen_c _ _ ?_) ?_ | refine callX.by (ruleE_c _ _ _ _ _ _ _ ?_ ?_ ?_) ?_ | refine callX.by (pickC_c _ _ ?_) ?_ | refine callX.by (endsE_c _ _ ?_) ?_ | refine callX.by (pickH_c _ _ ?_) ?_ | assumption | (refine NxK.out hK _ ?_; clear hK K) | refine NxK.out (by assumption) _ ?_ | refine Nx.out (by assumption) ?_ | refine SpecC.seqW fun K hK => ?_ | refine SpecC.regW T fun K hK => ?_ | refine SpecC.condW fun A B hA hB => ?_ | refine SpecC.block ?_ | refine SpecC.skip ?_ | refine SpecC.label ?_ | refine SpecC.exit ?_ | refine SpecC.goto ?_ | refine SpecC.ret ?_)
 | ((with_reducible first | refine condK.split (fun hb => ?_) (fun hb => ?_) | refine gK.split_t (fun hb => ?_) (fun hb => ?_) | refine gK.split_f (fun hb => ?_) (fun hb => ?_)) <;> try simp only [decide_not, ilt_t, ilt_f, ile_t, ile_f, nlt_t, nlt_f, nle_t, nle_f, Bool.not_eq_true', Bool.not_eq_false', Int.ofNat_lt, Int.ofNat_le] at hb)
 | simp only [go_sem, ↓reduceIte, reduceIte, Nat.reduceEqDiff, String.reduceEq, Nat.reduceLT, Nat.reduceLeDiff, Nat.reduceAdd, Nat.reduceMul, Nat.reduceSub, Nat.reduceBEq, reduceCtorEq, *, -hs, Option.getD_some, Option.isSome_some]
 | with_reducible refine fun (bn : Bool) hbn => ?_))
def goodE (l : List Res) : Bool := decide (tsane l = 0) && decide (served l = 0)
def withinE (l : List Res) (x : Answer) : Bool := if x.what = 0 ∨ x.what = 1 ∨ x.what = 2 then decide (x.cluster = [] ∧ x.host = 0) else if x.what = 3 then (endsE l x.cluster).2 && (endsE l x.cluster).1.any fun y => decide (x.host = y) else false
set_option maxRecDepth 30000 in
theorem withinE_c (xs : List Res) (x_what : Int) (x_cluster : List UInt8) (x_host : Int) (hl : Small xs.length) (hs : ∀ r ∈ xs, SmRes r) : CallR Tryz.prog 88 [.slice false (avs xs), .agg [.int .i64 x_what, .str x_cluster, .int .i64 x_host]] (.val (.bool (withinE xs (⟨x_what, x_cluster, x_host⟩ : Answer)))) := by
  have he3 := endsE_sm (c := x_cluster) hs
  by_cases h0 : x_what = 0
  · subst h0
    refine CallR.go2 (T := T) Tryz.call88 Tryz.func88 rfl Tryz.ntmps88 (congrArg Array.toList Tryz.results88) (by decide) fun ts hn h0 h1 => ?_
    (repeat' (first
 | (with_reducible first | refine callX.by (endsE_c _ _ ?_) ?_ | refine callX.by (conI_c _ _ ?_) ?_ | assumption | (refine NxK.out hK _ ?_; clear hK K) | refine NxK.out (by assumption) _ ?_ | refine Nx.out (by assumption) ?_ | refine SpecC.seqW fun K hK => ?_ | refine SpecC.regW T fun K hK => ?_ | refine SpecC.condW fun A B hA hB => ?_ | refine SpecC.block ?_ | refine SpecC.skip ?_ | refine SpecC.label ?_ | refine SpecC.exit ?_ | refine SpecC.goto ?_ | refine SpecC.ret ?_)
 | ((with_reducible first | refine condK.split (fun hb => ?_) (fun hb => ?_) | refine gK.split_t (fun hb => ?_) (fun hb => ?_) | refine gK.split_f (fun hb => ?_) (fun hb => ?_)) <;> try simp only [decide_not, ilt_t, ilt_f, ile_t, ile_f, nlt_t, nlt_f, nle_t, nle_f, Bool.not_eq_true', Bool.not_eq_false', Int.ofNat_lt, Int.ofNat_le] at hb)
 | simp only [go_sem, ↓reduceIte, reduceIte, Nat.reduceEqDiff, String.reduceEq, Nat.reduceLT, Nat.reduceLeDiff, Nat.reduceAdd, Nat.reduceMul, Nat.reduceSub, Nat.reduceBEq, reduceCtorEq, *, -hs, Int.reduceEq]
 | with_reducible refine fun (bn : Bool) hbn => ?_))
    all_goals simp [withinE]
  by_cases h1 : x_what = 1
  · subst h1
    refine CallR.go2 (T := T) Tryz.call88 Tryz.func88 rfl Tryz.ntmps88 (congrArg Array.toList Tryz.results88) (by decide) fun ts hn h0 h1 => ?_
    (repeat' (first
 | (with_reducible first | refine callX.by (endsE_c _ _ ?_) ?_ | refine callX.by (conI_c _ _ ?_) ?_ | assumption | (refine NxK.out hK _ ?_; clear hK K) | refine NxK.out (by assumption) _ ?_ | refine Nx.out (by assumption) ?_ | refine SpecC.seqW fun K hK => ?_ | refine SpecC.regW T fun K hK => ?_ | refine SpecC.condW fun A B hA hB => ?_ | refine SpecC.block ?_ | refine SpecC.skip ?_ | refine SpecC.label ?_ | refine SpecC.exit ?_ | refine SpecC.goto ?_ | refine SpecC.ret ?_)
 | ((with_reducible first | refine condK.split (fun hb => ?_) (fun hb => ?_) | refine gK.split_t (fun hb => ?_) (fun hb => ?_) | refine gK.split_f (fun hb => ?_) (fun hb => ?_)) <;> try simp only [decide_not, ilt_t, ilt_f, ile_t, ile_f, nlt_t, nlt_f, nle_t, nle_f, Bool.not_eq_true', Bool.not_eq_false', Int.ofNat_lt, Int.ofNat_le] at hb)
 | simp only [go_sem, ↓reduceIte, reduceIte, Nat.reduceEqDiff, String.reduceEq, Nat.reduceLT, Nat.reduceLeDiff, Nat.reduceAdd, Nat.reduceMul, Nat.reduceSub, Nat.reduceBEq, reduceCtorEq, *, -hs, Int.reduceEq]
 | with_reducible refine fun (bn : Bool) hbn => ?_))
    all_goals simp [withinE]
  by_cases h2 : x_what = 2
  · subst h2
    refine CallR.go2 (T := T) Tryz.call88 Tryz.func88 rfl Tryz.ntmps88 (congrArg Array.toList Tryz.results88) (by decide) fun ts hn h0 h1 => ?_
    (repeat' (first
 | (with_reducible first | refine callX.by (endsE_c _ _ ?_) ?_ | refine callX.by (conI_c _ _ ?_) ?_ | assumption | (refine NxK.out hK _ ?_; clear hK K) | refine NxK.out (by assumption) _ ?_ | refine Nx.out (by assumption) ?_ | refine SpecC.seqW fun K hK => ?_ | refine SpecC.regW T fun K hK => ?_ | refine SpecC.condW fun A B hA hB => ?_ | refine SpecC.block ?_ | refine SpecC.skip ?_ | refine SpecC.label ?_ | refine SpecC.exit ?_ | refine SpecC.goto ?_ | refine SpecC.ret ?_)
 | ((with_reducible first | refine condK.split (fun hb => ?_) (fun hb => ?_) | refine gK.split_t (fun hb => ?_) (fun hb => ?_) | refine gK.split_f (fun hb => ?_) (fun hb => ?_)) <;> try simp only [decide_not, ilt_t, ilt_f, ile_t, ile_f, nlt_t, nlt_f, nle_t, nle_f, Bool.not_eq_true', Bool.not_eq_false', Int.ofNat_lt, Int.ofNat_le] at hb)
 | simp only [go_sem, ↓reduceIte, reduceIte, Nat.reduceEqDiff, String.reduceEq, Nat.reduceLT, Nat.reduceLeDiff, Nat.reduceAdd, Nat.reduceMul, Nat.reduceSub, Nat.reduceBEq, reduceCtorEq, *, -hs, Int.reduceEq]
 | with_reducible refine fun (bn : Bool) hbn => ?_))
    all_goals simp [withinE]
  by_cases h3 : x_what = 3
  · subst h3
    refine CallR.go2 (T := T) Tryz.call88 Tryz.func88 rfl Tryz.ntmps88 (congrArg Array.toList Tryz.results88) (by decide) fun ts hn h0 h1 => ?_
    (repeat' (first
 | (with_reducible first | refine callX.by (endsE_c _ _ ?_) ?_ | refine callX.by (conI_c _ _ ?_) ?_ | assumption | (refine NxK.out hK _ ?_; clear hK K) | refine NxK.out (by assumption) _ ?_ | refine Nx.out (by assumption) ?_ | refine SpecC.seqW fun K hK => ?_ | refine SpecC.regW T fun K hK => ?_ | refine SpecC.condW fun A B hA hB => ?_ | refine SpecC.block ?_ | refine SpecC.skip ?_ | refine SpecC.label ?_ | refine SpecC.exit ?_ | refine SpecC.goto ?_ | refine SpecC.ret ?_)
 | ((with_reducible first | refine condK.split (fun hb => ?_) (fun hb => ?_) | refine gK.split_t (fun hb => ?_) (fun hb => ?_) | refine gK.split_f (fun hb => ?_) (fun hb => ?_)) <;> try simp only [decide_not, ilt_t, ilt_f, ile_t, ile_f, nlt_t, nlt_f, nle_t, nle_f, Bool.not_eq_true', Bool.not_eq_false', Int.ofNat_lt, Int.ofNat_le] at hb)
 | simp only [go_sem, ↓reduceIte, reduceIte, Nat.reduceEqDiff, String.reduceEq, Nat.reduceLT, Nat.reduceLeDiff, Nat.reduceAdd, Nat.reduceMul, Nat.reduceSub, Nat.reduceBEq, reduceCtorEq, *, -hs, Int.reduceEq]
 | with_reducible refine fun (bn : Bool) hbn => ?_))
    all_goals simp_all [withinE]
  · refine CallR.go2 (T := T) Tryz.call88 Tryz.func88 rfl Tryz.ntmps88 (congrArg Array.toList Tryz.results88) (by decide) fun ts hn h0 h1 => ?_
    (repeat' (first
 | (with_reducible first | refine callX.by (endsE_c _ _ ?_) ?_ | refine callX.by (conI_c _ _ ?_) ?_ | assumption | (refine NxK.out hK _ ?_; clear hK K) | refine NxK.out (by assumption) _ ?_ | refine Nx.out (by assumption) ?_ | refine SpecC.seqW fun K hK => ?_ | refine SpecC.regW T fun K hK => ?_ | refine SpecC.condW fun A B hA hB => ?_ | refine SpecC.block ?_ | refine SpecC.skip ?_ | refine SpecC.label ?_ | refine SpecC.exit ?_ | refine SpecC.goto ?_ | refine SpecC.ret ?_)
 | ((with_reducible first | refine condK.split (fun hb => ?_) (fun hb => ?_) | refine gK.split_t (fun hb => ?_) (fun hb => ?_) | refine gK.split_f (fun hb => ?_) (fun hb => ?_)) <;> try simp only [decide_not, ilt_t, ilt_f, ile_t, ile_f, nlt_t, nlt_f, nle_t, nle_f, Bool.not_eq_true', Bool.not_eq_false', Int.ofNat_lt, Int.ofNat_le] at hb)
 | simp only [go_sem, ↓reduceIte, reduceIte, Nat.reduceEqDiff, String.reduceEq, Nat.reduceLT, Nat.reduceLeDiff, Nat.reduceAdd, Nat.reduceMul, Nat.reduceSub, Nat.reduceBEq, reduceCtorEq, *, -hs, Int.reduceEq]
 | with_reducible refine fun (bn : Bool) hbn => ?_))
    all_goals simp_all [withinE]
set_option maxRecDepth 30000 in
theorem goodN_c (xs : List Res) (hl : xs.length ≤ 65536) (hs : ∀ r ∈ xs, SmRes r) (hn : ¬ tsane xs = 0) : CallR Tryz.prog 37 [.slice false (avs xs)] (.val (.bool false)) := by
  have hl2 := small_le hl
  refine CallR.go1 (T := T) Tryz.call37 Tryz.func37 rfl Tryz.ntmps37 (congrArg Array.toList Tryz.results37) (by decide) fun ts hn h0 => ?_
  (repeat' (first
 | (with_reducible first | refine callX.by (tsane_c _ ?_ ?_) ?_ | refine callX.by (served_c _ ?_ ?_ ?_) ?_ | refine callX.by a6sc ?_ | assumption | (refine NxK.out hK _ ?_; clear hK K) | refine NxK.out (by assumption) _ ?_ | refine Nx.out (by assumption) ?_ | refine SpecC.seqW fun K hK => ?_ | refine SpecC.regW T fun K hK => ?_ | refine SpecC.condW fun A B hA hB => ?_ | refine SpecC.block ?_ | refine SpecC.skip ?_ | refine SpecC.label ?_ | refine SpecC.exit ?_ | refine SpecC.goto ?_ | refine SpecC.ret ?_)
 | ((with_reducible first | refine condK.split (fun hb => ?_) (fun hb => ?_) | refine gK.split_t (fun hb => ?_) (fun hb => ?_) | refine gK.split_f (fun hb => ?_) (fun hb => ?_)) <;> try simp only [decide_not, ilt_t, ilt_f, ile_t, ile_f, nlt_t, nlt_f, nle_t, nle_f, Bool.not_eq_true', Bool.not_eq_false', Int.ofNat_lt, Int.ofNat_le] at hb)
 | simp only [go_sem, ↓reduceIte, reduceIte, Nat.reduceEqDiff, String.reduceEq, Nat.reduceLT, Nat.reduceLeDiff, Nat.reduceAdd, Nat.reduceMul, Nat.reduceSub, Nat.reduceBEq, reduceCtorEq, *, -hs]
 | with_reducible refine fun (bn : Bool) hbn => ?_))
set_option maxRecDepth 30000 in
theorem goodS_c (xs : List Res) (hl : xs.length ≤ 65536) (hs : ∀ r ∈ xs, SmRes r) (hn : tsane xs = 0) (hnd : (xs.map keyOf).Nodup) : CallR Tryz.prog 37 [.slice false (avs xs)] (.val (.bool (decide (served xs = 0)))) := by
  have hl2 := small_le hl
  refine CallR.go1 (T := T) Tryz.call37 Tryz.func37 rfl Tryz.ntmps37 (congrArg Array.toList Tryz.results37) (by decide) fun ts hn h0 => ?_
  (repeat' (first
 | (with_reducible first | refine callX.by (tsane_c _ ?_ ?_) ?_ | refine callX.by (served_c _ ?_ ?_ ?_) ?_ | refine callX.by a6sc ?_ | assumption | (refine NxK.out hK _ ?_; clear hK K) | refine NxK.out (by assumption) _ ?_ | refine Nx.out (by assumption) ?_ | refine SpecC.seqW fun K hK => ?_ | refine SpecC.regW T fun K hK => ?_ | refine SpecC.condW fun A B hA hB => ?_ | refine SpecC.block ?_ | refine SpecC.skip ?_ | refine SpecC.label ?_ | refine SpecC.exit ?_ | refine SpecC.goto ?_ | refine SpecC.ret ?_)
 | ((with_reducible first | refine condK.split (fun hb => ?_) (fun hb => ?_) | refine gK.split_t (fun hb => ?_) (fun hb => ?_) | refine gK.split_f (fun hb => ?_) (fun hb => ?_)) <;> try simp only [decide_not, ilt_t, ilt_f, ile_t, ile_f, nlt_t, nlt_f, nle_t, nle_f, Bool.not_eq_true', Bool.not_eq_false', Int.ofNat_lt, Int.ofNat_le] at hb)
 | simp only [go_sem, ↓reduceIte, reduceIte, Nat.reduceEqDiff, String.reduceEq, Nat.reduceLT, Nat.reduceLeDiff, Nat.reduceAdd, Nat.reduceMul, Nat.reduceSub, Nat.reduceBEq, reduceCtorEq, *, -hs, -hnd]
 | with_reducible refine fun (bn : Bool) hbn => ?_))
theorem goodE_c (xs : List Res) (hl : xs.length ≤ 65536) (hs : ∀ r ∈ xs, SmRes r) (hnd : tsane xs = 0 → (xs.map keyOf).Nodup) : CallR Tryz.prog 37 [.slice false (avs xs)] (.val (.bool (goodE xs))) := by
  by_cases h : tsane xs = 0
  · have := goodS_c xs hl hs h (hnd h)
    unfold goodE
    rw [decide_eq_true h, Bool.true_and]
    exact this
  · have := goodN_c xs hl hs h
    unfold goodE
    rw [decide_eq_false h, Bool.false_and]
    exact this
end Go.Proofs.YtndnkbekhmndhaaGreatDoor.Lg

namespace Go.Proofs.YtndnkbekhmndhaaGreatDoor.Lg
set_option maxRecDepth 100000
set_option linter.unusedVariables false
set_option linter.unusedSimpArgs false
open Go
theorem firstBad_zero {l : List Res} (h : firstBad l = 0) : ∀ r ∈ l, saneR r = 0 := by
  induction l with
  | nil => simp
  | cons r l ih =>
    unfold firstBad at h
    split at h
    · rename_i hs
      intro x hx
      rcases List.mem_cons.1 hx with rfl | hx
      · exact hs
      · exact ih h x hx
    · rename_i hs; exact absurd h hs
theorem firstBad_of {l : List Res} (h : ∀ r ∈ l, saneR r = 0) : firstBad l = 0 := by
  induction l with
  | nil => rfl
  | cons r l ih => unfold firstBad; rw [if_pos (h r (by simp))]; exact ih fun x hx => h x (by simp [hx])
theorem upR_iff : ∀ l : List Res, upR l = true ↔ Up (l.map keyOf)
  | [] => by simp [upR, Up]
  | [a] => by simp [upR, Up]
  | a :: b :: l => by
    rw [upR_cons2, Bool.and_eq_true, upR_iff (b :: l), decide_eq_true_eq]
    simp only [List.map_cons]
    constructor
    · rintro ⟨h1, h2⟩
      refine List.pairwise_cons.2 ⟨fun x hx => ?_, h2⟩
      rcases List.mem_cons.1 hx with rfl | hx
      · exact h1
      · exact kcmp_trans _ _ _ h1 ((List.pairwise_cons.1 h2).1 x hx)
    · intro h
      obtain ⟨h1, h2⟩ := List.pairwise_cons.1 h
      exact ⟨h1 _ (by simp), h2⟩
structure Conf (l : List Res) : Prop where
  len : l.length ≤ 64
  sane : ∀ r ∈ l, saneR r = 0
  up : Up (l.map keyOf)
theorem conf_of {l : List Res} (h : tsane l = 0) : Conf l := by
  unfold tsane at h
  split at h
  · cases h
  · rename_i h1
    split at h
    · rename_i h2; exact absurd h h2
    · rename_i h2
      split at h
      · cases h
      · rename_i h3
        exact ⟨by omega, firstBad_zero (by simpa using h2), (upR_iff l).1 (by simpa using h3)⟩
theorem up_nodup {l : List Key} (h : Up l) : l.Nodup := by
  unfold Up at h
  refine h.imp fun {a b} hab e => ?_
  subst e
  exact kcmp_irrefl _ hab
theorem Conf.nodup {l : List Res} (h : Conf l) : (l.map keyOf).Nodup := up_nodup h.up
theorem key_inj {l : List Res} (h : (l.map keyOf).Nodup) {a b : Res} (ha : a ∈ l) (hb : b ∈ l) (e : keyOf a = keyOf b) : a = b := by
  induction l with
  | nil => simp at ha
  | cons r l ih =>
    rw [List.map_cons, List.nodup_cons] at h
    rcases List.mem_cons.1 ha with ha' | ha' <;> rcases List.mem_cons.1 hb with hb' | hb'
    · rw [ha', hb']
    · exact absurd (by rw [← ha', e]; exact List.mem_map_of_mem hb') h.1
    · exact absurd (by rw [← hb', ← e]; exact List.mem_map_of_mem ha') h.1
    · exact ih h.2 ha' hb'
theorem names_get {l : List Res} (h : (l.map keyOf).Nodup) {r : Res} (hr : r ∈ l) : mget (namesM l) (keyOf r) = some (refsR r) := by
  obtain ⟨q, h1, h2⟩ := mget_names l (keyOf r) (List.mem_map_of_mem hr)
  have h3 := mget_mem h2
  obtain ⟨p, hp, he⟩ := List.mem_map.1 h3
  have e1 : keyOf p = keyOf r := (Prod.mk.inj he).1
  have := key_inj h hp hr e1
  subst this
  rw [h2, ← (Prod.mk.inj he).2]
inductive Rch (l : List Res) : Key → Prop
  | base (r : Res) : r ∈ l → r.kind = 0 → Rch l (keyOf r)
  | step (r : Res) (x : Key) : r ∈ l → Rch l (keyOf r) → x ∈ refsR r → x ∈ l.map keyOf → Rch l x
section dfs
variable (T0 : KS) (N : List (Key × List Key))
def succK (k : Key) : List Key := (mget N k).getD []
inductive Way : Key → Key → Prop
  | refl (k : Key) : isIn T0 k = true → Way k k
  | step (k x y : Key) : isIn T0 k = true → x ∈ succK N k → Way x y → Way k y
abbrev Shut (A B : KS) : Prop := ∀ x, isIn B x = true → isIn A x = false → ∀ y ∈ succK N x, isIn T0 y = true → isIn B y = true
theorem dfs (n : Nat) : ∀ (k : Key) (M : KS), muV T0 M ≤ n →
    (isIn T0 k = true → isIn (visF T0 N n k M) k = true) ∧
    (∀ x, isIn (visF T0 N n k M) x = true → isIn M x = false → Way T0 N k x) ∧ Shut T0 N M (visF T0 N n k M) := by
  induction n with
  | zero =>
    intro k M hmu
    have h0 : ∀ k, isIn T0 k = true → isIn M k = true := fun k hk => by
      cases hm : isIn M k with
      | true => rfl
      | false => have := mu_lt hk hm; omega
    exact ⟨h0 k, fun x hx hx' => absurd (Eq.trans (Eq.symm (show isIn M x = true from hx)) hx') (by decide), fun x hx hx' => absurd (Eq.trans (Eq.symm (show isIn M x = true from hx)) hx') (by decide)⟩
  | succ n ih =>
    intro k M hmu
    by_cases hc : isIn T0 k = true ∧ isIn M k = false
    rotate_left
    · have e : visF T0 N (n + 1) k M = M := by rw [visF, if_neg hc]
      rw [e]
      refine ⟨fun hk => ?_, fun x hx hx' => absurd (Eq.trans (Eq.symm hx) hx') (by decide), fun x hx hx' => absurd (Eq.trans (Eq.symm hx) hx') (by decide)⟩
      cases hm : isIn M k with
      | true => rfl
      | false => exact absurd ⟨hk, hm⟩ hc
    · obtain ⟨hk, hm⟩ := hc
      have e : visF T0 N (n + 1) k M = (succK N k).foldl (fun M x => visF T0 N n x M) (mput M k true) := by rw [visF, if_pos ⟨hk, hm⟩]; rfl
      have hmu1 : muV T0 (mput M k true) ≤ n := by have := mu_lt hk hm; omega
      have fold : ∀ (v : List Key) (M1 : KS), muV T0 M1 ≤ n →
          (∀ x, isIn M1 x = true → isIn (v.foldl (fun M x => visF T0 N n x M) M1) x = true) ∧
          (∀ y ∈ v, isIn T0 y = true → isIn (v.foldl (fun M x => visF T0 N n x M) M1) y = true) ∧
          (∀ x, isIn (v.foldl (fun M x => visF T0 N n x M) M1) x = true → isIn M1 x = false → ∃ y ∈ v, Way T0 N y x) ∧
          Shut T0 N M1 (v.foldl (fun M x => visF T0 N n x M) M1) := by
        intro v
        induction v with
        | nil => exact fun M1 _ => ⟨fun x h => h, by simp, fun x h h' => absurd (Eq.trans (Eq.symm (show isIn M1 x = true from h)) h') (by decide), fun x h h' => absurd (Eq.trans (Eq.symm (show isIn M1 x = true from h)) h') (by decide)⟩
        | cons y v ihv =>
          intro M1 h1
          rw [List.foldl_cons]
          obtain ⟨a1, a2, a3⟩ := ih y M1 h1
          have hg : ∀ x, isIn M1 x = true → isIn (visF T0 N n y M1) x = true := fun x hx => visF_grow T0 N n y M1 x hx
          obtain ⟨b1, b2, b3, b4⟩ := ihv (visF T0 N n y M1) (Nat.le_trans (mu_le hg) h1)
          refine ⟨fun x hx => b1 x (hg x hx), fun z hz hzT => ?_, fun x hx hx' => ?_, fun x hx hx' z hz hzT => ?_⟩
          · rcases List.mem_cons.1 hz with rfl | hz
            · exact b1 _ (a1 hzT)
            · exact b2 z hz hzT
          · cases hv : isIn (visF T0 N n y M1) x with
            | true => exact ⟨y, by simp, a2 x hv hx'⟩
            | false => obtain ⟨z, hz, hw⟩ := b3 x hx hv; exact ⟨z, by simp [hz], hw⟩
          · cases hv : isIn (visF T0 N n y M1) x with
            | true => exact b1 _ (a3 x hv hx' z hz hzT)
            | false => exact b4 x hx hv z hz hzT
      obtain ⟨b1, b2, b3, b4⟩ := fold (succK N k) (mput M k true) hmu1
      rw [e]
      refine ⟨fun _ => b1 k (by rw [isIn_put]; simp), fun x hx hx' => ?_, fun x hx hx' y hy hyT => ?_⟩
      · cases hp : isIn (mput M k true) x with
        | true =>
          rw [isIn_put, hx'] at hp
          have : x = k := by simpa using hp
          subst this
          exact .refl _ hk
        | false =>
          obtain ⟨y, hy, hw⟩ := b3 x hx hp
          exact .step k y x hk hy hw
      · cases hp : isIn (mput M k true) x with
        | true =>
          rw [isIn_put, hx'] at hp
          have : x = k := by simpa using hp
          subst this
          exact b2 y hy hyT
        | false => exact b4 x hx hp y hy hyT
theorem reachF_spec (n : Nat) (hn : ∀ M, muV T0 M ≤ n) : ∀ (l : List Res) (M : KS), Shut T0 N [] M →
    Shut T0 N [] (reachF T0 N n l M) ∧ (∀ x, isIn M x = true → isIn (reachF T0 N n l M) x = true) ∧ (∀ r ∈ l, r.kind = 0 → isIn T0 (keyOf r) = true → isIn (reachF T0 N n l M) (keyOf r) = true) ∧
    ∀ x, isIn (reachF T0 N n l M) x = true → isIn M x = true ∨ ∃ r ∈ l, r.kind = 0 ∧ Way T0 N (keyOf r) x
  | [], M, h => ⟨h, fun x hx => hx, by simp, fun x hx => .inl hx⟩
  | r :: l, M, h => by
    have e : reachF T0 N n (r :: l) M = reachF T0 N n l (if r.kind = 0 then visF T0 N n (keyOf r) M else M) := rfl
    rw [e]
    by_cases hk : r.kind = 0
    · rw [if_pos hk]
      obtain ⟨a1, a2, a3⟩ := dfs T0 N n (keyOf r) M (hn M)
      have hg : ∀ x, isIn M x = true → isIn (visF T0 N n (keyOf r) M) x = true := fun x hx => visF_grow T0 N n _ M x hx
      have hs : Shut T0 N [] (visF T0 N n (keyOf r) M) := fun x hx _ y hy hyT => by
        cases hm : isIn M x with
        | true => exact hg _ (h x hm rfl y hy hyT)
        | false => exact a3 x hx hm y hy hyT
      obtain ⟨b1, b2, b3, b4⟩ := reachF_spec n hn l _ hs
      refine ⟨b1, fun x hx => b2 x (hg x hx), fun q hq hq0 hqT => ?_, fun x hx => ?_⟩
      · rcases List.mem_cons.1 hq with rfl | hq
        · exact b2 _ (a1 hqT)
        · exact b3 q hq hq0 hqT
      · rcases b4 x hx with h1 | ⟨q, hq, h1, h2⟩
        · cases hm : isIn M x with
          | true => exact .inl rfl
          | false => exact .inr ⟨r, by simp, hk, a2 x h1 hm⟩
        · exact .inr ⟨q, by simp [hq], h1, h2⟩
    · rw [if_neg hk]
      obtain ⟨b1, b2, b3, b4⟩ := reachF_spec n hn l M h
      refine ⟨b1, b2, fun q hq hq0 hqT => ?_, fun x hx => ?_⟩
      · rcases List.mem_cons.1 hq with rfl | hq
        · exact absurd hq0 hk
        · exact b3 q hq hq0 hqT
      · rcases b4 x hx with h1 | ⟨q, hq, h1, h2⟩
        · exact .inl h1
        · exact .inr ⟨q, by simp [hq], h1, h2⟩
end dfs
theorem isIn_of (l : List Res) (k : Key) : isIn (ofR l []) k = decide (k ∈ l.map keyOf) := by rw [mem_ofR]; simp [isIn]
theorem reached_iff {l : List Res} (h : (l.map keyOf).Nodup) (k : Key) : isIn (reachedM l) k = true ↔ Rch l k := by
  have hT : ∀ k, isIn (ofR l []) k = true ↔ k ∈ l.map keyOf := fun k => by rw [isIn_of]; simp
  obtain ⟨b1, _, b3, b4⟩ := reachF_spec (ofR l []) (namesM l) (ofR l []).length (fun M => List.length_filter_le _ _) l [] (fun x hx => by simp [isIn] at hx)
  have hsucc : ∀ r ∈ l, succK (namesM l) (keyOf r) = refsR r := fun r hr => by unfold succK; rw [names_get h hr]; rfl
  constructor
  · intro hk
    rcases b4 k hk with h1 | ⟨r, hr, h0, hw⟩
    · simp [isIn] at h1
    · have : ∀ {a b : Key}, Way (ofR l []) (namesM l) a b → Rch l a → Rch l b := by
        intro a b hw
        induction hw with
        | refl => exact fun h => h
        | step k x y hk hx hw ih =>
          intro ha
          refine ih ?_
          obtain ⟨q, hq, rfl⟩ := List.mem_map.1 ((hT k).1 hk)
          rw [hsucc q hq] at hx
          refine .step q x hq ha hx ?_
          cases hw with
          | refl _ hx' => exact (hT x).1 hx'
          | step _ _ _ hx' => exact (hT x).1 hx'
      exact this hw (.base r hr h0)
  · intro hk
    induction hk with
    | base r hr h0 => exact b3 r hr h0 ((hT _).2 (List.mem_map_of_mem hr))
    | step r x hr _ hx hx' ih => exact b1 _ ih rfl x (by rw [hsucc r hr]; exact hx) ((hT x).2 hx')
theorem mem_reachR {l : List Res} (h : (l.map keyOf).Nodup) (r : Res) : r ∈ reachR l ↔ r ∈ l ∧ Rch l (keyOf r) := by
  unfold reachR
  rw [List.mem_filter, reached_iff h]
theorem reachR_sub (l : List Res) : (reachR l).Sublist l := List.filter_sublist
end Go.Proofs.YtndnkbekhmndhaaGreatDoor.Lg

namespace Go.Proofs.YtndnkbekhmndhaaGreatDoor.Lg
set_option maxRecDepth 100000
set_option linter.unusedVariables false
set_option linter.unusedSimpArgs false
open Go
theorem ref_pos (l : List Res) (k : Key) : 0 < (referrers l k).length ↔ ∃ r ∈ l, k ∈ refsR r := by
  unfold referrers
  rw [List.length_map, List.length_pos_iff_exists_mem]
  constructor
  · rintro ⟨r, hr⟩
    obtain ⟨h1, h2⟩ := List.mem_filter.1 hr
    obtain ⟨x, hx, he⟩ := List.any_eq_true.1 h2
    have : k = x := by simpa using he
    subst this
    exact ⟨r, h1, hx⟩
  · rintro ⟨r, hr, hx⟩
    exact ⟨r, List.mem_filter.2 ⟨hr, List.any_eq_true.2 ⟨k, hx, by simp⟩⟩⟩
theorem tget_is (l : List Res) (k : Key) : (tget l k).isSome = decide (k ∈ l.map keyOf) := by
  unfold tget
  rw [Bool.eq_iff_iff, List.find?_isSome, decide_eq_true_eq, List.mem_map]
  simp
theorem tget_in {l : List Res} {k : Key} {r : Res} (h : tget l k = some r) : r ∈ l ∧ keyOf r = k := by
  unfold tget at h
  exact ⟨List.mem_of_find?_eq_some h, by simpa using List.find?_some h⟩
theorem tget_key {l : List Res} (h : (l.map keyOf).Nodup) {r : Res} (hr : r ∈ l) : tget l (keyOf r) = some r := by
  cases e : tget l (keyOf r) with
  | none =>
    have := tget_is l (keyOf r)
    rw [e, decide_eq_true (List.mem_map_of_mem hr)] at this
    cases this
  | some q =>
    obtain ⟨h1, h2⟩ := tget_in e
    rw [key_inj h h1 hr h2]
theorem lacks_iff (l : List Res) (r : Res) : lacks (ofR l []) r = true ↔ ∃ k ∈ refsR r, ¬ k ∈ l.map keyOf := by
  unfold lacks
  rw [List.any_eq_true]
  constructor
  · rintro ⟨k, hk, h⟩
    rw [isIn_of] at h
    exact ⟨k, hk, by simpa using h⟩
  · rintro ⟨k, hk, h⟩
    refine ⟨k, hk, ?_⟩
    rw [isIn_of, decide_eq_false h]; rfl
theorem served_ok {l : List Res} : served l = 0 ↔ (∀ r ∈ reachR l, ∀ k ∈ refsR r, k ∈ l.map keyOf) ∧ ∀ r ∈ reachR l, bare r = false := by
  unfold served
  by_cases h1 : (reachR l).any (lacks (ofR l [])) = true
  · rw [if_pos h1]
    obtain ⟨r, hr, hl⟩ := List.any_eq_true.1 h1
    obtain ⟨k, hk, hn⟩ := (lacks_iff l r).1 hl
    exact ⟨fun h => absurd h (by decide), fun h => absurd (h.1 r hr k hk) hn⟩
  · rw [if_neg h1]
    have h1' : ∀ r ∈ reachR l, ∀ k ∈ refsR r, k ∈ l.map keyOf := fun r hr k hk => by
      by_cases hn : k ∈ l.map keyOf
      · exact hn
      · exact absurd (List.any_eq_true.2 ⟨r, hr, (lacks_iff l r).2 ⟨k, hk, hn⟩⟩) h1
    by_cases h2 : (reachR l).any bare = true
    · rw [if_pos h2]
      obtain ⟨r, hr, hb⟩ := List.any_eq_true.1 h2
      exact ⟨fun h => absurd h (by decide), fun h => by rw [h.2 r hr] at hb; cases hb⟩
    · rw [if_neg h2]
      exact ⟨fun _ => ⟨h1', fun r hr => by simpa using fun hb => h2 (List.any_eq_true.2 ⟨r, hr, hb⟩)⟩, fun _ => rfl⟩
end Go.Proofs.YtndnkbekhmndhaaGreatDoor.Lg

namespace Go.Proofs.YtndnkbekhmndhaaGreatDoor.Lg
set_option maxRecDepth 100000
set_option linter.unusedVariables false
set_option linter.unusedSimpArgs false
open Go
theorem sngR_weighs : ∀ (l p : List Rule), sngR p l = true → ∀ x ∈ l, weighsR x = true
  | [], _, _, x, hx => by simp at hx
  | a :: l, p, h, x, hx => by
    rw [sngR, Bool.and_eq_true, Bool.and_eq_true] at h
    rcases List.mem_cons.1 hx with rfl | hx
    · exact h.1
    · exact sngR_weighs l _ h.2.2 x hx
end Go.Proofs.YtndnkbekhmndhaaGreatDoor.Lg
