/- Parts of the proof, one behind the other. -/
import Derived.Test.YtmjkjmoeicnbnaaGreatDoorG15
namespace Go.Proofs.YtmjkjmoeicnbnaaGreatDoor.Lg
set_option maxRecDepth 100000
set_option linter.unusedVariables false
set_option linter.unusedSimpArgs false
open Go
open Nat renaming reduceEqDiff → Qa, reduceLT → Qb, reduceLeDiff → Qc, reduceAdd → Qd, reduceMul → Qe, reduceSub → Qf, reduceBEq → Qg
open String renaming reduceEq → Qh
open SpecC renaming seqW → Qi, regW → Qj, condW → Ql, block → Qm, skip → Qn, exit → Qp, ret → Qr
open NxK renaming out → Qw
open Nx renaming out → Qx
open condK renaming split → Qy
open gK renaming split_t → Qz, split_f → QA
theorem caps_map (M:KS):Caps [.ro [.mp (mks M) (mvs M)]]:=⟨by simp only [go_sem,Bool.and_self],by simp only [go_sem]⟩
theorem reach1_c (r_kind:Int) (r_name:List UInt8) (r_ver:Int) (r_port:Int) (r_to:List UInt8) (r_rules:List Rule) (r_hosts:List Int) (M:KS):CallR Tryz.prog 84 [.agg [.int .i64 r_kind,.str r_name,.int .i64 r_ver,.int .i64 r_port,.str r_to,.slice false (avs r_rules),.slice false (avs r_hosts)],.ro [.mp (mks M) (mvs M)]] (.val (.bool (!isIn M (keyOf (⟨r_kind,r_name,r_ver,r_port,r_to,r_rules,r_hosts⟩:Res))))):=by
 refine CallR.go2 (T:=T) Tryz.call84 Tryz.func84 rfl Tryz.ntmps84 (congrArg Array.toList Tryz.results84) (by decide) fun ts hn h0 h1=>?_
 (repeat' (first
 | (with_reducible first|refine callX.by (rkey_c _ _ _ _ _ _ _) ?_|assumption|(refine Qw hK _ ?_; clear hK K)|refine Qw ‹_› _ ?_|refine Qx ‹_› ?_|refine Qi fun K hK=>?_|refine Qj T fun K hK=>?_|refine SpecC.drawW (id:=1) T mixed [([4],[5,6]),([5],[4]),([6],[4])] (by kernel_rfl) fun K hK=>?_|refine Ql fun A B hA hB=>?_|refine Qn ?_|refine Qr ?_)
 | ((with_reducible first|apply Qy|apply Qz|apply QA)<;>intro hb<;>try simp only [nr] at hb)
 | simp only [go_sem,↓reduceIte,reduceIte,Qa,Qh,Qb,Qc,Qd,Qe,Qf,Qg,reduceCtorEq, *]
 | with_reducible refine fun (bn:Bool) hbn=>?_))
 all_goals rfl
def reachR (l:List Res):List Res:=l.filter fun r=>isIn (reachedM l) (keyOf r)
theorem reachR_len (l:List Res):(reachR l).length≤l.length:=List.length_filter_le _ _
theorem reach_c (xs:List Res) (hl:xs.length≤65536) (hs:∀ r∈xs,SmRes r) (hnd:(xs.map keyOf).Nodup):CallR Tryz.prog 22 [.slice false (avs xs)] (.own 7 (avs (reachR xs))):=by
 have hsl:=small_le hl
 have hd:=deleteFRes_c 84 [.ro [.mp (mks (reachedM xs)) (mvs (reachedM xs))]] (caps_map _) (fun r=>!isIn (reachedM xs) (keyOf r)) xs (fun x _=>reach1_c x.kind x.name x.ver x.port x.to' x.rules' x.hosts _) hsl
 simp only [Bool.not_not] at hd
 have e:xs.filter (fun x=>isIn (reachedM xs) (keyOf x))=reachR xs:=rfl
 rw [e] at hd
 refine CallR.go1 (T:=T) Tryz.call22 Tryz.func22 rfl Tryz.ntmps22 (congrArg Array.toList Tryz.results22) (by decide) fun ts hn h0=>?_
 (repeat' (first
 | (with_reducible refine callX.mv ?_ ?_ ?_ (hd); (focus (simp only [go_sem,↓reduceIte,reduceIte,Qa,Qh,Qb,Qc,Qd,Qe,Qf,Qg,reduceCtorEq, *,-hs,-hnd,-hd,-e]; first|done|rfl)); (focus (simp only [go_sem,↓reduceIte,reduceIte,Qa,Qh,Qb,Qc,Qd,Qe,Qf,Qg,reduceCtorEq, *,-hs,-hnd,-hd,-e]; first|done|rfl)))
 | (with_reducible first|refine callX.by (reached_c _ ?_ ?_ ?_) ?_|refine callX.by (cloneRes_c _ _ ?_) ?_)
 | (with_reducible refine callX.mv ?_ ?_ ?_ (deleteFRes_c ?_ ?_ ?_ ?_ ?_ ?_ ?_); (focus (simp only [go_sem,↓reduceIte,reduceIte,Qa,Qh,Qb,Qc,Qd,Qe,Qf,Qg,reduceCtorEq, *,-hs,-hnd,-hd,-e]; first|done|rfl)); (focus (simp only [go_sem,↓reduceIte,reduceIte,Qa,Qh,Qb,Qc,Qd,Qe,Qf,Qg,reduceCtorEq, *,-hs,-hnd,-hd,-e]; first|done|rfl)))
 | (with_reducible first|assumption|(refine Qw hK _ ?_; clear hK K)|refine Qw ‹_› _ ?_|refine Qx ‹_› ?_|refine Qi fun K hK=>?_|refine Qj T fun K hK=>?_|refine Ql fun A B hA hB=>?_|refine Qn ?_|refine Qr ?_)
 | ((with_reducible first|apply Qy|apply Qz|apply QA)<;>intro hb<;>try simp only [nr] at hb)
 | simp only [go_sem,↓reduceIte,reduceIte,Qa,Qh,Qb,Qc,Qd,Qe,Qf,Qg,reduceCtorEq, *,-hs,-hnd,-hd,-e]
 | with_reducible refine fun (bn:Bool) hbn=>?_))
theorem orph1_c (k_kind:Int) (k_name:List UInt8) (M:KS):CallR Tryz.prog 94 [.agg [.int .i64 k_kind,.str k_name],.ro [.mp (mks M) (mvs M)]] (.val (.bool (isIn M (⟨k_kind,k_name⟩:Key)))):=by
 refine CallR.go2 (T:=T) Tryz.call94 Tryz.func94 rfl Tryz.ntmps94 (congrArg Array.toList Tryz.results94) (by decide) fun ts hn h0 h1=>?_
 (repeat' (first
 | (with_reducible first|assumption|(refine Qw hK _ ?_; clear hK K)|refine Qw ‹_› _ ?_|refine Qx ‹_› ?_|refine Qi fun K hK=>?_|refine Qj T fun K hK=>?_|refine Ql fun A B hA hB=>?_|refine Qn ?_|refine Qr ?_)
 | ((with_reducible first|apply Qy|apply Qz|apply QA)<;>intro hb<;>try simp only [nr] at hb)
 | simp only [go_sem,↓reduceIte,reduceIte,Qa,Qh,Qb,Qc,Qd,Qe,Qf,Qg,reduceCtorEq, *]
 | with_reducible refine fun (bn:Bool) hbn=>?_))
 all_goals rfl
def orphans (l:List Res):List Key:=(l.map keyOf).filter fun k=>!isIn (reachedM l) k
theorem orphans_c (xs:List Res) (hl:xs.length≤65536) (hs:∀ r∈xs,SmRes r) (hnd:(xs.map keyOf).Nodup):CallR Tryz.prog 28 [.slice false (avs xs)] (.own 2 (avs (orphans xs))):=by
 have hsl:=small_le hl
 have hkl:Small (xs.map keyOf).length:=by simpa using hsl
 have hlk:(xs.map keyOf).length=xs.length:=List.length_map _
 have hd:=deleteFKey_c 94 [.ro [.mp (mks (reachedM xs)) (mvs (reachedM xs))]] (caps_map _) (fun k=>isIn (reachedM xs) k) (xs.map keyOf) (fun x _=>orph1_c x.kind x.name _) hkl
 have e:(xs.map keyOf).filter (fun x=>!isIn (reachedM xs) x)=orphans xs:=rfl
 rw [e] at hd
 have htk:(xs.map keyOf).take xs.length=xs.map keyOf:=List.take_of_length_le (by omega)
 refine CallR.go1 (T:=T) Tryz.call28 Tryz.func28 rfl Tryz.ntmps28 (congrArg Array.toList Tryz.results28) (by decide) fun ts hn h0=>?_
 (repeat' (first
 | (with_reducible refine callX.mv ?_ ?_ ?_ (hd); (focus (simp only [go_sem,↓reduceIte,reduceIte,Qa,Qh,Qb,Qc,Qd,Qe,Qf,Qg,reduceCtorEq, *,-hs,-hnd,-hd,-e]; first|done|rfl)); (focus (simp only [go_sem,↓reduceIte,reduceIte,Qa,Qh,Qb,Qc,Qd,Qe,Qf,Qg,reduceCtorEq, *,-hs,-hnd,-hd,-e]; first|done|rfl)))
 | (with_reducible first|refine callX.by (reached_c _ ?_ ?_ ?_) ?_|refine callX.by (tkeys_c _ ?_) ?_)
 | (with_reducible refine callX.mv ?_ ?_ ?_ (deleteFKey_c ?_ ?_ ?_ ?_ ?_ ?_ ?_); (focus (simp only [go_sem,↓reduceIte,reduceIte,Qa,Qh,Qb,Qc,Qd,Qe,Qf,Qg,reduceCtorEq, *,-hs,-hnd,-hd,-e]; first|done|rfl)); (focus (simp only [go_sem,↓reduceIte,reduceIte,Qa,Qh,Qb,Qc,Qd,Qe,Qf,Qg,reduceCtorEq, *,-hs,-hnd,-hd,-e]; first|done|rfl)))
 | (with_reducible first|assumption|(refine Qw hK _ ?_; clear hK K)|refine Qw ‹_› _ ?_|refine Qx ‹_› ?_|refine Qi fun K hK=>?_|refine Qj T fun K hK=>?_|refine Ql fun A B hA hB=>?_|refine Qn ?_|refine Qr ?_)
 | ((with_reducible first|apply Qy|apply Qz|apply QA)<;>intro hb<;>try simp only [nr] at hb)
 | simp only [go_sem,↓reduceIte,reduceIte,Qa,Qh,Qb,Qc,Qd,Qe,Qf,Qg,reduceCtorEq, *,-hs,-hnd,-hd,-e]
 | with_reducible refine fun (bn:Bool) hbn=>?_))
theorem served1_c (k_kind:Int) (k_name:List UInt8) (M:KS):CallR Tryz.prog 87 [.agg [.int .i64 k_kind,.str k_name],.ro [.mp (mks M) (mvs M)]] (.val (.bool (!isIn M (⟨k_kind,k_name⟩:Key)))):=by
 refine CallR.go2 (T:=T) Tryz.call87 Tryz.func87 rfl Tryz.ntmps87 (congrArg Array.toList Tryz.results87) (by decide) fun ts hn h0 h1=>?_
 (repeat' (first
 | (with_reducible first|assumption|(refine Qw hK _ ?_; clear hK K)|refine Qw ‹_› _ ?_|refine Qx ‹_› ?_|refine Qi fun K hK=>?_|refine Qj T fun K hK=>?_|refine Ql fun A B hA hB=>?_|refine Qn ?_|refine Qr ?_)
 | ((with_reducible first|apply Qy|apply Qz|apply QA)<;>intro hb<;>try simp only [nr] at hb)
 | simp only [go_sem,↓reduceIte,reduceIte,Qa,Qh,Qb,Qc,Qd,Qe,Qf,Qg,reduceCtorEq, *]
 | with_reducible refine fun (bn:Bool) hbn=>?_))
 all_goals rfl
def bare (r:Res):Bool:=decide (r.kind=3) && decide (r.hosts.length=0)
theorem served2_c (r_kind:Int) (r_name:List UInt8) (r_ver:Int) (r_port:Int) (r_to:List UInt8) (r_rules:List Rule) (r_hosts:List Int):CallR Tryz.prog 89 [.agg [.int .i64 r_kind,.str r_name,.int .i64 r_ver,.int .i64 r_port,.str r_to,.slice false (avs r_rules),.slice false (avs r_hosts)]] (.val (.bool (bare (⟨r_kind,r_name,r_ver,r_port,r_to,r_rules,r_hosts⟩:Res)))):=by
 refine CallR.go1 (T:=T) Tryz.call89 Tryz.func89 rfl Tryz.ntmps89 (congrArg Array.toList Tryz.results89) (by decide) fun ts hn h0=>?_
 (repeat' (first
 | (with_reducible first|assumption|(refine Qw hK _ ?_; clear hK K)|refine Qw ‹_› _ ?_|refine Qx ‹_› ?_|refine Qi fun K hK=>?_|refine Qj T fun K hK=>?_|refine Ql fun A B hA hB=>?_|refine Qn ?_|refine Qr ?_)
 | ((with_reducible first|apply Qy|apply Qz|apply QA)<;>intro hb<;>try simp only [nr] at hb)
 | simp only [go_sem,↓reduceIte,reduceIte,Qa,Qh,Qb,Qc,Qd,Qe,Qf,Qg,reduceCtorEq, *]
 | with_reducible refine fun (bn:Bool) hbn=>?_))
 all_goals simp_all [bare]
def lacks (M:KS) (r:Res):Bool:=(refsR r).any fun k=>!isIn M k
def served (l:List Res):Int:=if (reachR l).any (lacks (ofR l []))=true then 6 else if (reachR l).any bare=true then 7 else 0
set_option maxHeartbeats 4000000 in
theorem served_c (xs:List Res) (hl:xs.length≤65536) (hs:∀ r∈xs,SmRes r) (hnd:(xs.map keyOf).Nodup):CallR Tryz.prog 24 [.slice false (avs xs)] (.val (.int .i64 (served xs))):=by
 have hsl:=small_le hl
 have hrl:=reachR_len xs
 have hrs:Small (reachR xs).length:=small_le (by omega)
 have hr1:=reach_c xs hl hs hnd
 have hsr:∀ r∈reachR xs,SmRes r:=fun r hr=>hs r (List.mem_filter.1 hr).1
 have hc2:=conFRes_c 89 [] Caps.nil bare (reachR xs) (fun x _=>served2_c x.kind x.name x.ver x.port x.to' x.rules' x.hosts) hrs
 obtain ⟨M,hM0⟩:∃ M,ofR xs []=M:=⟨_,rfl⟩
 have hof:=refsOf_c xs hsl
 have hsv:served xs=if (reachR xs).any (lacks M)=true then 6 else if (reachR xs).any bare=true then 7 else 0:=by rw [← hM0]; rfl
 rw [hM0] at hof
 clear hM0
 obtain ⟨R,hR⟩:∃ R,reachR xs=R:=⟨_,rfl⟩
 rw [hR] at hr1 hsr hc2 hsv hrs hrl
 clear hR hnd hs
 refine CallR.go1 (T:=T) Tryz.call24 Tryz.func24 rfl Tryz.ntmps24 (congrArg Array.toList Tryz.results24) (by decide) fun ts hn h0=>?_
 (repeat' (first
 | (with_reducible first|refine callX.by (hof) ?_|refine callX.by (hr1) ?_|refine callX.by (refsOf_c _ ?_) ?_|refine callX.by (reach_c _ ?_ ?_ ?_) ?_|refine callX.by a6rc ?_|refine callX.by (refsR_c _ _ _ _ _ _ _ ?_ ?_ ?_) ?_|refine callX.by awqc ?_|refine callX.by (conFKey_c _ _ ?_ _ _ ?_ ?_) ?_|refine callX.by (conFRes_c _ _ ?_ _ _ ?_ ?_) ?_|refine callX.by (served2_c _ _ _ _ _ _ _) ?_|assumption|(refine Qw hK _ ?_; clear hK K)|refine Qw ‹_› _ ?_|refine Qx ‹_› ?_|refine Qi fun K hK=>?_|refine Qj T fun K hK=>?_|refine Ql fun A B hA hB=>?_|refine Qm ?_|refine Qn ?_|refine Qp ?_|refine Qr ?_)
 | ((with_reducible first|apply Qy|apply Qz|apply QA)<;>intro hb<;>try simp only [nr] at hb)
 | simp only [go_sem,↓reduceIte,reduceIte,Qa,Qh,Qb,Qc,Qd,Qe,Qf,Qg,reduceCtorEq, *,-hr1,-hsr,-hc2,-hof,-hsv]
 | with_reducible refine fun (bn:Bool) hbn=>?_))
 refine SpecC.ent (Ent.frzBox _ 3) ?_
 refine SpecC.loopF [3,4,11,12] (fun m ts'=>∃ (i:Nat),m=R.length - i∧i≤R.length∧R.any (lacks M)=(R.drop i).any (lacks M)∧ts'.gen 10=ts.gen 10+1∧ts'.obj 10=.arr 7 (avs R)∧ts'.tmp 13=.int .i64 i) R.length ?_ ?_
 ·refine ⟨0,?_⟩
  simp only [go_sem,↓reduceIte,reduceIte,Qa,Qh,Qb,Qc,Qd,Qe,Qf,Qg,reduceCtorEq, *,-hr1,-hsr,-hc2,-hof,-hsv]
 ·rintro m A hM ts' hk ⟨i,hm,f1,f2,s1,s2,s3⟩
  simp only [go_sem,↓reduceIte,reduceIte,Qa,Qh,Qb,Qc,Qd,Qe,Qf,Qg,reduceCtorEq, *] at hk
  by_cases hlt:i < R.length
  ·rw [List.drop_eq_getElem_cons hlt,List.any_cons] at f2
   obtain ⟨_,_,hx1,hx2,hx3⟩:=hsr _ (List.getElem_mem hlt)
   have hql:=refs_len R[i]
   have hqs:Small (refsR R[i]).length:=by unfold Small; omega
   have hc1:=conFKey_c 87 [.ro [.mp (mks M) (mvs M)]] (caps_map M) (fun k=>!isIn M k) (refsR R[i]) (fun x _=>served1_c x.kind x.name M) hqs
   have hlk:(refsR R[i]).any (fun k=>!isIn M k)=lacks M R[i]:=rfl
   rw [hlk] at hc1
   clear hr1 hof hlk
   (repeat' (first
 | (with_reducible first|refine callX.by (hc1) ?_|refine callX.by (refsOf_c _ ?_) ?_|refine callX.by (reach_c _ ?_ ?_ ?_) ?_|refine callX.by a6rc ?_|refine callX.by (refsR_c _ _ _ _ _ _ _ ?_ ?_ ?_) ?_|refine callX.by awqc ?_|refine callX.by (conFKey_c _ _ ?_ _ _ ?_ ?_) ?_|refine callX.by (conFRes_c _ _ ?_ _ _ ?_ ?_) ?_|refine callX.by (served2_c _ _ _ _ _ _ _) ?_|assumption|(refine Qw hK _ ?_; clear hK K)|refine Qw ‹_› _ ?_|refine Qx ‹_› ?_|refine Qi fun K hK=>?_|refine Qj T fun K hK=>?_|refine Ql fun A B hA hB=>?_|refine Qm ?_|refine Qn ?_|refine Qp ?_|refine Qr ?_)
 | ((with_reducible first|apply Qy|apply Qz|apply QA)<;>intro hb<;>try simp only [nr] at hb)
 | simp only [go_sem,↓reduceIte,reduceIte,Qa,Qh,Qb,Qc,Qd,Qe,Qf,Qg,reduceCtorEq, *,-hsr,-hc1,-hc2,-hsv,-hx2,-f2]
 | with_reducible refine fun (bn:Bool) hbn=>?_))
   all_goals ((repeat clear hK); (repeat clear hA); (repeat clear hB))
   ·rw [hb,Bool.true_or] at f2
    rw [hsv,if_pos f2]
   ·rw [hb,Bool.false_or] at f2
    (refine hM.on (R.length - (i+1)) (by omega) (by simp only [go_sem,↓reduceIte,reduceIte,Qa,Qh,Qb,Qc,Qd,Qe,Qf,Qg,reduceCtorEq, *,w64_nat hlt hrs,-hsr,-hc1,-hc2,-hsv,-hx2,-f2]) ⟨i+1,rfl,by omega,f2,?_⟩; simp only [go_sem,↓reduceIte,reduceIte,Qa,Qh,Qb,Qc,Qd,Qe,Qf,Qg,reduceCtorEq, *,w64_nat hlt hrs,-hsr,-hc1,-hc2,-hsv,-hx2,-f2]; done)
  ·rw [List.drop_eq_nil_of_le (by omega),List.any_nil] at f2
   rw [f2] at hsv
   simp only [Bool.false_eq_true,if_false] at hsv
   clear hr1 hof f2
   have htkR:(avs R).take R.length=avs R:=List.take_of_length_le (by simp [avs])
   (repeat' (first
 | (with_reducible first|refine callX.by (hc2) ?_|refine callX.by (refsOf_c _ ?_) ?_|refine callX.by (reach_c _ ?_ ?_ ?_) ?_|refine callX.by a6rc ?_|refine callX.by (refsR_c _ _ _ _ _ _ _ ?_ ?_ ?_) ?_|refine callX.by awqc ?_|refine callX.by (conFKey_c _ _ ?_ _ _ ?_ ?_) ?_|refine callX.by (conFRes_c _ _ ?_ _ _ ?_ ?_) ?_|refine callX.by (served2_c _ _ _ _ _ _ _) ?_|assumption|(refine Qw hK _ ?_; clear hK K)|refine Qw ‹_› _ ?_|refine Qx ‹_› ?_|refine Qi fun K hK=>?_|refine Qj T fun K hK=>?_|refine Ql fun A B hA hB=>?_|refine Qm ?_|refine Qn ?_|refine Qp ?_|refine Qr ?_)
 | ((with_reducible first|apply Qy|apply Qz|apply QA)<;>intro hb<;>try simp only [nr] at hb)
 | simp only [go_sem,↓reduceIte,reduceIte,Qa,Qh,Qb,Qc,Qd,Qe,Qf,Qg,reduceCtorEq, *,-hsr,-hc2,-hsv]
 | with_reducible refine fun (bn:Bool) hbn=>?_))
   all_goals ((repeat clear hK); (repeat clear hA); (repeat clear hB))
   all_goals (rw [hsv]; simp [hb])
end Go.Proofs.YtmjkjmoeicnbnaaGreatDoor.Lg
namespace Go.Proofs.YtmjkjmoeicnbnaaGreatDoor.Lg
set_option maxRecDepth 100000
set_option linter.unusedVariables false
set_option linter.unusedSimpArgs false
open Go
theorem firstBad_zero {l:List Res} (h:firstBad l=0):∀ r∈l,saneR r=0:=by
 induction l with
 | nil=>simp
 | cons r l ih =>
  unfold firstBad at h
  split at h
  ·rename_i hs
   intro x hx
   rcases List.mem_cons.1 hx with rfl|hx
   ·exact hs
   ·exact ih h x hx
  ·rename_i hs; exact absurd h hs
theorem firstBad_of {l:List Res} (h:∀ r∈l,saneR r=0):firstBad l=0:=by
 induction l with
 | nil=>rfl
 | cons r l ih=>unfold firstBad; rw [if_pos (h r (by simp))]; exact ih fun x hx=>h x (by simp [hx])
theorem upR_iff:∀ l:List Res,upR l=true↔Up (l.map keyOf)
 | []=>by simp [upR,Up]
 | [a]=>by simp [upR,Up]
 | a :: b :: l=>by
  rw [upR_cons2,Bool.and_eq_true,upR_iff (b :: l),decide_eq_true_eq]
  simp only [List.map_cons]
  constructor
  ·rintro ⟨h1,h2⟩
   refine List.pairwise_cons.2 ⟨fun x hx=>?_,h2⟩
   rcases List.mem_cons.1 hx with rfl|hx
   ·exact h1
   ·exact kcmp_trans _ _ _ h1 ((List.pairwise_cons.1 h2).1 x hx)
  ·intro h
   obtain ⟨h1,h2⟩:=List.pairwise_cons.1 h
   exact ⟨h1 _ (by simp),h2⟩
structure Conf (l:List Res):Prop where
 len:l.length≤64
 sane:∀ r∈l,saneR r=0
 up:Up (l.map keyOf)
theorem conf_of {l:List Res} (h:tsane l=0):Conf l:=by
 unfold tsane at h
 split at h
 ·cases h
 ·rename_i h1
  split at h
  ·rename_i h2; exact absurd h h2
  ·rename_i h2
   split at h
   ·cases h
   ·rename_i h3
    exact ⟨by omega,firstBad_zero (by simpa using h2),(upR_iff l).1 (by simpa using h3)⟩
theorem up_nodup {l:List Key} (h:Up l):l.Nodup:=by
 unfold Up at h
 refine h.imp fun {a b} hab e=>?_
 subst e
 exact kcmp_irrefl _ hab
theorem Conf.nodup {l:List Res} (h:Conf l):(l.map keyOf).Nodup:=up_nodup h.up
theorem key_inj {l:List Res} (h:(l.map keyOf).Nodup) {a b:Res} (ha:a∈l) (hb:b∈l) (e:keyOf a=keyOf b):a=b:=by
 induction l with
 | nil=>simp at ha
 | cons r l ih =>
  rw [List.map_cons,List.nodup_cons] at h
  rcases List.mem_cons.1 ha with ha'|ha'<;>rcases List.mem_cons.1 hb with hb'|hb'
  ·rw [ha',hb']
  ·exact absurd (by rw [← ha',e]; exact List.mem_map_of_mem hb') h.1
  ·exact absurd (by rw [← hb',← e]; exact List.mem_map_of_mem ha') h.1
  ·exact ih h.2 ha' hb'
theorem names_get {l:List Res} (h:(l.map keyOf).Nodup) {r:Res} (hr:r∈l):mget (namesM l) (keyOf r)=some (refsR r):=by
 obtain ⟨q,h1,h2⟩:=mget_names l (keyOf r) (List.mem_map_of_mem hr)
 have h3:=mget_mem h2
 obtain ⟨p,hp,he⟩:=List.mem_map.1 h3
 have e1:keyOf p=keyOf r:=(Prod.mk.inj he).1
 have:=key_inj h hp hr e1
 subst this
 rw [h2,← (Prod.mk.inj he).2]
inductive Rch (l:List Res):Key→Prop
 | base (r:Res):r∈l→r.kind=0→Rch l (keyOf r)
 | step (r:Res) (x:Key):r∈l→Rch l (keyOf r)→x∈refsR r→x∈l.map keyOf→Rch l x
theorem Rch.mem {l:List Res} {k:Key} (h:Rch l k):k∈l.map keyOf:=by
 cases h with
 | base r hr _=>exact List.mem_map_of_mem hr
 | step r x _ _ _ h=>exact h
section dfs
variable (T0:KS) (N:List (Key × List Key))
def succK (k:Key):List Key:=(mget N k).getD []
inductive Way:Key→Key→Prop
 | refl (k:Key):isIn T0 k=true→Way k k
 | step (k x y:Key):isIn T0 k=true→x∈succK N k→Way x y→Way k y
abbrev Shut (A B:KS):Prop:=∀ x,isIn B x=true→isIn A x=false→∀ y∈succK N x,isIn T0 y=true→isIn B y=true
theorem dfs (n:Nat):∀ (k:Key) (M:KS),muV T0 M≤n →
  (isIn T0 k=true→isIn (visF T0 N n k M) k=true) ∧
  (∀ x,isIn (visF T0 N n k M) x=true→isIn M x=false→Way T0 N k x)∧Shut T0 N M (visF T0 N n k M):=by
 induction n with
 | zero =>
  intro k M hmu
  have h0:∀ k,isIn T0 k=true→isIn M k=true:=fun k hk=>by
   cases hm:isIn M k with
   | true=>rfl
   | false=>have:=mu_lt hk hm; omega
  exact ⟨h0 k,fun x hx hx'=>absurd (Eq.trans (Eq.symm (show isIn M x=true from hx)) hx') (by decide),fun x hx hx'=>absurd (Eq.trans (Eq.symm (show isIn M x=true from hx)) hx') (by decide)⟩
 | succ n ih =>
  intro k M hmu
  by_cases hc:isIn T0 k=true∧isIn M k=false
  rotate_left
  ·have e:visF T0 N (n+1) k M=M:=by rw [visF,if_neg hc]
   rw [e]
   refine ⟨fun hk=>?_,fun x hx hx'=>absurd (Eq.trans (Eq.symm hx) hx') (by decide),fun x hx hx'=>absurd (Eq.trans (Eq.symm hx) hx') (by decide)⟩
   cases hm:isIn M k with
   | true=>rfl
   | false=>exact absurd ⟨hk,hm⟩ hc
  ·obtain ⟨hk,hm⟩:=hc
   have e:visF T0 N (n+1) k M=(succK N k).foldl (fun M x=>visF T0 N n x M) (mput M k true):=by rw [visF,if_pos ⟨hk,hm⟩]; rfl
   have hmu1:muV T0 (mput M k true)≤n:=by have:=mu_lt hk hm; omega
   have fold:∀ (v:List Key) (M1:KS),muV T0 M1≤n →
     (∀ x,isIn M1 x=true→isIn (v.foldl (fun M x=>visF T0 N n x M) M1) x=true) ∧
     (∀ y∈v,isIn T0 y=true→isIn (v.foldl (fun M x=>visF T0 N n x M) M1) y=true) ∧
     (∀ x,isIn (v.foldl (fun M x=>visF T0 N n x M) M1) x=true→isIn M1 x=false→∃ y∈v,Way T0 N y x) ∧
     Shut T0 N M1 (v.foldl (fun M x=>visF T0 N n x M) M1):=by
    intro v
    induction v with
    | nil=>exact fun M1 _=>⟨fun x h=>h,by simp,fun x h h'=>absurd (Eq.trans (Eq.symm (show isIn M1 x=true from h)) h') (by decide),fun x h h'=>absurd (Eq.trans (Eq.symm (show isIn M1 x=true from h)) h') (by decide)⟩
    | cons y v ihv =>
     intro M1 h1
     rw [List.foldl_cons]
     obtain ⟨a1,a2,a3⟩:=ih y M1 h1
     have hg:∀ x,isIn M1 x=true→isIn (visF T0 N n y M1) x=true:=fun x hx=>visF_grow T0 N n y M1 x hx
     obtain ⟨b1,b2,b3,b4⟩:=ihv (visF T0 N n y M1) (Nat.le_trans (mu_le hg) h1)
     refine ⟨fun x hx=>b1 x (hg x hx),fun z hz hzT=>?_,fun x hx hx'=>?_,fun x hx hx' z hz hzT=>?_⟩
     ·rcases List.mem_cons.1 hz with rfl|hz
      ·exact b1 _ (a1 hzT)
      ·exact b2 z hz hzT
     ·cases hv:isIn (visF T0 N n y M1) x with
      | true=>exact ⟨y,by simp,a2 x hv hx'⟩
      | false=>obtain ⟨z,hz,hw⟩:=b3 x hx hv; exact ⟨z,by simp [hz],hw⟩
     ·cases hv:isIn (visF T0 N n y M1) x with
      | true=>exact b1 _ (a3 x hv hx' z hz hzT)
      | false=>exact b4 x hx hv z hz hzT
   obtain ⟨b1,b2,b3,b4⟩:=fold (succK N k) (mput M k true) hmu1
   rw [e]
   refine ⟨fun _=>b1 k (by rw [isIn_put]; simp),fun x hx hx'=>?_,fun x hx hx' y hy hyT=>?_⟩
   ·cases hp:isIn (mput M k true) x with
    | true =>
     rw [isIn_put,hx'] at hp
     have:x=k:=by simpa using hp
     subst this
     exact .refl _ hk
    | false =>
     obtain ⟨y,hy,hw⟩:=b3 x hx hp
     exact .step k y x hk hy hw
   ·cases hp:isIn (mput M k true) x with
    | true =>
     rw [isIn_put,hx'] at hp
     have:x=k:=by simpa using hp
     subst this
     exact b2 y hy hyT
    | false=>exact b4 x hx hp y hy hyT
theorem reachF_spec (n:Nat) (hn:∀ M,muV T0 M≤n):∀ (l:List Res) (M:KS),Shut T0 N [] M →
  Shut T0 N [] (reachF T0 N n l M)∧(∀ x,isIn M x=true→isIn (reachF T0 N n l M) x=true)∧(∀ r∈l,r.kind=0→isIn T0 (keyOf r)=true→isIn (reachF T0 N n l M) (keyOf r)=true) ∧
  ∀ x,isIn (reachF T0 N n l M) x=true→isIn M x=true∨∃ r∈l,r.kind=0∧Way T0 N (keyOf r) x
 | [],M,h=>⟨h,fun x hx=>hx,by simp,fun x hx=>.inl hx⟩
 | r :: l,M,h=>by
  have e:reachF T0 N n (r :: l) M=reachF T0 N n l (if r.kind=0 then visF T0 N n (keyOf r) M else M):=rfl
  rw [e]
  by_cases hk:r.kind=0
  ·rw [if_pos hk]
   obtain ⟨a1,a2,a3⟩:=dfs T0 N n (keyOf r) M (hn M)
   have hg:∀ x,isIn M x=true→isIn (visF T0 N n (keyOf r) M) x=true:=fun x hx=>visF_grow T0 N n _ M x hx
   have hs:Shut T0 N [] (visF T0 N n (keyOf r) M):=fun x hx _ y hy hyT=>by
    cases hm:isIn M x with
    | true=>exact hg _ (h x hm rfl y hy hyT)
    | false=>exact a3 x hx hm y hy hyT
   obtain ⟨b1,b2,b3,b4⟩:=reachF_spec n hn l _ hs
   refine ⟨b1,fun x hx=>b2 x (hg x hx),fun q hq hq0 hqT=>?_,fun x hx=>?_⟩
   ·rcases List.mem_cons.1 hq with rfl|hq
    ·exact b2 _ (a1 hqT)
    ·exact b3 q hq hq0 hqT
   ·rcases b4 x hx with h1|⟨q,hq,h1,h2⟩
    ·cases hm:isIn M x with
     | true=>exact .inl rfl
     | false=>exact .inr ⟨r,by simp,hk,a2 x h1 hm⟩
    ·exact .inr ⟨q,by simp [hq],h1,h2⟩
  ·rw [if_neg hk]
   obtain ⟨b1,b2,b3,b4⟩:=reachF_spec n hn l M h
   refine ⟨b1,b2,fun q hq hq0 hqT=>?_,fun x hx=>?_⟩
   ·rcases List.mem_cons.1 hq with rfl|hq
    ·exact absurd hq0 hk
    ·exact b3 q hq hq0 hqT
   ·rcases b4 x hx with h1|⟨q,hq,h1,h2⟩
    ·exact .inl h1
    ·exact .inr ⟨q,by simp [hq],h1,h2⟩
end dfs
theorem isIn_of (l:List Res) (k:Key):isIn (ofR l []) k=decide (k∈l.map keyOf):=by rw [mem_ofR]; simp [isIn]
theorem reached_iff {l:List Res} (h:(l.map keyOf).Nodup) (k:Key):isIn (reachedM l) k=true↔Rch l k:=by
 have hT:∀ k,isIn (ofR l []) k=true↔k∈l.map keyOf:=fun k=>by rw [isIn_of]; simp
 obtain ⟨b1,_,b3,b4⟩:=reachF_spec (ofR l []) (namesM l) (ofR l []).length (fun M=>List.length_filter_le _ _) l [] (fun x hx=>by simp [isIn] at hx)
 have hsucc:∀ r∈l,succK (namesM l) (keyOf r)=refsR r:=fun r hr=>by unfold succK; rw [names_get h hr]; rfl
 constructor
 ·intro hk
  rcases b4 k hk with h1|⟨r,hr,h0,hw⟩
  ·simp [isIn] at h1
  ·have:∀ {a b:Key},Way (ofR l []) (namesM l) a b→Rch l a→Rch l b:=by
    intro a b hw
    induction hw with
    | refl=>exact fun h=>h
    | step k x y hk hx hw ih =>
     intro ha
     refine ih ?_
     obtain ⟨q,hq,rfl⟩:=List.mem_map.1 ((hT k).1 hk)
     rw [hsucc q hq] at hx
     refine .step q x hq ha hx ?_
     cases hw with
     | refl _ hx'=>exact (hT x).1 hx'
     | step _ _ _ hx'=>exact (hT x).1 hx'
   exact this hw (.base r hr h0)
 ·intro hk
  induction hk with
  | base r hr h0=>exact b3 r hr h0 ((hT _).2 (List.mem_map_of_mem hr))
  | step r x hr _ hx hx' ih=>exact b1 _ ih rfl x (by rw [hsucc r hr]; exact hx) ((hT x).2 hx')
theorem mem_reachR {l:List Res} (h:(l.map keyOf).Nodup) (r:Res):r∈reachR l↔r∈l∧Rch l (keyOf r):=by
 unfold reachR
 rw [List.mem_filter,reached_iff h]
theorem nodup_sub {l m:List Res} (h:(l.map keyOf).Nodup) (hs:m.Sublist l):(m.map keyOf).Nodup:=h.sublist (hs.map _)
theorem reachR_sub (l:List Res):(reachR l).Sublist l:=List.filter_sublist
theorem rch_key {l:List Res} (h:(l.map keyOf).Nodup) {k:Key} (hk:Rch l k):k∈(reachR l).map keyOf:=by
 obtain ⟨r,hr,rfl⟩:=List.mem_map.1 hk.mem
 exact List.mem_map_of_mem ((mem_reachR h r).2 ⟨hr,hk⟩)
theorem rch_reach {l:List Res} (h:(l.map keyOf).Nodup) {k:Key} (hk:Rch l k):Rch (reachR l) k:=by
 induction hk with
 | base r hr h0=>exact .base r ((mem_reachR h r).2 ⟨hr,.base r hr h0⟩) h0
 | step r x hr hk hx hx' ih=>exact .step r x ((mem_reachR h r).2 ⟨hr,hk⟩) ih hx (rch_key h (.step r x hr hk hx hx'))
theorem reach_reach {l:List Res} (h:(l.map keyOf).Nodup):reachR (reachR l)=reachR l:=by
 have h2:=nodup_sub h (reachR_sub l)
 show (reachR l).filter (fun r=>isIn (reachedM (reachR l)) (keyOf r))=reachR l
 refine List.filter_eq_self.2 fun r hr=>?_
 rw [reached_iff h2]
 exact rch_reach h ((mem_reachR h r).1 hr).2
theorem any_congr {α:Type} {p q:α→Bool} {l:List α} (h:∀ x∈l,p x=q x):l.any p=l.any q:=by
 induction l with
 | nil=>rfl
 | cons x l ih=>rw [List.any_cons,List.any_cons,h x (by simp),ih fun y hy=>h y (by simp [hy])]
theorem served_reach {l:List Res} (h:(l.map keyOf).Nodup):served (reachR l)=served l:=by
 have e:((reachR l).any (lacks (ofR (reachR l) [])))=(reachR l).any (lacks (ofR l [])):=any_congr fun r hr=>any_congr fun k hk=>by
  obtain ⟨h1,h2⟩:=(mem_reachR h r).1 hr
  rw [isIn_of,isIn_of]
  congr 1
  rw [decide_eq_decide]
  exact ⟨fun hk'=>((reachR_sub l).map keyOf).subset hk',fun hk'=>rch_key h (.step r k h1 h2 hk hk')⟩
 unfold served
 rw [reach_reach h,e]
end Go.Proofs.YtmjkjmoeicnbnaaGreatDoor.Lg
namespace Go.Proofs.YtmjkjmoeicnbnaaGreatDoor.Lg
set_option maxRecDepth 100000
set_option linter.unusedVariables false
set_option linter.unusedSimpArgs false
open Go
open Nat renaming reduceEqDiff → Qa, reduceLT → Qb, reduceLeDiff → Qc, reduceAdd → Qd, reduceMul → Qe, reduceSub → Qf, reduceBEq → Qg
open String renaming reduceEq → Qh
open SpecC renaming seqW → Qi, regW → Qj, drawW → Qk, condW → Ql, skip → Qn, ret → Qr, regUW → Qt
open NxK renaming out → Qw
open Nx renaming out → Qx
open condK renaming split → Qy
open gK renaming split_t → Qz, split_f → QA
open CallR renaming go1 → QD
theorem need_c:CallR Tryz.prog 152 [.int .i64 0] (.val (.tup [])):=by
 refine QD (T:=T) Tryz.call152 Tryz.func152 rfl Tryz.ntmps152 (congrArg Array.toList Tryz.results152) (by decide) fun ts hn h0=>?_
 (repeat' (first
 | (with_reducible first|assumption|(refine Qw hK _ ?_; clear hK K)|refine Qw ‹_› _ ?_|refine Qx ‹_› ?_|refine Qi fun K hK=>?_|refine Qj T fun K hK=>?_|refine Ql fun A B hA hB=>?_|refine Qn ?_|refine Qr ?_)
 | ((with_reducible first|apply Qy|apply Qz|apply QA)<;>intro hb<;>try simp only [nr] at hb)
 | simp only [go_sem,↓reduceIte,reduceIte,Qa,Qh,Qb,Qc,Qd,Qe,Qf,Qg,reduceCtorEq, *]
 | with_reducible refine fun (bn:Bool) hbn=>?_))
theorem need_u (e:Int) (he:¬ e=0):CallU Tryz.prog 152 [.int .i64 e] (upE e):=by
 refine CallU.go1 Tryz.call152 Tryz.func152 rfl Tryz.ntmps152 (by decide) fun ts hn h0=>?_
 (repeat' (first
 | (with_reducible first|refine Qt T 3 (id:=1) rfl rfl fun K hK=>?_|refine UpK.panicT (u:=165) (n:=e) ?_ ?_|assumption|(refine Qw hK _ ?_; clear hK K)|refine Qw ‹_› _ ?_|refine Qx ‹_› ?_|refine Qi fun K hK=>?_|refine Qj T fun K hK=>?_|refine Ql fun A B hA hB=>?_|refine Qn ?_|refine Qr ?_)
 | ((with_reducible first|apply Qy|apply Qz|apply QA)<;>intro hb<;>try simp only [nr] at hb)
 | simp only [go_sem,↓reduceIte,reduceIte,Qa,Qh,Qb,Qc,Qd,Qe,Qf,Qg,reduceCtorEq, *]
 | with_reducible refine fun (bn:Bool) hbn=>?_))
 all_goals first|rfl|trace_state
theorem unless_c (b:Bool) (e:Int):CallR Tryz.prog 153 [.bool b,.int .i64 e] (.val (.int .i64 (if b=true then 0 else e))):=by
 cases b
 ·refine CallR.go2 (T:=T) Tryz.call153 Tryz.func153 rfl Tryz.ntmps153 (congrArg Array.toList Tryz.results153) (by decide) fun ts hn h0 h1=>?_
  (repeat' (first
 | (with_reducible first|assumption|(refine Qw hK _ ?_; clear hK K)|refine Qw ‹_› _ ?_|refine Qx ‹_› ?_|refine Qi fun K hK=>?_|refine Qj T fun K hK=>?_|refine Ql fun A B hA hB=>?_|refine Qn ?_|refine Qr ?_)
 | ((with_reducible first|apply Qy|apply Qz|apply QA)<;>intro hb<;>try simp only [nr] at hb)
 | simp only [go_sem,↓reduceIte,reduceIte,Qa,Qh,Qb,Qc,Qd,Qe,Qf,Qg,reduceCtorEq, *]
 | with_reducible refine fun (bn:Bool) hbn=>?_))
 ·refine CallR.go2 (T:=T) Tryz.call153 Tryz.func153 rfl Tryz.ntmps153 (congrArg Array.toList Tryz.results153) (by decide) fun ts hn h0 h1=>?_
  (repeat' (first
 | (with_reducible first|assumption|(refine Qw hK _ ?_; clear hK K)|refine Qw ‹_› _ ?_|refine Qx ‹_› ?_|refine Qi fun K hK=>?_|refine Qj T fun K hK=>?_|refine Ql fun A B hA hB=>?_|refine Qn ?_|refine Qr ?_)
 | ((with_reducible first|apply Qy|apply Qz|apply QA)<;>intro hb<;>try simp only [nr] at hb)
 | simp only [go_sem,↓reduceIte,reduceIte,Qa,Qh,Qb,Qc,Qd,Qe,Qf,Qg,reduceCtorEq, *]
 | with_reducible refine fun (bn:Bool) hbn=>?_))
def mustE (cap:Int) (l:List Res):Int:=if ¬ tsane l=0 then tsane l else if (l.length:Int)≤cap then served l else 8
theorem must_c (cap:Int) (m l:List Res) (hl:l.length≤65536) (hs:∀ r∈l,SmRes r) (hnd:tsane l=0→(l.map keyOf).Nodup) (hm:mustE cap l=0) :
  CallR Tryz.prog 115 [.agg [.int .i64 cap,.slice false (avs m)],.slice false (avs l)] (.val (.tup [])):=by
 have hsl:=small_le hl
 have ht:tsane l=0:=by
  by_cases h:tsane l=0
  ·exact h
  ·unfold mustE at hm; rw [if_pos h] at hm; exact hm
 have hc:(l.length:Int)≤cap:=by
  by_cases h:(l.length:Int)≤cap
  ·exact h
  ·unfold mustE at hm; rw [if_neg (by simp [ht]),if_neg h] at hm; cases hm
 have hv:served l=0:=by
  unfold mustE at hm; rwa [if_neg (by simp [ht]),if_pos hc] at hm
 have w1:=tsane_c l hsl hs
 rw [ht] at w1
 have w3:=served_c l hl hs (hnd ht)
 rw [hv] at w3
 have w2:=unless_c true 8
 rw [if_pos rfl] at w2
 clear hm hnd
 refine CallR.go2 (T:=T) Tryz.call115 Tryz.func115 rfl Tryz.ntmps115 (congrArg Array.toList Tryz.results115) (by decide) fun ts hn h0 h1=>?_
 (repeat' (first
 | (with_reducible first|refine callX.by (w1) ?_|refine callX.by (w3) ?_|refine callX.by (w2) ?_|refine callX.by (tsane_c _ ?_ ?_) ?_|refine callX.by need_c ?_|refine callX.by (unless_c _ _) ?_|refine callX.by (served_c _ ?_ ?_ ?_) ?_|refine callX.by a6sc ?_|assumption|(refine Qw hK _ ?_; clear hK K)|refine Qw ‹_› _ ?_|refine Qx ‹_› ?_|refine Qi fun K hK=>?_|refine Qj T fun K hK=>?_|refine Ql fun A B hA hB=>?_|refine Qn ?_|refine Qr ?_)
 | ((with_reducible first|apply Qy|apply Qz|apply QA)<;>intro hb<;>try simp only [nr] at hb)
 | simp only [go_sem,↓reduceIte,reduceIte,Qa,Qh,Qb,Qc,Qd,Qe,Qf,Qg,reduceCtorEq, *,-hs,-w1,-w2,-w3,-ht,-hv]
 | with_reducible refine fun (bn:Bool) hbn=>?_))
 all_goals trace_state
theorem must_u (cap:Int) (m l:List Res) (hl:l.length≤65536) (hs:∀ r∈l,SmRes r) (hnd:tsane l=0→(l.map keyOf).Nodup) (hm:¬ mustE cap l=0) :
  CallU Tryz.prog 115 [.agg [.int .i64 cap,.slice false (avs m)],.slice false (avs l)] (upE (mustE cap l)):=by
 have hsl:=small_le hl
 have w1:=tsane_c l hsl hs
 by_cases ht:tsane l=0
 ·by_cases hc:(l.length:Int)≤cap
  ·have e:mustE cap l=served l:=by unfold mustE; rw [if_neg (by simp [ht]),if_pos hc]
   rw [e] at hm ⊢
   have w3:=served_c l hl hs (hnd ht)
   have w2:=unless_c true 8
   rw [if_pos rfl] at w2
   have w4:=need_u _ hm
   rw [ht] at w1
   clear hnd e
   refine CallU.go2 Tryz.call115 Tryz.func115 rfl Tryz.ntmps115 (by decide) fun ts hn h0 h1=>?_
   (repeat' (first
 | (with_reducible first|refine Qt T 2 (id:=3) rfl rfl fun K hK=>?_|refine UpK.callF w4 ?_ ?_|refine callX.by (w1) ?_|refine callX.by (w3) ?_|refine callX.by (w2) ?_|refine callX.by (tsane_c _ ?_ ?_) ?_|refine callX.by need_c ?_|refine callX.by (unless_c _ _) ?_|refine callX.by (served_c _ ?_ ?_ ?_) ?_|refine callX.by a6sc ?_|assumption|(refine Qw hK _ ?_; clear hK K)|refine Qw ‹_› _ ?_|refine Qx ‹_› ?_|refine Qi fun K hK=>?_|refine Qj T fun K hK=>?_|refine Ql fun A B hA hB=>?_|refine Qn ?_|refine Qr ?_)
 | ((with_reducible first|apply Qy|apply Qz|apply QA)<;>intro hb<;>try simp only [nr] at hb)
 | simp only [go_sem,↓reduceIte,reduceIte,Qa,Qh,Qb,Qc,Qd,Qe,Qf,Qg,reduceCtorEq, *,-hs,-w1,-w2,-w3,-w4,-ht]
 | with_reducible refine fun (bn:Bool) hbn=>?_))
   all_goals trace_state
  ·have e:mustE cap l=8:=by unfold mustE; rw [if_neg (by simp [ht]),if_neg hc]
   rw [e] at hm ⊢
   have w2:=unless_c false 8
   rw [if_neg (by simp)] at w2
   have w4:=need_u _ hm
   rw [ht] at w1
   clear hnd e
   refine CallU.go2 Tryz.call115 Tryz.func115 rfl Tryz.ntmps115 (by decide) fun ts hn h0 h1=>?_
   (repeat' (first
 | (with_reducible first|refine Qt T 6 (id:=2) rfl rfl fun K hK=>?_|refine UpK.callF w4 ?_ ?_|refine callX.by (w1) ?_|refine callX.by (w2) ?_|refine callX.by (tsane_c _ ?_ ?_) ?_|refine callX.by need_c ?_|refine callX.by (unless_c _ _) ?_|refine callX.by (served_c _ ?_ ?_ ?_) ?_|refine callX.by a6sc ?_|assumption|(refine Qw hK _ ?_; clear hK K)|refine Qw ‹_› _ ?_|refine Qx ‹_› ?_|refine Qi fun K hK=>?_|refine Qj T fun K hK=>?_|refine Ql fun A B hA hB=>?_|refine Qn ?_|refine Qr ?_)
 | ((with_reducible first|apply Qy|apply Qz|apply QA)<;>intro hb<;>try simp only [nr] at hb)
 | simp only [go_sem,↓reduceIte,reduceIte,Qa,Qh,Qb,Qc,Qd,Qe,Qf,Qg,reduceCtorEq, *,-hs,-w1,-w2,-w4,-ht]
 | with_reducible refine fun (bn:Bool) hbn=>?_))
   all_goals trace_state
 ·have e:mustE cap l=tsane l:=by unfold mustE; rw [if_pos ht]
  rw [e] at hm ⊢
  have w4:=need_u _ hm
  clear hnd e
  refine CallU.go2 Tryz.call115 Tryz.func115 rfl Tryz.ntmps115 (by decide) fun ts hn h0 h1=>?_
  (repeat' (first
 | (with_reducible first|refine Qt T 2 (id:=1) rfl rfl fun K hK=>?_|refine UpK.callF w4 ?_ ?_|refine callX.by (w1) ?_|refine callX.by (tsane_c _ ?_ ?_) ?_|refine callX.by need_c ?_|refine callX.by (unless_c _ _) ?_|refine callX.by (served_c _ ?_ ?_ ?_) ?_|refine callX.by a6sc ?_|assumption|(refine Qw hK _ ?_; clear hK K)|refine Qw ‹_› _ ?_|refine Qx ‹_› ?_|refine Qi fun K hK=>?_|refine Qj T fun K hK=>?_|refine Ql fun A B hA hB=>?_|refine Qn ?_|refine Qr ?_)
 | ((with_reducible first|apply Qy|apply Qz|apply QA)<;>intro hb<;>try simp only [nr] at hb)
 | simp only [go_sem,↓reduceIte,reduceIte,Qa,Qh,Qb,Qc,Qd,Qe,Qf,Qg,reduceCtorEq, *,-hs,-w1,-w4,-ht]
 | with_reducible refine fun (bn:Bool) hbn=>?_))
  all_goals trace_state
@[go_sem] def Wd12:List (List Nat×List Nat):=[([3],[5,6,7]),([4],[5,6,7]),([5],[3,4]),([6],[3,4]),([7],[3,4])]
def bnd (n:Int):Int:=max 0 (min n 64)
theorem bounded_c (n:Int):CallR Tryz.prog 112 [.int .i64 n] (.val (.int .i64 (bnd n))):=by
 refine QD (T:=T) Tryz.call112 Tryz.func112 rfl Tryz.ntmps112 (congrArg Array.toList Tryz.results112) (by decide) fun ts hn h0=>?_
 (repeat' (first
 | (with_reducible first|assumption|(refine Qw hK _ ?_; clear hK K)|refine Qw ‹_› _ ?_|refine Qx ‹_› ?_|refine Qi fun K hK=>?_|refine Qj T fun K hK=>?_|refine Ql fun A B hA hB=>?_|refine Qn ?_|refine Qr ?_)
 | ((with_reducible first|apply Qy|apply Qz|apply QA)<;>intro hb<;>try simp only [nr] at hb)
 | simp only [go_sem,↓reduceIte,reduceIte,Qa,Qh,Qb,Qc,Qd,Qe,Qf,Qg,reduceCtorEq, *]
 | with_reducible refine fun (bn:Bool) hbn=>?_))
 all_goals rfl
theorem newC_c (n:Int):CallR Tryz.prog 109 [.int .i64 n] (.val (.agg [.int .i64 (bnd n),.slice false []])):=by
 refine QD (T:=T) Tryz.call109 Tryz.func109 rfl Tryz.ntmps109 (congrArg Array.toList Tryz.results109) (by decide) fun ts hn h0=>?_
 (repeat' (first
 | (with_reducible first|refine callX.by (bounded_c _) ?_|assumption|(refine Qw hK _ ?_; clear hK K)|refine Qw ‹_› _ ?_|refine Qx ‹_› ?_|refine Qi fun K hK=>?_|refine Qj T fun K hK=>?_|refine Ql fun A B hA hB=>?_|refine Qn ?_|refine Qr ?_)
 | ((with_reducible first|apply Qy|apply Qz|apply QA)<;>intro hb<;>try simp only [nr] at hb)
 | simp only [go_sem,↓reduceIte,reduceIte,Qa,Qh,Qb,Qc,Qd,Qe,Qf,Qg,reduceCtorEq, *]
 | with_reducible refine fun (bn:Bool) hbn=>?_))
theorem caneS1_d (cap:Int) (l:List Res) (hl:l.length≤65536) (hs:∀ r∈l,SmRes r) :
  Done 114 ([.ro [.int .i64 cap,.slice false (avs l)]].map Arg.v) (mustE cap l) (fun _=>True):=by
 unfold Done
 split
 ·rename_i hm
  have w1:=must_c cap l l hl hs (fun h=>(conf_of h).nodup) hm
  have key:CallR Tryz.prog 114 [.ro [.int .i64 cap,.slice false (avs l)]] (.val (.tup [])):=by
   refine QD (T:=T) Tryz.call114 Tryz.func114 rfl Tryz.ntmps114 (congrArg Array.toList Tryz.results114) (by decide) fun ts hn h0=>?_
   (repeat' (first
 | (with_reducible first|refine callX.by (w1) ?_|assumption|(refine Qw hK _ ?_; clear hK K)|refine Qw ‹_› _ ?_|refine Qx ‹_› ?_|refine Qi fun K hK=>?_|refine Qj T fun K hK=>?_|refine Ql fun A B hA hB=>?_|refine Qn ?_|refine Qr ?_)
 | ((with_reducible first|apply Qy|apply Qz|apply QA)<;>intro hb<;>try simp only [nr] at hb)
 | simp only [go_sem,↓reduceIte,reduceIte,Qa,Qh,Qb,Qc,Qd,Qe,Qf,Qg,reduceCtorEq, *,-hs,-w1,-hm]
 | with_reducible refine fun (bn:Bool) hbn=>?_))
  exact CallV.mono key fun r io h=>⟨h,trivial⟩
 ·rename_i hm
  have w1:=must_u cap l l hl hs (fun h=>(conf_of h).nodup) hm
  have key:CallU Tryz.prog 114 [.ro [.int .i64 cap,.slice false (avs l)]] (upE (mustE cap l)):=by
   refine CallU.go1 Tryz.call114 Tryz.func114 rfl Tryz.ntmps114 (by decide) fun ts hn h0=>?_
   (repeat' (first
 | (with_reducible first|refine Qt T 3 (id:=0) rfl rfl fun K hK=>?_|refine UpK.callF w1 ?_ ?_|assumption|(refine Qw hK _ ?_; clear hK K)|refine Qw ‹_› _ ?_|refine Qx ‹_› ?_|refine Qi fun K hK=>?_|refine Qj T fun K hK=>?_|refine Ql fun A B hA hB=>?_|refine Qn ?_|refine Qr ?_)
 | ((with_reducible first|apply Qy|apply Qz|apply QA)<;>intro hb<;>try simp only [nr] at hb)
 | simp only [go_sem,↓reduceIte,reduceIte,Qa,Qh,Qb,Qc,Qd,Qe,Qf,Qg,reduceCtorEq, *,-hs,-w1,-hm]
 | with_reducible refine fun (bn:Bool) hbn=>?_))
  exact key
def saneC (c:Cache):Bool:=decide (c.cap=bnd c.cap) && decide (mustE c.cap c.l=0)
theorem caps_cache (cap:Int) (l:List Res):AV.pure.pureL [.ro [.int .i64 cap,.slice false (avs l)]]=true:=by simp only [go_sem,Bool.and_self]
theorem saneC_c (c_cap:Int) (c_l:List Res) (hl:c_l.length≤65536) (hs:∀ r∈c_l,SmRes r):CallR Tryz.prog 55 [.agg [.int .i64 c_cap,.slice false (avs c_l)]] (.val (.bool (saneC (⟨c_cap,c_l⟩:Cache)))):=by
 have w1:=caught_c 114 [.ro [.int .i64 c_cap,.slice false (avs c_l)]] (mustE c_cap c_l) Tryz.call114 (caneS1_d c_cap c_l hl hs) (caps_cache _ _)
 refine QD (T:=T.withF [10]) Tryz.call55 Tryz.func55 rfl Tryz.ntmps55 (congrArg Array.toList Tryz.results55) (by decide) fun ts hn h0=>?_
 (repeat' (first
 | (with_reducible first|refine SpecC.ent (Ent.frzBox _ 1) (Qk (id:=1) (T.withF [10]) mixed Wd12 (by kernel_rfl) fun K hK=>?_)|refine callX.by (w1) ?_|refine callX.by (bounded_c _) ?_|assumption|(refine Qw hK _ ?_; clear hK K)|refine Qw ‹_› _ ?_|refine Qx ‹_› ?_|refine Qi fun K hK=>?_|refine Qj (T.withF [10]) fun K hK=>?_|refine Qk (id:=1) (T.withF [10]) mixed Wd12 (by kernel_rfl) fun K hK=>?_|refine Ql fun A B hA hB=>?_|refine Qn ?_|refine Qr ?_)
 | ((with_reducible first|apply Qy|apply Qz|apply QA)<;>intro hb<;>try simp only [nr] at hb)
 | simp only [go_sem,↓reduceIte,reduceIte,Qa,Qh,Qb,Qc,Qd,Qe,Qf,Qg,reduceCtorEq, *,-hs,-w1]
 | with_reducible refine fun (bn:Bool) hbn=>?_))
 all_goals (simp only [saneC,hb,Bool.true_and,Bool.false_and])
def saneOf (c:Cache):Cache:=if saneC c=true then c else ⟨bnd c.cap,[]⟩
theorem saneOf_c (c_cap:Int) (c_l:List Res) (hl:c_l.length≤65536) (hs:∀ r∈c_l,SmRes r):CallR Tryz.prog 122 [.agg [.int .i64 c_cap,.slice false (avs c_l)]] (.val (.agg [.int .i64 (saneOf (⟨c_cap,c_l⟩:Cache)).cap,.slice false (avs (saneOf (⟨c_cap,c_l⟩:Cache)).l)])):=by
 have w1:=saneC_c c_cap c_l hl hs
 unfold saneOf
 cases hb0:saneC (⟨c_cap,c_l⟩:Cache)
 ·rw [hb0] at w1
  refine QD (T:=T) Tryz.call122 Tryz.func122 rfl Tryz.ntmps122 (congrArg Array.toList Tryz.results122) (by decide) fun ts hn h0=>?_
  (repeat' (first
 | (with_reducible first|refine callX.by (w1) ?_|refine callX.by (saneC_c _ _ ?_ ?_) ?_|refine callX.by (newC_c _) ?_|assumption|(refine Qw hK _ ?_; clear hK K)|refine Qw ‹_› _ ?_|refine Qx ‹_› ?_|refine Qi fun K hK=>?_|refine Qj T fun K hK=>?_|refine Ql fun A B hA hB=>?_|refine Qn ?_|refine Qr ?_)
 | ((with_reducible first|apply Qy|apply Qz|apply QA)<;>intro hb<;>try simp only [nr] at hb)
 | simp only [go_sem,↓reduceIte,reduceIte,Qa,Qh,Qb,Qc,Qd,Qe,Qf,Qg,reduceCtorEq, *,-hs,-w1]
 | with_reducible refine fun (bn:Bool) hbn=>?_))
  all_goals rfl
 ·rw [hb0] at w1
  refine QD (T:=T) Tryz.call122 Tryz.func122 rfl Tryz.ntmps122 (congrArg Array.toList Tryz.results122) (by decide) fun ts hn h0=>?_
  (repeat' (first
 | (with_reducible first|refine callX.by (w1) ?_|refine callX.by (saneC_c _ _ ?_ ?_) ?_|refine callX.by (newC_c _) ?_|assumption|(refine Qw hK _ ?_; clear hK K)|refine Qw ‹_› _ ?_|refine Qx ‹_› ?_|refine Qi fun K hK=>?_|refine Qj T fun K hK=>?_|refine Ql fun A B hA hB=>?_|refine Qn ?_|refine Qr ?_)
 | ((with_reducible first|apply Qy|apply Qz|apply QA)<;>intro hb<;>try simp only [nr] at hb)
 | simp only [go_sem,↓reduceIte,reduceIte,Qa,Qh,Qb,Qc,Qd,Qe,Qf,Qg,reduceCtorEq, *,-hs,-w1]
 | with_reducible refine fun (bn:Bool) hbn=>?_))
  all_goals trace_state
theorem with11_c (r_kind:Int) (r_name:List UInt8) (r_ver:Int) (r_port:Int) (r_to:List UInt8) (r_rules:List Rule) (r_hosts:List Int) (k_kind:Int) (k_name:List UInt8) (c:Int):CallR Tryz.prog 185 [.agg [.int .i64 r_kind,.str r_name,.int .i64 r_ver,.int .i64 r_port,.str r_to,.slice false (avs r_rules),.slice false (avs r_hosts)],.ro [.int .i64 k_kind,.str k_name],.ro [.int .i64 c]] (.val (.bool (decide (kcmp (keyOf (⟨r_kind,r_name,r_ver,r_port,r_to,r_rules,r_hosts⟩:Res)) (⟨k_kind,k_name⟩:Key)=c)))):=by
 refine CallR.go3 (T:=T) Tryz.call185 Tryz.func185 rfl Tryz.ntmps185 (congrArg Array.toList Tryz.results185) (by decide) fun ts hn h0 h1 h2=>?_
 (repeat' (first
 | (with_reducible first|refine callX.by (rkey_c _ _ _ _ _ _ _) ?_|refine callX.by (kcmp_c _ _ _ _) ?_|assumption|(refine Qw hK _ ?_; clear hK K)|refine Qw ‹_› _ ?_|refine Qx ‹_› ?_|refine Qi fun K hK=>?_|refine Qj T fun K hK=>?_|refine Qk (id:=1) T mixed [([5],[7,9]),([6],[7,9]),([7],[5,6,9]),([8],[9]),([9],[5,6,7,8])] (by kernel_rfl) fun K hK=>?_|refine Ql fun A B hA hB=>?_|refine Qn ?_|refine Qr ?_)
 | ((with_reducible first|apply Qy|apply Qz|apply QA)<;>intro hb<;>try simp only [nr] at hb)
 | simp only [go_sem,↓reduceIte,reduceIte,Qa,Qh,Qb,Qc,Qd,Qe,Qf,Qg,reduceCtorEq, *]
 | with_reducible refine fun (bn:Bool) hbn=>?_))
 all_goals rfl
theorem caps_with (a:Int) (b:List UInt8) (c:Int):Caps [.ro [.int .i64 a,.str b],.ro [.int .i64 c]]:=⟨by simp only [go_sem,Bool.and_self],by simp only [go_sem]⟩
def sideR (l:List Res) (k:Key) (c:Int):List Res:=l.filter fun r=>decide (kcmp (keyOf r) k=c)
theorem with1_c (xs:List Res) (k_kind:Int) (k_name:List UInt8) (c:Int) (hl:Small xs.length):CallR Tryz.prog 184 [.int .i64 c,.ro [.slice false (avs xs)],.ro [.int .i64 k_kind,.str k_name]] (.own 7 (avs (sideR xs (⟨k_kind,k_name⟩:Key) c))):=by
 have hf:=tfilter_c 185 [.ro [.int .i64 k_kind,.str k_name],.ro [.int .i64 c]] (caps_with k_kind k_name c) (fun r=>decide (kcmp (keyOf r) (⟨k_kind,k_name⟩:Key)=c)) xs (fun x _=>with11_c x.kind x.name x.ver x.port x.to' x.rules' x.hosts k_kind k_name c) hl
 rw [show xs.filter (fun r=>decide (kcmp (keyOf r) (⟨k_kind,k_name⟩:Key)=c))=sideR xs (⟨k_kind,k_name⟩:Key) c from rfl] at hf
 refine CallR.go3 (T:=T) Tryz.call184 Tryz.func184 rfl Tryz.ntmps184 (congrArg Array.toList Tryz.results184) (by decide) fun ts hn h0 h1 h2=>?_
 (repeat' (first
 | (with_reducible first|refine callX.by (hf) ?_|refine callX.by (tfilter_c _ _ ?_ _ _ ?_ ?_) ?_|assumption|(refine Qw hK _ ?_; clear hK K)|refine Qw ‹_› _ ?_|refine Qx ‹_› ?_|refine Qi fun K hK=>?_|refine Qj T fun K hK=>?_|refine Ql fun A B hA hB=>?_|refine Qn ?_|refine Qr ?_)
 | ((with_reducible first|apply Qy|apply Qz|apply QA)<;>intro hb<;>try simp only [nr] at hb)
 | simp only [go_sem,↓reduceIte,reduceIte,Qa,Qh,Qb,Qc,Qd,Qe,Qf,Qg,reduceCtorEq, *,-hf]
 | with_reducible refine fun (bn:Bool) hbn=>?_))
end Go.Proofs.YtmjkjmoeicnbnaaGreatDoor.Lg
