/- Parts of the proof, one behind the other. -/
import Derived.Test.YtmjkjmoeicnbnaaGreatDoorG22
namespace Go.Proofs.YtmjkjmoeicnbnaaGreatDoor.Lg
set_option maxRecDepth 100000
set_option linter.unusedVariables false
set_option linter.unusedSimpArgs false
open Go
open Nat renaming reduceEqDiff → Qa, reduceLT → Qb, reduceLeDiff → Qc, reduceAdd → Qd, reduceMul → Qe, reduceSub → Qf, reduceBEq → Qg
open String renaming reduceEq → Qh
open SpecC renaming seqW → Qi, regW → Qj, condW → Ql, block → Qm, skip → Qn, exit → Qp, ret → Qr, loopF → Qs, regMidW → Qu
open NxK renaming out → Qw
open Nx renaming out → Qx
open condK renaming split → Qy
open gK renaming split_t → Qz, split_f → QA
theorem rounds_len (l:List Res):∀ (n:Nat) (out:List Key),(roundsK l n out).length≤out.length+n * (33 * l.length)
 | 0,out=>by simp [roundsK]
 | n+1,out=>by
  have h1:=rounds_len l n (roundK l out)
  have h2:∀ (m:List Res) (o:List Key),(m.foldl (stepK l) o).length≤o.length+33 * m.length:=by
   intro m
   induction m with
   | nil=>intro o; simp
   | cons r m ih =>
    intro o
    have:=ih (stepK l o r)
    have:=stepK_len l o r
    simp only [List.foldl_cons,List.length_cons]
    omega
  have h3:=h2 l out
  unfold roundsK
  have h4:(roundK l out).length≤out.length+33 * l.length:=h3
  rw [Nat.add_mul,Nat.one_mul]
  omega
theorem reached06_len (l:List Res):(reached06 l).length≤l.length+4 * (33 * l.length):=by
 refine Nat.le_trans (rounds_len l 4 _) (Nat.add_le_add_right ?_ _)
 unfold kind0K
 rw [List.length_map]
 exact List.length_filter_le _ _
def reach06 (l:List Res):List Res:=l.filter fun r=>decide (keyOf r∈reached06 l)
theorem reach06_eq {l:List Res} (h:(l.map keyOf).Nodup):reach06 l=reachR l:=by
 unfold reach06 reachR
 refine List.filter_congr fun r _=>?_
 rw [Bool.eq_iff_iff,decide_eq_true_eq,reached06_iff,reached_iff h]
theorem reach06_c (xs:List Res) (hl:xs.length≤65536) (hs:∀ r∈xs,SmRes r):CallR Tryz.prog 23 [.slice false (avs xs)] (.val (.slice false (avs (reach06 xs)))):=by
 have hsl:=small_le hl
 have w0:=(reached06_c xs hl hs).frz
 have hrl:=reached06_len xs
 have key:CallR Tryz.prog 23 [.slice false (avs xs)] (.own 7 (avs (reach06 xs))):=by
  unfold reach06
  generalize reached06 xs=K6 at *
  have hK6:Small K6.length:=by unfold Small; omega
  refine CallR.go1 (T:=T) Tryz.call23 Tryz.func23 rfl Tryz.ntmps23 (congrArg Array.toList Tryz.results23) (by decide) fun ts hn h0=>?_
  (repeat' (first
 | (with_reducible first|refine callX.by (w0) ?_|refine callX.by (reached06_c _ ?_ ?_) ?_|refine callX.by (rkey3_c _ _ _ _ _ _ _) ?_|refine callX.by (has6_c _ _ _ ?_) ?_|assumption|(refine Qw hK _ ?_; clear hK K)|refine Qw ‹_› _ ?_|refine Qx ‹_› ?_|refine Qi fun K hK=>?_|refine Qj T fun K hK=>?_|refine Ql fun A B hA hB=>?_|refine Qm ?_|refine Qn ?_|refine Qp ?_|refine Qr ?_)
 | ((with_reducible first|apply Qy|apply Qz|apply QA)<;>intro hb<;>try simp only [nr] at hb)
 | simp only [go_sem,↓reduceIte,reduceIte,Qa,Qh,Qb,Qc,Qd,Qe,Qf,Qg,reduceCtorEq, *,-hs,-w0]
 | with_reducible refine fun (bn:Bool) hbn=>?_))
  refine SpecC.ent (Ent.virt 4 7 (by simp only [go_sem,↓reduceIte,reduceIte,Qa,Qh,Qb,Qc,Qd,Qe,Qf,Qg,reduceCtorEq, *,-hs,-w0]) (by decide)) ?_
  refine Qs [0,3] (fun m ts'=>∃ (i:Nat),∃ (g:Nat),∃ (ys:List Res),m=xs.length - i∧i≤xs.length∧ys.length≤i∧xs.filter (fun r=>decide (keyOf r∈K6))=ys++(xs.drop i).filter (fun r=>decide (keyOf r∈K6))∧ts'.tmp 4=.os 4 g ys.length∧ts'.gen 4=g∧ts'.obj 4=.arr 7 (avs ys)∧ts'.tmp 5=.int .i64 i) xs.length ?_ ?_
  ·refine ⟨0,ts.gen 4+1,[],rfl,Nat.zero_le _,Nat.le_refl _,rfl,?_⟩
   simp only [go_sem,↓reduceIte,reduceIte,Qa,Qh,Qb,Qc,Qd,Qe,Qf,Qg,reduceCtorEq, *,-hs,-w0,avs_nil]
  ·rintro m A hM ts' hk ⟨i,g,ys,hm,f1,f2,f3,s1,s2,s3,s4⟩
   simp only [go_sem,↓reduceIte,reduceIte,Qa,Qh,Qb,Qc,Qd,Qe,Qf,Qg,reduceCtorEq, *] at hk
   by_cases hlt:i < xs.length
   ·rw [List.drop_eq_getElem_cons hlt,List.filter_cons] at f3
    have w1:=has6_c K6 xs[i].kind xs[i].name hK6
    have w1:CallR Tryz.prog 64 [.slice false (avs K6),.agg [.int .i64 xs[i].kind,.str xs[i].name]] (.val (.bool (decide (keyOf xs[i]∈K6)))):=w1
    have hr:Room (ys.length+1) 104:=room_small (by omega) (by decide)
    by_cases hc:keyOf xs[i]∈K6
    ·rw [if_pos (by simpa using hc)] at f3
     rw [decide_eq_true hc] at w1
     (repeat' (first
 | (with_reducible first|refine callX.by (w1) ?_|refine callX.by (reached06_c _ ?_ ?_) ?_|refine callX.by (rkey3_c _ _ _ _ _ _ _) ?_|refine callX.by (has6_c _ _ _ ?_) ?_|assumption|(refine Qw hK _ ?_; clear hK K)|refine Qw ‹_› _ ?_|refine Qx ‹_› ?_|refine Qi fun K hK=>?_|refine Qj T fun K hK=>?_|refine Ql fun A B hA hB=>?_|refine Qm ?_|refine Qn ?_|refine Qp ?_|refine Qr ?_)
 | ((with_reducible first|apply Qy|apply Qz|apply QA)<;>intro hb<;>try simp only [nr] at hb)
 | simp only [go_sem,↓reduceIte,reduceIte,Qa,Qh,Qb,Qc,Qd,Qe,Qf,Qg,reduceCtorEq, *,-hs,-w0,-w1,-f3,-hc]
 | with_reducible refine fun (bn:Bool) hbn=>?_))
     all_goals ((repeat clear hK); (repeat clear hA); (repeat clear hB))
     all_goals (refine hM.onE (xs.length - (i+1)) (Ent.ren 4 27 ?_ ?_) ?_ ?_ ?_; (focus (simp only [go_sem,↓reduceIte,reduceIte,Qa,Qh,Qb,Qc,Qd,Qe,Qf,Qg,reduceCtorEq, *,w64_nat hlt hsl,List.length_append,-hs,-w0,-w1,-f3,-hc]; first|done|rfl)); (focus (simp only [go_sem,↓reduceIte,reduceIte,Qa,Qh,Qb,Qc,Qd,Qe,Qf,Qg,reduceCtorEq, *,w64_nat hlt hsl,List.length_append,-hs,-w0,-w1,-f3,-hc]; first|done|rfl)); omega; (focus (simp only [go_sem,↓reduceIte,reduceIte,Qa,Qh,Qb,Qc,Qd,Qe,Qf,Qg,reduceCtorEq, *,w64_nat hlt hsl,List.length_append,-hs,-w0,-w1,-f3,-hc]; done)); refine ⟨i+1,ts'.gen 4+1,ys++[xs[i]],rfl,by omega,by simp; omega,by rw [f3,List.append_assoc]; rfl,?_⟩; simp only [go_sem,↓reduceIte,reduceIte,Qa,Qh,Qb,Qc,Qd,Qe,Qf,Qg,reduceCtorEq, *,w64_nat hlt hsl,List.length_append,-hs,-w0,-w1,-f3,-hc]; done)
    ·rw [if_neg (by simpa using hc)] at f3
     rw [decide_eq_false hc] at w1
     (repeat' (first
 | (with_reducible first|refine callX.by (w1) ?_|refine callX.by (reached06_c _ ?_ ?_) ?_|refine callX.by (rkey3_c _ _ _ _ _ _ _) ?_|refine callX.by (has6_c _ _ _ ?_) ?_|assumption|(refine Qw hK _ ?_; clear hK K)|refine Qw ‹_› _ ?_|refine Qx ‹_› ?_|refine Qi fun K hK=>?_|refine Qj T fun K hK=>?_|refine Ql fun A B hA hB=>?_|refine Qm ?_|refine Qn ?_|refine Qp ?_|refine Qr ?_)
 | ((with_reducible first|apply Qy|apply Qz|apply QA)<;>intro hb<;>try simp only [nr] at hb)
 | simp only [go_sem,↓reduceIte,reduceIte,Qa,Qh,Qb,Qc,Qd,Qe,Qf,Qg,reduceCtorEq, *,-hs,-w0,-w1,-f3,-hc]
 | with_reducible refine fun (bn:Bool) hbn=>?_))
     all_goals ((repeat clear hK); (repeat clear hA); (repeat clear hB))
     all_goals (refine hM.on (xs.length - (i+1)) (by omega) (by simp only [go_sem,↓reduceIte,reduceIte,Qa,Qh,Qb,Qc,Qd,Qe,Qf,Qg,reduceCtorEq, *,w64_nat hlt hsl,-hs,-w0,-w1,-f3,-hc]) ⟨i+1,g,ys,rfl,by omega,by omega,f3,?_⟩; simp only [go_sem,↓reduceIte,reduceIte,Qa,Qh,Qb,Qc,Qd,Qe,Qf,Qg,reduceCtorEq, *,w64_nat hlt hsl,-hs,-w0,-w1,-f3,-hc]; done)
   ·rw [List.drop_eq_nil_of_le (by omega),List.filter_nil,List.append_nil] at f3
    (repeat' (first
 | (with_reducible first|refine callX.by (reached06_c _ ?_ ?_) ?_|refine callX.by (rkey3_c _ _ _ _ _ _ _) ?_|refine callX.by (has6_c _ _ _ ?_) ?_|assumption|(refine Qw hK _ ?_; clear hK K)|refine Qw ‹_› _ ?_|refine Qx ‹_› ?_|refine Qi fun K hK=>?_|refine Qj T fun K hK=>?_|refine Ql fun A B hA hB=>?_|refine Qm ?_|refine Qn ?_|refine Qp ?_|refine Qr ?_)
 | ((with_reducible first|apply Qy|apply Qz|apply QA)<;>intro hb<;>try simp only [nr] at hb)
 | simp only [go_sem,↓reduceIte,reduceIte,Qa,Qh,Qb,Qc,Qd,Qe,Qf,Qg,reduceCtorEq, *,-hs,-w0,-f3]
 | with_reducible refine fun (bn:Bool) hbn=>?_))
    all_goals rw [f3]
 exact key.frz
def lacks06 (l:List Res) (r:Res):Bool:=(refsR r).any fun k=>!(tget l k).isSome
def served06 (l:List Res):Int:=if (reach06 l).any (lacks06 l)=true then 6 else if (reach06 l).any bare=true then 7 else 0
theorem reach06_len (l:List Res):(reach06 l).length≤l.length:=List.length_filter_le _ _
theorem reach06_mem {l:List Res} {r:Res} (h:r∈reach06 l):r∈l:=(List.mem_filter.1 h).1
set_option maxHeartbeats 8000000 in
theorem served06_c (xs:List Res) (hl:xs.length≤65536) (hs:∀ r∈xs,SmRes r):CallR Tryz.prog 25 [.slice false (avs xs)] (.val (.int .i64 (served06 xs))):=by
 have hsl:=small_le hl
 have w0:=reach06_c xs hl hs
 have hRl:=reach06_len xs
 have hRm:∀ r∈reach06 xs,SmRes r:=fun r hr=>hs r (reach06_mem hr)
 unfold served06
 generalize reach06 xs=R at *
 have hRs:Small R.length:=by unfold Small; omega
 clear hs
 refine CallR.go1 (T:=T) Tryz.call25 Tryz.func25 rfl Tryz.ntmps25 (congrArg Array.toList Tryz.results25) (by decide) fun ts hn h0=>?_
 (repeat' (first
 | (with_reducible first|refine callX.by (w0) ?_|refine callX.by (reach06_c _ ?_ ?_) ?_|refine callX.by (refs03_c _ _ _ _ _ _ _ ?_ ?_ ?_ ?_) ?_|refine callX.by (there_c _ _ _ ?_) ?_|assumption|(refine Qw hK _ ?_; clear hK K)|refine Qw ‹_› _ ?_|refine Qx ‹_› ?_|refine Qi fun K hK=>?_|refine Qj T fun K hK=>?_|refine Ql fun A B hA hB=>?_|refine Qm ?_|refine Qn ?_|refine Qp ?_|refine Qr ?_)
 | ((with_reducible first|apply Qy|apply Qz|apply QA)<;>intro hb<;>try simp only [nr] at hb)
 | simp only [go_sem,↓reduceIte,reduceIte,Qa,Qh,Qb,Qc,Qd,Qe,Qf,Qg,reduceCtorEq, *,-hRm,-w0]
 | with_reducible refine fun (bn:Bool) hbn=>?_))
 refine Qs [0,3] (fun m ts'=>∃ (i:Nat),m=R.length - i∧i≤R.length∧R.any (lacks06 xs)=(R.drop i).any (lacks06 xs)∧ts'.tmp 4=.int .i64 i) R.length ?_ ?_
 ·refine ⟨0,?_⟩
  simp only [go_sem,↓reduceIte,reduceIte,Qa,Qh,Qb,Qc,Qd,Qe,Qf,Qg,reduceCtorEq, *,-hRm,-w0]
 ·rintro m A hM ts' hk ⟨i,hm,f1,f2,s1⟩
  simp only [go_sem,↓reduceIte,reduceIte,Qa,Qh,Qb,Qc,Qd,Qe,Qf,Qg,reduceCtorEq, *] at hk
  have hMo:=hM
  have hmo:=hm
  by_cases hlt:i < R.length
  ·rw [List.drop_eq_getElem_cons hlt,List.any_cons] at f2
   have hout:=f2
   have hx:=hRm _ (List.getElem_mem hlt)
   have w1:=refs03_c R[i].kind R[i].name R[i].ver R[i].port R[i].to' R[i].rules' R[i].hosts hx.2.2.1 hx.2.2.2.2 hx.2.2.2.1 hx.2.1
   have w1:CallR Tryz.prog 75 [.agg [.int .i64 R[i].kind,.str R[i].name,.int .i64 R[i].ver,.int .i64 R[i].port,.str R[i].to',.slice false (avs R[i].rules'),.slice false (avs R[i].hosts)]] (.val (.slice false (avs (refsR R[i])))):=w1
   have hrl:=refs_len R[i]
   have hrs:Small (refsR R[i]).length:=by unfold Small; omega
   clear hx hM hm f2
   (repeat' (first
 | (with_reducible first|refine callX.by (w1) ?_|refine callX.by (reach06_c _ ?_ ?_) ?_|refine callX.by (refs03_c _ _ _ _ _ _ _ ?_ ?_ ?_ ?_) ?_|refine callX.by (there_c _ _ _ ?_) ?_|assumption|(refine Qw hK _ ?_; clear hK K)|refine Qw ‹_› _ ?_|refine Qx ‹_› ?_|refine Qi fun K hK=>?_|refine Qj T fun K hK=>?_|refine Ql fun A B hA hB=>?_|refine Qm ?_|refine Qn ?_|refine Qp ?_|refine Qr ?_)
 | ((with_reducible first|apply Qy|apply Qz|apply QA)<;>intro hb<;>try simp only [nr] at hb)
 | simp only [go_sem,↓reduceIte,reduceIte,Qa,Qh,Qb,Qc,Qd,Qe,Qf,Qg,reduceCtorEq, *,-hRm,-w0,-w1,-hMo,-hout]
 | with_reducible refine fun (bn:Bool) hbn=>?_))
   refine Qs [0,3,4,5] (fun m ts'=>∃ (j:Nat),m=(refsR R[i]).length - j∧j≤(refsR R[i]).length∧lacks06 xs R[i]=((refsR R[i]).drop j).any (fun k=>!(tget xs k).isSome)∧ts'.tmp 6=.int .i64 j) (refsR R[i]).length ?_ ?_
   ·refine ⟨0,rfl,Nat.zero_le _,rfl,?_⟩
    simp only [go_sem,↓reduceIte,reduceIte,Qa,Qh,Qb,Qc,Qd,Qe,Qf,Qg,reduceCtorEq, *,-hRm,-w0,-w1,-hMo,-hout]
   ·rintro m A hM ts' hk ⟨j,hm,f1,f2,s1⟩
    simp only [go_sem,↓reduceIte,reduceIte,Qa,Qh,Qb,Qc,Qd,Qe,Qf,Qg,reduceCtorEq, *] at hk
    by_cases hjl:j < (refsR R[i]).length
    ·rw [List.drop_eq_getElem_cons hjl,List.any_cons] at f2
     have w3:=there_c xs (refsR R[i])[j].kind (refsR R[i])[j].name hsl
     have w3:CallR Tryz.prog 76 [.slice false (avs xs),.agg [.int .i64 (refsR R[i])[j].kind,.str (refsR R[i])[j].name]] (.val (.bool (tget xs (refsR R[i])[j]).isSome)):=w3
     cases hb0:(tget xs (refsR R[i])[j]).isSome
     ·rw [hb0] at w3 f2
      have e:(if R.any (lacks06 xs)=true then (6:Int) else if R.any bare=true then 7 else 0)=6:=by
       rw [if_pos]
       rw [hout,f2]; rfl
      rw [e]
      (repeat' (first
 | (with_reducible first|refine callX.by (w3) ?_|refine callX.by (reach06_c _ ?_ ?_) ?_|refine callX.by (refs03_c _ _ _ _ _ _ _ ?_ ?_ ?_ ?_) ?_|refine callX.by (there_c _ _ _ ?_) ?_|assumption|(refine Qw hK _ ?_; clear hK K)|refine Qw ‹_› _ ?_|refine Qx ‹_› ?_|refine Qi fun K hK=>?_|refine Qj T fun K hK=>?_|refine Ql fun A B hA hB=>?_|refine Qm ?_|refine Qn ?_|refine Qp ?_|refine Qr ?_)
 | ((with_reducible first|apply Qy|apply Qz|apply QA)<;>intro hb<;>try simp only [nr] at hb)
 | simp only [go_sem,↓reduceIte,reduceIte,Qa,Qh,Qb,Qc,Qd,Qe,Qf,Qg,reduceCtorEq, *,-hRm,-w0,-w1,-w3,-hMo,-hout,-f2]
 | with_reducible refine fun (bn:Bool) hbn=>?_))
      all_goals (first|rfl|exact e.symm|trace_state)
     ·rw [hb0] at w3 f2
      rw [Bool.not_true,Bool.false_or] at f2
      (repeat' (first
 | (with_reducible first|refine callX.by (w3) ?_|refine callX.by (reach06_c _ ?_ ?_) ?_|refine callX.by (refs03_c _ _ _ _ _ _ _ ?_ ?_ ?_ ?_) ?_|refine callX.by (there_c _ _ _ ?_) ?_|assumption|(refine Qw hK _ ?_; clear hK K)|refine Qw ‹_› _ ?_|refine Qx ‹_› ?_|refine Qi fun K hK=>?_|refine Qj T fun K hK=>?_|refine Ql fun A B hA hB=>?_|refine Qm ?_|refine Qn ?_|refine Qp ?_|refine Qr ?_)
 | ((with_reducible first|apply Qy|apply Qz|apply QA)<;>intro hb<;>try simp only [nr] at hb)
 | simp only [go_sem,↓reduceIte,reduceIte,Qa,Qh,Qb,Qc,Qd,Qe,Qf,Qg,reduceCtorEq, *,-hRm,-w0,-w1,-w3,-hMo,-hout,-f2]
 | with_reducible refine fun (bn:Bool) hbn=>?_))
      all_goals ((repeat clear hK); (repeat clear hA); (repeat clear hB))
      all_goals (refine hM.on ((refsR R[i]).length - (j+1)) (by omega) (by simp only [go_sem,↓reduceIte,reduceIte,Qa,Qh,Qb,Qc,Qd,Qe,Qf,Qg,reduceCtorEq, *,w64_nat hjl hrs,-hRm,-w0,-w1,-w3,-hMo,-hout,-f2]) ⟨j+1,rfl,by omega,f2,?_⟩; simp only [go_sem,↓reduceIte,reduceIte,Qa,Qh,Qb,Qc,Qd,Qe,Qf,Qg,reduceCtorEq, *,w64_nat hjl hrs,-hRm,-w0,-w1,-w3,-hMo,-hout,-f2]; done)
    ·rw [List.drop_eq_nil_of_le (by omega),List.any_nil] at f2
     rw [f2,Bool.false_or] at hout
     (repeat' (first
 | (with_reducible first|refine callX.by (reach06_c _ ?_ ?_) ?_|refine callX.by (refs03_c _ _ _ _ _ _ _ ?_ ?_ ?_ ?_) ?_|refine callX.by (there_c _ _ _ ?_) ?_|assumption|(refine Qw hK _ ?_; clear hK K)|refine Qw ‹_› _ ?_|refine Qx ‹_› ?_|refine Qi fun K hK=>?_|refine Qj T fun K hK=>?_|refine Ql fun A B hA hB=>?_|refine Qm ?_|refine Qn ?_|refine Qp ?_|refine Qr ?_)
 | ((with_reducible first|apply Qy|apply Qz|apply QA)<;>intro hb<;>try simp only [nr] at hb)
 | simp only [go_sem,↓reduceIte,reduceIte,Qa,Qh,Qb,Qc,Qd,Qe,Qf,Qg,reduceCtorEq, *,-hRm,-w0,-w1,-hMo,-hout,-f2]
 | with_reducible refine fun (bn:Bool) hbn=>?_))
     all_goals ((repeat clear hK); (repeat clear hA); (repeat clear hB))
     all_goals (clear hM; have hM:=hMo; (refine hM.on (R.length - (i+1)) (by omega) (by simp only [go_sem,↓reduceIte,reduceIte,Qa,Qh,Qb,Qc,Qd,Qe,Qf,Qg,reduceCtorEq, *,w64_nat hlt hRs,-hRm,-w0,-w1,-hMo,-hout,-f2]) ⟨i+1,rfl,by omega,hout,?_⟩; simp only [go_sem,↓reduceIte,reduceIte,Qa,Qh,Qb,Qc,Qd,Qe,Qf,Qg,reduceCtorEq, *,w64_nat hlt hRs,-hRm,-w0,-w1,-hMo,-hout,-f2]; done))
  ·rw [List.drop_eq_nil_of_le (by omega),List.any_nil] at f2
   have e2:(if R.any (lacks06 xs)=true then (6:Int) else if R.any bare=true then 7 else 0)=if R.any bare=true then 7 else 0:=by
    rw [if_neg (by rw [f2]; simp)]
   clear hM hm hMo hmo f2
   (repeat' (first
 | (with_reducible first|refine callX.by (reach06_c _ ?_ ?_) ?_|refine callX.by (refs03_c _ _ _ _ _ _ _ ?_ ?_ ?_ ?_) ?_|refine callX.by (there_c _ _ _ ?_) ?_|assumption|(refine Qw hK _ ?_; clear hK K)|refine Qw ‹_› _ ?_|refine Qx ‹_› ?_|refine Qi fun K hK=>?_|refine Qj T fun K hK=>?_|refine Ql fun A B hA hB=>?_|refine Qm ?_|refine Qn ?_|refine Qp ?_|refine Qr ?_)
 | ((with_reducible first|apply Qy|apply Qz|apply QA)<;>intro hb<;>try simp only [nr] at hb)
 | simp only [go_sem,↓reduceIte,reduceIte,Qa,Qh,Qb,Qc,Qd,Qe,Qf,Qg,reduceCtorEq, *,-hRm,-w0,-e2]
 | with_reducible refine fun (bn:Bool) hbn=>?_))
   refine Qs [3] (fun m ts'=>∃ (p:Nat),m=R.length - p∧p≤R.length∧R.any bare=(R.drop p).any bare∧ts'.tmp 7=.int .i64 p) R.length ?_ ?_
   ·refine ⟨0,rfl,Nat.zero_le _,rfl,?_⟩
    simp only [go_sem,↓reduceIte,reduceIte,Qa,Qh,Qb,Qc,Qd,Qe,Qf,Qg,reduceCtorEq, *,-hRm,-w0,-e2]
   ·rintro m A hM ts' hk ⟨p,hm,f1,f2,s1⟩
    simp only [go_sem,↓reduceIte,reduceIte,Qa,Qh,Qb,Qc,Qd,Qe,Qf,Qg,reduceCtorEq, *] at hk
    by_cases hlt2:p < R.length
    ·rw [List.drop_eq_getElem_cons hlt2,List.any_cons] at f2
     by_cases hb:R[p].kind=3∧R[p].hosts.length=0
     ·obtain ⟨b1,b2⟩:=hb
      have e:(if R.any (lacks06 xs)=true then (6:Int) else if R.any bare=true then 7 else 0)=7:=by
       rw [e2,if_pos]
       rw [f2]; simp [bare,b1,b2]
      have b2':(R[p].hosts.length:Int)=0:=by omega
      rw [e]
      (repeat' (first
 | (with_reducible first|refine callX.by (reach06_c _ ?_ ?_) ?_|refine callX.by (refs03_c _ _ _ _ _ _ _ ?_ ?_ ?_ ?_) ?_|refine callX.by (there_c _ _ _ ?_) ?_|assumption|(refine Qw hK _ ?_; clear hK K)|refine Qw ‹_› _ ?_|refine Qx ‹_› ?_|refine Qi fun K hK=>?_|refine Qj T fun K hK=>?_|refine Ql fun A B hA hB=>?_|refine Qm ?_|refine Qn ?_|refine Qp ?_|refine Qr ?_)
 | ((with_reducible first|apply Qy|apply Qz|apply QA)<;>intro hb<;>try simp only [nr] at hb)
 | simp only [go_sem,↓reduceIte,reduceIte,Qa,Qh,Qb,Qc,Qd,Qe,Qf,Qg,reduceCtorEq, *,-hRm,-w0,-e2,-f2]
 | with_reducible refine fun (bn:Bool) hbn=>?_))
      all_goals (first|rfl|exact e.symm|trace_state)
     ·have hbf:bare R[p]=false:=by
       unfold bare
       by_cases h1:R[p].kind=3
       ·have:¬ R[p].hosts.length=0:=fun h=>hb ⟨h1,h⟩
        simp only [h1,this,decide_true,decide_false,Bool.true_and]
       ·simp only [h1,decide_false,Bool.false_and]
      rw [hbf,Bool.false_or] at f2
      (repeat' (first
 | (with_reducible first|refine callX.by (reach06_c _ ?_ ?_) ?_|refine callX.by (refs03_c _ _ _ _ _ _ _ ?_ ?_ ?_ ?_) ?_|refine callX.by (there_c _ _ _ ?_) ?_|assumption|(refine Qw hK _ ?_; clear hK K)|refine Qw ‹_› _ ?_|refine Qx ‹_› ?_|refine Qi fun K hK=>?_|refine Qj T fun K hK=>?_|refine Ql fun A B hA hB=>?_|refine Qm ?_|refine Qn ?_|refine Qp ?_|refine Qr ?_)
 | ((with_reducible first|apply Qy|apply Qz|apply QA)<;>intro hb<;>try simp only [nr] at hb)
 | simp only [go_sem,↓reduceIte,reduceIte,Qa,Qh,Qb,Qc,Qd,Qe,Qf,Qg,reduceCtorEq, *,-hRm,-w0,-e2,-f2,-hb,-hbf]
 | with_reducible refine fun (bn:Bool) hbn=>?_))
      all_goals ((repeat clear hK); (repeat clear hA); (repeat clear hB))
      all_goals first
       | (refine hM.on (R.length - (p+1)) (by omega) (by simp only [go_sem,↓reduceIte,reduceIte,Qa,Qh,Qb,Qc,Qd,Qe,Qf,Qg,reduceCtorEq, *,w64_nat hlt2 hRs,-hRm,-w0,-e2,-f2,-hb,-hbf]) ⟨p+1,rfl,by omega,f2,?_⟩; simp only [go_sem,↓reduceIte,reduceIte,Qa,Qh,Qb,Qc,Qd,Qe,Qf,Qg,reduceCtorEq, *,w64_nat hlt2 hRs,-hRm,-w0,-e2,-f2,-hb,-hbf]; done)
       | (exfalso; simp_all; done)
       | trace_state
    ·rw [List.drop_eq_nil_of_le (by omega),List.any_nil] at f2
     have e:(if R.any (lacks06 xs)=true then (6:Int) else if R.any bare=true then 7 else 0)=0:=by
      rw [e2,if_neg (by rw [f2]; simp)]
     rw [e]
     (repeat' (first
 | (with_reducible first|refine callX.by (reach06_c _ ?_ ?_) ?_|refine callX.by (refs03_c _ _ _ _ _ _ _ ?_ ?_ ?_ ?_) ?_|refine callX.by (there_c _ _ _ ?_) ?_|assumption|(refine Qw hK _ ?_; clear hK K)|refine Qw ‹_› _ ?_|refine Qx ‹_› ?_|refine Qi fun K hK=>?_|refine Qj T fun K hK=>?_|refine Ql fun A B hA hB=>?_|refine Qm ?_|refine Qn ?_|refine Qp ?_|refine Qr ?_)
 | ((with_reducible first|apply Qy|apply Qz|apply QA)<;>intro hb<;>try simp only [nr] at hb)
 | simp only [go_sem,↓reduceIte,reduceIte,Qa,Qh,Qb,Qc,Qd,Qe,Qf,Qg,reduceCtorEq, *,-hRm,-w0,-e2,-f2]
 | with_reducible refine fun (bn:Bool) hbn=>?_))
     all_goals (first|rfl|exact e.symm|trace_state)
theorem apply1_d (cap:Int) (l adds:List Res) (gone:List Key) (hl:l.length+adds.length≤65536) (hg:Small gone.length) (hs:∀ r∈l,SmRes r) (ha:∀ r∈adds,SmRes r) :
  Done 123 ([.ro [.int .i64 cap,.slice false (avs l)],.ro [.slice false (avs adds)],.ro [.slice false (avs gone)]].map Arg.v++[.io [.int .i64 cap,.slice false (avs l)]]) (mustE cap (patchR l adds gone))
   (fun io=>io [AV.ro [.int .i64 cap,.slice false (avs l)],.ro [.slice false (avs adds)],.ro [.slice false (avs gone)]].length=[.int .i64 cap,.slice false (avs (patchR l adds gone))]):=by
 have hlen:=patchR_len l adds gone
 have hsp:∀ r∈patchR l adds gone,SmRes r:=fun r hr=>(patchR_mem hr).elim (hs r) (ha r)
 have w0:=tpatch_c l adds gone (by unfold Small; omega) (by unfold Small; omega) hg (by unfold Small; omega)
 unfold Done
 split
 ·rename_i hm
  have w1:=must_c cap l _ (by omega) hsp (fun h=>(conf_of h).nodup) hm
  clear hsp hs ha hlen
  refine CallV.goB3 Tryz.call123 Tryz.func123 rfl Tryz.ntmps123 T (congrArg Array.toList Tryz.results123) (by decide) fun ts hn h0 h1 h2 h3 hg3 ho3=>?_
  (repeat' (first
 | (with_reducible first|refine callX.by (w0) ?_|refine callX.by (w1) ?_|assumption|(refine Qw hK _ ?_; clear hK K)|refine Qw ‹_› _ ?_|refine Qx ‹_› ?_|refine Qi fun K hK=>?_|refine Qj T fun K hK=>?_|refine Ql fun A B hA hB=>?_|refine Qn ?_|refine Qr ?_)
 | ((with_reducible first|apply Qy|apply Qz|apply QA)<;>intro hb<;>try simp only [nr] at hb)
 | simp only [go_sem,↓reduceIte,reduceIte,Qa,Qh,Qb,Qc,Qd,Qe,Qf,Qg,reduceCtorEq, *,-w0,-w1,-hm]
 | with_reducible refine fun (bn:Bool) hbn=>?_))
  all_goals trace_state
 ·rename_i hm
  have w1:=must_u cap l _ (by omega) hsp (fun h=>(conf_of h).nodup) hm
  clear hsp hs ha hlen
  refine CallUV.goB3 Tryz.call123 Tryz.func123 rfl Tryz.ntmps123 (by decide) fun ts hn h0 h1 h2 h3 hg3 ho3=>?_
  (repeat' (first
 | (with_reducible first|refine SpecC.regUW T 3 (id:=1) rfl rfl fun K hK=>?_|refine UpK.callF w1 ?_ ?_|refine callX.by (w0) ?_|assumption|(refine Qw hK _ ?_; clear hK K)|refine Qw ‹_› _ ?_|refine Qx ‹_› ?_|refine Qi fun K hK=>?_|refine Qj T fun K hK=>?_|refine Ql fun A B hA hB=>?_|refine Qn ?_|refine Qr ?_)
 | ((with_reducible first|apply Qy|apply Qz|apply QA)<;>intro hb<;>try simp only [nr] at hb)
 | simp only [go_sem,↓reduceIte,reduceIte,Qa,Qh,Qb,Qc,Qd,Qe,Qf,Qg,reduceCtorEq, *,-w0,-w1,-hm]
 | with_reducible refine fun (bn:Bool) hbn=>?_))
  all_goals trace_state
def applyC (c:Cache) (adds:List Res) (gone:List Key):Cache × Int :=
 let d:=saneOf c
 let e:=mustE d.cap (patchR d.l adds gone)
 if e=0 then (⟨d.cap,patchR d.l adds gone⟩,0) else (d,e)
theorem saneOf_len (c:Cache):(saneOf c).l.length≤c.l.length:=by unfold saneOf; split<;>simp
theorem saneOf_mem {c:Cache} {x:Res} (h:x∈(saneOf c).l):x∈c.l:=by unfold saneOf at h; split at h<;>simp_all
theorem applyC_c (c_cap:Int) (c_l:List Res) (adds:List Res) (gone:List Key) (hl:c_l.length+adds.length≤65536) (hg:Small gone.length) (hs:∀ r∈c_l,SmRes r) (ha:∀ r∈adds,SmRes r) :
  CallR Tryz.prog 59 [.agg [.int .i64 c_cap,.slice false (avs c_l)],.slice false (avs adds),.slice false (avs gone)] (.val (.tup [.agg [.int .i64 (applyC (⟨c_cap,c_l⟩:Cache) adds gone).1.cap,.slice false (avs (applyC (⟨c_cap,c_l⟩:Cache) adds gone).1.l)],.int .i64 (applyC (⟨c_cap,c_l⟩:Cache) adds gone).2])):=by
 have w0:=saneOf_c c_cap c_l (by omega) hs
 have hdl:=saneOf_len (⟨c_cap,c_l⟩:Cache)
 have hdm:∀ r∈(saneOf (⟨c_cap,c_l⟩:Cache)).l,SmRes r:=fun r hr=>hs r (saneOf_mem hr)
 unfold applyC
 generalize saneOf (⟨c_cap,c_l⟩:Cache)=d at *
 have w1:=apply1_d d.cap d.l adds gone (by simp only at hdl; omega) hg hdm ha
 clear hdl hdm hs ha hl hg
 by_cases he:mustE d.cap (patchR d.l adds gone)=0
 ·rw [he] at w1
  simp only [he,if_true]
  refine CallR.go3 (T:=T.withF [13]) Tryz.call59 Tryz.func59 rfl Tryz.ntmps59 (congrArg Array.toList Tryz.results59) (by decide) fun ts hn h0 h1 h2=>?_
  (repeat' (first
 | (with_reducible first|refine callX.by (w0) ?_|refine SpecC.ent (Ent.frzBox _ 3) (SpecC.ent (Ent.frzBox _ 4) (SpecC.ent (Ent.frzBox _ 5) (Qu (T.withF [13]) 1 (id:=3) rfl rfl fun K hK=>?_)))|refine fun (K2:TS→Prop) (hK2:NxK _ K2)=>?_|refine SpecO.caughtB rfl 8 ?_ ?_ ?_ ?_ Tryz.call123 w1 ?_|refine Qw hK2 _ ?_|refine fun (K3:TS→Prop) (hK3:NxK _ K3)=>?_|refine callX.by (saneOf_c _ _ ?_ ?_) ?_|assumption|(refine Qw hK _ ?_; clear hK K)|refine Qw ‹_› _ ?_|refine Qx ‹_› ?_|refine Qi fun K hK=>?_|refine Qj (T.withF [13]) fun K hK=>?_|refine Ql fun A B hA hB=>?_|refine Qn ?_|refine Qr ?_)
 | ((with_reducible first|apply Qy|apply Qz|apply QA)<;>intro hb<;>try simp only [nr] at hb)
 | simp only [go_sem,↓reduceIte,reduceIte,Qa,Qh,Qb,Qc,Qd,Qe,Qf,Qg,reduceCtorEq, *,-w0,-w1,-he]
 | with_reducible refine fun (bn:Bool) hbn=>?_))
  all_goals trace_state
 ·simp only [he,if_false]
  refine CallR.go3 (T:=T.withF [13]) Tryz.call59 Tryz.func59 rfl Tryz.ntmps59 (congrArg Array.toList Tryz.results59) (by decide) fun ts hn h0 h1 h2=>?_
  (repeat' (first
 | (with_reducible first|refine callX.by (w0) ?_|refine SpecC.ent (Ent.frzBox _ 3) (SpecC.ent (Ent.frzBox _ 4) (SpecC.ent (Ent.frzBox _ 5) (Qu (T.withF [13]) 1 (id:=3) rfl rfl fun K hK=>?_)))|refine fun (K2:TS→Prop) (hK2:NxK _ K2)=>?_|refine SpecO.caughtB rfl 8 ?_ ?_ ?_ ?_ Tryz.call123 w1 ?_|refine Qw hK2 _ ?_|refine fun (K3:TS→Prop) (hK3:NxK _ K3)=>?_|refine callX.by (saneOf_c _ _ ?_ ?_) ?_|assumption|(refine Qw hK _ ?_; clear hK K)|refine Qw ‹_› _ ?_|refine Qx ‹_› ?_|refine Qi fun K hK=>?_|refine Qj (T.withF [13]) fun K hK=>?_|refine Ql fun A B hA hB=>?_|refine Qn ?_|refine Qr ?_)
 | ((with_reducible first|apply Qy|apply Qz|apply QA)<;>intro hb<;>try simp only [nr] at hb)
 | simp only [go_sem,↓reduceIte,reduceIte,Qa,Qh,Qb,Qc,Qd,Qe,Qf,Qg,reduceCtorEq, *,-w0,-w1]
 | with_reducible refine fun (bn:Bool) hbn=>?_))
  all_goals trace_state
theorem saneC_conf {c:Cache} (h:saneC c=true):Conf c.l:=by
 unfold saneC at h
 simp only [Bool.and_eq_true,decide_eq_true_eq] at h
 refine conf_of ?_
 by_cases ht:tsane c.l=0
 ·exact ht
 ·have:=h.2
  unfold mustE at this
  rw [if_pos ht] at this
  exact this
theorem saneOf_nodup (c:Cache):((saneOf c).l.map keyOf).Nodup:=by
 unfold saneOf
 split
 ·rename_i h; exact (saneC_conf h).nodup
 ·simp
def shownC (c:Cache):List Res:=reachR (saneOf c).l
theorem shownC_c (c_cap:Int) (c_l:List Res) (hl:c_l.length≤65536) (hs:∀ r∈c_l,SmRes r):CallR Tryz.prog 68 [.agg [.int .i64 c_cap,.slice false (avs c_l)]] (.own 7 (avs (shownC (⟨c_cap,c_l⟩:Cache)))):=by
 have w0:=saneOf_c c_cap c_l hl hs
 have hdl:=saneOf_len (⟨c_cap,c_l⟩:Cache)
 have hdm:∀ r∈(saneOf (⟨c_cap,c_l⟩:Cache)).l,SmRes r:=fun r hr=>hs r (saneOf_mem hr)
 have hdn:=saneOf_nodup (⟨c_cap,c_l⟩:Cache)
 unfold shownC
 generalize saneOf (⟨c_cap,c_l⟩:Cache)=d at *
 have w1:=reach_c d.l (by simp only at hdl; omega) hdm hdn
 clear hdl hdm hs hl hdn
 refine CallR.go1 (T:=T) Tryz.call68 Tryz.func68 rfl Tryz.ntmps68 (congrArg Array.toList Tryz.results68) (by decide) fun ts hn h0=>?_
 (repeat' (first
 | (with_reducible first|refine callX.by (w0) ?_|refine callX.by (w1) ?_|refine callX.by (saneOf_c _ _ ?_ ?_) ?_|refine callX.by (reach_c _ ?_ ?_ ?_) ?_|refine callX.by a6rc ?_|assumption|(refine Qw hK _ ?_; clear hK K)|refine Qw ‹_› _ ?_|refine Qx ‹_› ?_|refine Qi fun K hK=>?_|refine Qj T fun K hK=>?_|refine Ql fun A B hA hB=>?_|refine Qn ?_|refine Qr ?_)
 | ((with_reducible first|apply Qy|apply Qz|apply QA)<;>intro hb<;>try simp only [nr] at hb)
 | simp only [go_sem,↓reduceIte,reduceIte,Qa,Qh,Qb,Qc,Qd,Qe,Qf,Qg,reduceCtorEq, *,-w0,-w1]
 | with_reducible refine fun (bn:Bool) hbn=>?_))
def lR:Res:=⟨0,[108],0,80,[114],[],[]⟩
theorem lRs:saneR lR=0:=by decide
theorem lRr:refsR lR=[⟨1,[114]⟩]:=refs_one lRs (.inl rfl)
theorem oneSm {r:Res} (h1:r.rules'=[]) (h2:Small r.name.length) (h3:Small r.to'.length) (h4:Small r.hosts.length):∀ x∈[r],SmRes x:=by
 intro x hx
 rw [List.mem_singleton] at hx
 subst hx
 exact ⟨h2,h3,by rw [h1]; simp [Small],by rw [h1]; simp,h4⟩
theorem lRsm:∀ x∈[lR],SmRes x:=oneSm rfl (by simp [Small,lR]) (by simp [Small,lR]) (by simp [Small,lR])
theorem nilm' (n:Int) (h:0≤n):mustE n []=0:=by
 unfold mustE
 have h1:tsane []=0:=by decide
 have h2:served []=0:=by decide
 rw [h1,h2]; simp [h]
theorem nine:saneOf ⟨9,[]⟩=⟨9,[]⟩:=by
 unfold saneOf
 rw [if_pos]
 unfold saneC
 rw [nilm' 9 (by decide)]; decide
theorem few_len16 {l:List Res} (h:fewAll l=true):l.length≤80:=by
 simp only [fewAll,Bool.and_eq_true,decide_eq_true_eq] at h
 omega
end Go.Proofs.YtmjkjmoeicnbnaaGreatDoor.Lg
namespace Go.Proofs.YtmjkjmoeicnbnaaGreatDoor.Lg
set_option maxRecDepth 100000
set_option linter.unusedVariables false
set_option linter.unusedSimpArgs false
open Go
section
variable {l:List Res} (hc:Conf l) (hv:served l=0)
include hc
include hv
end
end Go.Proofs.YtmjkjmoeicnbnaaGreatDoor.Lg
namespace Go.Proofs.YtmjkjmoeicnbnaaGreatDoor.Lg
set_option maxRecDepth 100000
set_option linter.unusedVariables false
set_option linter.unusedSimpArgs false
open Go
open Nat renaming reduceEqDiff → Qa, reduceLT → Qb, reduceLeDiff → Qc, reduceAdd → Qd, reduceMul → Qe, reduceSub → Qf, reduceBEq → Qg
open String renaming reduceEq → Qh
open SpecC renaming seqW → Qi, regW → Qj, condW → Ql, skip → Qn, ret → Qr
open NxK renaming out → Qw
open Nx renaming out → Qx
open condK renaming split → Qy
open gK renaming split_t → Qz, split_f → QA
theorem mustE_iff {cap:Int} {l:List Res}:mustE cap l=0↔tsane l=0∧(l.length:Int)≤cap∧served l=0:=by
 unfold mustE
 by_cases h1:tsane l=0
 ·by_cases h2:(l.length:Int)≤cap
  ·simp [h1,h2]
  ·simp [h1,h2]
 ·simp [h1]
theorem saneC_iff {c:Cache}:saneC c=true↔c.cap=bnd c.cap∧tsane c.l=0∧(c.l.length:Int)≤c.cap∧served c.l=0:=by
 unfold saneC
 simp only [Bool.and_eq_true,decide_eq_true_eq,mustE_iff]
theorem tsane_len {l:List Res} (h:tsane l=0):l.length≤64:=by
 unfold tsane at h
 split at h
 ·cases h
 ·omega
theorem applyC_sane {c:Cache} (h:saneC c=true) (adds:List Res) (gone:List Key) :
  applyC c adds gone=if mustE c.cap (patchR c.l adds gone)=0 then (⟨c.cap,patchR c.l adds gone⟩,0) else (c,mustE c.cap (patchR c.l adds gone)):=by
 have hof:saneOf c=c:=by unfold saneOf; rw [if_pos h]
 unfold applyC
 rw [hof]
theorem applyC_keeps {c:Cache} (h:saneC c=true) (adds:List Res) (gone:List Key):saneC (applyC c adds gone).1=true:=by
 rw [applyC_sane h]
 split
 ·rename_i hm
  rw [mustE_iff] at hm
  rw [saneC_iff] at h ⊢
  exact ⟨h.1,hm⟩
 ·exact h
theorem bnd_rng (n:Int):0≤bnd n∧bnd n≤64:=by unfold bnd; omega
theorem bnd_bnd (n:Int):bnd (bnd n)=bnd n:=by unfold bnd; omega
theorem newC_sane (n:Int):saneC ⟨bnd n,[]⟩=true:=by
 rw [saneC_iff]
 have h1:tsane []=0:=by decide
 have h2:served []=0:=by decide
 exact ⟨(bnd_bnd n).symm,h1,by simp [(bnd_rng n).1],h2⟩
def same16 (a b:Cache):Bool:=decide (a.cap=b.cap) && decide (a.l=b.l)
theorem same16_c (a_cap:Int) (a_l:List Res) (b_cap:Int) (b_l:List Res) (hl:Small a_l.length) (hs:∀ r∈a_l,SmRes r):CallR Tryz.prog 60 [.agg [.int .i64 a_cap,.slice false (avs a_l)],.agg [.int .i64 b_cap,.slice false (avs b_l)]] (.val (.bool (same16 (⟨a_cap,a_l⟩:Cache) (⟨b_cap,b_l⟩:Cache)))):=by
 have w1:=all4_c a_l b_l hl hs
 by_cases h:a_cap=b_cap
 ·refine CallR.go2 (T:=T) Tryz.call60 Tryz.func60 rfl Tryz.ntmps60 (congrArg Array.toList Tryz.results60) (by decide) fun ts hn h0 h1=>?_
  (repeat' (first
 | (with_reducible first|refine callX.by (w1) ?_|refine callX.by (all4_c _ _ ?_ ?_) ?_|assumption|(refine Qw hK _ ?_; clear hK K)|refine Qw ‹_› _ ?_|refine Qx ‹_› ?_|refine Qi fun K hK=>?_|refine Qj T fun K hK=>?_|refine Ql fun A B hA hB=>?_|refine Qn ?_|refine Qr ?_)
 | ((with_reducible first|apply Qy|apply Qz|apply QA)<;>intro hb<;>try simp only [nr] at hb)
 | simp only [go_sem,↓reduceIte,reduceIte,Qa,Qh,Qb,Qc,Qd,Qe,Qf,Qg,reduceCtorEq, *,-hs,-w1]
 | with_reducible refine fun (bn:Bool) hbn=>?_))
  all_goals simp [same16,h]
 ·refine CallR.go2 (T:=T) Tryz.call60 Tryz.func60 rfl Tryz.ntmps60 (congrArg Array.toList Tryz.results60) (by decide) fun ts hn h0 h1=>?_
  (repeat' (first
 | (with_reducible first|refine callX.by (w1) ?_|refine callX.by (all4_c _ _ ?_ ?_) ?_|assumption|(refine Qw hK _ ?_; clear hK K)|refine Qw ‹_› _ ?_|refine Qx ‹_› ?_|refine Qi fun K hK=>?_|refine Qj T fun K hK=>?_|refine Ql fun A B hA hB=>?_|refine Qn ?_|refine Qr ?_)
 | ((with_reducible first|apply Qy|apply Qz|apply QA)<;>intro hb<;>try simp only [nr] at hb)
 | simp only [go_sem,↓reduceIte,reduceIte,Qa,Qh,Qb,Qc,Qd,Qe,Qf,Qg,reduceCtorEq, *,-hs,-w1]
 | with_reducible refine fun (bn:Bool) hbn=>?_))
  all_goals simp [same16,h]
structure CInv (n:Int) (c:Cache):Prop where
 sane:saneC c=true
 cap:c.cap=bnd n
 sm:∀ r∈c.l,SmRes r
theorem applyC_len (c:Cache) (adds:List Res) (gone:List Key):(applyC c adds gone).1.l.length≤c.l.length+adds.length:=by
 have h1:=saneOf_len c
 have h2:=patchR_len (saneOf c).l adds gone
 unfold applyC
 simp only
 split
 ·simp only; omega
 ·simp only; omega
theorem applyC_mem' {c:Cache} {adds:List Res} {gone:List Key} {x:Res} (h:x∈(applyC c adds gone).1.l):x∈c.l∨x∈adds:=by
 unfold applyC at h
 simp only at h
 split at h
 ·exact (patchR_mem h).imp saneOf_mem id
 ·exact .inl (saneOf_mem h)
theorem served06_eq {l:List Res} (h:(l.map keyOf).Nodup):served06 l=served l:=by
 unfold served06 served
 rw [reach06_eq h]
 have e:lacks06 l=lacks (ofR l []):=by
  funext r
  unfold lacks06 lacks
  congr 1
  funext k
  rw [isIn_of]
  congr 1
  rw [Bool.eq_iff_iff,tget_key6,decide_eq_true_eq]
 rw [e]
theorem check16_c (cap:Int) (l:List Res) (hl:l.length≤65536) (hs:∀ r∈l,SmRes r):CallR Tryz.prog 150 [.int .i64 cap,.slice false (avs l)] (.val (.int .i64 (mustE cap l))):=by
 have w1:=sane05_c l (small_le hl) hs
 by_cases ht:tsane l=0
 ·have w2:=served06_c l hl hs
  rw [served06_eq (conf_of ht).nodup] at w2
  rw [ht] at w1
  by_cases hc:(l.length:Int)≤cap
  ·have e:mustE cap l=served l:=by unfold mustE; rw [if_neg (by simp [ht]),if_pos hc]
   have hc':¬ cap < (l.length:Int):=by omega
   rw [e]
   refine CallR.go2 (T:=T) Tryz.call150 Tryz.func150 rfl Tryz.ntmps150 (congrArg Array.toList Tryz.results150) (by decide) fun ts hn h0 h1=>?_
   (repeat' (first
 | (with_reducible first|refine callX.by (w1) ?_|refine callX.by (w2) ?_|refine callX.by (sane05_c _ ?_ ?_) ?_|refine callX.by (served06_c _ ?_ ?_) ?_|assumption|(refine Qw hK _ ?_; clear hK K)|refine Qw ‹_› _ ?_|refine Qx ‹_› ?_|refine Qi fun K hK=>?_|refine Qj T fun K hK=>?_|refine Ql fun A B hA hB=>?_|refine Qn ?_|refine Qr ?_)
 | ((with_reducible first|apply Qy|apply Qz|apply QA)<;>intro hb<;>try simp only [nr] at hb)
 | simp only [go_sem,↓reduceIte,reduceIte,Qa,Qh,Qb,Qc,Qd,Qe,Qf,Qg,reduceCtorEq, *,-hs,-w1,-w2,-ht]
 | with_reducible refine fun (bn:Bool) hbn=>?_))
  ·have e:mustE cap l=8:=by unfold mustE; rw [if_neg (by simp [ht]),if_neg hc]
   have hc':cap < (l.length:Int):=by omega
   rw [e]
   refine CallR.go2 (T:=T) Tryz.call150 Tryz.func150 rfl Tryz.ntmps150 (congrArg Array.toList Tryz.results150) (by decide) fun ts hn h0 h1=>?_
   (repeat' (first
 | (with_reducible first|refine callX.by (w1) ?_|refine callX.by (w2) ?_|refine callX.by (sane05_c _ ?_ ?_) ?_|refine callX.by (served06_c _ ?_ ?_) ?_|assumption|(refine Qw hK _ ?_; clear hK K)|refine Qw ‹_› _ ?_|refine Qx ‹_› ?_|refine Qi fun K hK=>?_|refine Qj T fun K hK=>?_|refine Ql fun A B hA hB=>?_|refine Qn ?_|refine Qr ?_)
 | ((with_reducible first|apply Qy|apply Qz|apply QA)<;>intro hb<;>try simp only [nr] at hb)
 | simp only [go_sem,↓reduceIte,reduceIte,Qa,Qh,Qb,Qc,Qd,Qe,Qf,Qg,reduceCtorEq, *,-hs,-w1,-w2,-ht]
 | with_reducible refine fun (bn:Bool) hbn=>?_))
 ·have e:mustE cap l=tsane l:=by unfold mustE; rw [if_pos ht]
  rw [e]
  refine CallR.go2 (T:=T) Tryz.call150 Tryz.func150 rfl Tryz.ntmps150 (congrArg Array.toList Tryz.results150) (by decide) fun ts hn h0 h1=>?_
  (repeat' (first
 | (with_reducible first|refine callX.by (w1) ?_|refine callX.by (sane05_c _ ?_ ?_) ?_|refine callX.by (served06_c _ ?_ ?_) ?_|assumption|(refine Qw hK _ ?_; clear hK K)|refine Qw ‹_› _ ?_|refine Qx ‹_› ?_|refine Qi fun K hK=>?_|refine Qj T fun K hK=>?_|refine Ql fun A B hA hB=>?_|refine Qn ?_|refine Qr ?_)
 | ((with_reducible first|apply Qy|apply Qz|apply QA)<;>intro hb<;>try simp only [nr] at hb)
 | simp only [go_sem,↓reduceIte,reduceIte,Qa,Qh,Qb,Qc,Qd,Qe,Qf,Qg,reduceCtorEq, *,-hs,-w1]
 | with_reducible refine fun (bn:Bool) hbn=>?_))
theorem bnd_eq (n:Int):n=bnd n↔0≤n∧n≤64:=by unfold bnd; omega
theorem sane16_c (c_cap:Int) (c_l:List Res) (hl:c_l.length≤65536) (hs:∀ r∈c_l,SmRes r):CallR Tryz.prog 108 [.agg [.int .i64 c_cap,.slice false (avs c_l)]] (.val (.bool (saneC (⟨c_cap,c_l⟩:Cache)))):=by
 have w1:=check16_c c_cap c_l hl hs
 unfold saneC
 simp only [bnd_eq]
 generalize mustE c_cap c_l=e at *
 by_cases h1:0≤c_cap
 ·by_cases h2:c_cap≤64
  ·refine CallR.go1 (T:=T) Tryz.call108 Tryz.func108 rfl Tryz.ntmps108 (congrArg Array.toList Tryz.results108) (by decide) fun ts hn h0=>?_
   (repeat' (first
 | (with_reducible first|refine callX.by (w1) ?_|refine callX.by (check16_c _ _ ?_ ?_) ?_|assumption|(refine Qw hK _ ?_; clear hK K)|refine Qw ‹_› _ ?_|refine Qx ‹_› ?_|refine Qi fun K hK=>?_|refine Qj T fun K hK=>?_|refine Ql fun A B hA hB=>?_|refine Qn ?_|refine Qr ?_)
 | ((with_reducible first|apply Qy|apply Qz|apply QA)<;>intro hb<;>try simp only [nr] at hb)
 | simp only [go_sem,↓reduceIte,reduceIte,Qa,Qh,Qb,Qc,Qd,Qe,Qf,Qg,reduceCtorEq, *,-hs,-w1]
 | with_reducible refine fun (bn:Bool) hbn=>?_))
   all_goals simp [h1,h2]
  ·refine CallR.go1 (T:=T) Tryz.call108 Tryz.func108 rfl Tryz.ntmps108 (congrArg Array.toList Tryz.results108) (by decide) fun ts hn h0=>?_
   (repeat' (first
 | (with_reducible first|refine callX.by (w1) ?_|refine callX.by (check16_c _ _ ?_ ?_) ?_|assumption|(refine Qw hK _ ?_; clear hK K)|refine Qw ‹_› _ ?_|refine Qx ‹_› ?_|refine Qi fun K hK=>?_|refine Qj T fun K hK=>?_|refine Ql fun A B hA hB=>?_|refine Qn ?_|refine Qr ?_)
 | ((with_reducible first|apply Qy|apply Qz|apply QA)<;>intro hb<;>try simp only [nr] at hb)
 | simp only [go_sem,↓reduceIte,reduceIte,Qa,Qh,Qb,Qc,Qd,Qe,Qf,Qg,reduceCtorEq, *,-hs,-w1]
 | with_reducible refine fun (bn:Bool) hbn=>?_))
   all_goals simp [h1,h2]
 ·refine CallR.go1 (T:=T) Tryz.call108 Tryz.func108 rfl Tryz.ntmps108 (congrArg Array.toList Tryz.results108) (by decide) fun ts hn h0=>?_
  (repeat' (first
 | (with_reducible first|refine callX.by (w1) ?_|refine callX.by (check16_c _ _ ?_ ?_) ?_|assumption|(refine Qw hK _ ?_; clear hK K)|refine Qw ‹_› _ ?_|refine Qx ‹_› ?_|refine Qi fun K hK=>?_|refine Qj T fun K hK=>?_|refine Ql fun A B hA hB=>?_|refine Qn ?_|refine Qr ?_)
 | ((with_reducible first|apply Qy|apply Qz|apply QA)<;>intro hb<;>try simp only [nr] at hb)
 | simp only [go_sem,↓reduceIte,reduceIte,Qa,Qh,Qb,Qc,Qd,Qe,Qf,Qg,reduceCtorEq, *,-hs,-w1]
 | with_reducible refine fun (bn:Bool) hbn=>?_))
  all_goals simp [h1]
theorem new16_c (n:Int):CallR Tryz.prog 110 [.int .i64 n] (.val (.agg [.int .i64 (bnd n),.slice false []])):=by
 refine CallR.go1 (T:=T) Tryz.call110 Tryz.func110 rfl Tryz.ntmps110 (congrArg Array.toList Tryz.results110) (by decide) fun ts hn h0=>?_
 (repeat' (first
 | (with_reducible first|assumption|(refine Qw hK _ ?_; clear hK K)|refine Qw ‹_› _ ?_|refine Qx ‹_› ?_|refine Qi fun K hK=>?_|refine Qj T fun K hK=>?_|refine Ql fun A B hA hB=>?_|refine Qn ?_|refine Qr ?_)
 | ((with_reducible first|apply Qy|apply Qz|apply QA)<;>intro hb<;>try simp only [nr] at hb)
 | simp only [go_sem,↓reduceIte,reduceIte,Qa,Qh,Qb,Qc,Qd,Qe,Qf,Qg,reduceCtorEq, *]
 | with_reducible refine fun (bn:Bool) hbn=>?_))
 all_goals rfl
def takeC (d:Cache) (adds:List Res) (gone:List Key):Cache × Int :=
 if mustE d.cap (patchR d.l adds gone)=0 then (⟨d.cap,patchR d.l adds gone⟩,0) else (d,mustE d.cap (patchR d.l adds gone))
theorem takeC_apply (c:Cache) (adds:List Res) (gone:List Key):takeC (saneOf c) adds gone=applyC c adds gone:=rfl
theorem take16_c (c_cap:Int) (c_l:List Res) (adds:List Res) (gone:List Key) (hl:c_l.length+adds.length≤65536) (hg:Small gone.length) (hs:∀ r∈c_l,SmRes r) (ha:∀ r∈adds,SmRes r) :
  CallR Tryz.prog 149 [.agg [.int .i64 c_cap,.slice false (avs c_l)],.slice false (avs adds),.slice false (avs gone)] (.val (.tup [.agg [.int .i64 (takeC (⟨c_cap,c_l⟩:Cache) adds gone).1.cap,.slice false (avs (takeC (⟨c_cap,c_l⟩:Cache) adds gone).1.l)],.int .i64 (takeC (⟨c_cap,c_l⟩:Cache) adds gone).2])):=by
 have hlen:=patchR_len c_l adds gone
 have hsp:∀ r∈patchR c_l adds gone,SmRes r:=fun r hr=>(patchR_mem hr).elim (hs r) (ha r)
 have w0:=patch05_c c_l adds gone (by unfold Small; omega) (by unfold Small; omega) hg (by unfold Small; omega) hs ha
 have w1:=check16_c c_cap (patchR c_l adds gone) (by omega) hsp
 unfold takeC
 simp only
 generalize patchR c_l adds gone=p at *
 generalize mustE c_cap p=e at *
 clear hsp hs ha hlen hl hg
 by_cases he:e=0
 ·subst he
  rw [if_pos rfl]
  refine CallR.go3 (T:=T) Tryz.call149 Tryz.func149 rfl Tryz.ntmps149 (congrArg Array.toList Tryz.results149) (by decide) fun ts hn h0 h1 h2=>?_
  (repeat' (first
 | (with_reducible first|refine callX.by (w0) ?_|refine callX.by (w1) ?_|refine callX.by (check16_c _ _ ?_ ?_) ?_|assumption|(refine Qw hK _ ?_; clear hK K)|refine Qw ‹_› _ ?_|refine Qx ‹_› ?_|refine Qi fun K hK=>?_|refine Qj T fun K hK=>?_|refine Ql fun A B hA hB=>?_|refine Qn ?_|refine Qr ?_)
 | ((with_reducible first|apply Qy|apply Qz|apply QA)<;>intro hb<;>try simp only [nr] at hb)
 | simp only [go_sem,↓reduceIte,reduceIte,Qa,Qh,Qb,Qc,Qd,Qe,Qf,Qg,reduceCtorEq, *,-w0,-w1]
 | with_reducible refine fun (bn:Bool) hbn=>?_))
 ·rw [if_neg he]
  refine CallR.go3 (T:=T) Tryz.call149 Tryz.func149 rfl Tryz.ntmps149 (congrArg Array.toList Tryz.results149) (by decide) fun ts hn h0 h1 h2=>?_
  (repeat' (first
 | (with_reducible first|refine callX.by (w0) ?_|refine callX.by (w1) ?_|refine callX.by (check16_c _ _ ?_ ?_) ?_|assumption|(refine Qw hK _ ?_; clear hK K)|refine Qw ‹_› _ ?_|refine Qx ‹_› ?_|refine Qi fun K hK=>?_|refine Qj T fun K hK=>?_|refine Ql fun A B hA hB=>?_|refine Qn ?_|refine Qr ?_)
 | ((with_reducible first|apply Qy|apply Qz|apply QA)<;>intro hb<;>try simp only [nr] at hb)
 | simp only [go_sem,↓reduceIte,reduceIte,Qa,Qh,Qb,Qc,Qd,Qe,Qf,Qg,reduceCtorEq, *,-w0,-w1]
 | with_reducible refine fun (bn:Bool) hbn=>?_))
end Go.Proofs.YtmjkjmoeicnbnaaGreatDoor.Lg
