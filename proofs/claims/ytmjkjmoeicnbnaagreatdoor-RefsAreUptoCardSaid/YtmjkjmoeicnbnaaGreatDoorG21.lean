/- Parts of the proof, one behind the other. -/
import Derived.Test.YtmjkjmoeicnbnaaGreatDoorG20
namespace Go.Proofs.YtmjkjmoeicnbnaaGreatDoor.Lg
set_option maxRecDepth 100000
set_option linter.unusedVariables false
set_option linter.unusedSimpArgs false
open Go
open Nat renaming reduceEqDiff → Qa, reduceLT → Qb, reduceLeDiff → Qc, reduceAdd → Qd, reduceMul → Qe, reduceSub → Qf, reduceBEq → Qg
open String renaming reduceEq → Qh
open SpecC renaming seqW → Qi, regW → Qj, drawW → Qk, condW → Ql, block → Qm, skip → Qn, exit → Qp, ret → Qr, loopF → Qs
open NxK renaming out → Qw
open Nx renaming out → Qx
open condK renaming split → Qy
open gK renaming split_t → Qz, split_f → QA
open List renaming getElem_mem → QC
def foldW (l:List Weight) (ys:List Key):List Key:=(keysW l).foldl kput ys
def foldR (l:List Rule) (ys:List Key):List Key:=(keysR l).foldl kput ys
theorem foldW_cons (y:Weight) (l:List Weight) (ys:List Key):foldW (y :: l) ys=foldW l (if 0 < y.w then kput ys ⟨2,y.cluster⟩ else ys):=by
 unfold foldW keysW
 rw [List.filter_cons]
 by_cases h:0 < y.w
 ·rw [if_pos h,if_pos (by simpa using h)]; rfl
 ·rw [if_neg h,if_neg (by simpa using h)]
theorem foldR_cons (z:Rule) (l:List Rule) (ys:List Key):foldR (z :: l) ys=foldR l (foldW z.split ys):=by
 unfold foldR foldW keysR
 rw [List.flatMap_cons,List.foldl_append]
theorem refs03_eq {r:Res} (h:saneR r=0):foldR r.rules' (baseR r)=refsR r:=by
 obtain ⟨u1,u2⟩:=refs_up h
 have hb:Up (baseR r):=by unfold baseR Up; split<;>simp
 obtain ⟨v1,v2⟩:=fold_put (keysR r.rules') hb
 exact up_ext v1 u1 fun x=>by rw [u2,List.mem_append]; exact v2 x
theorem kWs_len (l:List Weight):(keysW l).length≤l.length:=by unfold keysW; rw [List.length_map]; exact List.length_filter_le _ _
theorem kRs_len:∀ (l:List Rule),(∀ x∈l,x.split.length≤4)→(keysR l).length≤4 * l.length
 | [],_=>by simp [keysR]
 | x :: l,h=>by
  rw [keysR_cons,List.length_append,List.length_cons]
  have h1:=kWs_len x.split
  have h2:=h x (by simp)
  have h3:=kRs_len l fun y hy=>h y (by simp [hy])
  omega
set_option maxHeartbeats 8000000 in
theorem refs03_c (r_kind:Int) (r_name:List UInt8) (r_ver:Int) (r_port:Int) (r_to:List UInt8) (r_rules:List Rule) (r_hosts:List Int) (hl:Small r_rules.length) (hh:Small r_hosts.length) (hs:∀ x∈r_rules,SmRule x) (hto:Small r_to.length):CallR Tryz.prog 75 [.agg [.int .i64 r_kind,.str r_name,.int .i64 r_ver,.int .i64 r_port,.str r_to,.slice false (avs r_rules),.slice false (avs r_hosts)]] (.val (.slice false (avs (refsR (⟨r_kind,r_name,r_ver,r_port,r_to,r_rules,r_hosts⟩:Res))))):=by
 have hsc:=sane03_c r_kind r_name r_ver r_port r_to r_rules r_hosts hl hh hs
 by_cases hsn:saneR (⟨r_kind,r_name,r_ver,r_port,r_to,r_rules,r_hosts⟩:Res)=0
 rotate_left
 ·rw [refs_not hsn]
  refine CallR.go1 (T:=T) Tryz.call75 Tryz.func75 rfl Tryz.ntmps75 (congrArg Array.toList Tryz.results75) (by decide) fun ts hn h0=>?_
  (repeat' (first
 | (with_reducible first|refine callX.by (hsc) ?_|refine callX.by (sane03_c _ _ _ _ _ _ _ ?_ ?_ ?_) ?_|refine callX.by (kput_c _ _ _ ?_ ?_ ?_) ?_|assumption|(refine Qw hK _ ?_; clear hK K)|refine Qw ‹_› _ ?_|refine Qx ‹_› ?_|refine Qi fun K hK=>?_|refine Qj T fun K hK=>?_|refine Ql fun A B hA hB=>?_|refine Qm ?_|refine Qn ?_|refine Qp ?_|refine Qr ?_)
 | ((with_reducible first|apply Qy|apply Qz|apply QA)<;>intro hb<;>try simp only [nr] at hb)
 | simp only [go_sem,↓reduceIte,reduceIte,Qa,Qh,Qb,Qc,Qd,Qe,Qf,Qg,reduceCtorEq, *,-hs,-hsc,avs_nil]
 | with_reducible refine fun (bn:Bool) hbn=>?_))
 rw [hsn] at hsc
 have e:=refs03_eq hsn
 rw [← e]
 clear e
 have hsm:=sane_small hsn
 have hw4:∀ x∈r_rules,x.split.length≤4:=fun x hx=>(small_rule hsm hx).1
 have hkl:=kRs_len r_rules hw4
 have hl8:r_rules.length≤8:=by
  simp only [smallR,Bool.and_eq_true,decide_eq_true_eq] at hsm
  exact hsm.2.2.1
 have hk4:=sane_kind hsn
 have hne:=kinds_ne hsn
 have hwk:=wrapK hsn
 simp only at hk4 hne hwk hkl
 have hsp:∀ x∈r_rules,Small x.split.length:=fun x hx=>by have:=hw4 x hx; unfold Small; omega
 have hcl:∀ x∈r_rules,∀ y∈x.split,Small y.cluster.length:=fun x hx y hy=>(hs x hx).2.2.2 y hy
 have t0:(0:Int).tmod 2=0:=by decide
 have t1:¬ (1:Int).tmod 2=0:=by decide
 have t2:(2:Int).tmod 2=0:=by decide
 have t3:¬ (3:Int).tmod 2=0:=by decide
 have hbs:baseR ⟨r_kind,r_name,r_ver,r_port,r_to,r_rules,r_hosts⟩=if r_kind.tmod 2=0 then [⟨r_kind+1,r_to⟩] else []:=by
  unfold baseR
  rcases hk4 with rfl|rfl|rfl|rfl
  ·rw [if_neg (hne.2 (.inl rfl)),if_pos t0]; rfl
  ·rw [if_pos (Classical.byContradiction fun h=>by have:=hne.1 h; omega),if_neg t1]
  ·rw [if_neg (hne.2 (.inr rfl)),if_pos t2]; rfl
  ·rw [if_pos (Classical.byContradiction fun h=>by have:=hne.1 h; omega),if_neg t3]
 have hkk:(r_kind.tmod 2=0)∨¬ (r_kind.tmod 2=0):=Classical.em _
 rw [hbs]
 clear hsn hsm hk4 hne t0 t1 t2 t3 hbs hw4
 have hro:Room 1 24:=room_big (by omega) (by decide)
 have hys0:∀ ys0:List Key,(ys0=[]∨ys0=[⟨r_kind+1,r_to⟩])→ys0.length≤1∧∀ x∈ys0,Small x.name.length:=by
  rintro ys0 (rfl|rfl)
  ·simp
  ·refine ⟨by simp,fun x hx=>?_⟩
   rw [List.mem_singleton] at hx
   subst hx; exact hto
 rcases hkk with hk|hk
 ·rw [if_pos hk]
  obtain ⟨hy1,hy2⟩:=hys0 [⟨r_kind+1,r_to⟩] (.inr rfl)
  clear hys0
  refine CallR.go1 (T:=T) Tryz.call75 Tryz.func75 rfl Tryz.ntmps75 (congrArg Array.toList Tryz.results75) (by decide) fun ts hn h0=>?_
  (repeat' (first
 | (with_reducible first|refine callX.by (hsc) ?_|refine callX.by (sane03_c _ _ _ _ _ _ _ ?_ ?_ ?_) ?_|refine callX.by (kput_c _ _ _ ?_ ?_ ?_) ?_|assumption|(refine Qw hK _ ?_; clear hK K)|refine Qw ‹_› _ ?_|refine Qx ‹_› ?_|refine Qi fun K hK=>?_|refine Qj T fun K hK=>?_|refine Ql fun A B hA hB=>?_|refine Qm ?_|refine Qn ?_|refine Qp ?_|refine Qr ?_)
 | ((with_reducible first|apply Qy|apply Qz|apply QA)<;>intro hb<;>try simp only [nr] at hb)
 | simp only [go_sem,↓reduceIte,reduceIte,Qa,Qh,Qb,Qc,Qd,Qe,Qf,Qg,reduceCtorEq, *,-hs,-hsc,-hsp,-hcl,-hy1,-hy2,Int.reduceEq]
 | with_reducible refine fun (bn:Bool) hbn=>?_))
  refine SpecC.ent (Ent.ren 3 21 (by simp only [go_sem,↓reduceIte,reduceIte,Qa,Qh,Qb,Qc,Qd,Qe,Qf,Qg,reduceCtorEq, *,-hs,-hsc,-hsp,-hcl,-hy1,-hy2]; done) (by simp only [go_sem,↓reduceIte,reduceIte,Qa,Qh,Qb,Qc,Qd,Qe,Qf,Qg,reduceCtorEq, *,-hs,-hsc,-hsp,-hcl,-hy1,-hy2]; done)) ?_
  clear hk hwk hsc hro
  generalize hY:[(⟨r_kind+1,r_to⟩:Key)]=ys0 at *
  have hYl:ys0.length=1:=by rw [← hY]; rfl
  have hYa:avs ys0=[AV.agg [.int .i64 (r_kind+1),.str r_to]]:=by rw [← hY]; rfl
  refine Qs [1] (fun m ts'=>∃ (i:Nat),∃ (g:Nat),∃ (ys:List Key),m=r_rules.length - i∧i≤r_rules.length∧foldR r_rules ys0=foldR (r_rules.drop i) ys∧ys.length+(keysR (r_rules.drop i)).length≤(keysR r_rules).length+1∧(∀ x∈ys,Small x.name.length)∧ts'.tmp 3=.os 3 g ys.length∧ts'.gen 3=g∧ts'.obj 3=.arr 2 (avs ys)∧ts'.tmp 4=.int .i64 i) r_rules.length ?_ ?_
  ·refine ⟨0,ts.gen 3+1,ys0,rfl,Nat.zero_le _,rfl,by simp; omega,hy2,?_⟩
   simp only [go_sem,↓reduceIte,reduceIte,Qa,Qh,Qb,Qc,Qd,Qe,Qf,Qg,reduceCtorEq, *,-hs,-hsp,-hcl,-hy2,-hY]
  ·clear hY hYl hYa
   rintro m A hM ts' hk ⟨i,g,ys,hm,f1,f2,f3,f4,s1,s2,s3,s4⟩
   simp only [go_sem,↓reduceIte,reduceIte,Qa,Qh,Qb,Qc,Qd,Qe,Qf,Qg,reduceCtorEq, *] at hk
   by_cases hlt:i < r_rules.length
   ·rw [List.drop_eq_getElem_cons hlt,foldR_cons] at f2
    rw [List.drop_eq_getElem_cons hlt,keysR_cons,List.length_append] at f3
    have hspi:=hsp _ (QC hlt)
    have hcli:=hcl _ (QC hlt)
    (repeat' (first
 | (with_reducible first|refine callX.by (sane03_c _ _ _ _ _ _ _ ?_ ?_ ?_) ?_|refine callX.by (kput_c _ _ _ ?_ ?_ ?_) ?_|assumption|(refine Qw hK _ ?_; clear hK K)|refine Qw ‹_› _ ?_|refine Qx ‹_› ?_|refine Qi fun K hK=>?_|refine Qj T fun K hK=>?_|refine Ql fun A B hA hB=>?_|refine Qm ?_|refine Qn ?_|refine Qp ?_|refine Qr ?_)
 | ((with_reducible first|apply Qy|apply Qz|apply QA)<;>intro hb<;>try simp only [nr] at hb)
 | simp only [go_sem,↓reduceIte,reduceIte,Qa,Qh,Qb,Qc,Qd,Qe,Qf,Qg,reduceCtorEq, *,-hs,-hsp,-hcl,-hy2,-f2,-f3,-f4,-hcli]
 | with_reducible refine fun (bn:Bool) hbn=>?_))
    refine Qs [1,4] (fun m ts'=>∃ (j:Nat),∃ (g:Nat),∃ (ys:List Key),m=r_rules[i].split.length - j∧j≤r_rules[i].split.length∧foldR r_rules ys0=foldR (r_rules.drop (i+1)) (foldW (r_rules[i].split.drop j) ys)∧ys.length+((keysW (r_rules[i].split.drop j)).length+(keysR (r_rules.drop (i+1))).length)≤(keysR r_rules).length+1∧(∀ x∈ys,Small x.name.length)∧ts'.tmp 3=.os 3 g ys.length∧ts'.gen 3=g∧ts'.obj 3=.arr 2 (avs ys)∧ts'.tmp 5=.int .i64 j) r_rules[i].split.length ?_ ?_
    ·refine ⟨0,g,ys,rfl,Nat.zero_le _,f2,f3,f4,?_⟩
     simp only [go_sem,↓reduceIte,reduceIte,Qa,Qh,Qb,Qc,Qd,Qe,Qf,Qg,reduceCtorEq, *,-hs,-hsp,-hcl,-hy2,-f2,-f3,-f4,-hcli]
    ·clear f2 f3 f4
     revert hM
     intro hM0
     rintro m A hM ts' hk ⟨j,g,ys,hm,f1,f2,f3,f4,s1,s2,s3,s4⟩
     simp only [go_sem,↓reduceIte,reduceIte,Qa,Qh,Qb,Qc,Qd,Qe,Qf,Qg,reduceCtorEq, *] at hk
     have hly:Small ys.length:=by unfold Small; omega
     by_cases hjt:j < r_rules[i].split.length
     ·have hn1:=hcli _ (QC hjt)
      rw [List.drop_eq_getElem_cons hjt,foldW_cons] at f2
      rw [List.drop_eq_getElem_cons hjt,keysW_cons,List.length_append] at f3
      by_cases hp:0 < r_rules[i].split[j].w
      ·rw [if_pos hp] at f2 f3
       (repeat' (first
 | (with_reducible first|refine callX.by (sane03_c _ _ _ _ _ _ _ ?_ ?_ ?_) ?_|refine callX.by (kput_c _ _ _ ?_ ?_ ?_) ?_|assumption|(refine Qw hK _ ?_; clear hK K)|refine Qw ‹_› _ ?_|refine Qx ‹_› ?_|refine Qi fun K hK=>?_|refine Qj T fun K hK=>?_|refine Ql fun A B hA hB=>?_|refine Qm ?_|refine Qn ?_|refine Qp ?_|refine Qr ?_)
 | ((with_reducible first|apply Qy|apply Qz|apply QA)<;>intro hb<;>try simp only [nr] at hb)
 | simp only [go_sem,↓reduceIte,reduceIte,Qa,Qh,Qb,Qc,Qd,Qe,Qf,Qg,reduceCtorEq, *,-hs,-hsp,-hcl,-hy2,-f2,-f3,-hcli]
 | with_reducible refine fun (bn:Bool) hbn=>?_))
       all_goals ((repeat clear hK); (repeat clear hA); (repeat clear hB))
       have hkl2:=kput_length ys ⟨2,r_rules[i].split[j].cluster⟩
       (refine hM.onE (r_rules[i].split.length - (j+1)) (Ent.ren 3 63 ?_ ?_) ?_ ?_ ?_; (focus (simp only [go_sem,↓reduceIte,reduceIte,Qa,Qh,Qb,Qc,Qd,Qe,Qf,Qg,reduceCtorEq, *,w64_nat hjt hspi,-hs,-hsp,-hcl,-hy2,-f2,-f3,-hkl2,-hcli]; first|done|rfl)); (focus (simp only [go_sem,↓reduceIte,reduceIte,Qa,Qh,Qb,Qc,Qd,Qe,Qf,Qg,reduceCtorEq, *,w64_nat hjt hspi,-hs,-hsp,-hcl,-hy2,-f2,-f3,-hkl2,-hcli]; first|done|rfl)); omega; (focus (simp only [go_sem,↓reduceIte,reduceIte,Qa,Qh,Qb,Qc,Qd,Qe,Qf,Qg,reduceCtorEq, *,w64_nat hjt hspi,-hs,-hsp,-hcl,-hy2,-f2,-f3,-hkl2,-hcli]; done)); refine ⟨j+1,g+1,kput ys ⟨2,r_rules[i].split[j].cluster⟩,rfl,by omega,f2,by simp only [List.length_singleton] at f3; omega,fun x hx=>(kput_mem hx).elim (fun e=>by rw [e]; exact hn1) (f4 x),?_⟩; simp only [go_sem,↓reduceIte,reduceIte,Qa,Qh,Qb,Qc,Qd,Qe,Qf,Qg,reduceCtorEq, *,w64_nat hjt hspi,-hs,-hsp,-hcl,-hy2,-f2,-f3,-hkl2,-hcli]; done)
      ·rw [if_neg hp] at f2 f3
       (repeat' (first
 | (with_reducible first|refine callX.by (sane03_c _ _ _ _ _ _ _ ?_ ?_ ?_) ?_|refine callX.by (kput_c _ _ _ ?_ ?_ ?_) ?_|assumption|(refine Qw hK _ ?_; clear hK K)|refine Qw ‹_› _ ?_|refine Qx ‹_› ?_|refine Qi fun K hK=>?_|refine Qj T fun K hK=>?_|refine Ql fun A B hA hB=>?_|refine Qm ?_|refine Qn ?_|refine Qp ?_|refine Qr ?_)
 | ((with_reducible first|apply Qy|apply Qz|apply QA)<;>intro hb<;>try simp only [nr] at hb)
 | simp only [go_sem,↓reduceIte,reduceIte,Qa,Qh,Qb,Qc,Qd,Qe,Qf,Qg,reduceCtorEq, *,-hs,-hsp,-hcl,-hy2,-f2,-f3,-hcli]
 | with_reducible refine fun (bn:Bool) hbn=>?_))
       all_goals ((repeat clear hK); (repeat clear hA); (repeat clear hB))
       (refine hM.on (r_rules[i].split.length - (j+1)) (by omega) (by simp only [go_sem,↓reduceIte,reduceIte,Qa,Qh,Qb,Qc,Qd,Qe,Qf,Qg,reduceCtorEq, *,w64_nat hjt hspi,-hs,-hsp,-hcl,-hy2,-f2,-f3,-hcli]) ⟨j+1,g,ys,rfl,by omega,f2,by simp only [List.length_nil] at f3; omega,f4,?_⟩; simp only [go_sem,↓reduceIte,reduceIte,Qa,Qh,Qb,Qc,Qd,Qe,Qf,Qg,reduceCtorEq, *,w64_nat hjt hspi,-hs,-hsp,-hcl,-hy2,-f2,-f3,-hcli]; done)
     ·rw [List.drop_eq_nil_of_le (show r_rules[i].split.length≤j by omega)] at f2
      rw [show foldW [] ys=ys from rfl] at f2
      (repeat' (first
 | (with_reducible first|refine callX.by (sane03_c _ _ _ _ _ _ _ ?_ ?_ ?_) ?_|refine callX.by (kput_c _ _ _ ?_ ?_ ?_) ?_|assumption|(refine Qw hK _ ?_; clear hK K)|refine Qw ‹_› _ ?_|refine Qx ‹_› ?_|refine Qi fun K hK=>?_|refine Qj T fun K hK=>?_|refine Ql fun A B hA hB=>?_|refine Qm ?_|refine Qn ?_|refine Qp ?_|refine Qr ?_)
 | ((with_reducible first|apply Qy|apply Qz|apply QA)<;>intro hb<;>try simp only [nr] at hb)
 | simp only [go_sem,↓reduceIte,reduceIte,Qa,Qh,Qb,Qc,Qd,Qe,Qf,Qg,reduceCtorEq, *,-hs,-hsp,-hcl,-hy2,-f2,-f3,-hcli]
 | with_reducible refine fun (bn:Bool) hbn=>?_))
      all_goals ((repeat clear hK); (repeat clear hA); (repeat clear hB))
      all_goals (clear hM; revert hM0; intro hM)
      (refine hM.on (r_rules.length - (i+1)) (by omega) (by simp only [go_sem,↓reduceIte,reduceIte,Qa,Qh,Qb,Qc,Qd,Qe,Qf,Qg,reduceCtorEq, *,w64_nat hlt hl,-hs,-hsp,-hcl,-hy2,-f2,-f3,-hcli]) ⟨i+1,ts'.gen 3,ys,rfl,by omega,f2,by omega,f4,?_⟩; simp only [go_sem,↓reduceIte,reduceIte,Qa,Qh,Qb,Qc,Qd,Qe,Qf,Qg,reduceCtorEq, *,w64_nat hlt hl,-hs,-hsp,-hcl,-hy2,-f2,-f3,-hcli]; done)
   ·rw [List.drop_eq_nil_of_le (by omega)] at f2
    rw [show foldR [] ys=ys from rfl] at f2
    (repeat' (first
 | (with_reducible first|refine callX.by (sane03_c _ _ _ _ _ _ _ ?_ ?_ ?_) ?_|refine callX.by (kput_c _ _ _ ?_ ?_ ?_) ?_|assumption|(refine Qw hK _ ?_; clear hK K)|refine Qw ‹_› _ ?_|refine Qx ‹_› ?_|refine Qi fun K hK=>?_|refine Qj T fun K hK=>?_|refine Ql fun A B hA hB=>?_|refine Qm ?_|refine Qn ?_|refine Qp ?_|refine Qr ?_)
 | ((with_reducible first|apply Qy|apply Qz|apply QA)<;>intro hb<;>try simp only [nr] at hb)
 | simp only [go_sem,↓reduceIte,reduceIte,Qa,Qh,Qb,Qc,Qd,Qe,Qf,Qg,reduceCtorEq, *,-hs,-hsp,-hcl,-hy2,-f2,-f3]
 | with_reducible refine fun (bn:Bool) hbn=>?_))
    all_goals ((repeat clear hK); (repeat clear hA); (repeat clear hB))
    all_goals (first|rfl|(rw [f2]; done)|(rw [f2]; simp; done))
 ·rw [if_neg hk]
  clear hys0
  obtain ⟨ys0,hY⟩:∃ ys0:List Key,ys0=[]:=⟨_,rfl⟩
  rw [← hY]
  refine CallR.go1 (T:=T) Tryz.call75 Tryz.func75 rfl Tryz.ntmps75 (congrArg Array.toList Tryz.results75) (by decide) fun ts hn h0=>?_
  (repeat' (first
 | (with_reducible first|refine callX.by (hsc) ?_|refine callX.by (sane03_c _ _ _ _ _ _ _ ?_ ?_ ?_) ?_|refine callX.by (kput_c _ _ _ ?_ ?_ ?_) ?_|assumption|(refine Qw hK _ ?_; clear hK K)|refine Qw ‹_› _ ?_|refine Qx ‹_› ?_|refine Qi fun K hK=>?_|refine Qj T fun K hK=>?_|refine Ql fun A B hA hB=>?_|refine Qm ?_|refine Qn ?_|refine Qp ?_|refine Qr ?_)
 | ((with_reducible first|apply Qy|apply Qz|apply QA)<;>intro hb<;>try simp only [nr] at hb)
 | simp only [go_sem,↓reduceIte,reduceIte,Qa,Qh,Qb,Qc,Qd,Qe,Qf,Qg,reduceCtorEq, *,-hs,-hsc,-hsp,-hcl,-hY,Int.reduceEq]
 | with_reducible refine fun (bn:Bool) hbn=>?_))
  refine SpecC.ent (Ent.virt 3 2 (by simp only [go_sem,↓reduceIte,reduceIte,Qa,Qh,Qb,Qc,Qd,Qe,Qf,Qg,reduceCtorEq, *,-hs,-hsc,-hsp,-hcl,-hY]) (by decide)) ?_
  clear hk hwk hsc hro
  have hYl:ys0.length=0:=by rw [hY]; rfl
  have hYa:avs ys0=[]:=by rw [hY]; rfl
  have hy2:∀ x∈ys0,Small x.name.length:=by rw [hY]; simp
  refine Qs [1] (fun m ts'=>∃ (i:Nat),∃ (g:Nat),∃ (ys:List Key),m=r_rules.length - i∧i≤r_rules.length∧foldR r_rules ys0=foldR (r_rules.drop i) ys∧ys.length+(keysR (r_rules.drop i)).length≤(keysR r_rules).length+1∧(∀ x∈ys,Small x.name.length)∧ts'.tmp 3=.os 3 g ys.length∧ts'.gen 3=g∧ts'.obj 3=.arr 2 (avs ys)∧ts'.tmp 4=.int .i64 i) r_rules.length ?_ ?_
  ·refine ⟨0,ts.gen 3+1,ys0,rfl,Nat.zero_le _,rfl,by simp; omega,hy2,?_⟩
   simp only [go_sem,↓reduceIte,reduceIte,Qa,Qh,Qb,Qc,Qd,Qe,Qf,Qg,reduceCtorEq, *,-hs,-hsp,-hcl,-hy2,-hY]
  ·clear hY hYl hYa
   rintro m A hM ts' hk ⟨i,g,ys,hm,f1,f2,f3,f4,s1,s2,s3,s4⟩
   simp only [go_sem,↓reduceIte,reduceIte,Qa,Qh,Qb,Qc,Qd,Qe,Qf,Qg,reduceCtorEq, *] at hk
   by_cases hlt:i < r_rules.length
   ·rw [List.drop_eq_getElem_cons hlt,foldR_cons] at f2
    rw [List.drop_eq_getElem_cons hlt,keysR_cons,List.length_append] at f3
    have hspi:=hsp _ (QC hlt)
    have hcli:=hcl _ (QC hlt)
    (repeat' (first
 | (with_reducible first|refine callX.by (sane03_c _ _ _ _ _ _ _ ?_ ?_ ?_) ?_|refine callX.by (kput_c _ _ _ ?_ ?_ ?_) ?_|assumption|(refine Qw hK _ ?_; clear hK K)|refine Qw ‹_› _ ?_|refine Qx ‹_› ?_|refine Qi fun K hK=>?_|refine Qj T fun K hK=>?_|refine Ql fun A B hA hB=>?_|refine Qm ?_|refine Qn ?_|refine Qp ?_|refine Qr ?_)
 | ((with_reducible first|apply Qy|apply Qz|apply QA)<;>intro hb<;>try simp only [nr] at hb)
 | simp only [go_sem,↓reduceIte,reduceIte,Qa,Qh,Qb,Qc,Qd,Qe,Qf,Qg,reduceCtorEq, *,-hs,-hsp,-hcl,-hy2,-f2,-f3,-f4,-hcli]
 | with_reducible refine fun (bn:Bool) hbn=>?_))
    refine Qs [1,4] (fun m ts'=>∃ (j:Nat),∃ (g:Nat),∃ (ys:List Key),m=r_rules[i].split.length - j∧j≤r_rules[i].split.length∧foldR r_rules ys0=foldR (r_rules.drop (i+1)) (foldW (r_rules[i].split.drop j) ys)∧ys.length+((keysW (r_rules[i].split.drop j)).length+(keysR (r_rules.drop (i+1))).length)≤(keysR r_rules).length+1∧(∀ x∈ys,Small x.name.length)∧ts'.tmp 3=.os 3 g ys.length∧ts'.gen 3=g∧ts'.obj 3=.arr 2 (avs ys)∧ts'.tmp 5=.int .i64 j) r_rules[i].split.length ?_ ?_
    ·refine ⟨0,g,ys,rfl,Nat.zero_le _,f2,f3,f4,?_⟩
     simp only [go_sem,↓reduceIte,reduceIte,Qa,Qh,Qb,Qc,Qd,Qe,Qf,Qg,reduceCtorEq, *,-hs,-hsp,-hcl,-hy2,-f2,-f3,-f4,-hcli]
    ·clear f2 f3 f4
     revert hM
     intro hM0
     rintro m A hM ts' hk ⟨j,g,ys,hm,f1,f2,f3,f4,s1,s2,s3,s4⟩
     simp only [go_sem,↓reduceIte,reduceIte,Qa,Qh,Qb,Qc,Qd,Qe,Qf,Qg,reduceCtorEq, *] at hk
     have hly:Small ys.length:=by unfold Small; omega
     by_cases hjt:j < r_rules[i].split.length
     ·have hn1:=hcli _ (QC hjt)
      rw [List.drop_eq_getElem_cons hjt,foldW_cons] at f2
      rw [List.drop_eq_getElem_cons hjt,keysW_cons,List.length_append] at f3
      by_cases hp:0 < r_rules[i].split[j].w
      ·rw [if_pos hp] at f2 f3
       (repeat' (first
 | (with_reducible first|refine callX.by (sane03_c _ _ _ _ _ _ _ ?_ ?_ ?_) ?_|refine callX.by (kput_c _ _ _ ?_ ?_ ?_) ?_|assumption|(refine Qw hK _ ?_; clear hK K)|refine Qw ‹_› _ ?_|refine Qx ‹_› ?_|refine Qi fun K hK=>?_|refine Qj T fun K hK=>?_|refine Ql fun A B hA hB=>?_|refine Qm ?_|refine Qn ?_|refine Qp ?_|refine Qr ?_)
 | ((with_reducible first|apply Qy|apply Qz|apply QA)<;>intro hb<;>try simp only [nr] at hb)
 | simp only [go_sem,↓reduceIte,reduceIte,Qa,Qh,Qb,Qc,Qd,Qe,Qf,Qg,reduceCtorEq, *,-hs,-hsp,-hcl,-hy2,-f2,-f3,-hcli]
 | with_reducible refine fun (bn:Bool) hbn=>?_))
       all_goals ((repeat clear hK); (repeat clear hA); (repeat clear hB))
       have hkl2:=kput_length ys ⟨2,r_rules[i].split[j].cluster⟩
       (refine hM.onE (r_rules[i].split.length - (j+1)) (Ent.ren 3 63 ?_ ?_) ?_ ?_ ?_; (focus (simp only [go_sem,↓reduceIte,reduceIte,Qa,Qh,Qb,Qc,Qd,Qe,Qf,Qg,reduceCtorEq, *,w64_nat hjt hspi,-hs,-hsp,-hcl,-hy2,-f2,-f3,-hkl2,-hcli]; first|done|rfl)); (focus (simp only [go_sem,↓reduceIte,reduceIte,Qa,Qh,Qb,Qc,Qd,Qe,Qf,Qg,reduceCtorEq, *,w64_nat hjt hspi,-hs,-hsp,-hcl,-hy2,-f2,-f3,-hkl2,-hcli]; first|done|rfl)); omega; (focus (simp only [go_sem,↓reduceIte,reduceIte,Qa,Qh,Qb,Qc,Qd,Qe,Qf,Qg,reduceCtorEq, *,w64_nat hjt hspi,-hs,-hsp,-hcl,-hy2,-f2,-f3,-hkl2,-hcli]; done)); refine ⟨j+1,g+1,kput ys ⟨2,r_rules[i].split[j].cluster⟩,rfl,by omega,f2,by simp only [List.length_singleton] at f3; omega,fun x hx=>(kput_mem hx).elim (fun e=>by rw [e]; exact hn1) (f4 x),?_⟩; simp only [go_sem,↓reduceIte,reduceIte,Qa,Qh,Qb,Qc,Qd,Qe,Qf,Qg,reduceCtorEq, *,w64_nat hjt hspi,-hs,-hsp,-hcl,-hy2,-f2,-f3,-hkl2,-hcli]; done)
      ·rw [if_neg hp] at f2 f3
       (repeat' (first
 | (with_reducible first|refine callX.by (sane03_c _ _ _ _ _ _ _ ?_ ?_ ?_) ?_|refine callX.by (kput_c _ _ _ ?_ ?_ ?_) ?_|assumption|(refine Qw hK _ ?_; clear hK K)|refine Qw ‹_› _ ?_|refine Qx ‹_› ?_|refine Qi fun K hK=>?_|refine Qj T fun K hK=>?_|refine Ql fun A B hA hB=>?_|refine Qm ?_|refine Qn ?_|refine Qp ?_|refine Qr ?_)
 | ((with_reducible first|apply Qy|apply Qz|apply QA)<;>intro hb<;>try simp only [nr] at hb)
 | simp only [go_sem,↓reduceIte,reduceIte,Qa,Qh,Qb,Qc,Qd,Qe,Qf,Qg,reduceCtorEq, *,-hs,-hsp,-hcl,-hy2,-f2,-f3,-hcli]
 | with_reducible refine fun (bn:Bool) hbn=>?_))
       all_goals ((repeat clear hK); (repeat clear hA); (repeat clear hB))
       (refine hM.on (r_rules[i].split.length - (j+1)) (by omega) (by simp only [go_sem,↓reduceIte,reduceIte,Qa,Qh,Qb,Qc,Qd,Qe,Qf,Qg,reduceCtorEq, *,w64_nat hjt hspi,-hs,-hsp,-hcl,-hy2,-f2,-f3,-hcli]) ⟨j+1,g,ys,rfl,by omega,f2,by simp only [List.length_nil] at f3; omega,f4,?_⟩; simp only [go_sem,↓reduceIte,reduceIte,Qa,Qh,Qb,Qc,Qd,Qe,Qf,Qg,reduceCtorEq, *,w64_nat hjt hspi,-hs,-hsp,-hcl,-hy2,-f2,-f3,-hcli]; done)
     ·rw [List.drop_eq_nil_of_le (show r_rules[i].split.length≤j by omega)] at f2
      rw [show foldW [] ys=ys from rfl] at f2
      (repeat' (first
 | (with_reducible first|refine callX.by (sane03_c _ _ _ _ _ _ _ ?_ ?_ ?_) ?_|refine callX.by (kput_c _ _ _ ?_ ?_ ?_) ?_|assumption|(refine Qw hK _ ?_; clear hK K)|refine Qw ‹_› _ ?_|refine Qx ‹_› ?_|refine Qi fun K hK=>?_|refine Qj T fun K hK=>?_|refine Ql fun A B hA hB=>?_|refine Qm ?_|refine Qn ?_|refine Qp ?_|refine Qr ?_)
 | ((with_reducible first|apply Qy|apply Qz|apply QA)<;>intro hb<;>try simp only [nr] at hb)
 | simp only [go_sem,↓reduceIte,reduceIte,Qa,Qh,Qb,Qc,Qd,Qe,Qf,Qg,reduceCtorEq, *,-hs,-hsp,-hcl,-hy2,-f2,-f3,-hcli]
 | with_reducible refine fun (bn:Bool) hbn=>?_))
      all_goals ((repeat clear hK); (repeat clear hA); (repeat clear hB))
      all_goals (clear hM; revert hM0; intro hM)
      (refine hM.on (r_rules.length - (i+1)) (by omega) (by simp only [go_sem,↓reduceIte,reduceIte,Qa,Qh,Qb,Qc,Qd,Qe,Qf,Qg,reduceCtorEq, *,w64_nat hlt hl,-hs,-hsp,-hcl,-hy2,-f2,-f3,-hcli]) ⟨i+1,ts'.gen 3,ys,rfl,by omega,f2,by omega,f4,?_⟩; simp only [go_sem,↓reduceIte,reduceIte,Qa,Qh,Qb,Qc,Qd,Qe,Qf,Qg,reduceCtorEq, *,w64_nat hlt hl,-hs,-hsp,-hcl,-hy2,-f2,-f3,-hcli]; done)
   ·rw [List.drop_eq_nil_of_le (by omega)] at f2
    rw [show foldR [] ys=ys from rfl] at f2
    (repeat' (first
 | (with_reducible first|refine callX.by (sane03_c _ _ _ _ _ _ _ ?_ ?_ ?_) ?_|refine callX.by (kput_c _ _ _ ?_ ?_ ?_) ?_|assumption|(refine Qw hK _ ?_; clear hK K)|refine Qw ‹_› _ ?_|refine Qx ‹_› ?_|refine Qi fun K hK=>?_|refine Qj T fun K hK=>?_|refine Ql fun A B hA hB=>?_|refine Qm ?_|refine Qn ?_|refine Qp ?_|refine Qr ?_)
 | ((with_reducible first|apply Qy|apply Qz|apply QA)<;>intro hb<;>try simp only [nr] at hb)
 | simp only [go_sem,↓reduceIte,reduceIte,Qa,Qh,Qb,Qc,Qd,Qe,Qf,Qg,reduceCtorEq, *,-hs,-hsp,-hcl,-hy2,-f2,-f3]
 | with_reducible refine fun (bn:Bool) hbn=>?_))
    all_goals ((repeat clear hK); (repeat clear hA); (repeat clear hB))
    all_goals (first|rfl|(rw [f2]; done)|(rw [f2]; simp; done))
@[go_sem] def Wd16:List (List Nat×List Nat):=[([13],[14,17,18]),([14],[13,17,18]),([15],[18]),([16],[18]),([17],[13,14,18]),([18],[13,14,15,16,17])]
theorem tget_cons (x:Res) (l:List Res) (k:Key):tget (x :: l) k=if keyOf x=k then some x else tget l k:=by
 unfold tget
 rw [List.find?_cons]
 by_cases h:keyOf x=k<;>simp [h]
theorem get05_c (xs:List Res) (k_kind:Int) (k_name:List UInt8) (hl:Small xs.length):CallR Tryz.prog 134 [.slice false (avs xs),.agg [.int .i64 k_kind,.str k_name]] (.val (.tup [Dat.av ((tget xs (⟨k_kind,k_name⟩:Key)).getD zRes),.bool (tget xs (⟨k_kind,k_name⟩:Key)).isSome])):=by
 rw [av_Res]
 refine CallR.go2 (T:=T) Tryz.call134 Tryz.func134 rfl Tryz.ntmps134 (congrArg Array.toList Tryz.results134) (by decide) fun ts hn h0 h1=>?_
 (repeat' (first
 | (with_reducible first|refine callX.by (rkey3_c _ _ _ _ _ _ _) ?_|assumption|(refine Qw hK _ ?_; clear hK K)|refine Qw ‹_› _ ?_|refine Qx ‹_› ?_|refine Qi fun K hK=>?_|refine Qj T fun K hK=>?_|refine Qk (id:=4) T mixed Wd16 (by kernel_rfl) fun K hK=>?_|refine Ql fun A B hA hB=>?_|refine Qm ?_|refine Qn ?_|refine Qp ?_|refine Qr ?_)
 | ((with_reducible first|apply Qy|apply Qz|apply QA)<;>intro hb<;>try simp only [nr] at hb)
 | simp only [go_sem,↓reduceIte,reduceIte,Qa,Qh,Qb,Qc,Qd,Qe,Qf,Qg,reduceCtorEq, *]
 | with_reducible refine fun (bn:Bool) hbn=>?_))
 refine Qs [0,3] (fun m ts'=>∃ (i:Nat),m=xs.length - i∧i≤xs.length∧tget xs (⟨k_kind,k_name⟩:Key)=tget (xs.drop i) (⟨k_kind,k_name⟩:Key)∧ts'.tmp 6=.int .i64 i∧ts'.tmp 4=.ref 4 (ts.gen 4+1) 0∧ts'.gen 4=ts.gen 4+1∧ts'.obj 4=.box [.int .i64 0,.str [],.int .i64 0,.int .i64 0,.str [],.slice true [],.slice true []]) xs.length ?_ ?_
 ·refine ⟨0,?_⟩
  simp only [go_sem,↓reduceIte,reduceIte,Qa,Qh,Qb,Qc,Qd,Qe,Qf,Qg,reduceCtorEq, *]
 ·rintro m A hM ts' hk ⟨i,hm,f1,f2,s1,s2,s3,s4⟩
  simp only [go_sem,↓reduceIte,reduceIte,Qa,Qh,Qb,Qc,Qd,Qe,Qf,Qg,reduceCtorEq, *] at hk
  by_cases hlt:i < xs.length
  ·rw [List.drop_eq_getElem_cons hlt,tget_cons] at f2
   by_cases hk:keyOf xs[i]=(⟨k_kind,k_name⟩:Key)
   ·rw [if_pos hk] at f2
    have hk1:xs[i].kind=k_kind:=congrArg Key.kind hk
    have hk2:xs[i].name=k_name:=congrArg Key.name hk
    rw [f2]
    (repeat' (first
 | (with_reducible first|refine callX.by (rkey3_c _ _ _ _ _ _ _) ?_|assumption|(refine Qw hK _ ?_; clear hK K)|refine Qw ‹_› _ ?_|refine Qx ‹_› ?_|refine Qi fun K hK=>?_|refine Qj T fun K hK=>?_|refine Qk (id:=4) T mixed Wd16 (by kernel_rfl) fun K hK=>?_|refine Ql fun A B hA hB=>?_|refine Qm ?_|refine Qn ?_|refine Qp ?_|refine Qr ?_)
 | ((with_reducible first|apply Qy|apply Qz|apply QA)<;>intro hb<;>try simp only [nr] at hb)
 | simp only [go_sem,↓reduceIte,reduceIte,Qa,Qh,Qb,Qc,Qd,Qe,Qf,Qg,reduceCtorEq, *,-f2,-hk,Option.getD_some,Option.isSome_some]
 | with_reducible refine fun (bn:Bool) hbn=>?_))
    all_goals trace_state
   ·rw [if_neg hk] at f2
    have hk1:¬ (xs[i].kind=k_kind∧xs[i].name=k_name):=fun h=>hk (by unfold keyOf; rw [h.1,h.2])
    (repeat' (first
 | (with_reducible first|refine callX.by (rkey3_c _ _ _ _ _ _ _) ?_|assumption|(refine Qw hK _ ?_; clear hK K)|refine Qw ‹_› _ ?_|refine Qx ‹_› ?_|refine Qi fun K hK=>?_|refine Qj T fun K hK=>?_|refine Qk (id:=4) T mixed Wd16 (by kernel_rfl) fun K hK=>?_|refine Ql fun A B hA hB=>?_|refine Qm ?_|refine Qn ?_|refine Qp ?_|refine Qr ?_)
 | ((with_reducible first|apply Qy|apply Qz|apply QA)<;>intro hb<;>try simp only [nr] at hb)
 | simp only [go_sem,↓reduceIte,reduceIte,Qa,Qh,Qb,Qc,Qd,Qe,Qf,Qg,reduceCtorEq, *,-f2,-hk]
 | with_reducible refine fun (bn:Bool) hbn=>?_))
    all_goals ((repeat clear hK); (repeat clear hA); (repeat clear hB))
    all_goals first
     | (refine hM.on (xs.length - (i+1)) (by omega) (by simp only [go_sem,↓reduceIte,reduceIte,Qa,Qh,Qb,Qc,Qd,Qe,Qf,Qg,reduceCtorEq, *,w64_nat hlt hl,-f2,-hk]) ⟨i+1,rfl,by omega,f2,?_⟩; simp only [go_sem,↓reduceIte,reduceIte,Qa,Qh,Qb,Qc,Qd,Qe,Qf,Qg,reduceCtorEq, *,w64_nat hlt hl,-f2,-hk]; done)
     | (exfalso; simp_all; done)
     | trace_state
  ·rw [List.drop_eq_nil_of_le (by omega)] at f2
   have e:tget xs (⟨k_kind,k_name⟩:Key)=none:=by rw [f2]; rfl
   rw [e]
   (repeat' (first
 | (with_reducible first|refine callX.by (rkey3_c _ _ _ _ _ _ _) ?_|assumption|(refine Qw hK _ ?_; clear hK K)|refine Qw ‹_› _ ?_|refine Qx ‹_› ?_|refine Qi fun K hK=>?_|refine Qj T fun K hK=>?_|refine Qk (id:=4) T mixed Wd16 (by kernel_rfl) fun K hK=>?_|refine Ql fun A B hA hB=>?_|refine Qm ?_|refine Qn ?_|refine Qp ?_|refine Qr ?_)
 | ((with_reducible first|apply Qy|apply Qz|apply QA)<;>intro hb<;>try simp only [nr] at hb)
 | simp only [go_sem,↓reduceIte,reduceIte,Qa,Qh,Qb,Qc,Qd,Qe,Qf,Qg,reduceCtorEq, *,-f2,zRes,Option.getD_none,Option.isSome_none]
 | with_reducible refine fun (bn:Bool) hbn=>?_))
   all_goals ((repeat clear hK); (repeat clear hA); (repeat clear hB))
   all_goals first|rfl|exact ⟨rfl,rfl⟩
theorem tget_key6 {l:List Res} {k:Key}:(tget l k).isSome=true↔k∈l.map keyOf:=by
 unfold tget
 rw [List.find?_isSome]
 constructor
 ·rintro ⟨r,hr,h⟩
  exact List.mem_map.2 ⟨r,hr,by simpa using h⟩
 ·intro h
  obtain ⟨r,hr,h⟩:=List.mem_map.1 h
  exact ⟨r,hr,by simpa using h⟩
theorem there_c (xs:List Res) (k_kind:Int) (k_name:List UInt8) (hl:Small xs.length):CallR Tryz.prog 76 [.slice false (avs xs),.agg [.int .i64 k_kind,.str k_name]] (.val (.bool (tget xs (⟨k_kind,k_name⟩:Key)).isSome)):=by
 have w1:=get05_c xs k_kind k_name hl
 rw [av_Res] at w1
 generalize (tget xs (⟨k_kind,k_name⟩:Key)).isSome=b at *
 generalize (tget xs (⟨k_kind,k_name⟩:Key)).getD zRes=z at *
 refine CallR.go2 (T:=T) Tryz.call76 Tryz.func76 rfl Tryz.ntmps76 (congrArg Array.toList Tryz.results76) (by decide) fun ts hn h0 h1=>?_
 (repeat' (first
 | (with_reducible first|refine callX.by (w1) ?_|refine callX.by (get05_c _ _ _ ?_) ?_|assumption|(refine Qw hK _ ?_; clear hK K)|refine Qw ‹_› _ ?_|refine Qx ‹_› ?_|refine Qi fun K hK=>?_|refine Qj T fun K hK=>?_|refine Ql fun A B hA hB=>?_|refine Qn ?_|refine Qr ?_)
 | ((with_reducible first|apply Qy|apply Qz|apply QA)<;>intro hb<;>try simp only [nr] at hb)
 | simp only [go_sem,↓reduceIte,reduceIte,Qa,Qh,Qb,Qc,Qd,Qe,Qf,Qg,reduceCtorEq, *,-w1]
 | with_reducible refine fun (bn:Bool) hbn=>?_))
def addK (l:List Res) (out:List Key) (k:Key):List Key:=if (tget l k).isSome=true∧¬ k∈out then out++[k] else out
def stepK (l:List Res) (out:List Key) (r:Res):List Key:=if keyOf r∈out then (refsR r).foldl (addK l) out else out
def roundK (l:List Res) (out:List Key):List Key:=l.foldl (stepK l) out
def roundsK (l:List Res):Nat→List Key→List Key
 | 0,out=>out
 | n+1,out=>roundsK l n (roundK l out)
def kind0K (l:List Res):List Key:=(l.filter fun r=>decide (r.kind=0)).map keyOf
def reached06 (l:List Res):List Key:=roundsK l 4 (kind0K l)
theorem addK_sub (l:List Res) (out:List Key) (k:Key) {x:Key} (h:x∈out):x∈addK l out k:=by
 unfold addK; split
 ·exact List.mem_append_left _ h
 ·exact h
theorem addKs_sub (l:List Res):∀ (ks out:List Key) {x:Key},x∈out→x∈ks.foldl (addK l) out
 | [],_,_,h=>h
 | k :: ks,out,_,h=>addKs_sub l ks _ (addK_sub l out k h)
theorem stepK_sub (l:List Res) (out:List Key) (r:Res) {x:Key} (h:x∈out):x∈stepK l out r:=by
 unfold stepK; split
 ·exact addKs_sub l _ _ h
 ·exact h
theorem steps_sub (l:List Res):∀ (m:List Res) (out:List Key) {x:Key},x∈out→x∈m.foldl (stepK l) out
 | [],_,_,h=>h
 | r :: m,out,_,h=>steps_sub l m _ (stepK_sub l out r h)
theorem addKs_add (l:List Res):∀ (ks out:List Key) {x:Key},x∈ks→(tget l x).isSome=true→x∈ks.foldl (addK l) out
 | [],_,_,h,_=>by simp at h
 | k :: ks,out,x,h,ht=>by
  rw [List.foldl_cons]
  rcases List.mem_cons.1 h with rfl|h
  ·refine addKs_sub l ks _ ?_
   unfold addK
   split
   ·simp
   ·rename_i hn
    by_cases hx:x∈out
    ·exact hx
    ·exact absurd ⟨ht,hx⟩ hn
  ·exact addKs_add l ks _ h ht
theorem round_add (l:List Res):∀ (m:List Res) (out:List Key) {r:Res} {x:Key},r∈m→keyOf r∈out→x∈refsR r→(tget l x).isSome=true→x∈m.foldl (stepK l) out
 | [],_,_,_,h,_,_,_=>by simp at h
 | q :: m,out,r,x,h,hk,hx,ht=>by
  rw [List.foldl_cons]
  rcases List.mem_cons.1 h with rfl|h
  ·refine steps_sub l m _ ?_
   unfold stepK
   rw [if_pos hk]
   exact addKs_add l _ _ hx ht
  ·exact round_add l m _ h (stepK_sub l out q hk) hx ht
theorem rounds_sub (l:List Res):∀ (n:Nat) (out:List Key) {x:Key},x∈out→x∈roundsK l n out
 | 0,_,_,h=>h
 | n+1,out,_,h=>rounds_sub l n _ (steps_sub l l out h)
inductive RchN (l:List Res):Nat→Key→Prop
 | base (r:Res):r∈l→r.kind=0→RchN l 0 (keyOf r)
 | step (n:Nat) (r:Res) (x:Key):r∈l→RchN l n (keyOf r)→x∈refsR r→x∈l.map keyOf→RchN l (n+1) x
theorem rounds_has (l:List Res):∀ (n:Nat) (out:List Key) (j:Nat),(∀ x,RchN l j x→x∈out)→∀ x,RchN l (j+n) x→x∈roundsK l n out
 | 0,_,_,h,x,hx=>h x hx
 | n+1,out,j,h,x,hx=>by
  refine rounds_has l n (roundK l out) (j+1) (fun y hy=>?_) x (by rw [show j+1+n=j+(n+1) by omega]; exact hx)
  cases hy with
  | step _ r _ hr hk hy hm=>exact round_add l l out hr (h _ hk) hy (tget_key6.2 hm)
theorem kind0_mem {l:List Res} {x:Key}:x∈kind0K l↔RchN l 0 x:=by
 unfold kind0K
 rw [List.mem_map]
 constructor
 ·rintro ⟨r,hr,rfl⟩
  obtain ⟨h1,h2⟩:=List.mem_filter.1 hr
  exact .base r h1 (by simpa using h2)
 ·intro h
  cases h with
  | base r h1 h2=>exact ⟨r,List.mem_filter.2 ⟨h1,by simpa using h2⟩,rfl⟩
theorem refs_low {r:Res} {x:Key} (h:x∈refsR r):x.kind=r.kind+1∧0≤r.kind∧r.kind≤2:=by
 by_cases hs:saneR r=0
 ·refine ⟨(refs_kind hs x h).1,?_⟩
  obtain ⟨h1,h2,_⟩:=sane_parts hs
  rw [(refs_up hs).2] at h
  rcases List.mem_append.1 h with h|h
  ·have hto:r.to'≠[]:=by
    intro e
    unfold baseR at h
    rw [if_pos e] at h
    simp at h
   rcases h1 hto with e|e<;>omega
  ·have hru:r.rules'≠[]:=by
    intro e
    rw [e] at h
    simp [keysR] at h
   have:=h2 hru
   omega
 ·unfold refsR at h
  rw [if_neg hs] at h
  simp at h
theorem rch_depth {l:List Res} {x:Key} (h:Rch l x):∃ n:Nat,n≤3∧x.kind=n∧RchN l n x:=by
 induction h with
 | base r hr hk=>exact ⟨0,by omega,by simpa [keyOf] using hk,.base r hr hk⟩
 | step r x hr _ hx hm ih =>
  obtain ⟨n,h1,h2,h3⟩:=ih
  have hk:r.kind=n:=by simpa [keyOf] using h2
  obtain ⟨q1,q2,q3⟩:=refs_low hx
  exact ⟨n+1,by omega,by omega,.step n r x hr h3 hx hm⟩
theorem addK_sound {l:List Res} {out:List Key} {k:Key} (P:Key→Prop) (ho:∀ x∈out,P x) (hk:(tget l k).isSome=true→P k):∀ x∈addK l out k,P x:=by
 unfold addK
 split
 ·rename_i h
  intro x hx
  rcases List.mem_append.1 hx with hx|hx
  ·exact ho x hx
  ·rw [List.mem_singleton] at hx; subst hx; exact hk h.1
 ·exact ho
theorem addKs_sound {l:List Res} (P:Key→Prop):∀ (ks out:List Key),(∀ x∈out,P x)→(∀ k∈ks,(tget l k).isSome=true→P k)→∀ x∈ks.foldl (addK l) out,P x
 | [],_,ho,_=>ho
 | k :: ks,out,ho,hk=>addKs_sound P ks _ (addK_sound P ho (hk k (by simp))) fun y hy=>hk y (by simp [hy])
theorem steps_sound {l:List Res}:∀ (m:List Res) (out:List Key),(∀ r∈m,r∈l)→(∀ x∈out,Rch l x)→∀ x∈m.foldl (stepK l) out,Rch l x
 | [],_,_,ho=>ho
 | r :: m,out,hm,ho=>by
  rw [List.foldl_cons]
  refine steps_sound m _ (fun q hq=>hm q (by simp [hq])) ?_
  unfold stepK
  split
  ·rename_i hk
   exact addKs_sound (Rch l) _ _ ho fun k hkr ht=>.step r k (hm r (by simp)) (ho _ hk) hkr (tget_key6.1 ht)
  ·exact ho
theorem rounds_sound {l:List Res}:∀ (n:Nat) (out:List Key),(∀ x∈out,Rch l x)→∀ x∈roundsK l n out,Rch l x
 | 0,_,ho=>ho
 | n+1,out,ho=>rounds_sound n _ (steps_sound l out (fun _ h=>h) ho)
theorem reached06_iff (l:List Res) (x:Key):x∈reached06 l↔Rch l x:=by
 unfold reached06
 constructor
 ·refine rounds_sound 4 _ (fun y hy=>?_) x
  cases kind0_mem.1 hy with
  | base r h1 h2=>exact .base r h1 h2
 ·intro h
  obtain ⟨n,h1,_,h3⟩:=rch_depth h
  have hn:∀ (a b:Nat) (out:List Key),roundsK l (a+b) out=roundsK l b (roundsK l a out):=by
   intro a
   induction a with
   | zero=>intro b out; rw [Nat.zero_add]; rfl
   | succ a ih=>intro b out; rw [Nat.succ_add]; exact ih b _
  rw [show 4=n+(4 - n) by omega,hn]
  exact rounds_sub l _ _ (rounds_has l n _ 0 (fun y hy=>kind0_mem.2 hy) x (by rwa [Nat.zero_add]))
theorem addK_len (l:List Res) (out:List Key) (k:Key):(addK l out k).length≤out.length+1:=by
 unfold addK; split<;>simp
theorem addKs_len (l:List Res):∀ (ks out:List Key),(ks.foldl (addK l) out).length≤out.length+ks.length
 | [],_=>Nat.le_refl _
 | k :: ks,out=>by
  have h1:=addKs_len l ks (addK l out k)
  have h2:=addK_len l out k
  simp only [List.foldl_cons,List.length_cons]
  omega
theorem stepK_len (l:List Res) (out:List Key) (r:Res):(stepK l out r).length≤out.length+33:=by
 have h1:=addKs_len l (refsR r) out
 have h2:=refs_len r
 unfold stepK
 split<;>omega
end Go.Proofs.YtmjkjmoeicnbnaaGreatDoor.Lg
