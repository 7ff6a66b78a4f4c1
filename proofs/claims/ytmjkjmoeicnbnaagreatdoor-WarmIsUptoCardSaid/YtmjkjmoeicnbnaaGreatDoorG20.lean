/- Parts of the proof, one behind the other. -/
import Derived.Test.YtmjkjmoeicnbnaaGreatDoorG19
namespace Go.Proofs.YtmjkjmoeicnbnaaGreatDoor.Lg
set_option maxRecDepth 100000
set_option linter.unusedVariables false
set_option linter.unusedSimpArgs false
open Go
open Nat renaming reduceEqDiff → Qa, reduceLT → Qb, reduceLeDiff → Qc, reduceAdd → Qd, reduceMul → Qe, reduceSub → Qf, reduceBEq → Qg
open String renaming reduceEq → Qh
open SpecC renaming seqW → Qi, regW → Qj, condW → Ql, block → Qm, skip → Qn, exit → Qp, ret → Qr, loopF → Qs
open NxK renaming out → Qw
open Nx renaming out → Qx
open condK renaming split → Qy
open gK renaming split_t → Qz, split_f → QA
open List renaming getElem_mem → QC
def foldW (l:List Weight) (ys:List Key):List Key:=(keysW l).foldl kput ys
def foldR (l:List Rule) (ys:List Key):List Key:=(keysR l).foldl kput ys
theorem foldW_cons (y:Weight) (l:List Weight) (ys:List Key):foldW (y :: l) ys=foldW l (if 0 < y.w then kput ys ⟨2,y.cluster⟩ else ys):=by
 unfold foldW keysW
 rw [List.filter_cons]
 by_cases h:0 < y.w
 ·rw [if_pos h,if_pos (by simpa using h)]; rfl
 ·rw [if_neg h,if_neg (by simpa using h)]
theorem foldR_cons (z:Rule) (l:List Rule) (ys:List Key):foldR (z :: l) ys=foldR l (foldW z.split ys):=by
 unfold foldR foldW keysR
 rw [List.flatMap_cons,List.foldl_append]
theorem refs03_eq {r:Res} (h:saneR r=0):foldR r.rules' (baseR r)=refsR r:=by
 obtain ⟨u1,u2⟩:=refs_up h
 have hb:Up (baseR r):=by unfold baseR Up; split<;>simp
 obtain ⟨v1,v2⟩:=fold_put (keysR r.rules') hb
 exact up_ext v1 u1 fun x=>by rw [u2,List.mem_append]; exact v2 x
theorem kWs_len (l:List Weight):(keysW l).length≤l.length:=by unfold keysW; rw [List.length_map]; exact List.length_filter_le _ _
theorem kRs_len:∀ (l:List Rule),(∀ x∈l,x.split.length≤4)→(keysR l).length≤4 * l.length
 | [],_=>by simp [keysR]
 | x :: l,h=>by
  rw [keysR_cons,List.length_append,List.length_cons]
  have h1:=kWs_len x.split
  have h2:=h x (by simp)
  have h3:=kRs_len l fun y hy=>h y (by simp [hy])
  omega
set_option maxHeartbeats 8000000 in
theorem refs03_c (r_kind:Int) (r_name:List UInt8) (r_ver:Int) (r_port:Int) (r_to:List UInt8) (r_rules:List Rule) (r_hosts:List Int) (hl:Small r_rules.length) (hh:Small r_hosts.length) (hs:∀ x∈r_rules,SmRule x) (hto:Small r_to.length):CallR Tryz.prog 75 [.agg [.int .i64 r_kind,.str r_name,.int .i64 r_ver,.int .i64 r_port,.str r_to,.slice false (avs r_rules),.slice false (avs r_hosts)]] (.val (.slice false (avs (refsR (⟨r_kind,r_name,r_ver,r_port,r_to,r_rules,r_hosts⟩:Res))))):=by
 have hsc:=sane03_c r_kind r_name r_ver r_port r_to r_rules r_hosts hl hh hs
 by_cases hsn:saneR (⟨r_kind,r_name,r_ver,r_port,r_to,r_rules,r_hosts⟩:Res)=0
 rotate_left
 ·rw [refs_not hsn]
  refine CallR.go1 (T:=T) Tryz.call75 Tryz.func75 rfl Tryz.ntmps75 (congrArg Array.toList Tryz.results75) (by decide) fun ts hn h0=>?_
  (repeat' (first
 | (with_reducible first|refine callX.by (hsc) ?_|refine callX.by (sane03_c _ _ _ _ _ _ _ ?_ ?_ ?_) ?_|refine callX.by (kput_c _ _ _ ?_ ?_ ?_) ?_|assumption|(refine Qw hK _ ?_; clear hK K)|refine Qw ‹_› _ ?_|refine Qx ‹_› ?_|refine Qi fun K hK=>?_|refine Qj T fun K hK=>?_|refine Ql fun A B hA hB=>?_|refine Qm ?_|refine Qn ?_|refine Qp ?_|refine Qr ?_)
 | ((with_reducible first|apply Qy|apply Qz|apply QA)<;>intro hb<;>try simp only [nr] at hb)
 | simp only [go_sem,↓reduceIte,reduceIte,Qa,Qh,Qb,Qc,Qd,Qe,Qf,Qg,reduceCtorEq, *,-hs,-hsc,avs_nil]
 | with_reducible refine fun (bn:Bool) hbn=>?_))
 rw [hsn] at hsc
 have e:=refs03_eq hsn
 rw [← e]
 clear e
 have hsm:=sane_small hsn
 have hw4:∀ x∈r_rules,x.split.length≤4:=fun x hx=>(small_rule hsm hx).1
 have hkl:=kRs_len r_rules hw4
 have hl8:r_rules.length≤8:=by
  simp only [smallR,Bool.and_eq_true,decide_eq_true_eq] at hsm
  exact hsm.2.2.1
 have hk4:=sane_kind hsn
 have hne:=kinds_ne hsn
 have hwk:=wrapK hsn
 simp only at hk4 hne hwk hkl
 have hsp:∀ x∈r_rules,Small x.split.length:=fun x hx=>by have:=hw4 x hx; unfold Small; omega
 have hcl:∀ x∈r_rules,∀ y∈x.split,Small y.cluster.length:=fun x hx y hy=>(hs x hx).2.2.2 y hy
 have t0:(0:Int).tmod 2=0:=by decide
 have t1:¬ (1:Int).tmod 2=0:=by decide
 have t2:(2:Int).tmod 2=0:=by decide
 have t3:¬ (3:Int).tmod 2=0:=by decide
 have hbs:baseR ⟨r_kind,r_name,r_ver,r_port,r_to,r_rules,r_hosts⟩=if r_kind.tmod 2=0 then [⟨r_kind+1,r_to⟩] else []:=by
  unfold baseR
  rcases hk4 with rfl|rfl|rfl|rfl
  ·rw [if_neg (hne.2 (.inl rfl)),if_pos t0]; rfl
  ·rw [if_pos (Classical.byContradiction fun h=>by have:=hne.1 h; omega),if_neg t1]
  ·rw [if_neg (hne.2 (.inr rfl)),if_pos t2]; rfl
  ·rw [if_pos (Classical.byContradiction fun h=>by have:=hne.1 h; omega),if_neg t3]
 have hkk:(r_kind.tmod 2=0)∨¬ (r_kind.tmod 2=0):=Classical.em _
 rw [hbs]
 clear hsn hsm hk4 hne t0 t1 t2 t3 hbs hw4
 have hro:Room 1 24:=room_big (by omega) (by decide)
 have hys0:∀ ys0:List Key,(ys0=[]∨ys0=[⟨r_kind+1,r_to⟩])→ys0.length≤1∧∀ x∈ys0,Small x.name.length:=by
  rintro ys0 (rfl|rfl)
  ·simp
  ·refine ⟨by simp,fun x hx=>?_⟩
   rw [List.mem_singleton] at hx
   subst hx; exact hto
 rcases hkk with hk|hk
 ·rw [if_pos hk]
  obtain ⟨hy1,hy2⟩:=hys0 [⟨r_kind+1,r_to⟩] (.inr rfl)
  clear hys0
  refine CallR.go1 (T:=T) Tryz.call75 Tryz.func75 rfl Tryz.ntmps75 (congrArg Array.toList Tryz.results75) (by decide) fun ts hn h0=>?_
  (repeat' (first
 | (with_reducible first|refine callX.by (hsc) ?_|refine callX.by (sane03_c _ _ _ _ _ _ _ ?_ ?_ ?_) ?_|refine callX.by (kput_c _ _ _ ?_ ?_ ?_) ?_|assumption|(refine Qw hK _ ?_; clear hK K)|refine Qw ‹_› _ ?_|refine Qx ‹_› ?_|refine Qi fun K hK=>?_|refine Qj T fun K hK=>?_|refine Ql fun A B hA hB=>?_|refine Qm ?_|refine Qn ?_|refine Qp ?_|refine Qr ?_)
 | ((with_reducible first|apply Qy|apply Qz|apply QA)<;>intro hb<;>try simp only [nr] at hb)
 | simp only [go_sem,↓reduceIte,reduceIte,Qa,Qh,Qb,Qc,Qd,Qe,Qf,Qg,reduceCtorEq, *,-hs,-hsc,-hsp,-hcl,-hy1,-hy2,Int.reduceEq]
 | with_reducible refine fun (bn:Bool) hbn=>?_))
  refine SpecC.ent (Ent.ren 3 21 (by simp only [go_sem,↓reduceIte,reduceIte,Qa,Qh,Qb,Qc,Qd,Qe,Qf,Qg,reduceCtorEq, *,-hs,-hsc,-hsp,-hcl,-hy1,-hy2]; done) (by simp only [go_sem,↓reduceIte,reduceIte,Qa,Qh,Qb,Qc,Qd,Qe,Qf,Qg,reduceCtorEq, *,-hs,-hsc,-hsp,-hcl,-hy1,-hy2]; done)) ?_
  clear hk hwk hsc hro
  generalize hY:[(⟨r_kind+1,r_to⟩:Key)]=ys0 at *
  have hYl:ys0.length=1:=by rw [← hY]; rfl
  have hYa:avs ys0=[AV.agg [.int .i64 (r_kind+1),.str r_to]]:=by rw [← hY]; rfl
  refine Qs [1] (fun m ts'=>∃ (i:Nat),∃ (g:Nat),∃ (ys:List Key),m=r_rules.length - i∧i≤r_rules.length∧foldR r_rules ys0=foldR (r_rules.drop i) ys∧ys.length+(keysR (r_rules.drop i)).length≤(keysR r_rules).length+1∧(∀ x∈ys,Small x.name.length)∧ts'.tmp 3=.os 3 g ys.length∧ts'.gen 3=g∧ts'.obj 3=.arr 2 (avs ys)∧ts'.tmp 4=.int .i64 i) r_rules.length ?_ ?_
  ·refine ⟨0,ts.gen 3+1,ys0,rfl,Nat.zero_le _,rfl,by simp; omega,hy2,?_⟩
   simp only [go_sem,↓reduceIte,reduceIte,Qa,Qh,Qb,Qc,Qd,Qe,Qf,Qg,reduceCtorEq, *,-hs,-hsp,-hcl,-hy2,-hY]
  ·clear hY hYl hYa
   rintro m A hM ts' hk ⟨i,g,ys,hm,f1,f2,f3,f4,s1,s2,s3,s4⟩
   simp only [go_sem,↓reduceIte,reduceIte,Qa,Qh,Qb,Qc,Qd,Qe,Qf,Qg,reduceCtorEq, *] at hk
   by_cases hlt:i < r_rules.length
   ·rw [List.drop_eq_getElem_cons hlt,foldR_cons] at f2
    rw [List.drop_eq_getElem_cons hlt,keysR_cons,List.length_append] at f3
    have hspi:=hsp _ (QC hlt)
    have hcli:=hcl _ (QC hlt)
    (repeat' (first
 | (with_reducible first|refine callX.by (sane03_c _ _ _ _ _ _ _ ?_ ?_ ?_) ?_|refine callX.by (kput_c _ _ _ ?_ ?_ ?_) ?_|assumption|(refine Qw hK _ ?_; clear hK K)|refine Qw ‹_› _ ?_|refine Qx ‹_› ?_|refine Qi fun K hK=>?_|refine Qj T fun K hK=>?_|refine Ql fun A B hA hB=>?_|refine Qm ?_|refine Qn ?_|refine Qp ?_|refine Qr ?_)
 | ((with_reducible first|apply Qy|apply Qz|apply QA)<;>intro hb<;>try simp only [nr] at hb)
 | simp only [go_sem,↓reduceIte,reduceIte,Qa,Qh,Qb,Qc,Qd,Qe,Qf,Qg,reduceCtorEq, *,-hs,-hsp,-hcl,-hy2,-f2,-f3,-f4,-hcli]
 | with_reducible refine fun (bn:Bool) hbn=>?_))
    refine Qs [1,4] (fun m ts'=>∃ (j:Nat),∃ (g:Nat),∃ (ys:List Key),m=r_rules[i].split.length - j∧j≤r_rules[i].split.length∧foldR r_rules ys0=foldR (r_rules.drop (i+1)) (foldW (r_rules[i].split.drop j) ys)∧ys.length+((keysW (r_rules[i].split.drop j)).length+(keysR (r_rules.drop (i+1))).length)≤(keysR r_rules).length+1∧(∀ x∈ys,Small x.name.length)∧ts'.tmp 3=.os 3 g ys.length∧ts'.gen 3=g∧ts'.obj 3=.arr 2 (avs ys)∧ts'.tmp 5=.int .i64 j) r_rules[i].split.length ?_ ?_
    ·refine ⟨0,g,ys,rfl,Nat.zero_le _,f2,f3,f4,?_⟩
     simp only [go_sem,↓reduceIte,reduceIte,Qa,Qh,Qb,Qc,Qd,Qe,Qf,Qg,reduceCtorEq, *,-hs,-hsp,-hcl,-hy2,-f2,-f3,-f4,-hcli]
    ·clear f2 f3 f4
     revert hM
     intro hM0
     rintro m A hM ts' hk ⟨j,g,ys,hm,f1,f2,f3,f4,s1,s2,s3,s4⟩
     simp only [go_sem,↓reduceIte,reduceIte,Qa,Qh,Qb,Qc,Qd,Qe,Qf,Qg,reduceCtorEq, *] at hk
     have hly:Small ys.length:=by unfold Small; omega
     by_cases hjt:j < r_rules[i].split.length
     ·have hn1:=hcli _ (QC hjt)
      rw [List.drop_eq_getElem_cons hjt,foldW_cons] at f2
      rw [List.drop_eq_getElem_cons hjt,keysW_cons,List.length_append] at f3
      by_cases hp:0 < r_rules[i].split[j].w
      ·rw [if_pos hp] at f2 f3
       (repeat' (first
 | (with_reducible first|refine callX.by (sane03_c _ _ _ _ _ _ _ ?_ ?_ ?_) ?_|refine callX.by (kput_c _ _ _ ?_ ?_ ?_) ?_|assumption|(refine Qw hK _ ?_; clear hK K)|refine Qw ‹_› _ ?_|refine Qx ‹_› ?_|refine Qi fun K hK=>?_|refine Qj T fun K hK=>?_|refine Ql fun A B hA hB=>?_|refine Qm ?_|refine Qn ?_|refine Qp ?_|refine Qr ?_)
 | ((with_reducible first|apply Qy|apply Qz|apply QA)<;>intro hb<;>try simp only [nr] at hb)
 | simp only [go_sem,↓reduceIte,reduceIte,Qa,Qh,Qb,Qc,Qd,Qe,Qf,Qg,reduceCtorEq, *,-hs,-hsp,-hcl,-hy2,-f2,-f3,-hcli]
 | with_reducible refine fun (bn:Bool) hbn=>?_))
       all_goals ((repeat clear hK); (repeat clear hA); (repeat clear hB))
       have hkl2:=kput_length ys ⟨2,r_rules[i].split[j].cluster⟩
       (refine hM.onE (r_rules[i].split.length - (j+1)) (Ent.ren 3 63 ?_ ?_) ?_ ?_ ?_; (focus (simp only [go_sem,↓reduceIte,reduceIte,Qa,Qh,Qb,Qc,Qd,Qe,Qf,Qg,reduceCtorEq, *,w64_nat hjt hspi,-hs,-hsp,-hcl,-hy2,-f2,-f3,-hkl2,-hcli]; first|done|rfl)); (focus (simp only [go_sem,↓reduceIte,reduceIte,Qa,Qh,Qb,Qc,Qd,Qe,Qf,Qg,reduceCtorEq, *,w64_nat hjt hspi,-hs,-hsp,-hcl,-hy2,-f2,-f3,-hkl2,-hcli]; first|done|rfl)); omega; (focus (simp only [go_sem,↓reduceIte,reduceIte,Qa,Qh,Qb,Qc,Qd,Qe,Qf,Qg,reduceCtorEq, *,w64_nat hjt hspi,-hs,-hsp,-hcl,-hy2,-f2,-f3,-hkl2,-hcli]; done)); refine ⟨j+1,g+1,kput ys ⟨2,r_rules[i].split[j].cluster⟩,rfl,by omega,f2,by simp only [List.length_singleton] at f3; omega,fun x hx=>(kput_mem hx).elim (fun e=>by rw [e]; exact hn1) (f4 x),?_⟩; simp only [go_sem,↓reduceIte,reduceIte,Qa,Qh,Qb,Qc,Qd,Qe,Qf,Qg,reduceCtorEq, *,w64_nat hjt hspi,-hs,-hsp,-hcl,-hy2,-f2,-f3,-hkl2,-hcli]; done)
      ·rw [if_neg hp] at f2 f3
       (repeat' (first
 | (with_reducible first|refine callX.by (sane03_c _ _ _ _ _ _ _ ?_ ?_ ?_) ?_|refine callX.by (kput_c _ _ _ ?_ ?_ ?_) ?_|assumption|(refine Qw hK _ ?_; clear hK K)|refine Qw ‹_› _ ?_|refine Qx ‹_› ?_|refine Qi fun K hK=>?_|refine Qj T fun K hK=>?_|refine Ql fun A B hA hB=>?_|refine Qm ?_|refine Qn ?_|refine Qp ?_|refine Qr ?_)
 | ((with_reducible first|apply Qy|apply Qz|apply QA)<;>intro hb<;>try simp only [nr] at hb)
 | simp only [go_sem,↓reduceIte,reduceIte,Qa,Qh,Qb,Qc,Qd,Qe,Qf,Qg,reduceCtorEq, *,-hs,-hsp,-hcl,-hy2,-f2,-f3,-hcli]
 | with_reducible refine fun (bn:Bool) hbn=>?_))
       all_goals ((repeat clear hK); (repeat clear hA); (repeat clear hB))
       (refine hM.on (r_rules[i].split.length - (j+1)) (by omega) (by simp only [go_sem,↓reduceIte,reduceIte,Qa,Qh,Qb,Qc,Qd,Qe,Qf,Qg,reduceCtorEq, *,w64_nat hjt hspi,-hs,-hsp,-hcl,-hy2,-f2,-f3,-hcli]) ⟨j+1,g,ys,rfl,by omega,f2,by simp only [List.length_nil] at f3; omega,f4,?_⟩; simp only [go_sem,↓reduceIte,reduceIte,Qa,Qh,Qb,Qc,Qd,Qe,Qf,Qg,reduceCtorEq, *,w64_nat hjt hspi,-hs,-hsp,-hcl,-hy2,-f2,-f3,-hcli]; done)
     ·rw [List.drop_eq_nil_of_le (show r_rules[i].split.length≤j by omega)] at f2
      rw [show foldW [] ys=ys from rfl] at f2
      (repeat' (first
 | (with_reducible first|refine callX.by (sane03_c _ _ _ _ _ _ _ ?_ ?_ ?_) ?_|refine callX.by (kput_c _ _ _ ?_ ?_ ?_) ?_|assumption|(refine Qw hK _ ?_; clear hK K)|refine Qw ‹_› _ ?_|refine Qx ‹_› ?_|refine Qi fun K hK=>?_|refine Qj T fun K hK=>?_|refine Ql fun A B hA hB=>?_|refine Qm ?_|refine Qn ?_|refine Qp ?_|refine Qr ?_)
 | ((with_reducible first|apply Qy|apply Qz|apply QA)<;>intro hb<;>try simp only [nr] at hb)
 | simp only [go_sem,↓reduceIte,reduceIte,Qa,Qh,Qb,Qc,Qd,Qe,Qf,Qg,reduceCtorEq, *,-hs,-hsp,-hcl,-hy2,-f2,-f3,-hcli]
 | with_reducible refine fun (bn:Bool) hbn=>?_))
      all_goals ((repeat clear hK); (repeat clear hA); (repeat clear hB))
      all_goals (clear hM; revert hM0; intro hM)
      (refine hM.on (r_rules.length - (i+1)) (by omega) (by simp only [go_sem,↓reduceIte,reduceIte,Qa,Qh,Qb,Qc,Qd,Qe,Qf,Qg,reduceCtorEq, *,w64_nat hlt hl,-hs,-hsp,-hcl,-hy2,-f2,-f3,-hcli]) ⟨i+1,ts'.gen 3,ys,rfl,by omega,f2,by omega,f4,?_⟩; simp only [go_sem,↓reduceIte,reduceIte,Qa,Qh,Qb,Qc,Qd,Qe,Qf,Qg,reduceCtorEq, *,w64_nat hlt hl,-hs,-hsp,-hcl,-hy2,-f2,-f3,-hcli]; done)
   ·rw [List.drop_eq_nil_of_le (by omega)] at f2
    rw [show foldR [] ys=ys from rfl] at f2
    (repeat' (first
 | (with_reducible first|refine callX.by (sane03_c _ _ _ _ _ _ _ ?_ ?_ ?_) ?_|refine callX.by (kput_c _ _ _ ?_ ?_ ?_) ?_|assumption|(refine Qw hK _ ?_; clear hK K)|refine Qw ‹_› _ ?_|refine Qx ‹_› ?_|refine Qi fun K hK=>?_|refine Qj T fun K hK=>?_|refine Ql fun A B hA hB=>?_|refine Qm ?_|refine Qn ?_|refine Qp ?_|refine Qr ?_)
 | ((with_reducible first|apply Qy|apply Qz|apply QA)<;>intro hb<;>try simp only [nr] at hb)
 | simp only [go_sem,↓reduceIte,reduceIte,Qa,Qh,Qb,Qc,Qd,Qe,Qf,Qg,reduceCtorEq, *,-hs,-hsp,-hcl,-hy2,-f2,-f3]
 | with_reducible refine fun (bn:Bool) hbn=>?_))
    all_goals ((repeat clear hK); (repeat clear hA); (repeat clear hB))
    all_goals (first|rfl|(rw [f2]; done)|(rw [f2]; simp; done))
 ·rw [if_neg hk]
  clear hys0
  obtain ⟨ys0,hY⟩:∃ ys0:List Key,ys0=[]:=⟨_,rfl⟩
  rw [← hY]
  refine CallR.go1 (T:=T) Tryz.call75 Tryz.func75 rfl Tryz.ntmps75 (congrArg Array.toList Tryz.results75) (by decide) fun ts hn h0=>?_
  (repeat' (first
 | (with_reducible first|refine callX.by (hsc) ?_|refine callX.by (sane03_c _ _ _ _ _ _ _ ?_ ?_ ?_) ?_|refine callX.by (kput_c _ _ _ ?_ ?_ ?_) ?_|assumption|(refine Qw hK _ ?_; clear hK K)|refine Qw ‹_› _ ?_|refine Qx ‹_› ?_|refine Qi fun K hK=>?_|refine Qj T fun K hK=>?_|refine Ql fun A B hA hB=>?_|refine Qm ?_|refine Qn ?_|refine Qp ?_|refine Qr ?_)
 | ((with_reducible first|apply Qy|apply Qz|apply QA)<;>intro hb<;>try simp only [nr] at hb)
 | simp only [go_sem,↓reduceIte,reduceIte,Qa,Qh,Qb,Qc,Qd,Qe,Qf,Qg,reduceCtorEq, *,-hs,-hsc,-hsp,-hcl,-hY,Int.reduceEq]
 | with_reducible refine fun (bn:Bool) hbn=>?_))
  refine SpecC.ent (Ent.virt 3 2 (by simp only [go_sem,↓reduceIte,reduceIte,Qa,Qh,Qb,Qc,Qd,Qe,Qf,Qg,reduceCtorEq, *,-hs,-hsc,-hsp,-hcl,-hY]) (by decide)) ?_
  clear hk hwk hsc hro
  have hYl:ys0.length=0:=by rw [hY]; rfl
  have hYa:avs ys0=[]:=by rw [hY]; rfl
  have hy2:∀ x∈ys0,Small x.name.length:=by rw [hY]; simp
  refine Qs [1] (fun m ts'=>∃ (i:Nat),∃ (g:Nat),∃ (ys:List Key),m=r_rules.length - i∧i≤r_rules.length∧foldR r_rules ys0=foldR (r_rules.drop i) ys∧ys.length+(keysR (r_rules.drop i)).length≤(keysR r_rules).length+1∧(∀ x∈ys,Small x.name.length)∧ts'.tmp 3=.os 3 g ys.length∧ts'.gen 3=g∧ts'.obj 3=.arr 2 (avs ys)∧ts'.tmp 4=.int .i64 i) r_rules.length ?_ ?_
  ·refine ⟨0,ts.gen 3+1,ys0,rfl,Nat.zero_le _,rfl,by simp; omega,hy2,?_⟩
   simp only [go_sem,↓reduceIte,reduceIte,Qa,Qh,Qb,Qc,Qd,Qe,Qf,Qg,reduceCtorEq, *,-hs,-hsp,-hcl,-hy2,-hY]
  ·clear hY hYl hYa
   rintro m A hM ts' hk ⟨i,g,ys,hm,f1,f2,f3,f4,s1,s2,s3,s4⟩
   simp only [go_sem,↓reduceIte,reduceIte,Qa,Qh,Qb,Qc,Qd,Qe,Qf,Qg,reduceCtorEq, *] at hk
   by_cases hlt:i < r_rules.length
   ·rw [List.drop_eq_getElem_cons hlt,foldR_cons] at f2
    rw [List.drop_eq_getElem_cons hlt,keysR_cons,List.length_append] at f3
    have hspi:=hsp _ (QC hlt)
    have hcli:=hcl _ (QC hlt)
    (repeat' (first
 | (with_reducible first|refine callX.by (sane03_c _ _ _ _ _ _ _ ?_ ?_ ?_) ?_|refine callX.by (kput_c _ _ _ ?_ ?_ ?_) ?_|assumption|(refine Qw hK _ ?_; clear hK K)|refine Qw ‹_› _ ?_|refine Qx ‹_› ?_|refine Qi fun K hK=>?_|refine Qj T fun K hK=>?_|refine Ql fun A B hA hB=>?_|refine Qm ?_|refine Qn ?_|refine Qp ?_|refine Qr ?_)
 | ((with_reducible first|apply Qy|apply Qz|apply QA)<;>intro hb<;>try simp only [nr] at hb)
 | simp only [go_sem,↓reduceIte,reduceIte,Qa,Qh,Qb,Qc,Qd,Qe,Qf,Qg,reduceCtorEq, *,-hs,-hsp,-hcl,-hy2,-f2,-f3,-f4,-hcli]
 | with_reducible refine fun (bn:Bool) hbn=>?_))
    refine Qs [1,4] (fun m ts'=>∃ (j:Nat),∃ (g:Nat),∃ (ys:List Key),m=r_rules[i].split.length - j∧j≤r_rules[i].split.length∧foldR r_rules ys0=foldR (r_rules.drop (i+1)) (foldW (r_rules[i].split.drop j) ys)∧ys.length+((keysW (r_rules[i].split.drop j)).length+(keysR (r_rules.drop (i+1))).length)≤(keysR r_rules).length+1∧(∀ x∈ys,Small x.name.length)∧ts'.tmp 3=.os 3 g ys.length∧ts'.gen 3=g∧ts'.obj 3=.arr 2 (avs ys)∧ts'.tmp 5=.int .i64 j) r_rules[i].split.length ?_ ?_
    ·refine ⟨0,g,ys,rfl,Nat.zero_le _,f2,f3,f4,?_⟩
     simp only [go_sem,↓reduceIte,reduceIte,Qa,Qh,Qb,Qc,Qd,Qe,Qf,Qg,reduceCtorEq, *,-hs,-hsp,-hcl,-hy2,-f2,-f3,-f4,-hcli]
    ·clear f2 f3 f4
     revert hM
     intro hM0
     rintro m A hM ts' hk ⟨j,g,ys,hm,f1,f2,f3,f4,s1,s2,s3,s4⟩
     simp only [go_sem,↓reduceIte,reduceIte,Qa,Qh,Qb,Qc,Qd,Qe,Qf,Qg,reduceCtorEq, *] at hk
     have hly:Small ys.length:=by unfold Small; omega
     by_cases hjt:j < r_rules[i].split.length
     ·have hn1:=hcli _ (QC hjt)
      rw [List.drop_eq_getElem_cons hjt,foldW_cons] at f2
      rw [List.drop_eq_getElem_cons hjt,keysW_cons,List.length_append] at f3
      by_cases hp:0 < r_rules[i].split[j].w
      ·rw [if_pos hp] at f2 f3
       (repeat' (first
 | (with_reducible first|refine callX.by (sane03_c _ _ _ _ _ _ _ ?_ ?_ ?_) ?_|refine callX.by (kput_c _ _ _ ?_ ?_ ?_) ?_|assumption|(refine Qw hK _ ?_; clear hK K)|refine Qw ‹_› _ ?_|refine Qx ‹_› ?_|refine Qi fun K hK=>?_|refine Qj T fun K hK=>?_|refine Ql fun A B hA hB=>?_|refine Qm ?_|refine Qn ?_|refine Qp ?_|refine Qr ?_)
 | ((with_reducible first|apply Qy|apply Qz|apply QA)<;>intro hb<;>try simp only [nr] at hb)
 | simp only [go_sem,↓reduceIte,reduceIte,Qa,Qh,Qb,Qc,Qd,Qe,Qf,Qg,reduceCtorEq, *,-hs,-hsp,-hcl,-hy2,-f2,-f3,-hcli]
 | with_reducible refine fun (bn:Bool) hbn=>?_))
       all_goals ((repeat clear hK); (repeat clear hA); (repeat clear hB))
       have hkl2:=kput_length ys ⟨2,r_rules[i].split[j].cluster⟩
       (refine hM.onE (r_rules[i].split.length - (j+1)) (Ent.ren 3 63 ?_ ?_) ?_ ?_ ?_; (focus (simp only [go_sem,↓reduceIte,reduceIte,Qa,Qh,Qb,Qc,Qd,Qe,Qf,Qg,reduceCtorEq, *,w64_nat hjt hspi,-hs,-hsp,-hcl,-hy2,-f2,-f3,-hkl2,-hcli]; first|done|rfl)); (focus (simp only [go_sem,↓reduceIte,reduceIte,Qa,Qh,Qb,Qc,Qd,Qe,Qf,Qg,reduceCtorEq, *,w64_nat hjt hspi,-hs,-hsp,-hcl,-hy2,-f2,-f3,-hkl2,-hcli]; first|done|rfl)); omega; (focus (simp only [go_sem,↓reduceIte,reduceIte,Qa,Qh,Qb,Qc,Qd,Qe,Qf,Qg,reduceCtorEq, *,w64_nat hjt hspi,-hs,-hsp,-hcl,-hy2,-f2,-f3,-hkl2,-hcli]; done)); refine ⟨j+1,g+1,kput ys ⟨2,r_rules[i].split[j].cluster⟩,rfl,by omega,f2,by simp only [List.length_singleton] at f3; omega,fun x hx=>(kput_mem hx).elim (fun e=>by rw [e]; exact hn1) (f4 x),?_⟩; simp only [go_sem,↓reduceIte,reduceIte,Qa,Qh,Qb,Qc,Qd,Qe,Qf,Qg,reduceCtorEq, *,w64_nat hjt hspi,-hs,-hsp,-hcl,-hy2,-f2,-f3,-hkl2,-hcli]; done)
      ·rw [if_neg hp] at f2 f3
       (repeat' (first
 | (with_reducible first|refine callX.by (sane03_c _ _ _ _ _ _ _ ?_ ?_ ?_) ?_|refine callX.by (kput_c _ _ _ ?_ ?_ ?_) ?_|assumption|(refine Qw hK _ ?_; clear hK K)|refine Qw ‹_› _ ?_|refine Qx ‹_› ?_|refine Qi fun K hK=>?_|refine Qj T fun K hK=>?_|refine Ql fun A B hA hB=>?_|refine Qm ?_|refine Qn ?_|refine Qp ?_|refine Qr ?_)
 | ((with_reducible first|apply Qy|apply Qz|apply QA)<;>intro hb<;>try simp only [nr] at hb)
 | simp only [go_sem,↓reduceIte,reduceIte,Qa,Qh,Qb,Qc,Qd,Qe,Qf,Qg,reduceCtorEq, *,-hs,-hsp,-hcl,-hy2,-f2,-f3,-hcli]
 | with_reducible refine fun (bn:Bool) hbn=>?_))
       all_goals ((repeat clear hK); (repeat clear hA); (repeat clear hB))
       (refine hM.on (r_rules[i].split.length - (j+1)) (by omega) (by simp only [go_sem,↓reduceIte,reduceIte,Qa,Qh,Qb,Qc,Qd,Qe,Qf,Qg,reduceCtorEq, *,w64_nat hjt hspi,-hs,-hsp,-hcl,-hy2,-f2,-f3,-hcli]) ⟨j+1,g,ys,rfl,by omega,f2,by simp only [List.length_nil] at f3; omega,f4,?_⟩; simp only [go_sem,↓reduceIte,reduceIte,Qa,Qh,Qb,Qc,Qd,Qe,Qf,Qg,reduceCtorEq, *,w64_nat hjt hspi,-hs,-hsp,-hcl,-hy2,-f2,-f3,-hcli]; done)
     ·rw [List.drop_eq_nil_of_le (show r_rules[i].split.length≤j by omega)] at f2
      rw [show foldW [] ys=ys from rfl] at f2
      (repeat' (first
 | (with_reducible first|refine callX.by (sane03_c _ _ _ _ _ _ _ ?_ ?_ ?_) ?_|refine callX.by (kput_c _ _ _ ?_ ?_ ?_) ?_|assumption|(refine Qw hK _ ?_; clear hK K)|refine Qw ‹_› _ ?_|refine Qx ‹_› ?_|refine Qi fun K hK=>?_|refine Qj T fun K hK=>?_|refine Ql fun A B hA hB=>?_|refine Qm ?_|refine Qn ?_|refine Qp ?_|refine Qr ?_)
 | ((with_reducible first|apply Qy|apply Qz|apply QA)<;>intro hb<;>try simp only [nr] at hb)
 | simp only [go_sem,↓reduceIte,reduceIte,Qa,Qh,Qb,Qc,Qd,Qe,Qf,Qg,reduceCtorEq, *,-hs,-hsp,-hcl,-hy2,-f2,-f3,-hcli]
 | with_reducible refine fun (bn:Bool) hbn=>?_))
      all_goals ((repeat clear hK); (repeat clear hA); (repeat clear hB))
      all_goals (clear hM; revert hM0; intro hM)
      (refine hM.on (r_rules.length - (i+1)) (by omega) (by simp only [go_sem,↓reduceIte,reduceIte,Qa,Qh,Qb,Qc,Qd,Qe,Qf,Qg,reduceCtorEq, *,w64_nat hlt hl,-hs,-hsp,-hcl,-hy2,-f2,-f3,-hcli]) ⟨i+1,ts'.gen 3,ys,rfl,by omega,f2,by omega,f4,?_⟩; simp only [go_sem,↓reduceIte,reduceIte,Qa,Qh,Qb,Qc,Qd,Qe,Qf,Qg,reduceCtorEq, *,w64_nat hlt hl,-hs,-hsp,-hcl,-hy2,-f2,-f3,-hcli]; done)
   ·rw [List.drop_eq_nil_of_le (by omega)] at f2
    rw [show foldR [] ys=ys from rfl] at f2
    (repeat' (first
 | (with_reducible first|refine callX.by (sane03_c _ _ _ _ _ _ _ ?_ ?_ ?_) ?_|refine callX.by (kput_c _ _ _ ?_ ?_ ?_) ?_|assumption|(refine Qw hK _ ?_; clear hK K)|refine Qw ‹_› _ ?_|refine Qx ‹_› ?_|refine Qi fun K hK=>?_|refine Qj T fun K hK=>?_|refine Ql fun A B hA hB=>?_|refine Qm ?_|refine Qn ?_|refine Qp ?_|refine Qr ?_)
 | ((with_reducible first|apply Qy|apply Qz|apply QA)<;>intro hb<;>try simp only [nr] at hb)
 | simp only [go_sem,↓reduceIte,reduceIte,Qa,Qh,Qb,Qc,Qd,Qe,Qf,Qg,reduceCtorEq, *,-hs,-hsp,-hcl,-hy2,-f2,-f3]
 | with_reducible refine fun (bn:Bool) hbn=>?_))
    all_goals ((repeat clear hK); (repeat clear hA); (repeat clear hB))
    all_goals (first|rfl|(rw [f2]; done)|(rw [f2]; simp; done))
end Go.Proofs.YtmjkjmoeicnbnaaGreatDoor.Lg
