/- Parts of the proof, one behind the other. -/
import Derived.Test.YtmjkjmoeicnbnaaGreatDoorG13
namespace Go.Proofs.YtmjkjmoeicnbnaaGreatDoor.Lg
set_option maxRecDepth 100000
set_option linter.unusedVariables false
set_option linter.unusedSimpArgs false
open Go
open Nat renaming reduceEqDiff → Qa, reduceLT → Qb, reduceLeDiff → Qc, reduceAdd → Qd, reduceMul → Qe, reduceSub → Qf, reduceBEq → Qg
open String renaming reduceEq → Qh
open SpecC renaming seqW → Qi, regW → Qj, drawW → Qk, condW → Ql, block → Qm, skip → Qn, exit → Qp, ret → Qr, loopF → Qs
open NxK renaming out → Qw
open Nx renaming out → Qx
open condK renaming split → Qy
open gK renaming split_t → Qz, split_f → QA
theorem kswo:Go.Sort.SWO (ltOf kcmp) where
 irrefl x:=by simp only [ltOf,decide_eq_false_iff_not]; exact kcmp_irrefl x
 trans x y z h k:=by
  simp only [ltOf,decide_eq_true_eq] at h k ⊢
  exact kcmp_trans x y z h k
 ntrans x y z h k:=by
  simp only [ltOf,decide_eq_false_iff_not] at h k ⊢
  intro h3
  by_cases h4:kcmp y z=0
  ·have:=kcmp_zero _ _ h4; subst this; exact h h3
  ·have h5:kcmp z y < 0:=by have:=kcmp_swap y z; omega
   exact h (kcmp_trans _ _ _ h3 h5)
theorem ktot (x y:Key) (h:ltOf kcmp x y=false) (k:ltOf kcmp y x=false):x=y:=by
 simp only [ltOf,decide_eq_false_iff_not] at h k
 have:=kcmp_swap x y
 exact kcmp_zero _ _ (by omega)
def kenc (k:Key):List Value:=[.int .i64 k.kind,.string ⟨k.name.toArray⟩]
theorem kenc_rep {c:Ctx} {v:Value} {k:Key} {j:Nat} (hj:j < 2) (h:Rep c v ((Dat.av k).cells.getD j .any)):v=(kenc k)[j]!:=by
 match j,hj with
 | 0,_ =>
  change Rep c v (.int .i64 k.kind) at h
  cases h; rfl
 | 1,_ =>
  change Rep c v (.str k.name) at h
  cases h with
  | str s _ h =>
   obtain ⟨a⟩:=s
   have e:a=k.name.toArray:=by rw [← h]
   subst e; rfl
theorem rep_kenc (c:Ctx) (k:Key) {j:Nat} (hj:j < 2):Rep c ((kenc k)[j]!) ((Dat.av k).cells.getD j .any):=by
 match j,hj with
 | 0,_=>exact .int _ _
 | 1,_=>exact .str _ _ rfl
theorem kcmp_top (x y:Key) (W:World):Calls Tryz.prog 73 #[.agg (kenc x).toArray,.agg (kenc y).toArray] W fun e w'=>e=.returned (.int .i64 (kcmp x y))∧∃ q os',w'=Go.Sort.grow (W.drewN q) os':=by
 have eg:∀ args w,(callFunc 73 args).run Tryz.prog w=.ok (.enter 73 args) w:=enters_of Tryz.func73 (by kernel_rfl) rfl
 have hx:∀ (z:Key) (j:Nat),Rep (ctx0 W) ((kenc z).toArray.getD j undef) (([.int .i64 z.kind,.str z.name]:List AV).getD j .any):=fun z j=>by
  match j with
  | 0=>exact .int _ _
  | 1=>exact .str _ _ rfl
  | j+2=>exact .any _
 have h:=(kcmp_c x.kind y.kind x.name y.name).top #[.agg (kenc x).toArray,.agg (kenc y).toArray] W rfl fun i=>by
  match i with
  | 0=>exact .agg _ _ rfl (hx x)
  | 1=>exact .agg _ _ rfl (hx y)
  | i+2=>exact .any _
 rw [eg] at h
 refine Calls.mono h ?_
 rintro e w' ⟨v,rfl,hv,hg⟩
 cases hv
 exact ⟨rfl,hg.grown⟩
open Go.Sort in
theorem sortKey_c (xs:List Key) (hl:Small xs.length):CallA Tryz.prog 72 73 2 (avs xs) (avs (ksort xs)):=by
 intro E ts G a w d v0 hrel hob hos
 have L:=Tryz.sortKey
 have e6:∀ args w,(callFunc 72 args).run Tryz.prog w=.ok (.enter 72 args) w:=enters_of Tryz.func72 (by kernel_rfl) rfl
 have eg:∀ args w,(callFunc 73 args).run Tryz.prog w=.ok (.enter 73 args) w:=enters_of Tryz.func73 (by kernel_rfl) rfl
 rw [e6]
 show Calls _ _ _ _ _
 have hobk:=hrel.obj d
 rw [hob] at hobk
 obtain ⟨_,hcl,hobk⟩:=hobk
 unfold OsIs at hos
 have hcl':∀ x∈avs (ksort xs),x.cells.length=2:=fun x hx=>by
  simp only [avs,List.mem_map] at hx
  obtain ⟨k,_,rfl⟩:=hx
  rfl
 cases hκ:G.κ d with
 | none =>
  have hκ':(ctxOf E G ts w).κ d=none:=hκ
  rw [hκ'] at hos hobk
  obtain ⟨hlen,ad,rfl⟩:=hos
  have hx:xs=[]:=List.eq_nil_of_length_eq_zero (by simpa [avs] using hlen)
  subst hx
  have h:=AnyF.slices_SortFunc_none L ad 0 (.func (.func 73) #[] #[]) w
  change Calls _ 72 _ _ _ at h
  refine h.mono ?_
  rintro e w' ⟨rfl,rfl⟩
  refine ⟨rfl,⟨rfl,rfl,rfl,Nat.le_refl _,Nat.le_refl _,fun _ _ _=>rfl⟩,by decide,hcl',?_⟩
  have hκ2:(ctxOf E G (ts.setObj d (.arr 2 (avs (ksort [])))) w').κ d=none:=hκ
  rw [hκ2]
  show avs (ksort [])=[]
  simp [ksort,avs]
 | some cap =>
  have hκ':(ctxOf E G ts w).κ d=some cap:=hκ
  rw [hκ'] at hos hobk
  obtain ⟨rfl,hle⟩:=hos
  obtain ⟨vs,T,hh,hsz,hlc,hcells⟩:=hobk
  have hlen:(avs xs).length=xs.length:=by simp [avs]
  rw [hlen] at hlc hle hcells ⊢
  have hval:∀ t,t < xs.length * 2→vs[t]?=some ((flatK kenc 2 xs.toArray)[t]!):=fun t ht=>by
   have h2:t < vs.size:=by omega
   rw [get_flatK _ _ _ _ (by simpa using ht)]
   have hq:t / 2 < xs.length:=by omega
   have h:=hcells (t / 2) (t % 2) hq (by omega)
   have e:t / 2 * 2+t % 2=t:=by omega
   rw [e] at h
   have e2:(avs xs).getD (t / 2) .any=Dat.av xs[t / 2]:=by simp [avs,hq]
   rw [e2] at h
   have:=kenc_rep (by omega) h
   rw [Array.getElem?_eq_getElem h2]
   have e3:vs.getD t undef=vs[t]:=by simp [Array.getD,h2]
   rw [e3] at this
   rw [this]
   congr 2
   simp [hq]
  have hblk:G.β d < w.heap.size:=by
   have:w.heap[G.β d]?=_:=hh
   by_cases hb:G.β d < w.heap.size
   ·exact hb
   ·rw [Array.getElem?_eq_none (by omega)] at this; cases this
  have hH:HoldsK kenc 2 w (G.β d) 0 xs.toArray:=fun j hj=>by
   rw [size_flatK] at hj
   have hj':j < xs.length * 2:=by simpa using hj
   have hh':w.heap[G.β d]?=some (.cells vs T (0,0)):=hh
   constructor
   ·simp only [World.cell?,hh',Nat.zero_add]
    exact hval j hj'
   ·simp only [World.frozen?,hh']
    simp
  have hcmp:CmpLays Tryz.prog 73 #[] kenc 2 kcmp (G.β d) 0 xs.toArray.size w:=fun m os dk hdk x y=>by
   have h:=kcmp_top x y (sortWorldK kenc 2 w (G.β d) 0 m dk os)
   simpa using h
  have h:=AnyQ.slices_SortFunc_total L 2 Tryz.isAgg24 Tryz.sizeOf24 kenc (fun _=>rfl) (fun x v hv=>by
   simp only [kenc,List.mem_cons,List.not_mem_nil,or_false] at hv
   rcases hv with rfl|rfl<;>rfl) kcmp kswo 73 #[] (G.β d) 0 cap xs.toArray w eg hcmp hH hblk (by unfold Small at hl; simp; omega) ktot
  change Calls _ 72 _ _ _ at h
  have hsa:xs.toArray.size=xs.length:=by simp
  rw [hsa] at h
  refine h.mono ?_
  rintro e w' ⟨rfl,n,os,rfl⟩
  have hks:(xs.toArray.toList.mergeSort fun x y=>!(ltOf kcmp) y x)=ksort xs:=rfl
  rw [hks]
  have hh':w.heap[G.β d]?=some (.cells vs T (0,0)):=hh
  have hnew:(sortWorldK kenc 2 w (G.β d) 0 n (ksort xs).toArray os).heap[G.β d]?=some (.cells (putCells id 0 (flatK kenc 2 (ksort xs).toArray) vs) T (0,0)):=by
   simp only [sortWorldK,grow,putRowK,putRow,mapBlock,Go.Sort.ahead]
   rw [Array.getElem?_append_left (by simpa using hblk),Array.getElem?_modify,if_pos rfl,hh']
   rfl
  refine ⟨rfl,⟨rfl,rfl,rfl,?_,?_,fun i hi hne=>?_⟩,by decide,hcl',?_⟩
  ·simp only [sortWorldK,grow,putRowK,putRow,mapBlock,Go.Sort.ahead]; simp
  ·simp only [sortWorldK,grow,putRowK,putRow,mapBlock,Go.Sort.ahead]; omega
  ·have hlive:liveR ts G d:=⟨by simp [hob,Ob.kind],by rw [hκ]; simp⟩
   have hne:=hne hlive
   simp only [sortWorldK,grow,putRowK,putRow,mapBlock,Go.Sort.ahead]
   rw [Array.getElem?_append_left (by simpa using hi),Array.getElem?_modify,if_neg (fun h=>hne h.symm)]
  ·have hκ2:(ctxOf E G (ts.setObj d (.arr 2 (avs (ksort xs)))) (sortWorldK kenc 2 w (G.β d) 0 n (ksort xs).toArray os)).κ d=some cap:=hκ
   rw [hκ2]
   have hlen2:(avs (ksort xs)).length=xs.length:=by simp [avs,ksort_length]
   refine ⟨_,T,hnew,by simp [putCells,hsz],by rw [hlen2]; exact hlc,fun i j hi hj=>?_⟩
   rw [hlen2] at hi
   have hi2:i < (ksort xs).length:=by rw [ksort_length]; exact hi
   have ht:i * 2+j < vs.size:=by omega
   have e2:(avs (ksort xs)).getD i .any=Dat.av (ksort xs)[i]:=by simp [avs,hi2]
   rw [e2]
   have e3:(putCells id 0 (flatK kenc 2 (ksort xs).toArray) vs).getD (i * 2+j) undef=(kenc (ksort xs)[i])[j]!:=by
    have hf:i * 2+j < (ksort xs).toArray.size * 2:=by simp [ksort_length]; omega
    simp only [putCells,Array.getD,Array.size_mapIdx,ht,dite_true,Array.getInternal_eq_getElem,Array.getElem_mapIdx]
    rw [if_pos ⟨Nat.zero_le _,by rw [size_flatK]; omega⟩]
    simp only [Nat.sub_zero,id]
    rw [get_flatK _ _ _ _ hf]
    have e4:(i * 2+j) / 2=i:=by omega
    have e5:(i * 2+j) % 2=j:=by omega
    rw [e4,e5]
    congr 2
    simp [hi2]
   rw [e3]
   exact rep_kenc _ _ hj
@[go_sem] def Wd9:List (List Nat×List Nat):=[([16],[17,20,21,22,23,24]),([17],[16,20,21,22,23,24]),([18],[20,21,22,23,24]),([19],[20,21,22,23,24]),([20],[16,17,18,19,21,22]),([21],[16,17,18,19,20,24]),([22],[16,17,18,19,20]),([23],[16,17,18,19]),([24],[16,17,18,19,21])]
@[go_sem] def Wd10:List (List Nat×List Nat):=[([35],[36,39,40,41,42,43]),([36],[35,39,40,41,42,43]),([37],[39,40,41,42,43]),([38],[39,40,41,42,43]),([39],[35,36,37,38,40,41]),([40],[35,36,37,38,39,43]),([41],[35,36,37,38,39]),([42],[35,36,37,38]),([43],[35,36,37,38,40])]
theorem kcT_drop {xs:List Key} {k:Nat} (h0:0 < k) (h:k < xs.length):kcT (xs.drop (k - 1))=if xs[k]=xs[k - 1] then kcT (xs.drop k) else xs[k] :: kcT (xs.drop k):=by
 have e:xs.drop (k - 1)=xs[k - 1] :: xs[k] :: xs.drop (k+1):=by
  rw [List.drop_eq_getElem_cons (by omega:k - 1 < xs.length)]
  congr 1
  have:k - 1+1=k:=by omega
  rw [this,List.drop_eq_getElem_cons h]
 rw [e,kcT,← List.drop_eq_getElem_cons h]
theorem kcT_last {xs:List Key} {k:Nat} (h:xs.length≤k+1):kcT (xs.drop k)=[]:=by
 have:(xs.drop k).length≤1:=by simp; omega
 match hx:xs.drop k,this with
 | [],_=>rfl
 | [_],_=>rfl
set_option maxHeartbeats 4000000 in
theorem compactKey_c (xs:List Key) (hl:Small xs.length):CallM Tryz.prog 74 2 (avs xs) [] (.own 2 (avs (kcompact xs))):=by
 refine CallM.go0 (T:=T) Tryz.call74 Tryz.func74 rfl Tryz.ntmps74 (congrArg Array.toList Tryz.results74) (by decide) fun ts hn h0 hg0 ho0=>?_
 by_cases h2:xs.length < 2
 ·have hc:kcompact xs=xs:=by
   match xs,h2 with
   | [],_=>rfl
   | [_],_=>rfl
  (repeat' (first
 | (with_reducible first|assumption|(refine Qw hK _ ?_; clear hK K)|refine Qw ‹_› _ ?_|refine Qx ‹_› ?_|refine Qi fun K hK=>?_|refine Qj T fun K hK=>?_|refine Qk (id:=6) T mixed Wd9 (by kernel_rfl) fun K hK=>?_|refine Qk (id:=11) T mixed Wd10 (by kernel_rfl) fun K hK=>?_|refine Ql fun A B hA hB=>?_|refine Qm ?_|refine Qn ?_|refine Qp ?_|refine Qr ?_)
 | ((with_reducible first|apply Qy|apply Qz|apply QA)<;>intro hb<;>try simp only [nr] at hb)
 | simp only [go_sem,↓reduceIte,reduceIte,Qa,Qh,Qb,Qc,Qd,Qe,Qf,Qg,reduceCtorEq, *,hc]
 | with_reducible refine fun (bn:Bool) hbn=>?_))
 ·(repeat' (first
 | (with_reducible first|assumption|(refine Qw hK _ ?_; clear hK K)|refine Qw ‹_› _ ?_|refine Qx ‹_› ?_|refine Qi fun K hK=>?_|refine Qj T fun K hK=>?_|refine Qk (id:=6) T mixed Wd9 (by kernel_rfl) fun K hK=>?_|refine Qk (id:=11) T mixed Wd10 (by kernel_rfl) fun K hK=>?_|refine Ql fun A B hA hB=>?_|refine Qm ?_|refine Qn ?_|refine Qp ?_|refine Qr ?_)
 | ((with_reducible first|apply Qy|apply Qz|apply QA)<;>intro hb<;>try simp only [nr] at hb)
 | simp only [go_sem,↓reduceIte,reduceIte,Qa,Qh,Qb,Qc,Qd,Qe,Qf,Qg,reduceCtorEq, *]
 | with_reducible refine fun (bn:Bool) hbn=>?_))
  refine Qs [0] (fun m ts'=>∃ (k:Nat),m=xs.length - k∧1≤k∧k≤xs.length∧kcompact xs=xs.take k++kcT (xs.drop (k - 1))∧ts'.tmp 3=.int .i64 k) (xs.length - 1) ?_ ?_
  ·refine ⟨1,rfl,Nat.le_refl _,by omega,rfl,?_⟩
   simp only [go_sem,↓reduceIte,reduceIte,Qa,Qh,Qb,Qc,Qd,Qe,Qf,Qg,reduceCtorEq, *]
   rfl
  ·rintro m A hM ts' hk ⟨k,hm,f1,f2,f3,s1⟩
   simp only [go_sem,↓reduceIte,reduceIte,Qa,Qh,Qb,Qc,Qd,Qe,Qf,Qg,reduceCtorEq, *] at hk
   by_cases hlt:k < xs.length
   ·have hw:IntKind.i64.wrap ((k:Int) - 1)=((k - 1:Nat):Int):=by
     rw [w64_pred (show Small k by unfold Small at *; omega)]; omega
    have hk1:k - 1 < xs.length:=by omega
    simp only [kcT_drop f1 hlt,ext_Key] at f3
    (repeat' (first
 | (with_reducible first|assumption|(refine Qw hK _ ?_; clear hK K)|refine Qw ‹_› _ ?_|refine Qx ‹_› ?_|refine Qi fun K hK=>?_|refine Qj T fun K hK=>?_|refine Qk (id:=6) T mixed Wd9 (by kernel_rfl) fun K hK=>?_|refine Qk (id:=11) T mixed Wd10 (by kernel_rfl) fun K hK=>?_|refine Ql fun A B hA hB=>?_|refine Qm ?_|refine Qn ?_|refine Qp ?_|refine Qr ?_)
 | ((with_reducible first|apply Qy|apply Qz|apply QA)<;>intro hb<;>try simp only [nr] at hb)
 | simp only [go_sem,↓reduceIte,reduceIte,Qa,Qh,Qb,Qc,Qd,Qe,Qf,Qg,reduceCtorEq, *,hw,-f3]
 | with_reducible refine fun (bn:Bool) hbn=>?_))
    ·have hk4:kcompact xs=xs.take k++kcT (xs.drop k):=by rw [f3,if_pos (by clear hM hK; grind)]
     clear f3 hM
     refine Qs [4] (fun m ts'=>∃ (q:Nat),∃ (j:Nat),∃ (ys:List Key),m=xs.length - j∧1≤j∧k+j≤xs.length∧q≤k+j - 1∧ys.length=xs.length∧kcompact xs=ys.take q++kcT (xs.drop (k+j - 1))∧ys.drop (k+j - 1)=xs.drop (k+j - 1)∧ts'.tmp 0=.os 0 0 xs.length∧ts'.gen 0=0∧ts'.obj 0=.arr 2 (avs ys)∧ts'.tmp 3=.int .i64 q∧ts'.tmp 5=.int .i64 j) (xs.length - 1) ?_ ?_
     ·refine ⟨k,1,xs,rfl,Nat.le_refl _,by omega,by omega,rfl,hk4,rfl,?_⟩
      simp only [go_sem,↓reduceIte,reduceIte,Qa,Qh,Qb,Qc,Qd,Qe,Qf,Qg,reduceCtorEq, *,-hk4]
      all_goals rfl
     ·clear hk4
      rintro m A hM ts' hk ⟨q,j,ys,hm,f1,f2,f3,f4,f5,f6,s1,s2,s3,s4,s5⟩
      simp only [go_sem,↓reduceIte,reduceIte,Qa,Qh,Qb,Qc,Qd,Qe,Qf,Qg,reduceCtorEq, *] at hk
      by_cases hjt:j < xs.length - k
      ·have hw2:IntKind.i64.wrap ((j:Int) - 1)=((j - 1:Nat):Int):=by
        rw [w64_pred (show Small j by unfold Small at *; omega)]; omega
       have hkj:k+j < xs.length:=by omega
       have hky:k+j < ys.length:=by omega
       have hkj1:k+(j - 1) < xs.length:=by omega
       have hky1:k+(j - 1) < ys.length:=by omega
       have e1:k+(j - 1)=k+j - 1:=by omega
       have hy2:ys[k+(j - 1)]=xs[k+(j - 1)]:=by
        have:=congrArg (fun l=>l[0]?) f6
        simp only [List.getElem?_drop,Nat.add_zero,← e1] at this
        rwa [List.getElem?_eq_getElem hky1,List.getElem?_eq_getElem hkj1,Option.some.injEq] at this
       have hy1:ys[k+j]=xs[k+j]:=by
        have:=congrArg (fun l=>l[1]?) f6
        have e2:k+j - 1+1=k+j:=by omega
        simp only [List.getElem?_drop,e2] at this
        rwa [List.getElem?_eq_getElem hky,List.getElem?_eq_getElem hkj,Option.some.injEq] at this
       have hdr:ys.drop (k+j)=xs.drop (k+j):=by
        have:=congrArg (List.drop 1) f6
        have e2:k+j - 1+1=k+j:=by omega
        simpa only [List.drop_drop,e2] using this
       have hq:q < xs.length:=by omega
       have hj1:j - 1 < xs.length - k:=by omega
       have hjx:j < xs.length:=by omega
       have hkT:=kcT_drop (show 0 < k+j by omega) hkj
       simp only [← e1] at hkT
       rw [← e1,hkT] at f5
       have e3:k+(j+1) - 1=k+j:=by omega
       (repeat' (first
 | (with_reducible first|assumption|(refine Qw hK _ ?_; clear hK K)|refine Qw ‹_› _ ?_|refine Qx ‹_› ?_|refine Qi fun K hK=>?_|refine Qj T fun K hK=>?_|refine Qk (id:=6) T mixed Wd9 (by kernel_rfl) fun K hK=>?_|refine Qk (id:=11) T mixed Wd10 (by kernel_rfl) fun K hK=>?_|refine Ql fun A B hA hB=>?_|refine Qm ?_|refine Qn ?_|refine Qp ?_|refine Qr ?_)
 | ((with_reducible first|apply Qy|apply Qz|apply QA)<;>intro hb<;>try simp only [nr] at hb)
 | simp only [go_sem,↓reduceIte,reduceIte,Qa,Qh,Qb,Qc,Qd,Qe,Qf,Qg,reduceCtorEq, *,hw2,-f5,-f6,-hdr,-hkT,-e1]
 | with_reducible refine fun (bn:Bool) hbn=>?_))
       all_goals ((repeat clear hK); (repeat clear hA); (repeat clear hB))
       ·(refine hM.on (xs.length - (j+1)) (by omega) (by simp only [go_sem,↓reduceIte,reduceIte,Qa,Qh,Qb,Qc,Qd,Qe,Qf,Qg,reduceCtorEq, *,w64_nat hq hl,w64_nat hjx hl,-f5,-f6,-hdr,-hkT,-e1]) ⟨q+1,j+1,ys.set q xs[k+j],rfl,by omega,by omega,by omega,by simp [f4],by clear hM; rw [f5,if_neg (by grind [ext_Key]),take_set_succ _ (by omega),e3,List.append_assoc]; rfl,by rw [e3,List.drop_set,if_pos (by omega),hdr],?_⟩; simp only [go_sem,↓reduceIte,reduceIte,Qa,Qh,Qb,Qc,Qd,Qe,Qf,Qg,reduceCtorEq, *,w64_nat hq hl,w64_nat hjx hl,-f5,-f6,-hdr,-hkT,-e1]; done)
       ·(refine hM.on (xs.length - (j+1)) (by omega) (by simp only [go_sem,↓reduceIte,reduceIte,Qa,Qh,Qb,Qc,Qd,Qe,Qf,Qg,reduceCtorEq, *,w64_nat hjx hl,-f5,-f6,-hdr,-hkT,-e1]) ⟨q,j+1,ys,rfl,by omega,by omega,by omega,f4,by clear hM; rw [f5,if_pos (by grind [ext_Key]),e3],by rw [e3,hdr],?_⟩; simp only [go_sem,↓reduceIte,reduceIte,Qa,Qh,Qb,Qc,Qd,Qe,Qf,Qg,reduceCtorEq, *,w64_nat hjx hl,-f5,-f6,-hdr,-hkT,-e1]; done)
      ·have hkj:k+j=xs.length:=by omega
       have f7:kcompact xs=ys.take q:=by rw [f5,kcT_last (by omega),List.append_nil]
       have hq1:q≤xs.length:=by omega
       have hq2:q+(xs.length - q)=xs.length:=by omega
       clear f5 f6
       (repeat' (first
 | (with_reducible first|assumption|(refine Qw hK _ ?_; clear hK K)|refine Qw ‹_› _ ?_|refine Qx ‹_› ?_|refine Qi fun K hK=>?_|refine Qj T fun K hK=>?_|refine Qk (id:=6) T mixed Wd9 (by kernel_rfl) fun K hK=>?_|refine Qk (id:=11) T mixed Wd10 (by kernel_rfl) fun K hK=>?_|refine Ql fun A B hA hB=>?_|refine Qm ?_|refine Qn ?_|refine Qp ?_|refine Qr ?_)
 | ((with_reducible first|apply Qy|apply Qz|apply QA)<;>intro hb<;>try simp only [nr] at hb)
 | simp only [go_sem,↓reduceIte,reduceIte,Qa,Qh,Qb,Qc,Qd,Qe,Qf,Qg,reduceCtorEq, *]
 | with_reducible refine fun (bn:Bool) hbn=>?_))
    ·all_goals ((repeat clear hK); (repeat clear hA); (repeat clear hB))
     (refine hM.on (xs.length - (k+1)) (by omega) (by simp only [go_sem,↓reduceIte,reduceIte,Qa,Qh,Qb,Qc,Qd,Qe,Qf,Qg,reduceCtorEq, *,w64_nat hlt hl,-f3]) ⟨k+1,rfl,by omega,by omega,by clear hM; rw [f3,if_neg (by grind),List.take_succ_eq_append_getElem hlt,List.append_assoc]; rfl,?_⟩; simp only [go_sem,↓reduceIte,reduceIte,Qa,Qh,Qb,Qc,Qd,Qe,Qf,Qg,reduceCtorEq, *,w64_nat hlt hl,-f3]; done)
   ·have hc:kcompact xs=xs:=by rw [f3,List.take_of_length_le (by omega),kcT_last (by omega)]; simp
    (repeat' (first
 | (with_reducible first|assumption|(refine Qw hK _ ?_; clear hK K)|refine Qw ‹_› _ ?_|refine Qx ‹_› ?_|refine Qi fun K hK=>?_|refine Qj T fun K hK=>?_|refine Qk (id:=6) T mixed Wd9 (by kernel_rfl) fun K hK=>?_|refine Qk (id:=11) T mixed Wd10 (by kernel_rfl) fun K hK=>?_|refine Ql fun A B hA hB=>?_|refine Qm ?_|refine Qn ?_|refine Qp ?_|refine Qr ?_)
 | ((with_reducible first|apply Qy|apply Qz|apply QA)<;>intro hb<;>try simp only [nr] at hb)
 | simp only [go_sem,↓reduceIte,reduceIte,Qa,Qh,Qb,Qc,Qd,Qe,Qf,Qg,reduceCtorEq, *,hc,-f3]
 | with_reducible refine fun (bn:Bool) hbn=>?_))
def keysW (l:List Weight):List Key:=(l.filter fun w=>decide (0 < w.w)).map fun w=>⟨2,w.cluster⟩
def keysR (l:List Rule):List Key:=l.flatMap fun x=>keysW x.split
def baseR (r:Res):List Key:=if r.to'=[] then [] else [⟨IntKind.i64.wrap (r.kind+1),r.to'⟩]
def refsR (r:Res):List Key:=if saneR r=0 then kcompact (ksort (baseR r++keysR r.rules')) else []
theorem keysR_cons (x:Rule) (l:List Rule):keysR (x :: l)=keysW x.split++keysR l:=rfl
theorem keysW_cons (w:Weight) (l:List Weight):keysW (w :: l)=(if 0 < w.w then [⟨2,w.cluster⟩] else [])++keysW l:=by
 unfold keysW
 by_cases h:0 < w.w<;>simp [h]
theorem sane_small {r:Res} (h:saneR r=0):smallR r=true:=by
 unfold saneR at h
 cases hs:smallR r with
 | true=>rfl
 | false =>
  rw [hs] at h
  split at h
  ·cases h
  ·split at h
   ·cases h
   ·simp at h
theorem small_bounds {r:Res} (h:smallR r=true):r.rules'.length≤8∧r.hosts.length≤8∧∀ x∈r.rules',x.split.length≤4:=by
 simp only [smallR,Bool.and_eq_true,decide_eq_true_eq,List.all_eq_true] at h
 refine ⟨h.2.2.1,h.2.2.2.1,fun x hx=>?_⟩
 have:=h.2.2.2.2.2 x hx
 simp only [smallRule,Bool.and_eq_true,decide_eq_true_eq] at this
 exact this.1
theorem keysW_len (l:List Weight):(keysW l).length≤l.length:=by
 unfold keysW
 rw [List.length_map]
 exact List.length_filter_le _ _
set_option maxHeartbeats 4000000 in
theorem refsR_c (r_kind:Int) (r_name:List UInt8) (r_ver:Int) (r_port:Int) (r_to:List UInt8) (r_rules:List Rule) (r_hosts:List Int) (hl:Small r_rules.length) (hh:Small r_hosts.length) (hs:∀ x∈r_rules,SmRule x):CallR Tryz.prog 71 [.agg [.int .i64 r_kind,.str r_name,.int .i64 r_ver,.int .i64 r_port,.str r_to,.slice false (avs r_rules),.slice false (avs r_hosts)]] (.own 2 (avs (refsR (⟨r_kind,r_name,r_ver,r_port,r_to,r_rules,r_hosts⟩:Res)))):=by
 by_cases hsn:saneR (⟨r_kind,r_name,r_ver,r_port,r_to,r_rules,r_hosts⟩:Res)=0
 rotate_left
 ·have hr:refsR (⟨r_kind,r_name,r_ver,r_port,r_to,r_rules,r_hosts⟩:Res)=[]:=if_neg hsn
  rw [hr]
  refine CallR.go1 (T:=T) Tryz.call71 Tryz.func71 rfl Tryz.ntmps71 (congrArg Array.toList Tryz.results71) (by decide) fun ts hn h0=>?_
  (repeat' (first
 | (with_reducible first|refine callX.by (saneR_c _ _ _ _ _ _ _ ?_ ?_ ?_) ?_|refine callX.by awqs ?_)
 | (with_reducible refine callX.ar ?_ ?_ (sortKey_c ?_ ?_); (focus (simp only [go_sem,↓reduceIte,reduceIte,Qa,Qh,Qb,Qc,Qd,Qe,Qf,Qg,reduceCtorEq, *,-hs]; first|done|rfl)))
 | with_reducible refine callX.by (kcmp_c _ _ _ _) ?_
 | (with_reducible refine callX.mv ?_ ?_ ?_ (compactKey_c ?_ ?_); (focus (simp only [go_sem,↓reduceIte,reduceIte,Qa,Qh,Qb,Qc,Qd,Qe,Qf,Qg,reduceCtorEq, *,-hs]; first|done|rfl)); (focus (simp only [go_sem,↓reduceIte,reduceIte,Qa,Qh,Qb,Qc,Qd,Qe,Qf,Qg,reduceCtorEq, *,-hs]; first|done|rfl)))
 | (with_reducible first|assumption|(refine Qw hK _ ?_; clear hK K)|refine Qw ‹_› _ ?_|refine Qx ‹_› ?_|refine Qi fun K hK=>?_|refine Qj T fun K hK=>?_|refine Ql fun A B hA hB=>?_|refine Qm ?_|refine Qn ?_|refine Qp ?_|refine Qr ?_)
 | ((with_reducible first|apply Qy|apply Qz|apply QA)<;>intro hb<;>try simp only [nr] at hb)
 | simp only [go_sem,↓reduceIte,reduceIte,Qa,Qh,Qb,Qc,Qd,Qe,Qf,Qg,reduceCtorEq, *,-hs]
 | with_reducible refine fun (bn:Bool) hbn=>?_))
  all_goals rfl
 obtain ⟨hb1,hb2,hb3⟩:=small_bounds (sane_small hsn)
 simp only at hb1 hb2 hb3
 have hr:refsR (⟨r_kind,r_name,r_ver,r_port,r_to,r_rules,r_hosts⟩:Res)=kcompact (ksort (baseR (⟨r_kind,r_name,r_ver,r_port,r_to,r_rules,r_hosts⟩:Res)++keysR r_rules)):=if_pos hsn
 rw [hr]
 obtain ⟨bs,hbs⟩:∃ bs,baseR (⟨r_kind,r_name,r_ver,r_port,r_to,r_rules,r_hosts⟩:Res)=bs:=⟨_,rfl⟩
 rw [hbs]
 have hbl:bs.length≤1:=by
  rw [← hbs]; unfold baseR; split<;>simp
 clear hr
 have hr0:Room 1 24:=room_big (by decide) (by decide)
 have hsk:∀ x∈r_rules,Small x.split.length:=fun x hx=>(hs x hx).2.2.1
 refine CallR.go1 (T:=T) Tryz.call71 Tryz.func71 rfl Tryz.ntmps71 (congrArg Array.toList Tryz.results71) (by decide) fun ts hn h0=>?_
 (repeat' (first
 | (with_reducible first|refine SpecC.cutAtS 6 [1] (fun ts'=>∃ (g:Nat),ts'.tmp 3=.os 3 g bs.length∧ts'.gen 3=g∧ts'.obj 3=.arr 2 (avs bs)) ?_ ?_|refine callX.by (saneR_c _ _ _ _ _ _ _ ?_ ?_ ?_) ?_|refine callX.by awqs ?_)
 | (with_reducible refine callX.ar ?_ ?_ (sortKey_c ?_ ?_); (focus (simp only [go_sem,↓reduceIte,reduceIte,Qa,Qh,Qb,Qc,Qd,Qe,Qf,Qg,reduceCtorEq, *,-hs,-hsk,-hb3]; first|done|rfl)))
 | with_reducible refine callX.by (kcmp_c _ _ _ _) ?_
 | (with_reducible refine callX.mv ?_ ?_ ?_ (compactKey_c ?_ ?_); (focus (simp only [go_sem,↓reduceIte,reduceIte,Qa,Qh,Qb,Qc,Qd,Qe,Qf,Qg,reduceCtorEq, *,-hs,-hsk,-hb3]; first|done|rfl)); (focus (simp only [go_sem,↓reduceIte,reduceIte,Qa,Qh,Qb,Qc,Qd,Qe,Qf,Qg,reduceCtorEq, *,-hs,-hsk,-hb3]; first|done|rfl)))
 | (with_reducible first|assumption|(refine Qw hK _ ?_; clear hK K)|refine Qw ‹_› _ ?_|refine Qx ‹_› ?_|refine Qi fun K hK=>?_|refine Qj T fun K hK=>?_|refine Ql fun A B hA hB=>?_|refine Qm ?_|refine Qn ?_|refine Qp ?_|refine Qr ?_)
 | ((with_reducible first|apply Qy|apply Qz|apply QA)<;>intro hb<;>try simp only [nr] at hb)
 | simp only [go_sem,↓reduceIte,reduceIte,Qa,Qh,Qb,Qc,Qd,Qe,Qf,Qg,reduceCtorEq, *,-hs,-hsk,-hb3]
 | with_reducible refine fun (bn:Bool) hbn=>?_))
 ·have e:bs=[⟨IntKind.i64.wrap (r_kind+1),r_to⟩]:=by rw [← hbs]; unfold baseR; rw [if_neg (of_decide_eq_false hb)]
  subst e
  have ea:avs [(⟨IntKind.i64.wrap (r_kind+1),r_to⟩:Key)]=[AV.agg [AV.int IntKind.i64 (IntKind.i64.wrap (r_kind+1)),AV.str r_to]]:=rfl
  (repeat clear hK); (repeat clear hA); (repeat clear hB)
  (refine ⟨_,(Ent.ren 3 22 (by simp only [go_sem,↓reduceIte,reduceIte,Qa,Qh,Qb,Qc,Qd,Qe,Qf,Qg,reduceCtorEq, *,-hs,-hsk,-hb3]; done) (by simp only [go_sem,↓reduceIte,reduceIte,Qa,Qh,Qb,Qc,Qd,Qe,Qf,Qg,reduceCtorEq, *,-hs,-hsk,-hb3]; done)),by simp only [go_sem,↓reduceIte,reduceIte,Qa,Qh,Qb,Qc,Qd,Qe,Qf,Qg,reduceCtorEq, *,-hs,-hsk,-hb3]; done,⟨ts.gen 3+1,?_⟩⟩; simp only [go_sem,↓reduceIte,reduceIte,Qa,Qh,Qb,Qc,Qd,Qe,Qf,Qg,reduceCtorEq, *,-hs,-hsk,-hb3]; done)
 ·have e:bs=[]:=by rw [← hbs]; unfold baseR; rw [if_pos (of_decide_eq_true hb)]
  subst e
  (repeat clear hK); (repeat clear hA); (repeat clear hB)
  (refine ⟨_,(Ent.virt 3 2 (by simp only [go_sem,↓reduceIte,reduceIte,Qa,Qh,Qb,Qc,Qd,Qe,Qf,Qg,reduceCtorEq, *,-hs,-hsk,-hb3,avs_nil]; done) (by decide)),by simp only [go_sem,↓reduceIte,reduceIte,Qa,Qh,Qb,Qc,Qd,Qe,Qf,Qg,reduceCtorEq, *,-hs,-hsk,-hb3,avs_nil]; done,⟨ts.gen 3+1,?_⟩⟩; simp only [go_sem,↓reduceIte,reduceIte,Qa,Qh,Qb,Qc,Qd,Qe,Qf,Qg,reduceCtorEq, *,-hs,-hsk,-hb3,avs_nil]; done)
 ·intro ts2 hk3
  rintro ⟨g2,v1,v2,v3⟩
  simp only [go_sem,↓reduceIte,reduceIte,Qa,Qh,Qb,Qc,Qd,Qe,Qf,Qg,reduceCtorEq, *] at hk3
  (repeat' (first
 | (with_reducible first|refine callX.by (saneR_c _ _ _ _ _ _ _ ?_ ?_ ?_) ?_|refine callX.by awqs ?_)
 | (with_reducible refine callX.ar ?_ ?_ (sortKey_c ?_ ?_); (focus (simp only [go_sem,↓reduceIte,reduceIte,Qa,Qh,Qb,Qc,Qd,Qe,Qf,Qg,reduceCtorEq, *,-hs,-hsk,-hb3]; first|done|rfl)))
 | with_reducible refine callX.by (kcmp_c _ _ _ _) ?_
 | (with_reducible refine callX.mv ?_ ?_ ?_ (compactKey_c ?_ ?_); (focus (simp only [go_sem,↓reduceIte,reduceIte,Qa,Qh,Qb,Qc,Qd,Qe,Qf,Qg,reduceCtorEq, *,-hs,-hsk,-hb3]; first|done|rfl)); (focus (simp only [go_sem,↓reduceIte,reduceIte,Qa,Qh,Qb,Qc,Qd,Qe,Qf,Qg,reduceCtorEq, *,-hs,-hsk,-hb3]; first|done|rfl)))
 | (with_reducible first|assumption|(refine Qw hK _ ?_; clear hK K)|refine Qw ‹_› _ ?_|refine Qx ‹_› ?_|refine Qi fun K hK=>?_|refine Qj T fun K hK=>?_|refine Ql fun A B hA hB=>?_|refine Qm ?_|refine Qn ?_|refine Qp ?_|refine Qr ?_)
 | ((with_reducible first|apply Qy|apply Qz|apply QA)<;>intro hb<;>try simp only [nr] at hb)
 | simp only [go_sem,↓reduceIte,reduceIte,Qa,Qh,Qb,Qc,Qd,Qe,Qf,Qg,reduceCtorEq, *,-hs,-hsk,-hb3]
 | with_reducible refine fun (bn:Bool) hbn=>?_))
  refine Qs [24,25] (fun m ts'=>∃ (i:Nat),∃ (g:Nat),∃ (ys:List Key),m=r_rules.length - i∧i≤r_rules.length∧ys.length≤1+4 * i∧bs++keysR r_rules=ys++keysR (r_rules.drop i)∧ts'.tmp 3=.os 3 g ys.length∧ts'.gen 3=g∧ts'.obj 3=.arr 2 (avs ys)∧ts'.tmp 26=.int .i64 i) r_rules.length ?_ ?_
  ·refine ⟨0,g2,bs,rfl,Nat.zero_le _,by omega,rfl,?_⟩
   simp only [go_sem,↓reduceIte,reduceIte,Qa,Qh,Qb,Qc,Qd,Qe,Qf,Qg,reduceCtorEq, *,-hs,-hsk,-hb3]
  ·rintro m A hM ts' hk ⟨i,g,ys,hm,f1,f2,f3,s1,s2,s3,s4⟩
   simp only [go_sem,↓reduceIte,reduceIte,Qa,Qh,Qb,Qc,Qd,Qe,Qf,Qg,reduceCtorEq, *] at hk
   by_cases hlt:i < r_rules.length
   ·rw [List.drop_eq_getElem_cons hlt,keysR_cons] at f3
    have hx4:=hb3 _ (List.getElem_mem hlt)
    have hxs:=hsk _ (List.getElem_mem hlt)
    (repeat' (first
 | (with_reducible first|refine callX.by (saneR_c _ _ _ _ _ _ _ ?_ ?_ ?_) ?_|refine callX.by awqs ?_)
 | (with_reducible refine callX.ar ?_ ?_ (sortKey_c ?_ ?_); (focus (simp only [go_sem,↓reduceIte,reduceIte,Qa,Qh,Qb,Qc,Qd,Qe,Qf,Qg,reduceCtorEq, *,-hs,-hsk,-hb3,-f3]; first|done|rfl)))
 | with_reducible refine callX.by (kcmp_c _ _ _ _) ?_
 | (with_reducible refine callX.mv ?_ ?_ ?_ (compactKey_c ?_ ?_); (focus (simp only [go_sem,↓reduceIte,reduceIte,Qa,Qh,Qb,Qc,Qd,Qe,Qf,Qg,reduceCtorEq, *,-hs,-hsk,-hb3,-f3]; first|done|rfl)); (focus (simp only [go_sem,↓reduceIte,reduceIte,Qa,Qh,Qb,Qc,Qd,Qe,Qf,Qg,reduceCtorEq, *,-hs,-hsk,-hb3,-f3]; first|done|rfl)))
 | (with_reducible first|assumption|(refine Qw hK _ ?_; clear hK K)|refine Qw ‹_› _ ?_|refine Qx ‹_› ?_|refine Qi fun K hK=>?_|refine Qj T fun K hK=>?_|refine Ql fun A B hA hB=>?_|refine Qm ?_|refine Qn ?_|refine Qp ?_|refine Qr ?_)
 | ((with_reducible first|apply Qy|apply Qz|apply QA)<;>intro hb<;>try simp only [nr] at hb)
 | simp only [go_sem,↓reduceIte,reduceIte,Qa,Qh,Qb,Qc,Qd,Qe,Qf,Qg,reduceCtorEq, *,-hs,-hsk,-hb3,-f3]
 | with_reducible refine fun (bn:Bool) hbn=>?_))
    refine Qs [24,25,26,31,32] (fun m ts'=>∃ (j:Nat),∃ (g':Nat),∃ (zs:List Key),m=r_rules[i].split.length - j∧j≤r_rules[i].split.length∧zs.length≤1+4 * i+j∧ys++keysW r_rules[i].split=zs++keysW (r_rules[i].split.drop j)∧ts'.tmp 3=.os 3 g' zs.length∧ts'.gen 3=g'∧ts'.obj 3=.arr 2 (avs zs)∧ts'.tmp 33=.int .i64 j) r_rules[i].split.length ?_ ?_
    ·refine ⟨0,g,ys,rfl,Nat.zero_le _,by omega,rfl,?_⟩
     simp only [go_sem,↓reduceIte,reduceIte,Qa,Qh,Qb,Qc,Qd,Qe,Qf,Qg,reduceCtorEq, *,-hs,-hsk,-hb3,-f3]
    ·revert hM f3
     intro hM0 f30
     rintro m A hM ts' hk ⟨j,g',zs,hm,f1,f2,f3,s1,s2,s3,s4⟩
     simp only [go_sem,↓reduceIte,reduceIte,Qa,Qh,Qb,Qc,Qd,Qe,Qf,Qg,reduceCtorEq, *] at hk
     by_cases hjt:j < r_rules[i].split.length
     ·rw [List.drop_eq_getElem_cons hjt,keysW_cons] at f3
      have hr1:Room (zs.length+1) 24:=room_big (by omega) (by decide)
      (repeat' (first
 | (with_reducible first|refine callX.by (saneR_c _ _ _ _ _ _ _ ?_ ?_ ?_) ?_|refine callX.by awqs ?_)
 | (with_reducible refine callX.ar ?_ ?_ (sortKey_c ?_ ?_); (focus (simp only [go_sem,↓reduceIte,reduceIte,Qa,Qh,Qb,Qc,Qd,Qe,Qf,Qg,reduceCtorEq, *,-hs,-hsk,-hb3,-f3,-f30]; first|done|rfl)))
 | with_reducible refine callX.by (kcmp_c _ _ _ _) ?_
 | (with_reducible refine callX.mv ?_ ?_ ?_ (compactKey_c ?_ ?_); (focus (simp only [go_sem,↓reduceIte,reduceIte,Qa,Qh,Qb,Qc,Qd,Qe,Qf,Qg,reduceCtorEq, *,-hs,-hsk,-hb3,-f3,-f30]; first|done|rfl)); (focus (simp only [go_sem,↓reduceIte,reduceIte,Qa,Qh,Qb,Qc,Qd,Qe,Qf,Qg,reduceCtorEq, *,-hs,-hsk,-hb3,-f3,-f30]; first|done|rfl)))
 | (with_reducible first|assumption|(refine Qw hK _ ?_; clear hK K)|refine Qw ‹_› _ ?_|refine Qx ‹_› ?_|refine Qi fun K hK=>?_|refine Qj T fun K hK=>?_|refine Ql fun A B hA hB=>?_|refine Qm ?_|refine Qn ?_|refine Qp ?_|refine Qr ?_)
 | ((with_reducible first|apply Qy|apply Qz|apply QA)<;>intro hb<;>try simp only [nr] at hb)
 | simp only [go_sem,↓reduceIte,reduceIte,Qa,Qh,Qb,Qc,Qd,Qe,Qf,Qg,reduceCtorEq, *,-hs,-hsk,-hb3,-f3,-f30]
 | with_reducible refine fun (bn:Bool) hbn=>?_))
      all_goals ((repeat clear hK); (repeat clear hA); (repeat clear hB))
      ·(refine hM.onE (r_rules[i].split.length - (j+1)) (Ent.ren 3 45 ?_ ?_) ?_ ?_ ?_; (focus (simp only [go_sem,↓reduceIte,reduceIte,Qa,Qh,Qb,Qc,Qd,Qe,Qf,Qg,reduceCtorEq, *,w64_nat hjt hxs,List.length_append,-f3,-f30,-hM0]; first|done|rfl)); (focus (simp only [go_sem,↓reduceIte,reduceIte,Qa,Qh,Qb,Qc,Qd,Qe,Qf,Qg,reduceCtorEq, *,w64_nat hjt hxs,List.length_append,-f3,-f30,-hM0]; first|done|rfl)); omega; (focus (simp only [go_sem,↓reduceIte,reduceIte,Qa,Qh,Qb,Qc,Qd,Qe,Qf,Qg,reduceCtorEq, *,w64_nat hjt hxs,List.length_append,-f3,-f30,-hM0]; done)); refine ⟨j+1,g'+1,zs++[⟨2,r_rules[i].split[j].cluster⟩],rfl,by omega,by simp; omega,by rw [f3,if_pos hb,List.append_assoc],?_⟩; simp only [go_sem,↓reduceIte,reduceIte,Qa,Qh,Qb,Qc,Qd,Qe,Qf,Qg,reduceCtorEq, *,w64_nat hjt hxs,List.length_append,-f3,-f30,-hM0]; done)
      ·rw [if_neg (by omega),List.nil_append] at f3
       (refine hM.on (r_rules[i].split.length - (j+1)) (by omega) (by simp only [go_sem,↓reduceIte,reduceIte,Qa,Qh,Qb,Qc,Qd,Qe,Qf,Qg,reduceCtorEq, *,w64_nat hjt hxs,-f3,-f30,-hM0]) ⟨j+1,g',zs,rfl,by omega,by omega,f3,?_⟩; simp only [go_sem,↓reduceIte,reduceIte,Qa,Qh,Qb,Qc,Qd,Qe,Qf,Qg,reduceCtorEq, *,w64_nat hjt hxs,-f3,-f30,-hM0]; done)
     ·rw [List.drop_eq_nil_of_le (by omega)] at f3
      (repeat' (first
 | (with_reducible first|refine callX.by (saneR_c _ _ _ _ _ _ _ ?_ ?_ ?_) ?_|refine callX.by awqs ?_)
 | (with_reducible refine callX.ar ?_ ?_ (sortKey_c ?_ ?_); (focus (simp only [go_sem,↓reduceIte,reduceIte,Qa,Qh,Qb,Qc,Qd,Qe,Qf,Qg,reduceCtorEq, *,-hs,-hsk,-hb3,-f3,-f30]; first|done|rfl)))
 | with_reducible refine callX.by (kcmp_c _ _ _ _) ?_
 | (with_reducible refine callX.mv ?_ ?_ ?_ (compactKey_c ?_ ?_); (focus (simp only [go_sem,↓reduceIte,reduceIte,Qa,Qh,Qb,Qc,Qd,Qe,Qf,Qg,reduceCtorEq, *,-hs,-hsk,-hb3,-f3,-f30]; first|done|rfl)); (focus (simp only [go_sem,↓reduceIte,reduceIte,Qa,Qh,Qb,Qc,Qd,Qe,Qf,Qg,reduceCtorEq, *,-hs,-hsk,-hb3,-f3,-f30]; first|done|rfl)))
 | (with_reducible first|assumption|(refine Qw hK _ ?_; clear hK K)|refine Qw ‹_› _ ?_|refine Qx ‹_› ?_|refine Qi fun K hK=>?_|refine Qj T fun K hK=>?_|refine Ql fun A B hA hB=>?_|refine Qm ?_|refine Qn ?_|refine Qp ?_|refine Qr ?_)
 | ((with_reducible first|apply Qy|apply Qz|apply QA)<;>intro hb<;>try simp only [nr] at hb)
 | simp only [go_sem,↓reduceIte,reduceIte,Qa,Qh,Qb,Qc,Qd,Qe,Qf,Qg,reduceCtorEq, *,-hs,-hsk,-hb3,-f3,-f30]
 | with_reducible refine fun (bn:Bool) hbn=>?_))
      all_goals ((repeat clear hK); (repeat clear hA); (repeat clear hB))
      all_goals (clear hM; revert hM0; intro hM)
      (refine hM.on (r_rules.length - (i+1)) (by omega) (by simp only [go_sem,↓reduceIte,reduceIte,Qa,Qh,Qb,Qc,Qd,Qe,Qf,Qg,reduceCtorEq, *,w64_nat hlt hl,-f3,-f30,-hs,-hsk,-hb3]) ⟨i+1,g',zs,rfl,by omega,by omega,by rw [f30,← List.append_assoc,f3]; simp [keysW],?_⟩; simp only [go_sem,↓reduceIte,reduceIte,Qa,Qh,Qb,Qc,Qd,Qe,Qf,Qg,reduceCtorEq, *,w64_nat hlt hl,-f3,-f30,-hs,-hsk,-hb3]; done)
   ·rw [List.drop_eq_nil_of_le (by omega)] at f3
    have e:ys=bs++keysR r_rules:=by rw [f3]; simp [keysR]
    subst e
    clear f3
    have hk1:=ksort_length (bs++keysR r_rules)
    have htk:(ksort (bs++keysR r_rules)).take (bs++keysR r_rules).length=ksort (bs++keysR r_rules):=List.take_of_length_le (by omega)
    have htk2:(ksort (bs++keysR r_rules)).take (bs.length+(keysR r_rules).length)=ksort (bs++keysR r_rules):=List.take_of_length_le (by rw [hk1,List.length_append]; exact Nat.le_refl _)
    have hsm1:Small (bs++keysR r_rules).length:=by unfold Small; omega
    have hsm2:Small (ksort (bs++keysR r_rules)).length:=by rw [hk1]; exact hsm1
    (repeat' (first
 | (with_reducible first|refine callX.by (saneR_c _ _ _ _ _ _ _ ?_ ?_ ?_) ?_|refine callX.by awqs ?_)
 | (with_reducible refine callX.ar ?_ ?_ (sortKey_c ?_ ?_); (focus (simp only [go_sem,↓reduceIte,reduceIte,Qa,Qh,Qb,Qc,Qd,Qe,Qf,Qg,reduceCtorEq, *,Nat.le_refl,-hs,-hsk,-hb3]; first|done|rfl)))
 | with_reducible refine callX.by (kcmp_c _ _ _ _) ?_
 | (with_reducible refine callX.mv ?_ ?_ ?_ (compactKey_c ?_ ?_); (focus (simp only [go_sem,↓reduceIte,reduceIte,Qa,Qh,Qb,Qc,Qd,Qe,Qf,Qg,reduceCtorEq, *,Nat.le_refl,-hs,-hsk,-hb3]; first|done|rfl)); (focus (simp only [go_sem,↓reduceIte,reduceIte,Qa,Qh,Qb,Qc,Qd,Qe,Qf,Qg,reduceCtorEq, *,Nat.le_refl,-hs,-hsk,-hb3]; first|done|rfl)))
 | (with_reducible first|assumption|(refine Qw hK _ ?_; clear hK K)|refine Qw ‹_› _ ?_|refine Qx ‹_› ?_|refine Qi fun K hK=>?_|refine Qj T fun K hK=>?_|refine Ql fun A B hA hB=>?_|refine Qm ?_|refine Qn ?_|refine Qp ?_|refine Qr ?_)
 | ((with_reducible first|apply Qy|apply Qz|apply QA)<;>intro hb<;>try simp only [nr] at hb)
 | simp only [go_sem,↓reduceIte,reduceIte,Qa,Qh,Qb,Qc,Qd,Qe,Qf,Qg,reduceCtorEq, *,Nat.le_refl,-hs,-hsk,-hb3]
 | with_reducible refine fun (bn:Bool) hbn=>?_))
    all_goals ((repeat clear hK); (repeat clear hA); (repeat clear hB))
    all_goals rfl
def firstBad:List Res→Int
 | []=>0
 | r :: l=>if saneR r=0 then firstBad l else saneR r
def upR:List Res→Bool
 | []=>true
 | a :: l=>match l with
  | []=>true
  | b :: _=>decide (kcmp (keyOf a) (keyOf b) < 0) && upR l
def portsM:List Res→List (Int × Bool)→Bool
 | [],_=>true
 | r :: l,M=>if (mget M r.port).getD false then false else portsM l (mput M r.port true)
def tsane (l:List Res):Int:=if 64 < l.length then 3 else if firstBad l≠0 then firstBad l else if upR l=false then 2 else if portsM (tkind l 0) []=false then 13 else 0
def awq:Res:=⟨0,[108],0,80,[97],[],[]⟩
theorem awq1:saneR awq=0:=by decide
theorem awq2:refsR awq=[⟨1,[97]⟩]:=by
 unfold refsR
 rw [if_pos awq1]
 have e:baseR awq++keysR awq.rules'=[⟨1,[97]⟩]:=by decide
 rw [e]
 have e2:ksort [⟨1,[97]⟩]=[(⟨1,[97]⟩:Key)]:=by simp [ksort]
 rw [e2]; rfl
theorem z01:(0:Int) < ((1:Nat):Int):=by decide
theorem awqc:CallR Tryz.prog 71 [.agg [.int .i64 0,.str [108],.int .i64 0,.int .i64 80,.str [97],.slice false [],.slice false []]] (.own 2 [.agg [.int .i64 1,.str [97]]]):=by
 have h:=refsR_c 0 [108] 0 80 [97] [] [] (by simp [Small]) (by simp [Small]) (by simp)
 have e:=awq2; unfold awq at e
 rw [e] at h; exact h
theorem awqs:CallR Tryz.prog 116 [.agg [.int .i64 0,.str [108],.int .i64 0,.int .i64 80,.str [97],.slice false [],.slice false []]] (.val (.int .i64 0)):=by
 have h:=saneR_c 0 [108] 0 80 [97] [] [] (by simp [Small]) (by simp [Small]) (by simp)
 have e:=awq1; unfold awq at e
 rw [e] at h; exact h
theorem saneR_ok (r:Res):saneR r=0↔wIn r.kind 3=true∧nmOk r.name=true∧smallR r=true∧shapedR r=true∧namedR r=true∧singleR r=true:=by
 unfold saneR
 cases wIn r.kind 3<;>cases nmOk r.name<;>cases smallR r<;>cases shapedR r<;>cases namedR r<;>cases singleR r<;>simp
theorem wIn_iff (n m:Int):wIn n m=true↔0≤n∧n≤m:=by
 unfold wIn; simp
theorem sane_kind {r:Res} (h:saneR r=0):r.kind=0∨r.kind=1∨r.kind=2∨r.kind=3:=by
 have:=(wIn_iff _ _).1 ((saneR_ok r).1 h).1
 omega
theorem nmNe {s:List UInt8} (h:nmOk s=true):s≠[]:=by
 rintro rfl; revert h; decide
theorem kinds_ne {r:Res} (h:saneR r=0):r.to'≠[]↔r.kind=0∨r.kind=2:=by
 rw [saneR_ok] at h
 obtain ⟨h1,h2,h3,h4,h5,h6⟩:=h
 simp only [shapedR,namedR,Bool.and_eq_true,Bool.or_eq_true,decide_eq_true_eq] at h4 h5
 constructor
 ·intro h; rcases h4.2.1 with h'|h'
  ·exact absurd h' h
  ·exact h'
 ·intro h
  have h7:=h5.1
  have h8:(decide (r.kind=0) || decide (r.kind=2))=true:=by simpa using h
  rw [h8] at h7
  exact nmNe (by simpa using h7)
theorem ncmp_eq:∀ a b:List UInt8,ncmp a b=Lib.compareBytes a b
 | [],[]=>rfl
 | [],_ :: _=>rfl
 | _ :: _,[]=>rfl
 | x :: a,y :: b=>by
  simp only [ncmp,Lib.compareBytes,UInt8.lt_iff_toNat_lt,ncmp_eq a b]
theorem kcmp3_eq (a b:Key):kcmp3 a b=kcmp a b:=by rw [kcmp_def,kcmp3,ncmp_eq]
def Up (l:List Key):Prop:=l.Pairwise fun x y=>kcmp x y < 0
theorem up_ext:∀ {l r:List Key},Up l→Up r→(∀ x,x∈l↔x∈r)→l=r
 | [],[],_,_,_=>rfl
 | [],y :: r,_,_,h=>by have:=(h y).2 (by simp); simp at this
 | x :: l,[],_,_,h=>by have:=(h x).1 (by simp); simp at this
 | x :: l,y :: r,hl,hr,h=>by
  obtain ⟨hl1,hl2⟩:=List.pairwise_cons.1 hl
  obtain ⟨hr1,hr2⟩:=List.pairwise_cons.1 hr
  have hxy:x=y:=by
   rcases List.mem_cons.1 ((h x).1 (by simp)) with e|hx
   ·exact e
   ·rcases List.mem_cons.1 ((h y).2 (by simp)) with e|hy
    ·exact e.symm
    ·exact absurd (kcmp_trans _ _ _ (hl1 y hy) (hr1 x hx)) (kcmp_irrefl _)
  subst hxy
  rw [up_ext hl2 hr2 fun z=>?_]
  constructor
  ·intro hz
   rcases List.mem_cons.1 ((h z).1 (List.mem_cons_of_mem _ hz)) with e|hz'
   ·subst e; exact absurd (hl1 z hz) (kcmp_irrefl _)
   ·exact hz'
  ·intro hz
   rcases List.mem_cons.1 ((h z).2 (List.mem_cons_of_mem _ hz)) with e|hz'
   ·subst e; exact absurd (hr1 z hz) (kcmp_irrefl _)
   ·exact hz'
theorem putL_true (k:Key):∀ {l:List Key},(∀ x∈l,kcmp3 x k≠0)→putL k l true=l
 | [],_=>rfl
 | x :: r,h=>by
  rw [putL,if_neg (h x (by simp))]
  simp only [Bool.not_true,Bool.and_false,Bool.true_or,Bool.false_eq_true,if_false,List.nil_append]
  rw [putL_true k fun y hy=>h y (by simp [hy])]; rfl
theorem mem_putL (k:Key):∀ {l:List Key},Up l→∀ x,x∈putL k l false↔x=k∨x∈l
 | [],_,x=>by simp [putL]
 | y :: r,h,x=>by
  obtain ⟨h1,h2⟩:=List.pairwise_cons.1 h
  rw [putL,kcmp3_eq]
  by_cases h0:kcmp y k < 0
  ·have e1:¬ 0≤kcmp y k:=by omega
   have e2:¬ kcmp y k=0:=by omega
   simp only [e1,decide_false,Bool.false_and,Bool.or_false,Bool.false_eq_true,if_false,e2,List.nil_append,List.cons_append,List.mem_cons]
   rw [mem_putL k h2]; grind
  ·have e1:0≤kcmp y k:=by omega
   have hr:∀ z∈r,kcmp3 z k≠0:=fun z hz=>by
    rw [kcmp3_eq]
    intro h3
    have:=kcmp_zero _ _ h3
    subst this
    have:=h1 z hz
    omega
   simp only [e1,decide_true,Bool.or_true,Bool.not_false,Bool.and_true,if_true]
   rw [putL_true k hr]
   by_cases e2:kcmp y k=0
   ·have:=kcmp_zero _ _ e2
    subst this
    simp [e2]
   ·simp [e2]
theorem up_putL (k:Key):∀ {l:List Key},Up l→Up (putL k l false)
 | [],_=>by simp [putL,Up]
 | y :: r,h=>by
  obtain ⟨h1,h2⟩:=List.pairwise_cons.1 h
  have hm:=mem_putL k h2
  have hu:=up_putL k h2
  rw [putL,kcmp3_eq]
  by_cases h0:kcmp y k < 0
  ·have e1:¬ 0≤kcmp y k:=by omega
   have e2:¬ kcmp y k=0:=by omega
   simp only [e1,decide_false,Bool.false_and,Bool.or_false,Bool.false_eq_true,if_false,e2,List.nil_append,List.cons_append]
   refine List.pairwise_cons.2 ⟨fun z hz=>?_,hu⟩
   rcases (hm z).1 hz with rfl|hz
   ·exact h0
   ·exact h1 z hz
  ·have e1:0≤kcmp y k:=by omega
   have hr:∀ z∈r,kcmp3 z k≠0:=fun z hz=>by
    rw [kcmp3_eq]
    intro h3
    have:=kcmp_zero _ _ h3
    subst this
    have:=h1 z hz
    omega
   simp only [e1,decide_true,Bool.or_true,Bool.not_false,Bool.and_true,if_true]
   rw [putL_true k hr]
   by_cases e2:kcmp y k=0
   ·have:=kcmp_zero _ _ e2
    subst this
    simp only [e2,if_true,List.append_nil,List.cons_append,List.nil_append]
    exact h
   ·simp only [e2,if_false,List.cons_append,List.nil_append]
    have hky:kcmp k y < 0:=by have:=kcmp_swap y k; omega
    refine List.pairwise_cons.2 ⟨fun z hz=>?_,h⟩
    rcases List.mem_cons.1 hz with rfl|hz
    ·exact hky
    ·exact kcmp_trans _ _ _ hky (h1 z hz)
theorem fold_put:∀ (K:List Key) {ys:List Key},Up ys→Up (K.foldl kput ys)∧∀ x,x∈K.foldl kput ys↔x∈ys∨x∈K
 | [],ys,h=>⟨h,by simp⟩
 | k :: K,ys,h=>by
  obtain ⟨h1,h2⟩:=fold_put K (up_putL k h)
  refine ⟨h1,fun x=>?_⟩
  rw [List.foldl_cons]
  have:=h2 x
  rw [show kput ys k=putL k ys false from rfl,this,mem_putL k h]
  simp only [List.mem_cons]; grind
def Le (l:List Key):Prop:=l.Pairwise fun x y=>¬ kcmp y x < 0
theorem ksort_le (K:List Key):Le (ksort K):=by
 have:=List.pairwise_mergeSort (le:=fun x y:Key=>!decide (kcmp y x < 0)) (fun a b c h k=>by
  simp only [Bool.not_eq_true',decide_eq_false_iff_not] at h k ⊢
  intro h3
  by_cases h4:kcmp b c=0
  ·have:=kcmp_zero _ _ h4; subst this; exact h h3
  ·have:kcmp b c < 0:=by have:=kcmp_swap b c; omega
   exact h (kcmp_trans _ _ _ this h3)) (fun a b=>by
  simp only [Bool.or_eq_true,Bool.not_eq_true',decide_eq_false_iff_not]
  have:=kcmp_swap a b; omega) K
 unfold Le ksort
 exact this.imp fun h=>by simpa using h
theorem ksort_mem (K:List Key) (x:Key):x∈ksort K↔x∈K:=by unfold ksort; exact List.mem_mergeSort
theorem kcT_up:∀ {a:Key} {r:List Key},Le (a :: r)→Up (a :: kcT (a :: r))∧∀ x,x∈a :: kcT (a :: r)↔x∈a :: r
 | a,[],_=>by simp [kcT,Up]
 | a,b :: r,h=>by
  obtain ⟨h1,h2⟩:=List.pairwise_cons.1 h
  obtain ⟨u,m⟩:=kcT_up h2
  rw [kcT]
  by_cases e:b=a
  ·subst e
   rw [if_pos rfl]
   exact ⟨u,fun x=>by rw [m]; simp⟩
  ·rw [if_neg e]
   refine ⟨List.pairwise_cons.2 ⟨fun z hz=>?_,u⟩,fun x=>?_⟩
   ·have hab:kcmp a b < 0:=by
     have h3:=h1 b (by simp)
     have h4:=kcmp_swap a b
     by_cases h5:kcmp a b=0
     ·exact absurd (kcmp_zero _ _ h5).symm e
     ·omega
    rcases List.mem_cons.1 hz with rfl|hz
    ·exact hab
    ·exact kcmp_trans _ _ _ hab ((List.pairwise_cons.1 u).1 z hz)
   ·rw [List.mem_cons,m,← List.mem_cons]
theorem kcompact_up {l:List Key} (h:Le l):Up (kcompact l)∧∀ x,x∈kcompact l↔x∈l:=by
 unfold kcompact
 cases l with
 | nil=>simp [kcT,Up]
 | cons a r=>simpa using kcT_up h
theorem refs_not {r:Res} (h:¬ saneR r=0):refsR r=[]:=by unfold refsR; rw [if_neg h]
theorem refs_up {r:Res} (h:saneR r=0):Up (refsR r)∧∀ x,x∈refsR r↔x∈baseR r++keysR r.rules':=by
 obtain ⟨h1,h2⟩:=kcompact_up (ksort_le (baseR r++keysR r.rules'))
 unfold refsR
 rw [if_pos h]
 exact ⟨h1,fun x=>by rw [h2,ksort_mem]⟩
theorem mem_keysW {w:List Weight} {x:Key}:x∈keysW w↔∃ y∈w,0 < y.w∧x=⟨2,y.cluster⟩:=by
 unfold keysW
 simp only [List.mem_map,List.mem_filter,decide_eq_true_eq]
 constructor
 ·rintro ⟨y,⟨h1,h2⟩,rfl⟩; exact ⟨y,h1,h2,rfl⟩
 ·rintro ⟨y,h1,h2,rfl⟩; exact ⟨y,⟨h1,h2⟩,rfl⟩
theorem mem_keysR {l:List Rule} {x:Key}:x∈keysR l↔∃ z∈l,∃ y∈z.split,0 < y.w∧x=⟨2,y.cluster⟩:=by
 unfold keysR
 simp only [List.mem_flatMap,mem_keysW]
theorem wrapK {r:Res} (h:saneR r=0):IntKind.i64.wrap (r.kind+1)=r.kind+1 :=
 IntWalk.i64_in _ (by have:=sane_kind h; omega)
theorem sane_parts {r:Res} (h:saneR r=0):(r.to'≠[]→r.kind=0∨r.kind=2)∧(r.rules'≠[]→r.kind=1)∧(r.hosts≠[]→r.kind=3)∧(r.to'≠[]→nmOk r.to'=true) ∧
  (∀ x∈r.rules',ruleOk x=true):=by
 have hto:=kinds_ne h
 rw [saneR_ok] at h
 obtain ⟨h1,h2,h3,h4,h5,h6⟩:=h
 simp only [shapedR,namedR,Bool.and_eq_true,Bool.or_eq_true,decide_eq_true_eq] at h4 h5
 refine ⟨hto.1,fun h=>?_,fun h=>?_,fun h=>?_,fun x hx=>?_⟩
 ·rcases h4.2.2.1 with h'|h'
  ·exact absurd (List.length_eq_zero_iff.1 h') h
  ·exact h'
 ·rcases h4.2.2.2 with h'|h'
  ·exact absurd (List.length_eq_zero_iff.1 h') h
  ·exact h'
 ·have h8:(decide (r.kind=0) || decide (r.kind=2))=true:=by simpa using hto.1 h
  have h7:=h5.1
  rw [h8] at h7
  simpa using h7
 ·have h7:=h5.2
  simp only [Bool.not_eq_true',List.any_eq_false,Bool.not_eq_true,Bool.not_eq_false'] at h7
  simpa using h7 x hx
theorem refs_kind {r:Res} (h:saneR r=0):∀ x∈refsR r,x.kind=r.kind+1∧nmOk x.name=true:=by
 obtain ⟨h1,h2,h3,h4,h5⟩:=sane_parts h
 intro x hx
 rw [(refs_up h).2,List.mem_append] at hx
 rcases hx with hx|hx
 ·unfold baseR at hx
  split at hx
  ·simp at hx
  ·rename_i hne
   rw [List.mem_singleton] at hx
   subst hx
   exact ⟨wrapK h,h4 hne⟩
 ·obtain ⟨z,hz,y,hy,hw,rfl⟩:=mem_keysR.1 hx
  have hk:=h2 (List.ne_nil_of_mem hz)
  refine ⟨by simp only; omega,?_⟩
  have hr:=h5 z hz
  simp only [ruleOk,Bool.and_eq_true,Bool.not_eq_true',List.any_eq_false,Bool.not_eq_true,Bool.not_eq_false'] at hr
  simpa using hr.2.2 y hy
theorem refs_len (r:Res):(refsR r).length≤33:=by
 by_cases hs:saneR r=0
 ·obtain ⟨b1,b2,b3⟩:=small_bounds (sane_small hs)
  have hc:∀ l:List Key,(kcT l).length≤l.length - 1:=by
   intro l
   induction l with
   | nil=>simp [kcT]
   | cons a r ih =>
    cases r with
    | nil=>simp [kcT]
    | cons b r=>rw [kcT]; split<;>simp only [List.length_cons] at ih ⊢<;>omega
  have hk:∀ l:List Key,(kcompact l).length≤l.length:=by
   intro l; unfold kcompact; rw [List.length_append]; have:=hc l
   cases l with
   | nil=>simpa using this
   | cons a r=>simp only [List.length_cons,List.take_succ_cons,List.take_zero,List.length_nil] at this ⊢; omega
  have hkR:∀ l:List Rule,(∀ x∈l,x.split.length≤4)→(keysR l).length≤4 * l.length:=by
   intro l
   induction l with
   | nil=>simp [keysR]
   | cons a r ih =>
    intro h
    rw [keysR_cons,List.length_append]
    have:=ih fun x hx=>h x (List.mem_cons_of_mem _ hx)
    have h2:=h a (by simp)
    have h3:=keysW_len a.split
    simp only [List.length_cons]; omega
  have hb:(baseR r).length≤1:=by unfold baseR; split<;>simp
  have:=hk (ksort (baseR r++keysR r.rules'))
  rw [ksort_length,List.length_append] at this
  have:=hkR _ b3
  unfold refsR
  rw [if_pos hs]
  omega
 ·rw [refs_not hs]; simp
end Go.Proofs.YtmjkjmoeicnbnaaGreatDoor.Lg
