/- Parts of the proof, one behind the other. -/
import Derived.Test.YthjalhfmpffbjaaGreatDoorG13
set_option linter.unusedVariables false
set_option linter.unusedSimpArgs false
set_option maxRecDepth 100000
set_option maxHeartbeats 64000000
namespace Go.Proofs.YthjalhfmpffbjaaGreatDoor.Lg
open Go
open Tryz
open Nat renaming reduceEqDiff → Qa, reduceLT → Qb, reduceLeDiff → Qc, reduceAdd → Qd, reduceMul → Qe, reduceSub → Qf, reduceBEq → Qg
open String renaming reduceEq → Qh
open SpecC renaming seqW → Qi, regW → Qj, drawW → Qk, condW → Ql, block → Qm, skip → Qn, exit → Qp, ret → Qr, loopF → Qs
open NxK renaming out → Qw
open Nx renaming out → Qx
open condK renaming split → Qy
open gK renaming split_t → Qz, split_f → QA
theorem JoH:Go.Sort.SWO (ltOf JL) where
 irrefl x:=by simp only[ltOf,decide_eq_false_iff_not];exact JiO x
 trans x y z h k:=by
  simp only[ltOf,decide_eq_true_eq] at h k ⊢
  exact JcV x y z h k
 ntrans x y z h k:=by
  simp only[ltOf,decide_eq_false_iff_not] at h k ⊢
  intro h3
  by_cases h4:JL y z=0
  ·have:=Jeg _ _ h4;subst this;exact h h3
  ·have h5:JL z y<0:=by have:=Jb7 y z;omega
   exact h (JcV _ _ _ h3 h5)
theorem JoI(x y:Key)(h:ltOf JL x y=false)(k:ltOf JL y x=false):x=y:=by
 simp only[ltOf,decide_eq_false_iff_not] at h k
 have:=Jb7 x y
 exact Jeg _ _ (by omega)
def VW(k:Key):List Value:=[.int .i64 k.kind,.string ⟨k.name.toArray⟩]
theorem JoA{c:Ctx}{v:Value}{k:Key}{j:Nat}(hj:j<2)(h:Rep c v ((Dat.av k).cells.getD j .any)):v=(VW k)[j]!:=by
 match j,hj with
 |0,_ =>
  change Rep c v (.int .i64 k.kind) at h
  cases h;rfl
 |1,_ =>
  change Rep c v (.str k.name) at h
  cases h with
  |str s _ h =>
   obtain⟨a⟩:=s
   have e:a=k.name.toArray:=by rw[←h]
   subst e;rfl
theorem Jp8(c:Ctx)(k:Key){j:Nat}(hj:j<2):Rep c ((VW k)[j]!) ((Dat.av k).cells.getD j .any):=by
 match j,hj with
 |0,_=>exact .int _ _
 |1,_=>exact .str _ _ rfl
theorem Joy(x y:Key)(W:World):Calls prog 120 #[.agg (VW x).toArray,.agg (VW y).toArray] W fun e w'=>e=.returned (.int .i64 (JL x y))∧∃q os',w'=Go.Sort.grow (W.drewN q) os':=by
 have eg:∀args w,(callFunc 120 args).run prog w=.ok (.enter 120 args) w:=enters_of func120 (by kernel_rfl) rfl
 have hx:∀(z:Key) (j:Nat),Rep (Vk W) ((VW z).toArray.getD j undef) (([.int .i64 z.kind,.str z.name]:List AV).getD j .any):=fun z j=>by
  match j with
  |0=>exact .int _ _
  |1=>exact .str _ _ rfl
  |j+2=>exact .any _
 have h:=(Vv x.kind y.kind x.name y.name).top #[.agg (VW x).toArray,.agg (VW y).toArray] W rfl fun i=>by
  match i with
  |0=>exact .agg _ _ rfl (hx x)
  |1=>exact .agg _ _ rfl (hx y)
  |i+2=>exact .any _
 rw[eg] at h
 refine Calls.mono h ?_
 rintro e w' ⟨v,rfl,hv,hg⟩
 cases hv
 exact⟨rfl,hg.grown⟩
open Go.Sort in
theorem ZS(xs:List Key)(hl:Jc xs.length):JdG prog 119 120 2 (Ja xs) (Ja (JM xs)):=by
 intro E ts G a w d v0 hrel hob hos
 have L:=Tryz.sortKey
 have e6:∀args w,(callFunc 119 args).run prog w=.ok (.enter 119 args) w:=enters_of func119 (by kernel_rfl) rfl
 have eg:∀args w,(callFunc 120 args).run prog w=.ok (.enter 120 args) w:=enters_of func120 (by kernel_rfl) rfl
 rw[e6]
 show Calls _ _ _ _ _
 have hobk:=hrel.obj d
 rw[hob] at hobk
 obtain⟨_,hcl,hobk⟩:=hobk
 unfold JO at hos
 have hcl':∀x∈Ja (JM xs),x.cells.length=2:=fun x hx=>by
  simp only[Ja,List.mem_map] at hx
  obtain⟨k,_,rfl⟩:=hx
  rfl
 cases hκ:G.κ d with
 |none =>
  have hκ':(Jb E G ts w).κ d=none:=hκ
  rw[hκ'] at hos hobk
  obtain⟨hlen,ad,rfl⟩:=hos
  have hx:xs=[]:=List.eq_nil_of_length_eq_zero (by simpa[Ja] using hlen)
  subst hx
  have h:=AnyF.slices_SortFunc_none L ad 0 (.func (.func 120) #[] #[]) w
  change Calls _ 119 _ _ _ at h
  refine h.mono ?_
  rintro e w' ⟨rfl,rfl⟩
  refine⟨rfl,⟨rfl,rfl,rfl,Nat.le_refl _,Nat.le_refl _,fun _ _ _=>rfl⟩,by decide,hcl',?_⟩
  have hκ2:(Jb E G (ts.setObj d (.arr 2 (Ja (JM [])))) w').κ d=none:=hκ
  rw[hκ2]
  show Ja (JM [])=[]
  simp[JM,Ja]
 |some cap =>
  have hκ':(Jb E G ts w).κ d=some cap:=hκ
  rw[hκ'] at hos hobk
  obtain⟨rfl,hle⟩:=hos
  obtain⟨vs,T,hh,hsz,hlc,hcells⟩:=hobk
  have hlen:(Ja xs).length=xs.length:=by simp[Ja]
  rw[hlen] at hlc hle hcells ⊢
  have hval:∀t,t<xs.length*2→vs[t]?=some ((flatK VW 2 xs.toArray)[t]!):=fun t ht=>by
   have h2:t<vs.size:=by omega
   rw[get_flatK _ _ _ _ (by simpa using ht)]
   have hq:t / 2<xs.length:=by omega
   have h:=hcells (t / 2) (t % 2) hq (by omega)
   have e:t / 2*2+t % 2=t:=by omega
   rw[e] at h
   have e2:(Ja xs).getD (t / 2) .any=Dat.av xs[t / 2]:=by simp[Ja,hq]
   rw[e2] at h
   have:=JoA (by omega) h
   rw[Array.getElem?_eq_getElem h2]
   have e3:vs.getD t undef=vs[t]:=by simp[Array.getD,h2]
   rw[e3] at this
   rw[this]
   congr 2
   simp[hq]
  have hblk:G.β d<w.heap.size:=by
   have:w.heap[G.β d]?=_:=hh
   by_cases hb:G.β d<w.heap.size
   ·exact hb
   ·rw[Array.getElem?_eq_none (by omega)] at this;cases this
  have hH:HoldsK VW 2 w (G.β d) 0 xs.toArray:=fun j hj=>by
   rw[size_flatK] at hj
   have hj':j<xs.length*2:=by simpa using hj
   have hh':w.heap[G.β d]?=some (.cells vs T (0,0)):=hh
   constructor
   ·simp only[World.cell?,hh',Nat.zero_add]
    exact hval j hj'
   ·simp only[World.frozen?,hh']
    simp
  have hcmp:CmpLays prog 120 #[] VW 2 JL (G.β d) 0 xs.toArray.size w:=fun m os dk hdk x y=>by
   have h:=Joy x y (sortWorldK VW 2 w (G.β d) 0 m dk os)
   simpa using h
  have h:=AnyQ.slices_SortFunc_total L 2 Tryz.isAgg134 Tryz.sizeOf134 VW (fun _=>rfl) (fun x v hv=>by
   simp only[VW,List.mem_cons,List.not_mem_nil,or_false] at hv
   rcases hv with rfl|rfl<;>rfl) JL JoH 120 #[] (G.β d) 0 cap xs.toArray w eg hcmp hH hblk (by unfold Jc at hl;simp;omega) JoI
  change Calls _ 119 _ _ _ at h
  have hsa:xs.toArray.size=xs.length:=by simp
  rw[hsa] at h
  refine h.mono ?_
  rintro e w' ⟨rfl,n,os,rfl⟩
  have hks:(xs.toArray.toList.mergeSort fun x y=>!(ltOf JL) y x)=JM xs:=rfl
  rw[hks]
  have hh':w.heap[G.β d]?=some (.cells vs T (0,0)):=hh
  have hnew:(sortWorldK VW 2 w (G.β d) 0 n (JM xs).toArray os).heap[G.β d]?=some (.cells (putCells id 0 (flatK VW 2 (JM xs).toArray) vs) T (0,0)):=by
   simp only[sortWorldK,grow,putRowK,putRow,mapBlock,Go.Sort.ahead]
   rw[Array.getElem?_append_left (by simpa using hblk),Array.getElem?_modify,if_pos rfl,hh']
   rfl
  refine⟨rfl,⟨rfl,rfl,rfl,?_,?_,fun i hi hne=>?_⟩,by decide,hcl',?_⟩
  ·simp only[sortWorldK,grow,putRowK,putRow,mapBlock,Go.Sort.ahead];simp
  ·simp only[sortWorldK,grow,putRowK,putRow,mapBlock,Go.Sort.ahead];omega
  ·have hlive:Jj ts G d:=⟨by simp[hob,Ob.kind],by rw[hκ];simp⟩
   have hne:=hne hlive
   simp only[sortWorldK,grow,putRowK,putRow,mapBlock,Go.Sort.ahead]
   rw[Array.getElem?_append_left (by simpa using hi),Array.getElem?_modify,if_neg (fun h=>hne h.symm)]
  ·have hκ2:(Jb E G (ts.setObj d (.arr 2 (Ja (JM xs)))) (sortWorldK VW 2 w (G.β d) 0 n (JM xs).toArray os)).κ d=some cap:=hκ
   rw[hκ2]
   have hlen2:(Ja (JM xs)).length=xs.length:=by simp[Ja,JaB]
   refine⟨_,T,hnew,by simp[putCells,hsz],by rw[hlen2];exact hlc,fun i j hi hj=>?_⟩
   rw[hlen2] at hi
   have hi2:i<(JM xs).length:=by rw[JaB];exact hi
   have ht:i*2+j<vs.size:=by omega
   have e2:(Ja (JM xs)).getD i .any=Dat.av (JM xs)[i]:=by simp[Ja,hi2]
   rw[e2]
   have e3:(putCells id 0 (flatK VW 2 (JM xs).toArray) vs).getD (i*2+j) undef=(VW (JM xs)[i])[j]!:=by
    have hf:i*2+j<(JM xs).toArray.size*2:=by simp[JaB];omega
    simp only[putCells,Array.getD,Array.size_mapIdx,ht,dite_true,Array.getInternal_eq_getElem,Array.getElem_mapIdx]
    rw[if_pos ⟨Nat.zero_le _,by rw[size_flatK];omega⟩]
    simp only[Nat.sub_zero,id]
    rw[get_flatK _ _ _ _ hf]
    have e4:(i*2+j) / 2=i:=by omega
    have e5:(i*2+j) % 2=j:=by omega
    rw[e4,e5]
    congr 2
    simp[hi2]
   rw[e3]
   exact Jp8 _ _ hj
@[go_sem] def Wd7:List (List Nat×List Nat):=[([16],[17,20,21,22,23,24]),([17],[16,20,21,22,23,24]),([18],[20,21,22,23,24]),([19],[20,21,22,23,24]),([20],[16,17,18,19,21,22]),([21],[16,17,18,19,20,24]),([22],[16,17,18,19,20]),([23],[16,17,18,19]),([24],[16,17,18,19,21])]
@[go_sem] def Wd8:List (List Nat×List Nat):=[([35],[36,39,40,41,42,43]),([36],[35,39,40,41,42,43]),([37],[39,40,41,42,43]),([38],[39,40,41,42,43]),([39],[35,36,37,38,40,41]),([40],[35,36,37,38,39,43]),([41],[35,36,37,38,39]),([42],[35,36,37,38]),([43],[35,36,37,38,40])]
theorem JiK{xs:List Key}{k:Nat}(h0:0<k)(h:k<xs.length):Vd (xs.drop (k-1))=if xs[k]=xs[k-1] then Vd (xs.drop k) else xs[k] :: Vd (xs.drop k):=by
 have e:xs.drop (k-1)=xs[k-1] :: xs[k] :: xs.drop (k+1):=by
  rw[List.drop_eq_getElem_cons (by omega:k-1<xs.length)]
  congr 1
  have:k-1+1=k:=by omega
  rw[this,List.drop_eq_getElem_cons h]
 rw[e,Vd,←List.drop_eq_getElem_cons h]
theorem JiL{xs:List Key}{k:Nat}(h:xs.length≤k+1):Vd (xs.drop k)=[]:=by
 have:(xs.drop k).length≤1:=by simp;omega
 match hx:xs.drop k,this with
 | [],_=>rfl
 | [_],_=>rfl
theorem ZF(xs:List Key)(hl:Jc xs.length):CallM prog 121 2 (Ja xs) [] (.own 2 (Ja (V8 xs))):=by
 refine CallM.go0 (T:=T) call121 func121 rfl ntmps121 (congrArg Array.toList results121) (by decide) fun ts hn h0 hg0 ho0=>?_
 by_cases h2:xs.length<2
 ·have hc:V8 xs=xs:=by
   match xs,h2 with
   | [],_=>rfl
   | [_],_=>rfl
  (repeat' (first
 | (with_reducible first|assumption|(refine Qw hK _ ?_;clear hK K)|refine Qw ‹_› _ ?_|refine Qx ‹_› ?_|refine Qi fun K hK=>?_|refine Qj T fun K hK=>?_|refine Qk (id:=6) T mixed Wd7 (by kernel_rfl) fun K hK=>?_|refine Qk (id:=11) T mixed Wd8 (by kernel_rfl) fun K hK=>?_|refine Ql fun A B hA hB=>?_|refine Qm ?_|refine Qn ?_|refine Qp ?_|refine Qr ?_)
 |(with_reducible first|apply Qy|apply Qz|apply QA)<;>intro hb<;>try simp only[nr] at hb
 |simp only[go_sem,↓reduceIte,Qa,Qh,Qb,Qc,Qd,Qe,Qf,Qg,reduceCtorEq, *,hc]
 |intro(bn:Bool) hbn))
 ·(repeat' (first
 | (with_reducible first|assumption|(refine Qw hK _ ?_;clear hK K)|refine Qw ‹_› _ ?_|refine Qx ‹_› ?_|refine Qi fun K hK=>?_|refine Qj T fun K hK=>?_|refine Qk (id:=6) T mixed Wd7 (by kernel_rfl) fun K hK=>?_|refine Qk (id:=11) T mixed Wd8 (by kernel_rfl) fun K hK=>?_|refine Ql fun A B hA hB=>?_|refine Qm ?_|refine Qn ?_|refine Qp ?_|refine Qr ?_)
 |(with_reducible first|apply Qy|apply Qz|apply QA)<;>intro hb<;>try simp only[nr] at hb
 |simp only[go_sem,↓reduceIte,Qa,Qh,Qb,Qc,Qd,Qe,Qf,Qg,reduceCtorEq, *]
 |intro(bn:Bool) hbn))
  refine Qs [0] (fun m ts'=>∃(k:Nat),m=xs.length-k∧1≤k∧k≤xs.length∧V8 xs=xs.take k++Vd (xs.drop (k-1))∧ts'.tmp 3=.int .i64 k) (xs.length-1) ?_ ?_
  ·refine⟨1,rfl,Nat.le_refl _,by omega,rfl,?_⟩
   simp only[go_sem,↓reduceIte,Qa,Qh,Qb,Qc,Qd,Qe,Qf,Qg,reduceCtorEq, *]
   rfl
  ·rintro m A hM ts' hk ⟨k,hm,f1,f2,f3,s1⟩
   simp only[go_sem,↓reduceIte,Qa,Qh,Qb,Qc,Qd,Qe,Qf,Qg,reduceCtorEq, *] at hk
   by_cases hlt:k<xs.length
   ·have hw:IntKind.i64.wrap ((k:Int)-1)=((k-1:Nat):Int):=by
     rw[Jg3 (show Jc k by unfold Jc at *;omega)];omega
    have hk1:k-1<xs.length:=by omega
    simp only[JiK f1 hlt,Jaw] at f3
    (repeat' (first
 | (with_reducible first|assumption|(refine Qw hK _ ?_;clear hK K)|refine Qw ‹_› _ ?_|refine Qx ‹_› ?_|refine Qi fun K hK=>?_|refine Qj T fun K hK=>?_|refine Qk (id:=6) T mixed Wd7 (by kernel_rfl) fun K hK=>?_|refine Qk (id:=11) T mixed Wd8 (by kernel_rfl) fun K hK=>?_|refine Ql fun A B hA hB=>?_|refine Qm ?_|refine Qn ?_|refine Qp ?_|refine Qr ?_)
 |(with_reducible first|apply Qy|apply Qz|apply QA)<;>intro hb<;>try simp only[nr] at hb
 |simp only[go_sem,↓reduceIte,Qa,Qh,Qb,Qc,Qd,Qe,Qf,Qg,reduceCtorEq, *,hw,-f3]
 |intro(bn:Bool) hbn))
    ·have hk4:V8 xs=xs.take k++Vd (xs.drop k):=by rw[f3,if_pos (by clear hM hK;grind)]
     clear f3 hM
     refine Qs [4] (fun m ts'=>∃(q:Nat),∃(j:Nat),∃(ys:List Key),m=xs.length-j∧1≤j∧k+j≤xs.length∧q≤k+j-1∧ys.length=xs.length∧V8 xs=ys.take q++Vd (xs.drop (k+j-1))∧ys.drop (k+j-1)=xs.drop (k+j-1)∧ts'.tmp 0=.os 0 0 xs.length∧ts'.gen 0=0∧ts'.obj 0=.arr 2 (Ja ys)∧ts'.tmp 3=.int .i64 q∧ts'.tmp 5=.int .i64 j) (xs.length-1) ?_ ?_
     ·refine⟨k,1,xs,rfl,Nat.le_refl _,by omega,by omega,rfl,hk4,rfl,?_⟩
      simp only[go_sem,↓reduceIte,Qa,Qh,Qb,Qc,Qd,Qe,Qf,Qg,reduceCtorEq, *,-hk4]
      all_goals rfl
     ·clear hk4
      rintro m A hM ts' hk ⟨q,j,ys,hm,f1,f2,f3,f4,f5,f6,s1,s2,s3,s4,s5⟩
      simp only[go_sem,↓reduceIte,Qa,Qh,Qb,Qc,Qd,Qe,Qf,Qg,reduceCtorEq, *] at hk
      by_cases hjt:j<xs.length-k
      ·have hw2:IntKind.i64.wrap ((j:Int)-1)=((j-1:Nat):Int):=by
        rw[Jg3 (show Jc j by unfold Jc at *;omega)];omega
       have hkj:k+j<xs.length:=by omega
       have hky:k+j<ys.length:=by omega
       have hkj1:k+(j-1)<xs.length:=by omega
       have hky1:k+(j-1)<ys.length:=by omega
       have e1:k+(j-1)=k+j-1:=by omega
       have hy2:ys[k+(j-1)]=xs[k+(j-1)]:=by
        have:=congrArg (fun l=>l[0]?) f6
        simp only[List.getElem?_drop,Nat.add_zero,←e1] at this
        rwa [List.getElem?_eq_getElem hky1,List.getElem?_eq_getElem hkj1,Option.some.injEq] at this
       have hy1:ys[k+j]=xs[k+j]:=by
        have:=congrArg (fun l=>l[1]?) f6
        have e2:k+j-1+1=k+j:=by omega
        simp only[List.getElem?_drop,e2] at this
        rwa [List.getElem?_eq_getElem hky,List.getElem?_eq_getElem hkj,Option.some.injEq] at this
       have hdr:ys.drop (k+j)=xs.drop (k+j):=by
        have:=congrArg (List.drop 1) f6
        have e2:k+j-1+1=k+j:=by omega
        simpa only[List.drop_drop,e2] using this
       have hq:q<xs.length:=by omega
       have hj1:j-1<xs.length-k:=by omega
       have hjx:j<xs.length:=by omega
       have hkT:=JiK (show 0<k+j by omega) hkj
       simp only[←e1] at hkT
       rw[←e1,hkT] at f5
       have e3:k+(j+1)-1=k+j:=by omega
       (repeat' (first
 | (with_reducible first|assumption|(refine Qw hK _ ?_;clear hK K)|refine Qw ‹_› _ ?_|refine Qx ‹_› ?_|refine Qi fun K hK=>?_|refine Qj T fun K hK=>?_|refine Qk (id:=6) T mixed Wd7 (by kernel_rfl) fun K hK=>?_|refine Qk (id:=11) T mixed Wd8 (by kernel_rfl) fun K hK=>?_|refine Ql fun A B hA hB=>?_|refine Qm ?_|refine Qn ?_|refine Qp ?_|refine Qr ?_)
 |(with_reducible first|apply Qy|apply Qz|apply QA)<;>intro hb<;>try simp only[nr] at hb
 |simp only[go_sem,↓reduceIte,Qa,Qh,Qb,Qc,Qd,Qe,Qf,Qg,reduceCtorEq, *,hw2,-f5,-f6,-hdr,-hkT,-e1]
 |intro(bn:Bool) hbn))
       all_goals ((repeat clear hK);(repeat clear hA);(repeat clear hB))
       ·(refine hM.on (xs.length-(j+1)) (by omega) (by simp only[go_sem,↓reduceIte,Qa,Qh,Qb,Qc,Qd,Qe,Qf,Qg,reduceCtorEq, *,Jg hq hl,Jg hjx hl,-f5,-f6,-hdr,-hkT,-e1]) ⟨q+1,j+1,ys.set q xs[k+j],rfl,by omega,by omega,by omega,by simp[f4],by clear hM;rw[f5,if_neg (by grind [Jaw]),JgS _ (by omega),e3,List.append_assoc];rfl,by rw[e3,List.drop_set,if_pos (by omega),hdr],?_⟩;simp only[go_sem,↓reduceIte,Qa,Qh,Qb,Qc,Qd,Qe,Qf,Qg,reduceCtorEq, *,Jg hq hl,Jg hjx hl,-f5,-f6,-hdr,-hkT,-e1];done)
       ·(refine hM.on (xs.length-(j+1)) (by omega) (by simp only[go_sem,↓reduceIte,Qa,Qh,Qb,Qc,Qd,Qe,Qf,Qg,reduceCtorEq, *,Jg hjx hl,-f5,-f6,-hdr,-hkT,-e1]) ⟨q,j+1,ys,rfl,by omega,by omega,by omega,f4,by clear hM;rw[f5,if_pos (by grind [Jaw]),e3],by rw[e3,hdr],?_⟩;simp only[go_sem,↓reduceIte,Qa,Qh,Qb,Qc,Qd,Qe,Qf,Qg,reduceCtorEq, *,Jg hjx hl,-f5,-f6,-hdr,-hkT,-e1];done)
      ·have hkj:k+j=xs.length:=by omega
       have f7:V8 xs=ys.take q:=by rw[f5,JiL (by omega),List.append_nil]
       have hq1:q≤xs.length:=by omega
       have hq2:q+(xs.length-q)=xs.length:=by omega
       clear f5 f6
       (repeat' (first
 | (with_reducible first|assumption|(refine Qw hK _ ?_;clear hK K)|refine Qw ‹_› _ ?_|refine Qx ‹_› ?_|refine Qi fun K hK=>?_|refine Qj T fun K hK=>?_|refine Qk (id:=6) T mixed Wd7 (by kernel_rfl) fun K hK=>?_|refine Qk (id:=11) T mixed Wd8 (by kernel_rfl) fun K hK=>?_|refine Ql fun A B hA hB=>?_|refine Qm ?_|refine Qn ?_|refine Qp ?_|refine Qr ?_)
 |(with_reducible first|apply Qy|apply Qz|apply QA)<;>intro hb<;>try simp only[nr] at hb
 |simp only[go_sem,↓reduceIte,Qa,Qh,Qb,Qc,Qd,Qe,Qf,Qg,reduceCtorEq, *]
 |intro(bn:Bool) hbn))
    ·all_goals ((repeat clear hK);(repeat clear hA);(repeat clear hB))
     (refine hM.on (xs.length-(k+1)) (by omega) (by simp only[go_sem,↓reduceIte,Qa,Qh,Qb,Qc,Qd,Qe,Qf,Qg,reduceCtorEq, *,Jg hlt hl,-f3]) ⟨k+1,rfl,by omega,by omega,by clear hM;rw[f3,if_neg (by grind),List.take_succ_eq_append_getElem hlt,List.append_assoc];rfl,?_⟩;simp only[go_sem,↓reduceIte,Qa,Qh,Qb,Qc,Qd,Qe,Qf,Qg,reduceCtorEq, *,Jg hlt hl,-f3];done)
   ·have hc:V8 xs=xs:=by rw[f3,List.take_of_length_le (by omega),JiL (by omega)];simp
    (repeat' (first
 | (with_reducible first|assumption|(refine Qw hK _ ?_;clear hK K)|refine Qw ‹_› _ ?_|refine Qx ‹_› ?_|refine Qi fun K hK=>?_|refine Qj T fun K hK=>?_|refine Qk (id:=6) T mixed Wd7 (by kernel_rfl) fun K hK=>?_|refine Qk (id:=11) T mixed Wd8 (by kernel_rfl) fun K hK=>?_|refine Ql fun A B hA hB=>?_|refine Qm ?_|refine Qn ?_|refine Qp ?_|refine Qr ?_)
 |(with_reducible first|apply Qy|apply Qz|apply QA)<;>intro hb<;>try simp only[nr] at hb
 |simp only[go_sem,↓reduceIte,Qa,Qh,Qb,Qc,Qd,Qe,Qf,Qg,reduceCtorEq, *,hc,-f3]
 |intro(bn:Bool) hbn))
@[go_sem] def Yg:List (List Nat×List Nat):=[([16],[17,20,21,22,23]),([17],[16,20,21,22,23]),([18],[20,21,22,23]),([19],[20,21,22,23]),([20],[16,17,18,19,21]),([21],[16,17,18,19,20]),([22],[16,17,18,19]),([23],[16,17,18,19])]
theorem JnF(xs ys:List Int)(hl:Jc xs.length):CallR prog 184 [.slice false (Ja xs),.slice false (Ja ys)] (.val (.bool (decide (xs=ys)))):=by
 refine Jn call184 func184 rfl ntmps184 results184 fun ts hn h0 h1=>?_
 by_cases hll:xs.length=ys.length
 ·(repeat' (first
 | (with_reducible first|assumption|(refine Qw hK _ ?_;clear hK K)|refine Qw ‹_› _ ?_|refine Qx ‹_› ?_|refine Qi fun K hK=>?_|refine Qj T fun K hK=>?_|refine Qk (id:=6) T mixed Yg (by kernel_rfl) fun K hK=>?_|refine Ql fun A B hA hB=>?_|refine Qm ?_|refine Qn ?_|refine Qp ?_|refine Qr ?_)
 |(with_reducible first|apply Qy|apply Qz|apply QA)<;>intro hb<;>try simp only[nr] at hb
 |simp only[go_sem,↓reduceIte,Qa,Qh,Qb,Qc,Qd,Qe,Qf,Qg,reduceCtorEq, *]
 |intro(bn:Bool) hbn))
  refine Qs [0,1,12] (fun m ts'=>∃(i:Nat),m=xs.length-i∧i≤xs.length∧xs.take i=ys.take i∧ts'.tmp 13=.int .i64 i) xs.length ?_ ?_
  ·refine⟨0,?_⟩
   simp only[go_sem,↓reduceIte,Qa,Qh,Qb,Qc,Qd,Qe,Qf,Qg,reduceCtorEq, *]
  ·rintro m A hM ts' hk ⟨i,hm,f1,f2,s1⟩
   simp only[go_sem,↓reduceIte,Qa,Qh,Qb,Qc,Qd,Qe,Qf,Qg,reduceCtorEq, *] at hk
   by_cases hlt:i<xs.length
   ·have hlu:i<ys.length:=by omega
    have hne:=ZW hlt hlu
    (repeat' (first
 | (with_reducible first|assumption|(refine Qw hK _ ?_;clear hK K)|refine Qw ‹_› _ ?_|refine Qx ‹_› ?_|refine Qi fun K hK=>?_|refine Qj T fun K hK=>?_|refine Qk (id:=6) T mixed Yg (by kernel_rfl) fun K hK=>?_|refine Ql fun A B hA hB=>?_|refine Qm ?_|refine Qn ?_|refine Qp ?_|refine Qr ?_)
 |(with_reducible first|apply Qy|apply Qz|apply QA)<;>intro hb<;>try simp only[nr] at hb
 |simp only[go_sem,↓reduceIte,Qa,Qh,Qb,Qc,Qd,Qe,Qf,Qg,reduceCtorEq, *]
 |intro(bn:Bool) hbn))
    all_goals ((repeat clear hK);(repeat clear hA);(repeat clear hB))
    all_goals first
     | (refine hM.on (xs.length-(i+1)) (by omega) (by simp only[go_sem,↓reduceIte,Qa,Qh,Qb,Qc,Qd,Qe,Qf,Qg,reduceCtorEq, *,Jg hlt hl]) ⟨i+1,rfl,by omega,by clear hM;apply ZV f2 hlt hlu;grind,?_⟩;simp only[go_sem,↓reduceIte,Qa,Qh,Qb,Qc,Qd,Qe,Qf,Qg,reduceCtorEq, *,Jg hlt hl];done)
     | (clear hM;grind)
   ·have:=ZU f2 hlt hll
    (repeat' (first
 | (with_reducible first|assumption|(refine Qw hK _ ?_;clear hK K)|refine Qw ‹_› _ ?_|refine Qx ‹_› ?_|refine Qi fun K hK=>?_|refine Qj T fun K hK=>?_|refine Qk (id:=6) T mixed Yg (by kernel_rfl) fun K hK=>?_|refine Ql fun A B hA hB=>?_|refine Qm ?_|refine Qn ?_|refine Qp ?_|refine Qr ?_)
 |(with_reducible first|apply Qy|apply Qz|apply QA)<;>intro hb<;>try simp only[nr] at hb
 |simp only[go_sem,↓reduceIte,Qa,Qh,Qb,Qc,Qd,Qe,Qf,Qg,reduceCtorEq, *]
 |intro(bn:Bool) hbn))
    all_goals ((repeat clear hK);(repeat clear hA);(repeat clear hB))
    all_goals (clear hM;grind)
 ·have:¬xs=ys:=by rintro rfl;exact hll rfl
  (repeat' (first
 | (with_reducible first|assumption|(refine Qw hK _ ?_;clear hK K)|refine Qw ‹_› _ ?_|refine Qx ‹_› ?_|refine Qi fun K hK=>?_|refine Qj T fun K hK=>?_|refine Qk (id:=6) T mixed Yg (by kernel_rfl) fun K hK=>?_|refine Ql fun A B hA hB=>?_|refine Qm ?_|refine Qn ?_|refine Qp ?_|refine Qr ?_)
 |(with_reducible first|apply Qy|apply Qz|apply QA)<;>intro hb<;>try simp only[nr] at hb
 |simp only[go_sem,↓reduceIte,Qa,Qh,Qb,Qc,Qd,Qe,Qf,Qg,reduceCtorEq, *]
 |intro(bn:Bool) hbn))
  all_goals ((repeat clear hK);(repeat clear hA);(repeat clear hB))
  all_goals grind
theorem JnH(xs ys:List Weight)(hl:Jc xs.length):CallR prog 183 [.slice false (Ja xs),.slice false (Ja ys)] (.val (.bool (decide (xs=ys)))):=by
 refine Jn call183 func183 rfl ntmps183 results183 fun ts hn h0 h1=>?_
 by_cases hll:xs.length=ys.length
 ·(repeat' (first
 | (with_reducible first|assumption|(refine Qw hK _ ?_;clear hK K)|refine Qw ‹_› _ ?_|refine Qx ‹_› ?_|refine Qi fun K hK=>?_|refine Qj T fun K hK=>?_|refine Qk (id:=6) T mixed Yg (by kernel_rfl) fun K hK=>?_|refine Ql fun A B hA hB=>?_|refine Qm ?_|refine Qn ?_|refine Qp ?_|refine Qr ?_)
 |(with_reducible first|apply Qy|apply Qz|apply QA)<;>intro hb<;>try simp only[nr] at hb
 |simp only[go_sem,↓reduceIte,Qa,Qh,Qb,Qc,Qd,Qe,Qf,Qg,reduceCtorEq, *]
 |intro(bn:Bool) hbn))
  refine Qs [0,1,12] (fun m ts'=>∃(i:Nat),m=xs.length-i∧i≤xs.length∧xs.take i=ys.take i∧ts'.tmp 13=.int .i64 i) xs.length ?_ ?_
  ·refine⟨0,?_⟩
   simp only[go_sem,↓reduceIte,Qa,Qh,Qb,Qc,Qd,Qe,Qf,Qg,reduceCtorEq, *]
  ·rintro m A hM ts' hk ⟨i,hm,f1,f2,s1⟩
   simp only[go_sem,↓reduceIte,Qa,Qh,Qb,Qc,Qd,Qe,Qf,Qg,reduceCtorEq, *] at hk
   by_cases hlt:i<xs.length
   ·have hlu:i<ys.length:=by omega
    have hne:=ZW hlt hlu
    rw[Jd4] at hne
    (repeat' (first
 | (with_reducible first|assumption|(refine Qw hK _ ?_;clear hK K)|refine Qw ‹_› _ ?_|refine Qx ‹_› ?_|refine Qi fun K hK=>?_|refine Qj T fun K hK=>?_|refine Qk (id:=6) T mixed Yg (by kernel_rfl) fun K hK=>?_|refine Ql fun A B hA hB=>?_|refine Qm ?_|refine Qn ?_|refine Qp ?_|refine Qr ?_)
 |(with_reducible first|apply Qy|apply Qz|apply QA)<;>intro hb<;>try simp only[nr] at hb
 |simp only[go_sem,↓reduceIte,Qa,Qh,Qb,Qc,Qd,Qe,Qf,Qg,reduceCtorEq, *]
 |intro(bn:Bool) hbn))
    all_goals ((repeat clear hK);(repeat clear hA);(repeat clear hB))
    all_goals first
     | (refine hM.on (xs.length-(i+1)) (by omega) (by simp only[go_sem,↓reduceIte,Qa,Qh,Qb,Qc,Qd,Qe,Qf,Qg,reduceCtorEq, *,Jg hlt hl]) ⟨i+1,rfl,by omega,by clear hM;apply ZV f2 hlt hlu;rw[Jd4];grind,?_⟩;simp only[go_sem,↓reduceIte,Qa,Qh,Qb,Qc,Qd,Qe,Qf,Qg,reduceCtorEq, *,Jg hlt hl];done)
     | (clear hM;grind)
   ·have:=ZU f2 hlt hll
    (repeat' (first
 | (with_reducible first|assumption|(refine Qw hK _ ?_;clear hK K)|refine Qw ‹_› _ ?_|refine Qx ‹_› ?_|refine Qi fun K hK=>?_|refine Qj T fun K hK=>?_|refine Qk (id:=6) T mixed Yg (by kernel_rfl) fun K hK=>?_|refine Ql fun A B hA hB=>?_|refine Qm ?_|refine Qn ?_|refine Qp ?_|refine Qr ?_)
 |(with_reducible first|apply Qy|apply Qz|apply QA)<;>intro hb<;>try simp only[nr] at hb
 |simp only[go_sem,↓reduceIte,Qa,Qh,Qb,Qc,Qd,Qe,Qf,Qg,reduceCtorEq, *]
 |intro(bn:Bool) hbn))
    all_goals ((repeat clear hK);(repeat clear hA);(repeat clear hB))
    all_goals (clear hM;grind)
 ·have:¬xs=ys:=by rintro rfl;exact hll rfl
  (repeat' (first
 | (with_reducible first|assumption|(refine Qw hK _ ?_;clear hK K)|refine Qw ‹_› _ ?_|refine Qx ‹_› ?_|refine Qi fun K hK=>?_|refine Qj T fun K hK=>?_|refine Qk (id:=6) T mixed Yg (by kernel_rfl) fun K hK=>?_|refine Ql fun A B hA hB=>?_|refine Qm ?_|refine Qn ?_|refine Qp ?_|refine Qr ?_)
 |(with_reducible first|apply Qy|apply Qz|apply QA)<;>intro hb<;>try simp only[nr] at hb
 |simp only[go_sem,↓reduceIte,Qa,Qh,Qb,Qc,Qd,Qe,Qf,Qg,reduceCtorEq, *]
 |intro(bn:Bool) hbn))
  all_goals ((repeat clear hK);(repeat clear hA);(repeat clear hB))
  all_goals grind
theorem Jhk(x_host LN:List UInt8)(x_split:List Weight)(LS LV:List UInt8)(LP:List Weight)(hl:Jc x_split.length):CallR prog 182 [.agg [.str x_host,.str LN,.slice false (Ja x_split)],.agg [.str LS,.str LV,.slice false (Ja LP)]] (.val (.bool (decide ((⟨x_host,LN,x_split⟩:Rule)=(⟨LS,LV,LP⟩:Rule))))):=by
 refine Jn call182 func182 rfl ntmps182 results182 fun ts hn h0 h1=>?_
 (repeat' (first
 | (with_reducible first|refine callX.by (JnH _ _ ?_) ?_|assumption|(refine Qw hK _ ?_;clear hK K)|refine Qw ‹_› _ ?_|refine Qx ‹_› ?_|refine Qi fun K hK=>?_|refine Qj T fun K hK=>?_|refine Ql fun A B hA hB=>?_|refine Qn ?_|refine Qr ?_)
 |(with_reducible first|apply Qy|apply Qz|apply QA)<;>intro hb<;>try simp only[nr] at hb
 |simp only[go_sem,↓reduceIte,Qa,Qh,Qb,Qc,Qd,Qe,Qf,Qg,reduceCtorEq, *]
 |intro(bn:Bool) hbn))
 all_goals ((repeat clear hK);(repeat clear hA);(repeat clear hB))
 all_goals simp_all
theorem Jh3(fn:FuncId)(caps:List AV)(hc:Caps caps)(xs ys:List Rule)(hp:∀x∈xs,∀y,CallR prog fn (.agg [.str x.host,.str x.pfx,.slice false (Ja x.split)] :: .agg [.str y.host,.str y.pfx,.slice false (Ja y.split)] :: caps) (.val (.bool (decide (x=y)))))(hl:Jc xs.length):CallR prog 185 [.slice false (Ja xs),.slice false (Ja ys),.clo (.func fn) [] caps] (.val (.bool (decide (xs=ys)))):=by
 have hca:=hc.args
 have hcp:=hc.pure
 have hcn:=hc.nrm
 refine Vs call185 func185 rfl ntmps185 results185 fun ts hn h0 h1 h2=>?_
 by_cases hll:xs.length=ys.length
 ·(repeat' (first
 | (with_reducible first|assumption|(refine Qw hK _ ?_;clear hK K)|refine Qw ‹_› _ ?_|refine Qx ‹_› ?_|refine Qi fun K hK=>?_|refine Qj T fun K hK=>?_|refine Ql fun A B hA hB=>?_|refine Qm ?_|refine Qn ?_|refine Qp ?_|refine Qr ?_)
 |(with_reducible first|apply Qy|apply Qz|apply QA)<;>intro hb<;>try simp only[nr] at hb
 |simp only[go_sem,↓reduceIte,Qa,Qh,Qb,Qc,Qd,Qe,Qf,Qg,reduceCtorEq, *,-hp]
 |intro(bn:Bool) hbn))
  refine Qs [1,2,15,16] (fun m ts'=>∃(i:Nat),m=xs.length-i∧i≤xs.length∧xs.take i=ys.take i∧ts'.tmp 17=.int .i64 i) xs.length ?_ ?_
  ·refine⟨0,?_⟩
   simp only[go_sem,↓reduceIte,Qa,Qh,Qb,Qc,Qd,Qe,Qf,Qg,reduceCtorEq, *,-hp]
  ·rintro m A hM ts' hk ⟨i,hm,f1,f2,s1⟩
   simp only[go_sem,↓reduceIte,Qa,Qh,Qb,Qc,Qd,Qe,Qf,Qg,reduceCtorEq, *] at hk
   by_cases hlt:i<xs.length
   ·have hlu:i<ys.length:=by omega
    have hne:=ZW hlt hlu
    have hpi:=hp _ (List.getElem_mem hlt) ys[i]
    (repeat' (first
 | (with_reducible first|refine callX.by (hpi) ?_|assumption|(refine Qw hK _ ?_;clear hK K)|refine Qw ‹_› _ ?_|refine Qx ‹_› ?_|refine Qi fun K hK=>?_|refine Qj T fun K hK=>?_|refine Ql fun A B hA hB=>?_|refine Qm ?_|refine Qn ?_|refine Qp ?_|refine Qr ?_)
 |(with_reducible first|apply Qy|apply Qz|apply QA)<;>intro hb<;>try simp only[nr] at hb
 |simp only[go_sem,↓reduceIte,Qa,Qh,Qb,Qc,Qd,Qe,Qf,Qg,reduceCtorEq, *,-hp,-hpi]
 |intro(bn:Bool) hbn))
    all_goals ((repeat clear hK);(repeat clear hA);(repeat clear hB))
    all_goals first
     | (refine hM.on (xs.length-(i+1)) (by omega) (by simp only[go_sem,↓reduceIte,Qa,Qh,Qb,Qc,Qd,Qe,Qf,Qg,reduceCtorEq, *,Jg hlt hl,-hp,-hpi]) ⟨i+1,rfl,by omega,ZV f2 hlt hlu (of_decide_eq_true hb),?_⟩;simp only[go_sem,↓reduceIte,Qa,Qh,Qb,Qc,Qd,Qe,Qf,Qg,reduceCtorEq, *,Jg hlt hl,-hp,-hpi];done)
     | (clear hM hp hpi;grind)
   ·have:=ZU f2 hlt hll
    (repeat' (first
 | (with_reducible first|assumption|(refine Qw hK _ ?_;clear hK K)|refine Qw ‹_› _ ?_|refine Qx ‹_› ?_|refine Qi fun K hK=>?_|refine Qj T fun K hK=>?_|refine Ql fun A B hA hB=>?_|refine Qm ?_|refine Qn ?_|refine Qp ?_|refine Qr ?_)
 |(with_reducible first|apply Qy|apply Qz|apply QA)<;>intro hb<;>try simp only[nr] at hb
 |simp only[go_sem,↓reduceIte,Qa,Qh,Qb,Qc,Qd,Qe,Qf,Qg,reduceCtorEq, *,-hp]
 |intro(bn:Bool) hbn))
    all_goals ((repeat clear hK);(repeat clear hA);(repeat clear hB))
    all_goals (clear hM hp;grind)
 ·have:¬xs=ys:=by rintro rfl;exact hll rfl
  (repeat' (first
 | (with_reducible first|assumption|(refine Qw hK _ ?_;clear hK K)|refine Qw ‹_› _ ?_|refine Qx ‹_› ?_|refine Qi fun K hK=>?_|refine Qj T fun K hK=>?_|refine Ql fun A B hA hB=>?_|refine Qm ?_|refine Qn ?_|refine Qp ?_|refine Qr ?_)
 |(with_reducible first|apply Qy|apply Qz|apply QA)<;>intro hb<;>try simp only[nr] at hb
 |simp only[go_sem,↓reduceIte,Qa,Qh,Qb,Qc,Qd,Qe,Qf,Qg,reduceCtorEq, *,-hp]
 |intro(bn:Bool) hbn))
  all_goals ((repeat clear hK);(repeat clear hA);(repeat clear hB))
  all_goals (clear hp;grind)
def Jfv(a b:Res):Bool:=decide (a.kind=b.kind∧a.name=b.name∧a.port=b.port∧a.to'=b.to'∧a.rules'=b.rules'∧a.hosts=b.hosts)
theorem JmM(LF:Int)(LG:List UInt8)(LK Lb:Int)(LQ:List UInt8)(a_rules:List Rule)(a_hosts:List Int)(LH:Int)(LI:List UInt8)(LL LJ:Int)(LR:List UInt8)(LC:List Rule)(b_hosts:List Int)(hh:Jc a_hosts.length)(hl:Jc a_rules.length)(hs:∀x∈a_rules,VR x):CallR prog 144 [.agg [.int .i64 LF,.str LG,.int .i64 LK,.int .i64 Lb,.str LQ,.slice false (Ja a_rules),.slice false (Ja a_hosts)],.agg [.int .i64 LH,.str LI,.int .i64 LL,.int .i64 LJ,.str LR,.slice false (Ja LC),.slice false (Ja b_hosts)]] (.val (.bool (Jfv (⟨LF,LG,LK,Lb,LQ,a_rules,a_hosts⟩:Res) (⟨LH,LI,LL,LJ,LR,LC,b_hosts⟩:Res)))):=by
 have h:=Jh3 182 [] Caps.nil a_rules LC (fun x hx y=>Jhk x.host x.pfx x.split y.host y.pfx y.split (hs x hx).2.2.1) hl
 refine Jn call144 func144 rfl ntmps144 results144 fun ts hn h0 h1=>?_
 (repeat' (first
 | (with_reducible first|refine callX.by (h) ?_|refine callX.by (Jhk _ _ _ _ _ _ ?_) ?_|refine callX.by (Vf _ _ _ _ _ _ _) ?_|refine callX.by (JnF _ _ ?_) ?_|refine callX.by (Jh3 _ _ ?_ _ _ ?_ ?_) ?_|assumption|(refine Qw hK _ ?_;clear hK K)|refine Qw ‹_› _ ?_|refine Qx ‹_› ?_|refine Qi fun K hK=>?_|refine Qj T fun K hK=>?_|refine Qk (id:=2) T mixed [([6],[8,11,12,13,14,15,16,17,18,19,20,21,22,23,24,25,26,27,28,29,30,31,32,33,34,35,36,37,38,39]),([7],[8,12,13,14,15,16,17,18,19,20,21,22,23,24,25,26,27,28,29,30,31,32,33,34,35,36,37,38,39]),([8],[6,7,12,13,14,15,16,17,18,19,20,21,22,23,24,25,26,27,28,29,30,31,32,33,34,35,36,37,38,39]),([9],[19,20,21,22,23,24,25,26,27,28,29,30,31,32,33,34,35,36,37,38,39]),([10],[19,20,21,22,23,24,25,26,27,28,29,30,31,32,33,34,35,36,37,38,39]),([11],[6,26,27,28,29,30,31,32,33,34,35,36,37,38,39]),([12],[6,7,8,14,15,17,18,19,20,21,22,23,24,25,26,27,28,29,30,31,32,33,34,35,36,37,38,39]),([13],[6,7,8,14,15,18,19,20,21,22,23,24,25,26,27,28,29,30,31,32,33,34,35,36,37,38,39]),([14],[6,7,8,12,13,17,18,19,20,21,22,23,24,25,26,27,28,29,30,31,32,33,34,35,36,37,38,39]),([15],[6,7,8,12,13,18,19,20,21,22,23,24,25,26,27,28,29,30,31,32,33,34,35,36,37,38,39]),([16],[6,7,8,19,20,21,22,23,24,25,26,27,28,29,30,31,32,33,34,35,36,37,38,39]),([17],[6,7,8,12,14,26,27,28,29,30,31,32,33,34,35,36,37,38,39]),([18],[6,7,8,12,13,14,15,32,33,34,35,36,37,38,39]),([19],[6,7,8,9,10,12,13,14,15,16,21,22,24,25,26,27,28,29,30,31,32,33,34,35,36,37,38,39]),([20],[6,7,8,9,10,12,13,14,15,16,21,22,25,26,27,28,29,30,31,32,33,34,35,36,37,38,39]),([21],[6,7,8,9,10,12,13,14,15,16,19,20,24,25,26,27,28,29,30,31,32,33,34,35,36,37,38,39]),([22],[6,7,8,9,10,12,13,14,15,16,19,20,25,26,27,28,29,30,31,32,33,34,35,36,37,38,39]),([23],[6,7,8,9,10,12,13,14,15,16,26,27,28,29,30,31,32,33,34,35,36,37,38,39]),([24],[6,7,8,9,10,12,13,14,15,16,19,21,32,33,34,35,36,37,38,39]),([25],[6,7,8,9,10,12,13,14,15,16,19,20,21,22,33,34,35,36,37,38,39]),([26],[6,7,8,9,10,11,12,13,14,15,16,17,19,20,21,22,23,28,29,31,32,33,34,35,36,37,38,39]),([27],[6,7,8,9,10,11,12,13,14,15,16,17,19,20,21,22,23,28,29,33,34,35,36,37,38,39]),([28],[6,7,8,9,10,11,12,13,14,15,16,17,19,20,21,22,23,26,27,31,32,33,34,35,36,37,38,39]),([29],[6,7,8,9,10,11,12,13,14,15,16,17,19,20,21,22,23,26,27,33,34,35,36,37,38,39]),([30],[6,7,8,9,10,11,12,13,14,15,16,17,19,20,21,22,23]),([31],[6,7,8,9,10,11,12,13,14,15,16,17,19,20,21,22,23,26,28]),([32],[6,7,8,9,10,11,12,13,14,15,16,17,18,19,20,21,22,23,24,26,28]),([33],[6,7,8,9,10,11,12,13,14,15,16,17,18,19,20,21,22,23,24,25,26,27,28,29,35,36,37,39]),([34],[6,7,8,9,10,11,12,13,14,15,16,17,18,19,20,21,22,23,24,25,26,27,28,29,35,36,37]),([35],[6,7,8,9,10,11,12,13,14,15,16,17,18,19,20,21,22,23,24,25,26,27,28,29,33,34,37,39]),([36],[6,7,8,9,10,11,12,13,14,15,16,17,18,19,20,21,22,23,24,25,26,27,28,29,33,34,37]),([37],[6,7,8,9,10,11,12,13,14,15,16,17,18,19,20,21,22,23,24,25,26,27,28,29,33,34,35,36]),([38],[6,7,8,9,10,11,12,13,14,15,16,17,18,19,20,21,22,23,24,25,26,27,28,29]),([39],[6,7,8,9,10,11,12,13,14,15,16,17,18,19,20,21,22,23,24,25,26,27,28,29,33,35])] (by kernel_rfl) fun K hK=>?_|refine Ql fun A B hA hB=>?_|refine Qn ?_|refine Qr ?_)
 |(with_reducible first|apply Qy|apply Qz|apply QA)<;>intro hb<;>try simp only[nr] at hb
 |simp only[go_sem,↓reduceIte,Qa,Qh,Qb,Qc,Qd,Qe,Qf,Qg,reduceCtorEq, *,-hs,-h]
 |intro(bn:Bool) hbn))
 all_goals ((repeat clear hK);(repeat clear hA);(repeat clear hB))
 all_goals (clear h hs;grind [Jfv])
theorem Jj9(LF:Int)(LG:List UInt8)(LK Lb:Int)(LQ:List UInt8)(a_rules:List Rule)(a_hosts:List Int)(LH:Int)(LI:List UInt8)(LL LJ:Int)(LR:List UInt8)(LC:List Rule)(b_hosts:List Int)(hh:Jc a_hosts.length)(hl:Jc a_rules.length)(hs:∀x∈a_rules,VR x):CallR prog 107 [.agg [.int .i64 LF,.str LG,.int .i64 LK,.int .i64 Lb,.str LQ,.slice false (Ja a_rules),.slice false (Ja a_hosts)],.agg [.int .i64 LH,.str LI,.int .i64 LL,.int .i64 LJ,.str LR,.slice false (Ja LC),.slice false (Ja b_hosts)]] (.val (.bool (decide ((⟨LF,LG,LK,Lb,LQ,a_rules,a_hosts⟩:Res)=(⟨LH,LI,LL,LJ,LR,LC,b_hosts⟩:Res))))):=by
 refine Jn call107 func107 rfl ntmps107 results107 fun ts hn h0 h1=>?_
 (repeat' (first
 | (with_reducible first|refine callX.by (JmM _ _ _ _ _ _ _ _ _ _ _ _ _ _ ?_ ?_ ?_) ?_|assumption|(refine Qw hK _ ?_;clear hK K)|refine Qw ‹_› _ ?_|refine Qx ‹_› ?_|refine Qi fun K hK=>?_|refine Qj T fun K hK=>?_|refine Ql fun A B hA hB=>?_|refine Qn ?_|refine Qr ?_)
 |(with_reducible first|apply Qy|apply Qz|apply QA)<;>intro hb<;>try simp only[nr] at hb
 |simp only[go_sem,↓reduceIte,Qa,Qh,Qb,Qc,Qd,Qe,Qf,Qg,reduceCtorEq, *,-hs]
 |intro(bn:Bool) hbn))
 all_goals ((repeat clear hK);(repeat clear hA);(repeat clear hB))
 all_goals (clear hs;grind [Jfv])
end Go.Proofs.YthjalhfmpffbjaaGreatDoor.Lg
