/- Parts of the proof, one behind the other. -/
import Derived.Shelf.SlGeneric
import Derived.Shelf.SlSortCmp.NoneTotal
import Derived.Ground.SlsfProg
import Derived.Test.YthjalhfmpffbjaaGreatDoorProg
import Derived.Test.YthjalhfmpffbjaaGreatDoorG12
namespace Go.Proofs
open Go.Shelf
def Tryz.sortKey_ren:Go.Shelf.Ren:=⟨fun|6=>119|15=>162|14=>161|28=>206|29=>207|20=>198|21=>199|22=>200|23=>201|24=>202|25=>203|26=>204|27=>205|46=>232|47=>233|48=>234|49=>235|50=>236|57=>247|n=>n,fun|22=>77|24=>134|25=>194|3=>3|39=>234|0=>0|53=>265|55=>267|4=>4|46=>259|45=>258|50=>130|5=>5|9=>9|66=>280|70=>284|76=>293|77=>294|n=>n,fun|n=>n⟩
theorem Tryz.sortKey:Go.Proofs.SlLaysF0.n6 Tryz.prog Tryz.sortKey_ren:={
 mixed:=by kernel_rfl
 f6:=⟨Tryz.f119.name,by decide,Tryz.func119.trans (congrArg some (by kernel_rfl))⟩
 f14:=⟨Tryz.f161.name,by decide,Tryz.func161.trans (congrArg some (by kernel_rfl))⟩
 f15:=Tryz.func162.trans (congrArg some (by kernel_rfl))
 f20:=⟨Tryz.f198.name,by decide,Tryz.func198.trans (congrArg some (by kernel_rfl))⟩
 f21:=⟨Tryz.f199.name,by decide,Tryz.func199.trans (congrArg some (by kernel_rfl))⟩
 f22:=⟨Tryz.f200.name,by decide,Tryz.func200.trans (congrArg some (by kernel_rfl))⟩
 f23:=⟨Tryz.f201.name,by decide,Tryz.func201.trans (congrArg some (by kernel_rfl))⟩
 f24:=⟨Tryz.f202.name,by decide,Tryz.func202.trans (congrArg some (by kernel_rfl))⟩
 f25:=⟨Tryz.f203.name,by decide,Tryz.func203.trans (congrArg some (by kernel_rfl))⟩
 f26:=⟨Tryz.f204.name,by decide,Tryz.func204.trans (congrArg some (by kernel_rfl))⟩
 f27:=⟨Tryz.f205.name,by decide,Tryz.func205.trans (congrArg some (by kernel_rfl))⟩
 f28:=Tryz.func206.trans (congrArg some (by kernel_rfl))
 f29:=Tryz.func207.trans (congrArg some (by kernel_rfl))
 f46:=⟨Tryz.f232.name,by decide,Tryz.func232.trans (congrArg some (by kernel_rfl))⟩
 f47:=Tryz.func233.trans (congrArg some (by kernel_rfl))
 f48:=Tryz.func234.trans (congrArg some (by kernel_rfl))
 f49:=⟨Tryz.f235.name,by decide,Tryz.func235.trans (congrArg some (by kernel_rfl))⟩
 f50:=⟨Tryz.f236.name,by decide,Tryz.func236.trans (congrArg some (by kernel_rfl))⟩
 f57:=⟨Tryz.f247.name,by decide,Tryz.func247.trans (congrArg some (by kernel_rfl))⟩
 t0:=Tryz.underlying0
 a0:=Tryz.isAgg0
 z0:=Tryz.sizeOf0
 v0:=Tryz.zeroValue0
 t3:=Tryz.underlying3
 a3:=Tryz.isAgg3
 z3:=Tryz.sizeOf3
 v3:=Tryz.zeroValue3
 t4:=Tryz.underlying4
 a4:=Tryz.isAgg4
 z4:=Tryz.sizeOf4
 v4:=Tryz.zeroValue4
 t5:=Tryz.underlying5
 a5:=Tryz.isAgg5
 z5:=Tryz.sizeOf5
 v5:=Tryz.zeroValue5
 t9:=Tryz.underlying9
 a9:=Tryz.isAgg9
 z9:=Tryz.sizeOf9
 v9:=Tryz.zeroValue9
 t22:=Tryz.underlying77
 a22:=Tryz.isAgg77
 z22:=Tryz.sizeOf77
 v22:=Tryz.zeroValue77
 t25:=Tryz.underlying194
 a25:=Tryz.isAgg194
 z25:=Tryz.sizeOf194
 v25:=Tryz.zeroValue194
 t39:=Tryz.underlying234
 a39:=Tryz.isAgg234
 z39:=Tryz.sizeOf234
 v39:=Tryz.zeroValue234
 t45:=Tryz.underlying258
 a45:=Tryz.isAgg258
 z45:=Tryz.sizeOf258
 v45:=Tryz.zeroValue258
 t46:=Tryz.underlying259
 a46:=Tryz.isAgg259
 z46:=Tryz.sizeOf259
 v46:=Tryz.zeroValue259
 t50:=Tryz.underlying130
 a50:=Tryz.isAgg130
 z50:=Tryz.sizeOf130
 v50:=Tryz.zeroValue130
 t53:=Tryz.underlying265
 a53:=Tryz.isAgg265
 z53:=Tryz.sizeOf265
 v53:=Tryz.zeroValue265
 t55:=Tryz.underlying267
 a55:=Tryz.isAgg267
 z55:=Tryz.sizeOf267
 v55:=Tryz.zeroValue267
 t66:=Tryz.underlying280
 a66:=Tryz.isAgg280
 z66:=Tryz.sizeOf280
 v66:=Tryz.zeroValue280
 t70:=Tryz.underlying284
 a70:=Tryz.isAgg284
 z70:=Tryz.sizeOf284
 v70:=Tryz.zeroValue284
 t76:=Tryz.underlying293
 a76:=Tryz.isAgg293
 z76:=Tryz.sizeOf293
 v76:=Tryz.zeroValue293
 t77:=Tryz.underlying294
 a77:=Tryz.isAgg294
 z77:=Tryz.sizeOf294
 v77:=Tryz.zeroValue294 }
end Go.Proofs
namespace Go.Proofs.YthjalhfmpffbjaaGreatDoor.Lg
set_option maxRecDepth 100000
set_option linter.unusedVariables false
set_option linter.unusedSimpArgs false
open Go
open Nat renaming reduceEqDiff → Qa, reduceLT → Qb, reduceLeDiff → Qc, reduceAdd → Qd, reduceMul → Qe, reduceSub → Qf, reduceBEq → Qg
open String renaming reduceEq → Qh
open SpecC renaming seqW → Qi, regW → Qj, drawW → Qk, condW → Ql, block → Qm, skip → Qn, exit → Qp, ret → Qr, loopF → Qs
open NxK renaming out → Qw
open Nx renaming out → Qx
open condK renaming split → Qy
open gK renaming split_t → Qz, split_f → QA
theorem JlE:Go.Sort.SWO (ltOf JR) where
 irrefl x:=by simp only[ltOf,decide_eq_false_iff_not];exact Jhz x
 trans x y z h k:=by
  simp only[ltOf,decide_eq_true_eq] at h k ⊢
  exact Jcf x y z h k
 ntrans x y z h k:=by
  simp only[ltOf,decide_eq_false_iff_not] at h k ⊢
  intro h3
  by_cases h4:JR y z=0
  ·have:=JdC _ _ h4;subst this;exact h h3
  ·have h5:JR z y<0:=by have:=Jbr y z;omega
   exact h (Jcf _ _ _ h3 h5)
theorem JlF(x y:Key)(h:ltOf JR x y=false)(k:ltOf JR y x=false):x=y:=by
 simp only[ltOf,decide_eq_false_iff_not] at h k
 have:=Jbr x y
 exact JdC _ _ (by omega)
def VI(k:Key):List Value:=[.int .i64 k.kind,.string ⟨k.name.toArray⟩]
theorem Jlx{c:Ctx}{v:Value}{k:Key}{j:Nat}(hj:j<2)(h:Rep c v ((Dat.av k).cells.getD j .any)):v=(VI k)[j]!:=by
 match j,hj with
 |0,_ =>
  change Rep c v (.int .i64 k.kind) at h
  cases h;rfl
 |1,_ =>
  change Rep c v (.str k.name) at h
  cases h with
  |str s _ h =>
   obtain⟨a⟩:=s
   have e:a=k.name.toArray:=by rw[←h]
   subst e;rfl
theorem Jm0(c:Ctx)(k:Key){j:Nat}(hj:j<2):Rep c ((VI k)[j]!) ((Dat.av k).cells.getD j .any):=by
 match j,hj with
 |0,_=>exact .int _ _
 |1,_=>exact .str _ _ rfl
theorem Jlv(x y:Key)(W:World):Calls Tryz.prog 120 #[.agg (VI x).toArray,.agg (VI y).toArray] W fun e w'=>e=.returned (.int .i64 (JR x y))∧∃q os',w'=Go.Sort.grow (W.drewN q) os':=by
 have eg:∀args w,(callFunc 120 args).run Tryz.prog w=.ok (.enter 120 args) w:=enters_of Tryz.func120 (by kernel_rfl) rfl
 have hx:∀(z:Key) (j:Nat),Rep (Vj W) ((VI z).toArray.getD j undef) (([.int .i64 z.kind,.str z.name]:List AV).getD j .any):=fun z j=>by
  match j with
  |0=>exact .int _ _
  |1=>exact .str _ _ rfl
  |j+2=>exact .any _
 have h:=(Vq x.kind y.kind x.name y.name).top #[.agg (VI x).toArray,.agg (VI y).toArray] W rfl fun i=>by
  match i with
  |0=>exact .agg _ _ rfl (hx x)
  |1=>exact .agg _ _ rfl (hx y)
  |i+2=>exact .any _
 rw[eg] at h
 refine Calls.mono h ?_
 rintro e w' ⟨v,rfl,hv,hg⟩
 cases hv
 exact⟨rfl,hg.grown⟩
open Go.Sort in
theorem Zs(xs:List Key)(hl:Jc xs.length):Jc0 Tryz.prog 119 120 2 (Ja xs) (Ja (JH xs)):=by
 intro E ts G a w d v0 hrel hob hos
 have L:=Tryz.sortKey
 have e6:∀args w,(callFunc 119 args).run Tryz.prog w=.ok (.enter 119 args) w:=enters_of Tryz.func119 (by kernel_rfl) rfl
 have eg:∀args w,(callFunc 120 args).run Tryz.prog w=.ok (.enter 120 args) w:=enters_of Tryz.func120 (by kernel_rfl) rfl
 rw[e6]
 show Calls _ _ _ _ _
 have hobk:=hrel.obj d
 rw[hob] at hobk
 obtain⟨_,hcl,hobk⟩:=hobk
 unfold JJ at hos
 have hcl':∀x∈Ja (JH xs),x.cells.length=2:=fun x hx=>by
  simp only[Ja,List.mem_map] at hx
  obtain⟨k,_,rfl⟩:=hx
  rfl
 cases hκ:G.κ d with
 |none =>
  have hκ':(Jb E G ts w).κ d=none:=hκ
  rw[hκ'] at hos hobk
  obtain⟨hlen,ad,rfl⟩:=hos
  have hx:xs=[]:=List.eq_nil_of_length_eq_zero (by simpa[Ja] using hlen)
  subst hx
  have h:=AnyF.slices_SortFunc_none L ad 0 (.func (.func 120) #[] #[]) w
  change Calls _ 119 _ _ _ at h
  refine h.mono ?_
  rintro e w' ⟨rfl,rfl⟩
  refine⟨rfl,⟨rfl,rfl,rfl,Nat.le_refl _,Nat.le_refl _,fun _ _ _=>rfl⟩,by decide,hcl',?_⟩
  have hκ2:(Jb E G (ts.setObj d (.arr 2 (Ja (JH [])))) w').κ d=none:=hκ
  rw[hκ2]
  show Ja (JH [])=[]
  simp[JH,Ja]
 |some cap =>
  have hκ':(Jb E G ts w).κ d=some cap:=hκ
  rw[hκ'] at hos hobk
  obtain⟨rfl,hle⟩:=hos
  obtain⟨vs,T,hh,hsz,hlc,hcells⟩:=hobk
  have hlen:(Ja xs).length=xs.length:=by simp[Ja]
  rw[hlen] at hlc hle hcells ⊢
  have hval:∀t,t<xs.length*2→vs[t]?=some ((flatK VI 2 xs.toArray)[t]!):=fun t ht=>by
   have h2:t<vs.size:=by omega
   rw[get_flatK _ _ _ _ (by simpa using ht)]
   have hq:t / 2<xs.length:=by omega
   have h:=hcells (t / 2) (t % 2) hq (by omega)
   have e:t / 2*2+t % 2=t:=by omega
   rw[e] at h
   have e2:(Ja xs).getD (t / 2) .any=Dat.av xs[t / 2]:=by simp[Ja,hq]
   rw[e2] at h
   have:=Jlx (by omega) h
   rw[Array.getElem?_eq_getElem h2]
   have e3:vs.getD t undef=vs[t]:=by simp[Array.getD,h2]
   rw[e3] at this
   rw[this]
   congr 2
   simp[hq]
  have hblk:G.β d<w.heap.size:=by
   have:w.heap[G.β d]?=_:=hh
   by_cases hb:G.β d<w.heap.size
   ·exact hb
   ·rw[Array.getElem?_eq_none (by omega)] at this;cases this
  have hH:HoldsK VI 2 w (G.β d) 0 xs.toArray:=fun j hj=>by
   rw[size_flatK] at hj
   have hj':j<xs.length*2:=by simpa using hj
   have hh':w.heap[G.β d]?=some (.cells vs T (0,0)):=hh
   constructor
   ·simp only[World.cell?,hh',Nat.zero_add]
    exact hval j hj'
   ·simp only[World.frozen?,hh']
    simp
  have hcmp:CmpLays Tryz.prog 120 #[] VI 2 JR (G.β d) 0 xs.toArray.size w:=fun m os dk hdk x y=>by
   have h:=Jlv x y (sortWorldK VI 2 w (G.β d) 0 m dk os)
   simpa using h
  have h:=AnyQ.slices_SortFunc_total L 2 Tryz.isAgg134 Tryz.sizeOf134 VI (fun _=>rfl) (fun x v hv=>by
   simp only[VI,List.mem_cons,List.not_mem_nil,or_false] at hv
   rcases hv with rfl|rfl<;>rfl) JR JlE 120 #[] (G.β d) 0 cap xs.toArray w eg hcmp hH hblk (by unfold Jc at hl;simp;omega) JlF
  change Calls _ 119 _ _ _ at h
  have hsa:xs.toArray.size=xs.length:=by simp
  rw[hsa] at h
  refine h.mono ?_
  rintro e w' ⟨rfl,n,os,rfl⟩
  have hks:(xs.toArray.toList.mergeSort fun x y=>!(ltOf JR) y x)=JH xs:=rfl
  rw[hks]
  have hh':w.heap[G.β d]?=some (.cells vs T (0,0)):=hh
  have hnew:(sortWorldK VI 2 w (G.β d) 0 n (JH xs).toArray os).heap[G.β d]?=some (.cells (putCells id 0 (flatK VI 2 (JH xs).toArray) vs) T (0,0)):=by
   simp only[sortWorldK,grow,putRowK,putRow,mapBlock,Go.Sort.ahead]
   rw[Array.getElem?_append_left (by simpa using hblk),Array.getElem?_modify,if_pos rfl,hh']
   rfl
  refine⟨rfl,⟨rfl,rfl,rfl,?_,?_,fun i hi hne=>?_⟩,by decide,hcl',?_⟩
  ·simp only[sortWorldK,grow,putRowK,putRow,mapBlock,Go.Sort.ahead];simp
  ·simp only[sortWorldK,grow,putRowK,putRow,mapBlock,Go.Sort.ahead];omega
  ·have hlive:Jh ts G d:=⟨by simp[hob,Ob.kind],by rw[hκ];simp⟩
   have hne:=hne hlive
   simp only[sortWorldK,grow,putRowK,putRow,mapBlock,Go.Sort.ahead]
   rw[Array.getElem?_append_left (by simpa using hi),Array.getElem?_modify,if_neg (fun h=>hne h.symm)]
  ·have hκ2:(Jb E G (ts.setObj d (.arr 2 (Ja (JH xs)))) (sortWorldK VI 2 w (G.β d) 0 n (JH xs).toArray os)).κ d=some cap:=hκ
   rw[hκ2]
   have hlen2:(Ja (JH xs)).length=xs.length:=by simp[Ja,Jaa]
   refine⟨_,T,hnew,by simp[putCells,hsz],by rw[hlen2];exact hlc,fun i j hi hj=>?_⟩
   rw[hlen2] at hi
   have hi2:i<(JH xs).length:=by rw[Jaa];exact hi
   have ht:i*2+j<vs.size:=by omega
   have e2:(Ja (JH xs)).getD i .any=Dat.av (JH xs)[i]:=by simp[Ja,hi2]
   rw[e2]
   have e3:(putCells id 0 (flatK VI 2 (JH xs).toArray) vs).getD (i*2+j) undef=(VI (JH xs)[i])[j]!:=by
    have hf:i*2+j<(JH xs).toArray.size*2:=by simp[Jaa];omega
    simp only[putCells,Array.getD,Array.size_mapIdx,ht,dite_true,Array.getInternal_eq_getElem,Array.getElem_mapIdx]
    rw[if_pos ⟨Nat.zero_le _,by rw[size_flatK];omega⟩]
    simp only[Nat.sub_zero,id]
    rw[get_flatK _ _ _ _ hf]
    have e4:(i*2+j) / 2=i:=by omega
    have e5:(i*2+j) % 2=j:=by omega
    rw[e4,e5]
    congr 2
    simp[hi2]
   rw[e3]
   exact Jm0 _ _ hj
@[go_sem] def Wd7:List (List Nat×List Nat):=[([16],[17,20,21,22,23,24]),([17],[16,20,21,22,23,24]),([18],[20,21,22,23,24]),([19],[20,21,22,23,24]),([20],[16,17,18,19,21,22]),([21],[16,17,18,19,20,24]),([22],[16,17,18,19,20]),([23],[16,17,18,19]),([24],[16,17,18,19,21])]
@[go_sem] def Wd8:List (List Nat×List Nat):=[([35],[36,39,40,41,42,43]),([36],[35,39,40,41,42,43]),([37],[39,40,41,42,43]),([38],[39,40,41,42,43]),([39],[35,36,37,38,40,41]),([40],[35,36,37,38,39,43]),([41],[35,36,37,38,39]),([42],[35,36,37,38]),([43],[35,36,37,38,40])]
theorem Jhv{xs:List Key}{k:Nat}(h0:0<k)(h:k<xs.length):J6 (xs.drop (k-1))=if xs[k]=xs[k-1] then J6 (xs.drop k) else xs[k] :: J6 (xs.drop k):=by
 have e:xs.drop (k-1)=xs[k-1] :: xs[k] :: xs.drop (k+1):=by
  rw[List.drop_eq_getElem_cons (by omega:k-1<xs.length)]
  congr 1
  have:k-1+1=k:=by omega
  rw[this,List.drop_eq_getElem_cons h]
 rw[e,J6,←List.drop_eq_getElem_cons h]
theorem Jhw{xs:List Key}{k:Nat}(h:xs.length≤k+1):J6 (xs.drop k)=[]:=by
 have:(xs.drop k).length≤1:=by simp;omega
 match hx:xs.drop k,this with
 | [],_=>rfl
 | [_],_=>rfl
set_option maxHeartbeats 4000000 in
theorem Ze(xs:List Key)(hl:Jc xs.length):CallM Tryz.prog 121 2 (Ja xs) [] (.own 2 (Ja (VQ xs))):=by
 refine CallM.go0 (T:=T) Tryz.call121 Tryz.func121 rfl Tryz.ntmps121 (congrArg Array.toList Tryz.results121) (by decide) fun ts hn h0 hg0 ho0=>?_
 by_cases h2:xs.length<2
 ·have hc:VQ xs=xs:=by
   match xs,h2 with
   | [],_=>rfl
   | [_],_=>rfl
  (repeat' (first
 | (with_reducible first|assumption|(refine Qw hK _ ?_;clear hK K)|refine Qw ‹_› _ ?_|refine Qx ‹_› ?_|refine Qi fun K hK=>?_|refine Qj T fun K hK=>?_|refine Qk (id:=6) T mixed Wd7 (by kernel_rfl) fun K hK=>?_|refine Qk (id:=11) T mixed Wd8 (by kernel_rfl) fun K hK=>?_|refine Ql fun A B hA hB=>?_|refine Qm ?_|refine Qn ?_|refine Qp ?_|refine Qr ?_)
 | ((with_reducible first|apply Qy|apply Qz|apply QA)<;>intro hb<;>try simp only[nr] at hb)
 |simp only[go_sem,↓reduceIte,reduceIte,Qa,Qh,Qb,Qc,Qd,Qe,Qf,Qg,reduceCtorEq, *,hc]
 |with_reducible refine fun(bn:Bool) hbn=>?_))
 ·(repeat' (first
 | (with_reducible first|assumption|(refine Qw hK _ ?_;clear hK K)|refine Qw ‹_› _ ?_|refine Qx ‹_› ?_|refine Qi fun K hK=>?_|refine Qj T fun K hK=>?_|refine Qk (id:=6) T mixed Wd7 (by kernel_rfl) fun K hK=>?_|refine Qk (id:=11) T mixed Wd8 (by kernel_rfl) fun K hK=>?_|refine Ql fun A B hA hB=>?_|refine Qm ?_|refine Qn ?_|refine Qp ?_|refine Qr ?_)
 | ((with_reducible first|apply Qy|apply Qz|apply QA)<;>intro hb<;>try simp only[nr] at hb)
 |simp only[go_sem,↓reduceIte,reduceIte,Qa,Qh,Qb,Qc,Qd,Qe,Qf,Qg,reduceCtorEq, *]
 |with_reducible refine fun(bn:Bool) hbn=>?_))
  refine Qs [0] (fun m ts'=>∃(k:Nat),m=xs.length-k∧1≤k∧k≤xs.length∧VQ xs=xs.take k++J6 (xs.drop (k-1))∧ts'.tmp 3=.int .i64 k) (xs.length-1) ?_ ?_
  ·refine⟨1,rfl,Nat.le_refl _,by omega,rfl,?_⟩
   simp only[go_sem,↓reduceIte,reduceIte,Qa,Qh,Qb,Qc,Qd,Qe,Qf,Qg,reduceCtorEq, *]
   rfl
  ·rintro m A hM ts' hk ⟨k,hm,f1,f2,f3,s1⟩
   simp only[go_sem,↓reduceIte,reduceIte,Qa,Qh,Qb,Qc,Qd,Qe,Qf,Qg,reduceCtorEq, *] at hk
   by_cases hlt:k<xs.length
   ·have hw:IntKind.i64.wrap ((k:Int)-1)=((k-1:Nat):Int):=by
     rw[JfW (show Jc k by unfold Jc at *;omega)];omega
    have hk1:k-1<xs.length:=by omega
    simp only[Jhv f1 hlt,Z4] at f3
    (repeat' (first
 | (with_reducible first|assumption|(refine Qw hK _ ?_;clear hK K)|refine Qw ‹_› _ ?_|refine Qx ‹_› ?_|refine Qi fun K hK=>?_|refine Qj T fun K hK=>?_|refine Qk (id:=6) T mixed Wd7 (by kernel_rfl) fun K hK=>?_|refine Qk (id:=11) T mixed Wd8 (by kernel_rfl) fun K hK=>?_|refine Ql fun A B hA hB=>?_|refine Qm ?_|refine Qn ?_|refine Qp ?_|refine Qr ?_)
 | ((with_reducible first|apply Qy|apply Qz|apply QA)<;>intro hb<;>try simp only[nr] at hb)
 |simp only[go_sem,↓reduceIte,reduceIte,Qa,Qh,Qb,Qc,Qd,Qe,Qf,Qg,reduceCtorEq, *,hw,-f3]
 |with_reducible refine fun(bn:Bool) hbn=>?_))
    ·have hk4:VQ xs=xs.take k++J6 (xs.drop k):=by rw[f3,if_pos (by clear hM hK;grind)]
     clear f3 hM
     refine Qs [4] (fun m ts'=>∃(q:Nat),∃(j:Nat),∃(ys:List Key),m=xs.length-j∧1≤j∧k+j≤xs.length∧q≤k+j-1∧ys.length=xs.length∧VQ xs=ys.take q++J6 (xs.drop (k+j-1))∧ys.drop (k+j-1)=xs.drop (k+j-1)∧ts'.tmp 0=.os 0 0 xs.length∧ts'.gen 0=0∧ts'.obj 0=.arr 2 (Ja ys)∧ts'.tmp 3=.int .i64 q∧ts'.tmp 5=.int .i64 j) (xs.length-1) ?_ ?_
     ·refine⟨k,1,xs,rfl,Nat.le_refl _,by omega,by omega,rfl,hk4,rfl,?_⟩
      simp only[go_sem,↓reduceIte,reduceIte,Qa,Qh,Qb,Qc,Qd,Qe,Qf,Qg,reduceCtorEq, *,-hk4]
      all_goals rfl
     ·clear hk4
      rintro m A hM ts' hk ⟨q,j,ys,hm,f1,f2,f3,f4,f5,f6,s1,s2,s3,s4,s5⟩
      simp only[go_sem,↓reduceIte,reduceIte,Qa,Qh,Qb,Qc,Qd,Qe,Qf,Qg,reduceCtorEq, *] at hk
      by_cases hjt:j<xs.length-k
      ·have hw2:IntKind.i64.wrap ((j:Int)-1)=((j-1:Nat):Int):=by
        rw[JfW (show Jc j by unfold Jc at *;omega)];omega
       have hkj:k+j<xs.length:=by omega
       have hky:k+j<ys.length:=by omega
       have hkj1:k+(j-1)<xs.length:=by omega
       have hky1:k+(j-1)<ys.length:=by omega
       have e1:k+(j-1)=k+j-1:=by omega
       have hy2:ys[k+(j-1)]=xs[k+(j-1)]:=by
        have:=congrArg (fun l=>l[0]?) f6
        simp only[List.getElem?_drop,Nat.add_zero,←e1] at this
        rwa [List.getElem?_eq_getElem hky1,List.getElem?_eq_getElem hkj1,Option.some.injEq] at this
       have hy1:ys[k+j]=xs[k+j]:=by
        have:=congrArg (fun l=>l[1]?) f6
        have e2:k+j-1+1=k+j:=by omega
        simp only[List.getElem?_drop,e2] at this
        rwa [List.getElem?_eq_getElem hky,List.getElem?_eq_getElem hkj,Option.some.injEq] at this
       have hdr:ys.drop (k+j)=xs.drop (k+j):=by
        have:=congrArg (List.drop 1) f6
        have e2:k+j-1+1=k+j:=by omega
        simpa only[List.drop_drop,e2] using this
       have hq:q<xs.length:=by omega
       have hj1:j-1<xs.length-k:=by omega
       have hjx:j<xs.length:=by omega
       have hkT:=Jhv (show 0<k+j by omega) hkj
       simp only[←e1] at hkT
       rw[←e1,hkT] at f5
       have e3:k+(j+1)-1=k+j:=by omega
       (repeat' (first
 | (with_reducible first|assumption|(refine Qw hK _ ?_;clear hK K)|refine Qw ‹_› _ ?_|refine Qx ‹_› ?_|refine Qi fun K hK=>?_|refine Qj T fun K hK=>?_|refine Qk (id:=6) T mixed Wd7 (by kernel_rfl) fun K hK=>?_|refine Qk (id:=11) T mixed Wd8 (by kernel_rfl) fun K hK=>?_|refine Ql fun A B hA hB=>?_|refine Qm ?_|refine Qn ?_|refine Qp ?_|refine Qr ?_)
 | ((with_reducible first|apply Qy|apply Qz|apply QA)<;>intro hb<;>try simp only[nr] at hb)
 |simp only[go_sem,↓reduceIte,reduceIte,Qa,Qh,Qb,Qc,Qd,Qe,Qf,Qg,reduceCtorEq, *,hw2,-f5,-f6,-hdr,-hkT,-e1]
 |with_reducible refine fun(bn:Bool) hbn=>?_))
       all_goals ((repeat clear hK);(repeat clear hA);(repeat clear hB))
       ·(refine hM.on (xs.length-(j+1)) (by omega) (by simp only[go_sem,↓reduceIte,reduceIte,Qa,Qh,Qb,Qc,Qd,Qe,Qf,Qg,reduceCtorEq, *,Ji hq hl,Ji hjx hl,-f5,-f6,-hdr,-hkT,-e1]) ⟨q+1,j+1,ys.set q xs[k+j],rfl,by omega,by omega,by omega,by simp[f4],by clear hM;rw[f5,if_neg (by grind [Z4]),Ji7 _ (by omega),e3,List.append_assoc];rfl,by rw[e3,List.drop_set,if_pos (by omega),hdr],?_⟩;simp only[go_sem,↓reduceIte,reduceIte,Qa,Qh,Qb,Qc,Qd,Qe,Qf,Qg,reduceCtorEq, *,Ji hq hl,Ji hjx hl,-f5,-f6,-hdr,-hkT,-e1];done)
       ·(refine hM.on (xs.length-(j+1)) (by omega) (by simp only[go_sem,↓reduceIte,reduceIte,Qa,Qh,Qb,Qc,Qd,Qe,Qf,Qg,reduceCtorEq, *,Ji hjx hl,-f5,-f6,-hdr,-hkT,-e1]) ⟨q,j+1,ys,rfl,by omega,by omega,by omega,f4,by clear hM;rw[f5,if_pos (by grind [Z4]),e3],by rw[e3,hdr],?_⟩;simp only[go_sem,↓reduceIte,reduceIte,Qa,Qh,Qb,Qc,Qd,Qe,Qf,Qg,reduceCtorEq, *,Ji hjx hl,-f5,-f6,-hdr,-hkT,-e1];done)
      ·have hkj:k+j=xs.length:=by omega
       have f7:VQ xs=ys.take q:=by rw[f5,Jhw (by omega),List.append_nil]
       have hq1:q≤xs.length:=by omega
       have hq2:q+(xs.length-q)=xs.length:=by omega
       clear f5 f6
       (repeat' (first
 | (with_reducible first|assumption|(refine Qw hK _ ?_;clear hK K)|refine Qw ‹_› _ ?_|refine Qx ‹_› ?_|refine Qi fun K hK=>?_|refine Qj T fun K hK=>?_|refine Qk (id:=6) T mixed Wd7 (by kernel_rfl) fun K hK=>?_|refine Qk (id:=11) T mixed Wd8 (by kernel_rfl) fun K hK=>?_|refine Ql fun A B hA hB=>?_|refine Qm ?_|refine Qn ?_|refine Qp ?_|refine Qr ?_)
 | ((with_reducible first|apply Qy|apply Qz|apply QA)<;>intro hb<;>try simp only[nr] at hb)
 |simp only[go_sem,↓reduceIte,reduceIte,Qa,Qh,Qb,Qc,Qd,Qe,Qf,Qg,reduceCtorEq, *]
 |with_reducible refine fun(bn:Bool) hbn=>?_))
    ·all_goals ((repeat clear hK);(repeat clear hA);(repeat clear hB))
     (refine hM.on (xs.length-(k+1)) (by omega) (by simp only[go_sem,↓reduceIte,reduceIte,Qa,Qh,Qb,Qc,Qd,Qe,Qf,Qg,reduceCtorEq, *,Ji hlt hl,-f3]) ⟨k+1,rfl,by omega,by omega,by clear hM;rw[f3,if_neg (by grind),List.take_succ_eq_append_getElem hlt,List.append_assoc];rfl,?_⟩;simp only[go_sem,↓reduceIte,reduceIte,Qa,Qh,Qb,Qc,Qd,Qe,Qf,Qg,reduceCtorEq, *,Ji hlt hl,-f3];done)
   ·have hc:VQ xs=xs:=by rw[f3,List.take_of_length_le (by omega),Jhw (by omega)];simp
    (repeat' (first
 | (with_reducible first|assumption|(refine Qw hK _ ?_;clear hK K)|refine Qw ‹_› _ ?_|refine Qx ‹_› ?_|refine Qi fun K hK=>?_|refine Qj T fun K hK=>?_|refine Qk (id:=6) T mixed Wd7 (by kernel_rfl) fun K hK=>?_|refine Qk (id:=11) T mixed Wd8 (by kernel_rfl) fun K hK=>?_|refine Ql fun A B hA hB=>?_|refine Qm ?_|refine Qn ?_|refine Qp ?_|refine Qr ?_)
 | ((with_reducible first|apply Qy|apply Qz|apply QA)<;>intro hb<;>try simp only[nr] at hb)
 |simp only[go_sem,↓reduceIte,reduceIte,Qa,Qh,Qb,Qc,Qd,Qe,Qf,Qg,reduceCtorEq, *,hc,-f3]
 |with_reducible refine fun(bn:Bool) hbn=>?_))
@[go_sem] def V2:List (List Nat×List Nat):=[([16],[17,20,21,22,23]),([17],[16,20,21,22,23]),([18],[20,21,22,23]),([19],[20,21,22,23]),([20],[16,17,18,19,21]),([21],[16,17,18,19,20]),([22],[16,17,18,19]),([23],[16,17,18,19])]
theorem JkA(xs ys:List Int)(hl:Jc xs.length):CallR Tryz.prog 184 [.slice false (Ja xs),.slice false (Ja ys)] (.val (.bool (decide (xs=ys)))):=by
 refine CallR.go2 (T:=T) Tryz.call184 Tryz.func184 rfl Tryz.ntmps184 (congrArg Array.toList Tryz.results184) (by decide) fun ts hn h0 h1=>?_
 by_cases hll:xs.length=ys.length
 ·(repeat' (first
 | (with_reducible first|assumption|(refine Qw hK _ ?_;clear hK K)|refine Qw ‹_› _ ?_|refine Qx ‹_› ?_|refine Qi fun K hK=>?_|refine Qj T fun K hK=>?_|refine Qk (id:=6) T mixed V2 (by kernel_rfl) fun K hK=>?_|refine Ql fun A B hA hB=>?_|refine Qm ?_|refine Qn ?_|refine Qp ?_|refine Qr ?_)
 | ((with_reducible first|apply Qy|apply Qz|apply QA)<;>intro hb<;>try simp only[nr] at hb)
 |simp only[go_sem,↓reduceIte,reduceIte,Qa,Qh,Qb,Qc,Qd,Qe,Qf,Qg,reduceCtorEq, *]
 |with_reducible refine fun(bn:Bool) hbn=>?_))
  refine Qs [0,1,12] (fun m ts'=>∃(i:Nat),m=xs.length-i∧i≤xs.length∧xs.take i=ys.take i∧ts'.tmp 13=.int .i64 i) xs.length ?_ ?_
  ·refine⟨0,?_⟩
   simp only[go_sem,↓reduceIte,reduceIte,Qa,Qh,Qb,Qc,Qd,Qe,Qf,Qg,reduceCtorEq, *]
  ·rintro m A hM ts' hk ⟨i,hm,f1,f2,s1⟩
   simp only[go_sem,↓reduceIte,reduceIte,Qa,Qh,Qb,Qc,Qd,Qe,Qf,Qg,reduceCtorEq, *] at hk
   by_cases hlt:i<xs.length
   ·have hlu:i<ys.length:=by omega
    have hne:=Y9 hlt hlu
    (repeat' (first
 | (with_reducible first|assumption|(refine Qw hK _ ?_;clear hK K)|refine Qw ‹_› _ ?_|refine Qx ‹_› ?_|refine Qi fun K hK=>?_|refine Qj T fun K hK=>?_|refine Qk (id:=6) T mixed V2 (by kernel_rfl) fun K hK=>?_|refine Ql fun A B hA hB=>?_|refine Qm ?_|refine Qn ?_|refine Qp ?_|refine Qr ?_)
 | ((with_reducible first|apply Qy|apply Qz|apply QA)<;>intro hb<;>try simp only[nr] at hb)
 |simp only[go_sem,↓reduceIte,reduceIte,Qa,Qh,Qb,Qc,Qd,Qe,Qf,Qg,reduceCtorEq, *]
 |with_reducible refine fun(bn:Bool) hbn=>?_))
    all_goals ((repeat clear hK);(repeat clear hA);(repeat clear hB))
    all_goals first
     | (refine hM.on (xs.length-(i+1)) (by omega) (by simp only[go_sem,↓reduceIte,reduceIte,Qa,Qh,Qb,Qc,Qd,Qe,Qf,Qg,reduceCtorEq, *,Ji hlt hl]) ⟨i+1,rfl,by omega,by clear hM;apply Y8 f2 hlt hlu;grind,?_⟩;simp only[go_sem,↓reduceIte,reduceIte,Qa,Qh,Qb,Qc,Qd,Qe,Qf,Qg,reduceCtorEq, *,Ji hlt hl];done)
     | (clear hM;grind)
   ·have:=Y7 f2 hlt hll
    (repeat' (first
 | (with_reducible first|assumption|(refine Qw hK _ ?_;clear hK K)|refine Qw ‹_› _ ?_|refine Qx ‹_› ?_|refine Qi fun K hK=>?_|refine Qj T fun K hK=>?_|refine Qk (id:=6) T mixed V2 (by kernel_rfl) fun K hK=>?_|refine Ql fun A B hA hB=>?_|refine Qm ?_|refine Qn ?_|refine Qp ?_|refine Qr ?_)
 | ((with_reducible first|apply Qy|apply Qz|apply QA)<;>intro hb<;>try simp only[nr] at hb)
 |simp only[go_sem,↓reduceIte,reduceIte,Qa,Qh,Qb,Qc,Qd,Qe,Qf,Qg,reduceCtorEq, *]
 |with_reducible refine fun(bn:Bool) hbn=>?_))
    all_goals ((repeat clear hK);(repeat clear hA);(repeat clear hB))
    all_goals (clear hM;grind)
 ·have:¬xs=ys:=by rintro rfl;exact hll rfl
  (repeat' (first
 | (with_reducible first|assumption|(refine Qw hK _ ?_;clear hK K)|refine Qw ‹_› _ ?_|refine Qx ‹_› ?_|refine Qi fun K hK=>?_|refine Qj T fun K hK=>?_|refine Qk (id:=6) T mixed V2 (by kernel_rfl) fun K hK=>?_|refine Ql fun A B hA hB=>?_|refine Qm ?_|refine Qn ?_|refine Qp ?_|refine Qr ?_)
 | ((with_reducible first|apply Qy|apply Qz|apply QA)<;>intro hb<;>try simp only[nr] at hb)
 |simp only[go_sem,↓reduceIte,reduceIte,Qa,Qh,Qb,Qc,Qd,Qe,Qf,Qg,reduceCtorEq, *]
 |with_reducible refine fun(bn:Bool) hbn=>?_))
  all_goals ((repeat clear hK);(repeat clear hA);(repeat clear hB))
  all_goals grind
theorem JkC(xs ys:List Weight)(hl:Jc xs.length):CallR Tryz.prog 183 [.slice false (Ja xs),.slice false (Ja ys)] (.val (.bool (decide (xs=ys)))):=by
 refine CallR.go2 (T:=T) Tryz.call183 Tryz.func183 rfl Tryz.ntmps183 (congrArg Array.toList Tryz.results183) (by decide) fun ts hn h0 h1=>?_
 by_cases hll:xs.length=ys.length
 ·(repeat' (first
 | (with_reducible first|assumption|(refine Qw hK _ ?_;clear hK K)|refine Qw ‹_› _ ?_|refine Qx ‹_› ?_|refine Qi fun K hK=>?_|refine Qj T fun K hK=>?_|refine Qk (id:=6) T mixed V2 (by kernel_rfl) fun K hK=>?_|refine Ql fun A B hA hB=>?_|refine Qm ?_|refine Qn ?_|refine Qp ?_|refine Qr ?_)
 | ((with_reducible first|apply Qy|apply Qz|apply QA)<;>intro hb<;>try simp only[nr] at hb)
 |simp only[go_sem,↓reduceIte,reduceIte,Qa,Qh,Qb,Qc,Qd,Qe,Qf,Qg,reduceCtorEq, *]
 |with_reducible refine fun(bn:Bool) hbn=>?_))
  refine Qs [0,1,12] (fun m ts'=>∃(i:Nat),m=xs.length-i∧i≤xs.length∧xs.take i=ys.take i∧ts'.tmp 13=.int .i64 i) xs.length ?_ ?_
  ·refine⟨0,?_⟩
   simp only[go_sem,↓reduceIte,reduceIte,Qa,Qh,Qb,Qc,Qd,Qe,Qf,Qg,reduceCtorEq, *]
  ·rintro m A hM ts' hk ⟨i,hm,f1,f2,s1⟩
   simp only[go_sem,↓reduceIte,reduceIte,Qa,Qh,Qb,Qc,Qd,Qe,Qf,Qg,reduceCtorEq, *] at hk
   by_cases hlt:i<xs.length
   ·have hlu:i<ys.length:=by omega
    have hne:=Y9 hlt hlu
    rw[Jdk] at hne
    (repeat' (first
 | (with_reducible first|assumption|(refine Qw hK _ ?_;clear hK K)|refine Qw ‹_› _ ?_|refine Qx ‹_› ?_|refine Qi fun K hK=>?_|refine Qj T fun K hK=>?_|refine Qk (id:=6) T mixed V2 (by kernel_rfl) fun K hK=>?_|refine Ql fun A B hA hB=>?_|refine Qm ?_|refine Qn ?_|refine Qp ?_|refine Qr ?_)
 | ((with_reducible first|apply Qy|apply Qz|apply QA)<;>intro hb<;>try simp only[nr] at hb)
 |simp only[go_sem,↓reduceIte,reduceIte,Qa,Qh,Qb,Qc,Qd,Qe,Qf,Qg,reduceCtorEq, *]
 |with_reducible refine fun(bn:Bool) hbn=>?_))
    all_goals ((repeat clear hK);(repeat clear hA);(repeat clear hB))
    all_goals first
     | (refine hM.on (xs.length-(i+1)) (by omega) (by simp only[go_sem,↓reduceIte,reduceIte,Qa,Qh,Qb,Qc,Qd,Qe,Qf,Qg,reduceCtorEq, *,Ji hlt hl]) ⟨i+1,rfl,by omega,by clear hM;apply Y8 f2 hlt hlu;rw[Jdk];grind,?_⟩;simp only[go_sem,↓reduceIte,reduceIte,Qa,Qh,Qb,Qc,Qd,Qe,Qf,Qg,reduceCtorEq, *,Ji hlt hl];done)
     | (clear hM;grind)
   ·have:=Y7 f2 hlt hll
    (repeat' (first
 | (with_reducible first|assumption|(refine Qw hK _ ?_;clear hK K)|refine Qw ‹_› _ ?_|refine Qx ‹_› ?_|refine Qi fun K hK=>?_|refine Qj T fun K hK=>?_|refine Qk (id:=6) T mixed V2 (by kernel_rfl) fun K hK=>?_|refine Ql fun A B hA hB=>?_|refine Qm ?_|refine Qn ?_|refine Qp ?_|refine Qr ?_)
 | ((with_reducible first|apply Qy|apply Qz|apply QA)<;>intro hb<;>try simp only[nr] at hb)
 |simp only[go_sem,↓reduceIte,reduceIte,Qa,Qh,Qb,Qc,Qd,Qe,Qf,Qg,reduceCtorEq, *]
 |with_reducible refine fun(bn:Bool) hbn=>?_))
    all_goals ((repeat clear hK);(repeat clear hA);(repeat clear hB))
    all_goals (clear hM;grind)
 ·have:¬xs=ys:=by rintro rfl;exact hll rfl
  (repeat' (first
 | (with_reducible first|assumption|(refine Qw hK _ ?_;clear hK K)|refine Qw ‹_› _ ?_|refine Qx ‹_› ?_|refine Qi fun K hK=>?_|refine Qj T fun K hK=>?_|refine Qk (id:=6) T mixed V2 (by kernel_rfl) fun K hK=>?_|refine Ql fun A B hA hB=>?_|refine Qm ?_|refine Qn ?_|refine Qp ?_|refine Qr ?_)
 | ((with_reducible first|apply Qy|apply Qz|apply QA)<;>intro hb<;>try simp only[nr] at hb)
 |simp only[go_sem,↓reduceIte,reduceIte,Qa,Qh,Qb,Qc,Qd,Qe,Qf,Qg,reduceCtorEq, *]
 |with_reducible refine fun(bn:Bool) hbn=>?_))
  all_goals ((repeat clear hK);(repeat clear hA);(repeat clear hB))
  all_goals grind
theorem Jge(x_host:List UInt8)(x_pfx:List UInt8)(x_split:List Weight)(y_host:List UInt8)(y_pfx:List UInt8)(y_split:List Weight)(hl:Jc x_split.length):CallR Tryz.prog 182 [.agg [.str x_host,.str x_pfx,.slice false (Ja x_split)],.agg [.str y_host,.str y_pfx,.slice false (Ja y_split)]] (.val (.bool (decide ((⟨x_host,x_pfx,x_split⟩:Rule)=(⟨y_host,y_pfx,y_split⟩:Rule))))):=by
 refine CallR.go2 (T:=T) Tryz.call182 Tryz.func182 rfl Tryz.ntmps182 (congrArg Array.toList Tryz.results182) (by decide) fun ts hn h0 h1=>?_
 (repeat' (first
 | (with_reducible first|refine callX.by (JkC _ _ ?_) ?_|assumption|(refine Qw hK _ ?_;clear hK K)|refine Qw ‹_› _ ?_|refine Qx ‹_› ?_|refine Qi fun K hK=>?_|refine Qj T fun K hK=>?_|refine Ql fun A B hA hB=>?_|refine Qn ?_|refine Qr ?_)
 | ((with_reducible first|apply Qy|apply Qz|apply QA)<;>intro hb<;>try simp only[nr] at hb)
 |simp only[go_sem,↓reduceIte,reduceIte,Qa,Qh,Qb,Qc,Qd,Qe,Qf,Qg,reduceCtorEq, *]
 |with_reducible refine fun(bn:Bool) hbn=>?_))
 all_goals ((repeat clear hK);(repeat clear hA);(repeat clear hB))
 all_goals simp_all
theorem JgR(fn:FuncId)(caps:List AV)(hc:Caps caps)(xs ys:List Rule)(hp:∀x∈xs,∀y,CallR Tryz.prog fn (.agg [.str x.host,.str x.pfx,.slice false (Ja x.split)] :: .agg [.str y.host,.str y.pfx,.slice false (Ja y.split)] :: caps) (.val (.bool (decide (x=y)))))(hl:Jc xs.length):CallR Tryz.prog 185 [.slice false (Ja xs),.slice false (Ja ys),.clo (.func fn) [] caps] (.val (.bool (decide (xs=ys)))):=by
 have hca:=hc.args
 have hcp:=hc.pure
 have hcn:=hc.nrm
 refine CallR.go3 (T:=T) Tryz.call185 Tryz.func185 rfl Tryz.ntmps185 (congrArg Array.toList Tryz.results185) (by decide) fun ts hn h0 h1 h2=>?_
 by_cases hll:xs.length=ys.length
 ·(repeat' (first
 | (with_reducible first|assumption|(refine Qw hK _ ?_;clear hK K)|refine Qw ‹_› _ ?_|refine Qx ‹_› ?_|refine Qi fun K hK=>?_|refine Qj T fun K hK=>?_|refine Ql fun A B hA hB=>?_|refine Qm ?_|refine Qn ?_|refine Qp ?_|refine Qr ?_)
 | ((with_reducible first|apply Qy|apply Qz|apply QA)<;>intro hb<;>try simp only[nr] at hb)
 |simp only[go_sem,↓reduceIte,reduceIte,Qa,Qh,Qb,Qc,Qd,Qe,Qf,Qg,reduceCtorEq, *,-hp]
 |with_reducible refine fun(bn:Bool) hbn=>?_))
  refine Qs [1,2,15,16] (fun m ts'=>∃(i:Nat),m=xs.length-i∧i≤xs.length∧xs.take i=ys.take i∧ts'.tmp 17=.int .i64 i) xs.length ?_ ?_
  ·refine⟨0,?_⟩
   simp only[go_sem,↓reduceIte,reduceIte,Qa,Qh,Qb,Qc,Qd,Qe,Qf,Qg,reduceCtorEq, *,-hp]
  ·rintro m A hM ts' hk ⟨i,hm,f1,f2,s1⟩
   simp only[go_sem,↓reduceIte,reduceIte,Qa,Qh,Qb,Qc,Qd,Qe,Qf,Qg,reduceCtorEq, *] at hk
   by_cases hlt:i<xs.length
   ·have hlu:i<ys.length:=by omega
    have hne:=Y9 hlt hlu
    have hpi:=hp _ (List.getElem_mem hlt) ys[i]
    (repeat' (first
 | (with_reducible first|refine callX.by (hpi) ?_|assumption|(refine Qw hK _ ?_;clear hK K)|refine Qw ‹_› _ ?_|refine Qx ‹_› ?_|refine Qi fun K hK=>?_|refine Qj T fun K hK=>?_|refine Ql fun A B hA hB=>?_|refine Qm ?_|refine Qn ?_|refine Qp ?_|refine Qr ?_)
 | ((with_reducible first|apply Qy|apply Qz|apply QA)<;>intro hb<;>try simp only[nr] at hb)
 |simp only[go_sem,↓reduceIte,reduceIte,Qa,Qh,Qb,Qc,Qd,Qe,Qf,Qg,reduceCtorEq, *,-hp,-hpi]
 |with_reducible refine fun(bn:Bool) hbn=>?_))
    all_goals ((repeat clear hK);(repeat clear hA);(repeat clear hB))
    all_goals first
     | (refine hM.on (xs.length-(i+1)) (by omega) (by simp only[go_sem,↓reduceIte,reduceIte,Qa,Qh,Qb,Qc,Qd,Qe,Qf,Qg,reduceCtorEq, *,Ji hlt hl,-hp,-hpi]) ⟨i+1,rfl,by omega,Y8 f2 hlt hlu (of_decide_eq_true hb),?_⟩;simp only[go_sem,↓reduceIte,reduceIte,Qa,Qh,Qb,Qc,Qd,Qe,Qf,Qg,reduceCtorEq, *,Ji hlt hl,-hp,-hpi];done)
     | (clear hM hp hpi;grind)
   ·have:=Y7 f2 hlt hll
    (repeat' (first
 | (with_reducible first|assumption|(refine Qw hK _ ?_;clear hK K)|refine Qw ‹_› _ ?_|refine Qx ‹_› ?_|refine Qi fun K hK=>?_|refine Qj T fun K hK=>?_|refine Ql fun A B hA hB=>?_|refine Qm ?_|refine Qn ?_|refine Qp ?_|refine Qr ?_)
 | ((with_reducible first|apply Qy|apply Qz|apply QA)<;>intro hb<;>try simp only[nr] at hb)
 |simp only[go_sem,↓reduceIte,reduceIte,Qa,Qh,Qb,Qc,Qd,Qe,Qf,Qg,reduceCtorEq, *,-hp]
 |with_reducible refine fun(bn:Bool) hbn=>?_))
    all_goals ((repeat clear hK);(repeat clear hA);(repeat clear hB))
    all_goals (clear hM hp;grind)
 ·have:¬xs=ys:=by rintro rfl;exact hll rfl
  (repeat' (first
 | (with_reducible first|assumption|(refine Qw hK _ ?_;clear hK K)|refine Qw ‹_› _ ?_|refine Qx ‹_› ?_|refine Qi fun K hK=>?_|refine Qj T fun K hK=>?_|refine Ql fun A B hA hB=>?_|refine Qm ?_|refine Qn ?_|refine Qp ?_|refine Qr ?_)
 | ((with_reducible first|apply Qy|apply Qz|apply QA)<;>intro hb<;>try simp only[nr] at hb)
 |simp only[go_sem,↓reduceIte,reduceIte,Qa,Qh,Qb,Qc,Qd,Qe,Qf,Qg,reduceCtorEq, *,-hp]
 |with_reducible refine fun(bn:Bool) hbn=>?_))
  all_goals ((repeat clear hK);(repeat clear hA);(repeat clear hB))
  all_goals (clear hp;grind)
def JeB(a b:Res):Bool:=decide (a.kind=b.kind∧a.name=b.name∧a.port=b.port∧a.to'=b.to'∧a.rules'=b.rules'∧a.hosts=b.hosts)
set_option maxHeartbeats 4000000 in
theorem Jjt(a_kind:Int)(a_name:List UInt8)(a_ver:Int)(a_port:Int)(a_to:List UInt8)(a_rules:List Rule)(a_hosts:List Int)(b_kind:Int)(b_name:List UInt8)(b_ver:Int)(b_port:Int)(b_to:List UInt8)(b_rules:List Rule)(b_hosts:List Int)(hh:Jc a_hosts.length)(hl:Jc a_rules.length)(hs:∀x∈a_rules,VC x):CallR Tryz.prog 144 [.agg [.int .i64 a_kind,.str a_name,.int .i64 a_ver,.int .i64 a_port,.str a_to,.slice false (Ja a_rules),.slice false (Ja a_hosts)],.agg [.int .i64 b_kind,.str b_name,.int .i64 b_ver,.int .i64 b_port,.str b_to,.slice false (Ja b_rules),.slice false (Ja b_hosts)]] (.val (.bool (JeB (⟨a_kind,a_name,a_ver,a_port,a_to,a_rules,a_hosts⟩:Res) (⟨b_kind,b_name,b_ver,b_port,b_to,b_rules,b_hosts⟩:Res)))):=by
 have h:=JgR 182 [] Caps.nil a_rules b_rules (fun x hx y=>Jge x.host x.pfx x.split y.host y.pfx y.split (hs x hx).2.2.1) hl
 refine CallR.go2 (T:=T) Tryz.call144 Tryz.func144 rfl Tryz.ntmps144 (congrArg Array.toList Tryz.results144) (by decide) fun ts hn h0 h1=>?_
 (repeat' (first
 | (with_reducible first|refine callX.by (h) ?_|refine callX.by (Jge _ _ _ _ _ _ ?_) ?_|refine callX.by (Va _ _ _ _ _ _ _) ?_|refine callX.by (JkA _ _ ?_) ?_|refine callX.by (JgR _ _ ?_ _ _ ?_ ?_) ?_|assumption|(refine Qw hK _ ?_;clear hK K)|refine Qw ‹_› _ ?_|refine Qx ‹_› ?_|refine Qi fun K hK=>?_|refine Qj T fun K hK=>?_|refine Qk (id:=2) T mixed [([6],[8,11,12,13,14,15,16,17,18,19,20,21,22,23,24,25,26,27,28,29,30,31,32,33,34,35,36,37,38,39]),([7],[8,12,13,14,15,16,17,18,19,20,21,22,23,24,25,26,27,28,29,30,31,32,33,34,35,36,37,38,39]),([8],[6,7,12,13,14,15,16,17,18,19,20,21,22,23,24,25,26,27,28,29,30,31,32,33,34,35,36,37,38,39]),([9],[19,20,21,22,23,24,25,26,27,28,29,30,31,32,33,34,35,36,37,38,39]),([10],[19,20,21,22,23,24,25,26,27,28,29,30,31,32,33,34,35,36,37,38,39]),([11],[6,26,27,28,29,30,31,32,33,34,35,36,37,38,39]),([12],[6,7,8,14,15,17,18,19,20,21,22,23,24,25,26,27,28,29,30,31,32,33,34,35,36,37,38,39]),([13],[6,7,8,14,15,18,19,20,21,22,23,24,25,26,27,28,29,30,31,32,33,34,35,36,37,38,39]),([14],[6,7,8,12,13,17,18,19,20,21,22,23,24,25,26,27,28,29,30,31,32,33,34,35,36,37,38,39]),([15],[6,7,8,12,13,18,19,20,21,22,23,24,25,26,27,28,29,30,31,32,33,34,35,36,37,38,39]),([16],[6,7,8,19,20,21,22,23,24,25,26,27,28,29,30,31,32,33,34,35,36,37,38,39]),([17],[6,7,8,12,14,26,27,28,29,30,31,32,33,34,35,36,37,38,39]),([18],[6,7,8,12,13,14,15,32,33,34,35,36,37,38,39]),([19],[6,7,8,9,10,12,13,14,15,16,21,22,24,25,26,27,28,29,30,31,32,33,34,35,36,37,38,39]),([20],[6,7,8,9,10,12,13,14,15,16,21,22,25,26,27,28,29,30,31,32,33,34,35,36,37,38,39]),([21],[6,7,8,9,10,12,13,14,15,16,19,20,24,25,26,27,28,29,30,31,32,33,34,35,36,37,38,39]),([22],[6,7,8,9,10,12,13,14,15,16,19,20,25,26,27,28,29,30,31,32,33,34,35,36,37,38,39]),([23],[6,7,8,9,10,12,13,14,15,16,26,27,28,29,30,31,32,33,34,35,36,37,38,39]),([24],[6,7,8,9,10,12,13,14,15,16,19,21,32,33,34,35,36,37,38,39]),([25],[6,7,8,9,10,12,13,14,15,16,19,20,21,22,33,34,35,36,37,38,39]),([26],[6,7,8,9,10,11,12,13,14,15,16,17,19,20,21,22,23,28,29,31,32,33,34,35,36,37,38,39]),([27],[6,7,8,9,10,11,12,13,14,15,16,17,19,20,21,22,23,28,29,33,34,35,36,37,38,39]),([28],[6,7,8,9,10,11,12,13,14,15,16,17,19,20,21,22,23,26,27,31,32,33,34,35,36,37,38,39]),([29],[6,7,8,9,10,11,12,13,14,15,16,17,19,20,21,22,23,26,27,33,34,35,36,37,38,39]),([30],[6,7,8,9,10,11,12,13,14,15,16,17,19,20,21,22,23]),([31],[6,7,8,9,10,11,12,13,14,15,16,17,19,20,21,22,23,26,28]),([32],[6,7,8,9,10,11,12,13,14,15,16,17,18,19,20,21,22,23,24,26,28]),([33],[6,7,8,9,10,11,12,13,14,15,16,17,18,19,20,21,22,23,24,25,26,27,28,29,35,36,37,39]),([34],[6,7,8,9,10,11,12,13,14,15,16,17,18,19,20,21,22,23,24,25,26,27,28,29,35,36,37]),([35],[6,7,8,9,10,11,12,13,14,15,16,17,18,19,20,21,22,23,24,25,26,27,28,29,33,34,37,39]),([36],[6,7,8,9,10,11,12,13,14,15,16,17,18,19,20,21,22,23,24,25,26,27,28,29,33,34,37]),([37],[6,7,8,9,10,11,12,13,14,15,16,17,18,19,20,21,22,23,24,25,26,27,28,29,33,34,35,36]),([38],[6,7,8,9,10,11,12,13,14,15,16,17,18,19,20,21,22,23,24,25,26,27,28,29]),([39],[6,7,8,9,10,11,12,13,14,15,16,17,18,19,20,21,22,23,24,25,26,27,28,29,33,35])] (by kernel_rfl) fun K hK=>?_|refine Ql fun A B hA hB=>?_|refine Qn ?_|refine Qr ?_)
 | ((with_reducible first|apply Qy|apply Qz|apply QA)<;>intro hb<;>try simp only[nr] at hb)
 |simp only[go_sem,↓reduceIte,reduceIte,Qa,Qh,Qb,Qc,Qd,Qe,Qf,Qg,reduceCtorEq, *,-hs,-h]
 |with_reducible refine fun(bn:Bool) hbn=>?_))
 all_goals ((repeat clear hK);(repeat clear hA);(repeat clear hB))
 all_goals (clear h hs;grind [JeB])
theorem Jed(a_kind:Int)(a_name:List UInt8)(a_ver:Int)(a_port:Int)(a_to:List UInt8)(a_rules:List Rule)(a_hosts:List Int)(b_kind:Int)(b_name:List UInt8)(b_ver:Int)(b_port:Int)(b_to:List UInt8)(b_rules:List Rule)(b_hosts:List Int)(hh:Jc a_hosts.length)(hl:Jc a_rules.length)(hs:∀x∈a_rules,VC x):CallR Tryz.prog 107 [.agg [.int .i64 a_kind,.str a_name,.int .i64 a_ver,.int .i64 a_port,.str a_to,.slice false (Ja a_rules),.slice false (Ja a_hosts)],.agg [.int .i64 b_kind,.str b_name,.int .i64 b_ver,.int .i64 b_port,.str b_to,.slice false (Ja b_rules),.slice false (Ja b_hosts)]] (.val (.bool (decide ((⟨a_kind,a_name,a_ver,a_port,a_to,a_rules,a_hosts⟩:Res)=(⟨b_kind,b_name,b_ver,b_port,b_to,b_rules,b_hosts⟩:Res))))):=by
 refine CallR.go2 (T:=T) Tryz.call107 Tryz.func107 rfl Tryz.ntmps107 (congrArg Array.toList Tryz.results107) (by decide) fun ts hn h0 h1=>?_
 (repeat' (first
 | (with_reducible first|refine callX.by (Jjt _ _ _ _ _ _ _ _ _ _ _ _ _ _ ?_ ?_ ?_) ?_|assumption|(refine Qw hK _ ?_;clear hK K)|refine Qw ‹_› _ ?_|refine Qx ‹_› ?_|refine Qi fun K hK=>?_|refine Qj T fun K hK=>?_|refine Ql fun A B hA hB=>?_|refine Qn ?_|refine Qr ?_)
 | ((with_reducible first|apply Qy|apply Qz|apply QA)<;>intro hb<;>try simp only[nr] at hb)
 |simp only[go_sem,↓reduceIte,reduceIte,Qa,Qh,Qb,Qc,Qd,Qe,Qf,Qg,reduceCtorEq, *,-hs]
 |with_reducible refine fun(bn:Bool) hbn=>?_))
 all_goals ((repeat clear hK);(repeat clear hA);(repeat clear hB))
 all_goals (clear hs;grind [JeB])
end Go.Proofs.YthjalhfmpffbjaaGreatDoor.Lg
