/- Parts of the proof, one behind the other. -/
import Derived.Test.YthjalhfmpffbjaaGreatDoorG12
namespace Go.Proofs.YthjalhfmpffbjaaGreatDoor.Lg
set_option maxRecDepth 100000
set_option linter.unusedVariables false
set_option linter.unusedSimpArgs false
open Go
open Nat renaming reduceEqDiff → Qa, reduceLT → Qb, reduceLeDiff → Qc, reduceAdd → Qd, reduceMul → Qe, reduceSub → Qf, reduceBEq → Qg
open String renaming reduceEq → Qh
open SpecC renaming seqW → Qi, regW → Qj, drawW → Qk, condW → Ql, block → Qm, skip → Qn, exit → Qp, ret → Qr, loopF → Qs
open NxK renaming out → Qw
open Nx renaming out → Qx
open condK renaming split → Qy
open gK renaming split_t → Qz, split_f → QA
open List renaming getElem_mem → QC
@[go_sem] def Wd3:List (List Nat×List Nat):=[([16],[17,20,21,22,23,24]),([17],[16,20,21,22,23,24]),([18],[20,21,22,23,24]),([19],[20,21,22,23,24]),([20],[16,17,18,19,21,22]),([21],[16,17,18,19,20,24]),([22],[16,17,18,19,20]),([23],[16,17,18,19]),([24],[16,17,18,19,21])]
@[go_sem] def Wd4:List (List Nat×List Nat):=[([35],[36,39,40,41,42,43]),([36],[35,39,40,41,42,43]),([37],[39,40,41,42,43]),([38],[39,40,41,42,43]),([39],[35,36,37,38,40,41]),([40],[35,36,37,38,39,43]),([41],[35,36,37,38,39]),([42],[35,36,37,38]),([43],[35,36,37,38,40])]
theorem JhZ{xs:List Key}{k:Nat}(h0:0<k)(h:k<xs.length):J9 (xs.drop (k-1))=if xs[k]=xs[k-1] then J9 (xs.drop k) else xs[k] :: J9 (xs.drop k):=by
 have e:xs.drop (k-1)=xs[k-1] :: xs[k] :: xs.drop (k+1):=by
  rw[List.drop_eq_getElem_cons (by omega:k-1<xs.length)]
  congr 1
  have:k-1+1=k:=by omega
  rw[this,List.drop_eq_getElem_cons h]
 rw[e,J9,←List.drop_eq_getElem_cons h]
theorem Jh0{xs:List Key}{k:Nat}(h:xs.length≤k+1):J9 (xs.drop k)=[]:=by
 have:(xs.drop k).length≤1:=by simp;omega
 match hx:xs.drop k,this with
 | [],_=>rfl
 | [_],_=>rfl
set_option maxHeartbeats 4000000 in
theorem Zf(xs:List Key)(hl:Jc xs.length):CallM Tryz.prog 121 2 (Ja xs) [] (.own 2 (Ja (VT xs))):=by
 refine CallM.go0 (T:=T) Tryz.call121 Tryz.func121 rfl Tryz.ntmps121 (congrArg Array.toList Tryz.results121) (by decide) fun ts hn h0 hg0 ho0=>?_
 by_cases h2:xs.length<2
 ·have hc:VT xs=xs:=by
   match xs,h2 with
   | [],_=>rfl
   | [_],_=>rfl
  (repeat' (first
 | (with_reducible first|assumption|(refine Qw hK _ ?_;clear hK K)|refine Qw ‹_› _ ?_|refine Qx ‹_› ?_|refine Qi fun K hK=>?_|refine Qj T fun K hK=>?_|refine Qk (id:=6) T mixed Wd3 (by kernel_rfl) fun K hK=>?_|refine Qk (id:=11) T mixed Wd4 (by kernel_rfl) fun K hK=>?_|refine Ql fun A B hA hB=>?_|refine Qm ?_|refine Qn ?_|refine Qp ?_|refine Qr ?_)
 | ((with_reducible first|apply Qy|apply Qz|apply QA)<;>intro hb<;>try simp only[nr] at hb)
 |simp only[go_sem,↓reduceIte,reduceIte,Qa,Qh,Qb,Qc,Qd,Qe,Qf,Qg,reduceCtorEq, *,hc]
 |with_reducible refine fun(bn:Bool) hbn=>?_))
 ·(repeat' (first
 | (with_reducible first|assumption|(refine Qw hK _ ?_;clear hK K)|refine Qw ‹_› _ ?_|refine Qx ‹_› ?_|refine Qi fun K hK=>?_|refine Qj T fun K hK=>?_|refine Qk (id:=6) T mixed Wd3 (by kernel_rfl) fun K hK=>?_|refine Qk (id:=11) T mixed Wd4 (by kernel_rfl) fun K hK=>?_|refine Ql fun A B hA hB=>?_|refine Qm ?_|refine Qn ?_|refine Qp ?_|refine Qr ?_)
 | ((with_reducible first|apply Qy|apply Qz|apply QA)<;>intro hb<;>try simp only[nr] at hb)
 |simp only[go_sem,↓reduceIte,reduceIte,Qa,Qh,Qb,Qc,Qd,Qe,Qf,Qg,reduceCtorEq, *]
 |with_reducible refine fun(bn:Bool) hbn=>?_))
  refine Qs [0] (fun m ts'=>∃(k:Nat),m=xs.length-k∧1≤k∧k≤xs.length∧VT xs=xs.take k++J9 (xs.drop (k-1))∧ts'.tmp 3=.int .i64 k) (xs.length-1) ?_ ?_
  ·refine⟨1,rfl,Nat.le_refl _,by omega,rfl,?_⟩
   simp only[go_sem,↓reduceIte,reduceIte,Qa,Qh,Qb,Qc,Qd,Qe,Qf,Qg,reduceCtorEq, *]
   rfl
  ·rintro m A hM ts' hk ⟨k,hm,f1,f2,f3,s1⟩
   simp only[go_sem,↓reduceIte,reduceIte,Qa,Qh,Qb,Qc,Qd,Qe,Qf,Qg,reduceCtorEq, *] at hk
   by_cases hlt:k<xs.length
   ·have hw:IntKind.i64.wrap ((k:Int)-1)=((k-1:Nat):Int):=by
     rw[Jgk (show Jc k by unfold Jc at *;omega)];omega
    have hk1:k-1<xs.length:=by omega
    simp only[JhZ f1 hlt,Z4] at f3
    (repeat' (first
 | (with_reducible first|assumption|(refine Qw hK _ ?_;clear hK K)|refine Qw ‹_› _ ?_|refine Qx ‹_› ?_|refine Qi fun K hK=>?_|refine Qj T fun K hK=>?_|refine Qk (id:=6) T mixed Wd3 (by kernel_rfl) fun K hK=>?_|refine Qk (id:=11) T mixed Wd4 (by kernel_rfl) fun K hK=>?_|refine Ql fun A B hA hB=>?_|refine Qm ?_|refine Qn ?_|refine Qp ?_|refine Qr ?_)
 | ((with_reducible first|apply Qy|apply Qz|apply QA)<;>intro hb<;>try simp only[nr] at hb)
 |simp only[go_sem,↓reduceIte,reduceIte,Qa,Qh,Qb,Qc,Qd,Qe,Qf,Qg,reduceCtorEq, *,hw,-f3]
 |with_reducible refine fun(bn:Bool) hbn=>?_))
    ·have hk4:VT xs=xs.take k++J9 (xs.drop k):=by rw[f3,if_pos (by clear hM hK;grind)]
     clear f3 hM
     refine Qs [4] (fun m ts'=>∃(q:Nat),∃(j:Nat),∃(ys:List Key),m=xs.length-j∧1≤j∧k+j≤xs.length∧q≤k+j-1∧ys.length=xs.length∧VT xs=ys.take q++J9 (xs.drop (k+j-1))∧ys.drop (k+j-1)=xs.drop (k+j-1)∧ts'.tmp 0=.os 0 0 xs.length∧ts'.gen 0=0∧ts'.obj 0=.arr 2 (Ja ys)∧ts'.tmp 3=.int .i64 q∧ts'.tmp 5=.int .i64 j) (xs.length-1) ?_ ?_
     ·refine⟨k,1,xs,rfl,Nat.le_refl _,by omega,by omega,rfl,hk4,rfl,?_⟩
      simp only[go_sem,↓reduceIte,reduceIte,Qa,Qh,Qb,Qc,Qd,Qe,Qf,Qg,reduceCtorEq, *,-hk4]
      all_goals rfl
     ·clear hk4
      rintro m A hM ts' hk ⟨q,j,ys,hm,f1,f2,f3,f4,f5,f6,s1,s2,s3,s4,s5⟩
      simp only[go_sem,↓reduceIte,reduceIte,Qa,Qh,Qb,Qc,Qd,Qe,Qf,Qg,reduceCtorEq, *] at hk
      by_cases hjt:j<xs.length-k
      ·have hw2:IntKind.i64.wrap ((j:Int)-1)=((j-1:Nat):Int):=by
        rw[Jgk (show Jc j by unfold Jc at *;omega)];omega
       have hkj:k+j<xs.length:=by omega
       have hky:k+j<ys.length:=by omega
       have hkj1:k+(j-1)<xs.length:=by omega
       have hky1:k+(j-1)<ys.length:=by omega
       have e1:k+(j-1)=k+j-1:=by omega
       have hy2:ys[k+(j-1)]=xs[k+(j-1)]:=by
        have:=congrArg (fun l=>l[0]?) f6
        simp only[List.getElem?_drop,Nat.add_zero,←e1] at this
        rwa [List.getElem?_eq_getElem hky1,List.getElem?_eq_getElem hkj1,Option.some.injEq] at this
       have hy1:ys[k+j]=xs[k+j]:=by
        have:=congrArg (fun l=>l[1]?) f6
        have e2:k+j-1+1=k+j:=by omega
        simp only[List.getElem?_drop,e2] at this
        rwa [List.getElem?_eq_getElem hky,List.getElem?_eq_getElem hkj,Option.some.injEq] at this
       have hdr:ys.drop (k+j)=xs.drop (k+j):=by
        have:=congrArg (List.drop 1) f6
        have e2:k+j-1+1=k+j:=by omega
        simpa only[List.drop_drop,e2] using this
       have hq:q<xs.length:=by omega
       have hj1:j-1<xs.length-k:=by omega
       have hjx:j<xs.length:=by omega
       have hkT:=JhZ (show 0<k+j by omega) hkj
       simp only[←e1] at hkT
       rw[←e1,hkT] at f5
       have e3:k+(j+1)-1=k+j:=by omega
       (repeat' (first
 | (with_reducible first|assumption|(refine Qw hK _ ?_;clear hK K)|refine Qw ‹_› _ ?_|refine Qx ‹_› ?_|refine Qi fun K hK=>?_|refine Qj T fun K hK=>?_|refine Qk (id:=6) T mixed Wd3 (by kernel_rfl) fun K hK=>?_|refine Qk (id:=11) T mixed Wd4 (by kernel_rfl) fun K hK=>?_|refine Ql fun A B hA hB=>?_|refine Qm ?_|refine Qn ?_|refine Qp ?_|refine Qr ?_)
 | ((with_reducible first|apply Qy|apply Qz|apply QA)<;>intro hb<;>try simp only[nr] at hb)
 |simp only[go_sem,↓reduceIte,reduceIte,Qa,Qh,Qb,Qc,Qd,Qe,Qf,Qg,reduceCtorEq, *,hw2,-f5,-f6,-hdr,-hkT,-e1]
 |with_reducible refine fun(bn:Bool) hbn=>?_))
       all_goals ((repeat clear hK);(repeat clear hA);(repeat clear hB))
       ·(refine hM.on (xs.length-(j+1)) (by omega) (by simp only[go_sem,↓reduceIte,reduceIte,Qa,Qh,Qb,Qc,Qd,Qe,Qf,Qg,reduceCtorEq, *,Jj hq hl,Jj hjx hl,-f5,-f6,-hdr,-hkT,-e1]) ⟨q+1,j+1,ys.set q xs[k+j],rfl,by omega,by omega,by omega,by simp[f4],by clear hM;rw[f5,if_neg (by grind [Z4]),JjF _ (by omega),e3,List.append_assoc];rfl,by rw[e3,List.drop_set,if_pos (by omega),hdr],?_⟩;simp only[go_sem,↓reduceIte,reduceIte,Qa,Qh,Qb,Qc,Qd,Qe,Qf,Qg,reduceCtorEq, *,Jj hq hl,Jj hjx hl,-f5,-f6,-hdr,-hkT,-e1];done)
       ·(refine hM.on (xs.length-(j+1)) (by omega) (by simp only[go_sem,↓reduceIte,reduceIte,Qa,Qh,Qb,Qc,Qd,Qe,Qf,Qg,reduceCtorEq, *,Jj hjx hl,-f5,-f6,-hdr,-hkT,-e1]) ⟨q,j+1,ys,rfl,by omega,by omega,by omega,f4,by clear hM;rw[f5,if_pos (by grind [Z4]),e3],by rw[e3,hdr],?_⟩;simp only[go_sem,↓reduceIte,reduceIte,Qa,Qh,Qb,Qc,Qd,Qe,Qf,Qg,reduceCtorEq, *,Jj hjx hl,-f5,-f6,-hdr,-hkT,-e1];done)
      ·have hkj:k+j=xs.length:=by omega
       have f7:VT xs=ys.take q:=by rw[f5,Jh0 (by omega),List.append_nil]
       have hq1:q≤xs.length:=by omega
       have hq2:q+(xs.length-q)=xs.length:=by omega
       clear f5 f6
       (repeat' (first
 | (with_reducible first|assumption|(refine Qw hK _ ?_;clear hK K)|refine Qw ‹_› _ ?_|refine Qx ‹_› ?_|refine Qi fun K hK=>?_|refine Qj T fun K hK=>?_|refine Qk (id:=6) T mixed Wd3 (by kernel_rfl) fun K hK=>?_|refine Qk (id:=11) T mixed Wd4 (by kernel_rfl) fun K hK=>?_|refine Ql fun A B hA hB=>?_|refine Qm ?_|refine Qn ?_|refine Qp ?_|refine Qr ?_)
 | ((with_reducible first|apply Qy|apply Qz|apply QA)<;>intro hb<;>try simp only[nr] at hb)
 |simp only[go_sem,↓reduceIte,reduceIte,Qa,Qh,Qb,Qc,Qd,Qe,Qf,Qg,reduceCtorEq, *]
 |with_reducible refine fun(bn:Bool) hbn=>?_))
    ·all_goals ((repeat clear hK);(repeat clear hA);(repeat clear hB))
     (refine hM.on (xs.length-(k+1)) (by omega) (by simp only[go_sem,↓reduceIte,reduceIte,Qa,Qh,Qb,Qc,Qd,Qe,Qf,Qg,reduceCtorEq, *,Jj hlt hl,-f3]) ⟨k+1,rfl,by omega,by omega,by clear hM;rw[f3,if_neg (by grind),List.take_succ_eq_append_getElem hlt,List.append_assoc];rfl,?_⟩;simp only[go_sem,↓reduceIte,reduceIte,Qa,Qh,Qb,Qc,Qd,Qe,Qf,Qg,reduceCtorEq, *,Jj hlt hl,-f3];done)
   ·have hc:VT xs=xs:=by rw[f3,List.take_of_length_le (by omega),Jh0 (by omega)];simp
    (repeat' (first
 | (with_reducible first|assumption|(refine Qw hK _ ?_;clear hK K)|refine Qw ‹_› _ ?_|refine Qx ‹_› ?_|refine Qi fun K hK=>?_|refine Qj T fun K hK=>?_|refine Qk (id:=6) T mixed Wd3 (by kernel_rfl) fun K hK=>?_|refine Qk (id:=11) T mixed Wd4 (by kernel_rfl) fun K hK=>?_|refine Ql fun A B hA hB=>?_|refine Qm ?_|refine Qn ?_|refine Qp ?_|refine Qr ?_)
 | ((with_reducible first|apply Qy|apply Qz|apply QA)<;>intro hb<;>try simp only[nr] at hb)
 |simp only[go_sem,↓reduceIte,reduceIte,Qa,Qh,Qb,Qc,Qd,Qe,Qf,Qg,reduceCtorEq, *,hc,-f3]
 |with_reducible refine fun(bn:Bool) hbn=>?_))
@[go_sem] def V2:List (List Nat×List Nat):=[([16],[17,20,21,22,23]),([17],[16,20,21,22,23]),([18],[20,21,22,23]),([19],[20,21,22,23]),([20],[16,17,18,19,21]),([21],[16,17,18,19,20]),([22],[16,17,18,19]),([23],[16,17,18,19])]
theorem Jk3(xs ys:List Int)(hl:Jc xs.length):CallR Tryz.prog 184 [.slice false (Ja xs),.slice false (Ja ys)] (.val (.bool (decide (xs=ys)))):=by
 refine CallR.go2 (T:=T) Tryz.call184 Tryz.func184 rfl Tryz.ntmps184 (congrArg Array.toList Tryz.results184) (by decide) fun ts hn h0 h1=>?_
 by_cases hll:xs.length=ys.length
 ·(repeat' (first
 | (with_reducible first|assumption|(refine Qw hK _ ?_;clear hK K)|refine Qw ‹_› _ ?_|refine Qx ‹_› ?_|refine Qi fun K hK=>?_|refine Qj T fun K hK=>?_|refine Qk (id:=6) T mixed V2 (by kernel_rfl) fun K hK=>?_|refine Ql fun A B hA hB=>?_|refine Qm ?_|refine Qn ?_|refine Qp ?_|refine Qr ?_)
 | ((with_reducible first|apply Qy|apply Qz|apply QA)<;>intro hb<;>try simp only[nr] at hb)
 |simp only[go_sem,↓reduceIte,reduceIte,Qa,Qh,Qb,Qc,Qd,Qe,Qf,Qg,reduceCtorEq, *]
 |with_reducible refine fun(bn:Bool) hbn=>?_))
  refine Qs [0,1,12] (fun m ts'=>∃(i:Nat),m=xs.length-i∧i≤xs.length∧xs.take i=ys.take i∧ts'.tmp 13=.int .i64 i) xs.length ?_ ?_
  ·refine⟨0,?_⟩
   simp only[go_sem,↓reduceIte,reduceIte,Qa,Qh,Qb,Qc,Qd,Qe,Qf,Qg,reduceCtorEq, *]
  ·rintro m A hM ts' hk ⟨i,hm,f1,f2,s1⟩
   simp only[go_sem,↓reduceIte,reduceIte,Qa,Qh,Qb,Qc,Qd,Qe,Qf,Qg,reduceCtorEq, *] at hk
   by_cases hlt:i<xs.length
   ·have hlu:i<ys.length:=by omega
    have hne:=Jb1 hlt hlu
    (repeat' (first
 | (with_reducible first|assumption|(refine Qw hK _ ?_;clear hK K)|refine Qw ‹_› _ ?_|refine Qx ‹_› ?_|refine Qi fun K hK=>?_|refine Qj T fun K hK=>?_|refine Qk (id:=6) T mixed V2 (by kernel_rfl) fun K hK=>?_|refine Ql fun A B hA hB=>?_|refine Qm ?_|refine Qn ?_|refine Qp ?_|refine Qr ?_)
 | ((with_reducible first|apply Qy|apply Qz|apply QA)<;>intro hb<;>try simp only[nr] at hb)
 |simp only[go_sem,↓reduceIte,reduceIte,Qa,Qh,Qb,Qc,Qd,Qe,Qf,Qg,reduceCtorEq, *]
 |with_reducible refine fun(bn:Bool) hbn=>?_))
    all_goals ((repeat clear hK);(repeat clear hA);(repeat clear hB))
    all_goals first
     | (refine hM.on (xs.length-(i+1)) (by omega) (by simp only[go_sem,↓reduceIte,reduceIte,Qa,Qh,Qb,Qc,Qd,Qe,Qf,Qg,reduceCtorEq, *,Jj hlt hl]) ⟨i+1,rfl,by omega,by clear hM;apply Jb0 f2 hlt hlu;grind,?_⟩;simp only[go_sem,↓reduceIte,reduceIte,Qa,Qh,Qb,Qc,Qd,Qe,Qf,Qg,reduceCtorEq, *,Jj hlt hl];done)
     | (clear hM;grind)
   ·have:=JbZ f2 hlt hll
    (repeat' (first
 | (with_reducible first|assumption|(refine Qw hK _ ?_;clear hK K)|refine Qw ‹_› _ ?_|refine Qx ‹_› ?_|refine Qi fun K hK=>?_|refine Qj T fun K hK=>?_|refine Qk (id:=6) T mixed V2 (by kernel_rfl) fun K hK=>?_|refine Ql fun A B hA hB=>?_|refine Qm ?_|refine Qn ?_|refine Qp ?_|refine Qr ?_)
 | ((with_reducible first|apply Qy|apply Qz|apply QA)<;>intro hb<;>try simp only[nr] at hb)
 |simp only[go_sem,↓reduceIte,reduceIte,Qa,Qh,Qb,Qc,Qd,Qe,Qf,Qg,reduceCtorEq, *]
 |with_reducible refine fun(bn:Bool) hbn=>?_))
    all_goals ((repeat clear hK);(repeat clear hA);(repeat clear hB))
    all_goals (clear hM;grind)
 ·have:¬xs=ys:=by rintro rfl;exact hll rfl
  (repeat' (first
 | (with_reducible first|assumption|(refine Qw hK _ ?_;clear hK K)|refine Qw ‹_› _ ?_|refine Qx ‹_› ?_|refine Qi fun K hK=>?_|refine Qj T fun K hK=>?_|refine Qk (id:=6) T mixed V2 (by kernel_rfl) fun K hK=>?_|refine Ql fun A B hA hB=>?_|refine Qm ?_|refine Qn ?_|refine Qp ?_|refine Qr ?_)
 | ((with_reducible first|apply Qy|apply Qz|apply QA)<;>intro hb<;>try simp only[nr] at hb)
 |simp only[go_sem,↓reduceIte,reduceIte,Qa,Qh,Qb,Qc,Qd,Qe,Qf,Qg,reduceCtorEq, *]
 |with_reducible refine fun(bn:Bool) hbn=>?_))
  all_goals ((repeat clear hK);(repeat clear hA);(repeat clear hB))
  all_goals grind
theorem Jk5(xs ys:List Weight)(hl:Jc xs.length):CallR Tryz.prog 183 [.slice false (Ja xs),.slice false (Ja ys)] (.val (.bool (decide (xs=ys)))):=by
 refine CallR.go2 (T:=T) Tryz.call183 Tryz.func183 rfl Tryz.ntmps183 (congrArg Array.toList Tryz.results183) (by decide) fun ts hn h0 h1=>?_
 by_cases hll:xs.length=ys.length
 ·(repeat' (first
 | (with_reducible first|assumption|(refine Qw hK _ ?_;clear hK K)|refine Qw ‹_› _ ?_|refine Qx ‹_› ?_|refine Qi fun K hK=>?_|refine Qj T fun K hK=>?_|refine Qk (id:=6) T mixed V2 (by kernel_rfl) fun K hK=>?_|refine Ql fun A B hA hB=>?_|refine Qm ?_|refine Qn ?_|refine Qp ?_|refine Qr ?_)
 | ((with_reducible first|apply Qy|apply Qz|apply QA)<;>intro hb<;>try simp only[nr] at hb)
 |simp only[go_sem,↓reduceIte,reduceIte,Qa,Qh,Qb,Qc,Qd,Qe,Qf,Qg,reduceCtorEq, *]
 |with_reducible refine fun(bn:Bool) hbn=>?_))
  refine Qs [0,1,12] (fun m ts'=>∃(i:Nat),m=xs.length-i∧i≤xs.length∧xs.take i=ys.take i∧ts'.tmp 13=.int .i64 i) xs.length ?_ ?_
  ·refine⟨0,?_⟩
   simp only[go_sem,↓reduceIte,reduceIte,Qa,Qh,Qb,Qc,Qd,Qe,Qf,Qg,reduceCtorEq, *]
  ·rintro m A hM ts' hk ⟨i,hm,f1,f2,s1⟩
   simp only[go_sem,↓reduceIte,reduceIte,Qa,Qh,Qb,Qc,Qd,Qe,Qf,Qg,reduceCtorEq, *] at hk
   by_cases hlt:i<xs.length
   ·have hlu:i<ys.length:=by omega
    have hne:=Jb1 hlt hlu
    rw[Jhm] at hne
    (repeat' (first
 | (with_reducible first|assumption|(refine Qw hK _ ?_;clear hK K)|refine Qw ‹_› _ ?_|refine Qx ‹_› ?_|refine Qi fun K hK=>?_|refine Qj T fun K hK=>?_|refine Qk (id:=6) T mixed V2 (by kernel_rfl) fun K hK=>?_|refine Ql fun A B hA hB=>?_|refine Qm ?_|refine Qn ?_|refine Qp ?_|refine Qr ?_)
 | ((with_reducible first|apply Qy|apply Qz|apply QA)<;>intro hb<;>try simp only[nr] at hb)
 |simp only[go_sem,↓reduceIte,reduceIte,Qa,Qh,Qb,Qc,Qd,Qe,Qf,Qg,reduceCtorEq, *]
 |with_reducible refine fun(bn:Bool) hbn=>?_))
    all_goals ((repeat clear hK);(repeat clear hA);(repeat clear hB))
    all_goals first
     | (refine hM.on (xs.length-(i+1)) (by omega) (by simp only[go_sem,↓reduceIte,reduceIte,Qa,Qh,Qb,Qc,Qd,Qe,Qf,Qg,reduceCtorEq, *,Jj hlt hl]) ⟨i+1,rfl,by omega,by clear hM;apply Jb0 f2 hlt hlu;rw[Jhm];grind,?_⟩;simp only[go_sem,↓reduceIte,reduceIte,Qa,Qh,Qb,Qc,Qd,Qe,Qf,Qg,reduceCtorEq, *,Jj hlt hl];done)
     | (clear hM;grind)
   ·have:=JbZ f2 hlt hll
    (repeat' (first
 | (with_reducible first|assumption|(refine Qw hK _ ?_;clear hK K)|refine Qw ‹_› _ ?_|refine Qx ‹_› ?_|refine Qi fun K hK=>?_|refine Qj T fun K hK=>?_|refine Qk (id:=6) T mixed V2 (by kernel_rfl) fun K hK=>?_|refine Ql fun A B hA hB=>?_|refine Qm ?_|refine Qn ?_|refine Qp ?_|refine Qr ?_)
 | ((with_reducible first|apply Qy|apply Qz|apply QA)<;>intro hb<;>try simp only[nr] at hb)
 |simp only[go_sem,↓reduceIte,reduceIte,Qa,Qh,Qb,Qc,Qd,Qe,Qf,Qg,reduceCtorEq, *]
 |with_reducible refine fun(bn:Bool) hbn=>?_))
    all_goals ((repeat clear hK);(repeat clear hA);(repeat clear hB))
    all_goals (clear hM;grind)
 ·have:¬xs=ys:=by rintro rfl;exact hll rfl
  (repeat' (first
 | (with_reducible first|assumption|(refine Qw hK _ ?_;clear hK K)|refine Qw ‹_› _ ?_|refine Qx ‹_› ?_|refine Qi fun K hK=>?_|refine Qj T fun K hK=>?_|refine Qk (id:=6) T mixed V2 (by kernel_rfl) fun K hK=>?_|refine Ql fun A B hA hB=>?_|refine Qm ?_|refine Qn ?_|refine Qp ?_|refine Qr ?_)
 | ((with_reducible first|apply Qy|apply Qz|apply QA)<;>intro hb<;>try simp only[nr] at hb)
 |simp only[go_sem,↓reduceIte,reduceIte,Qa,Qh,Qb,Qc,Qd,Qe,Qf,Qg,reduceCtorEq, *]
 |with_reducible refine fun(bn:Bool) hbn=>?_))
  all_goals ((repeat clear hK);(repeat clear hA);(repeat clear hB))
  all_goals grind
theorem JgD(x_host:List UInt8)(x_pfx:List UInt8)(x_split:List Weight)(y_host:List UInt8)(y_pfx:List UInt8)(y_split:List Weight)(hl:Jc x_split.length):CallR Tryz.prog 182 [.agg [.str x_host,.str x_pfx,.slice false (Ja x_split)],.agg [.str y_host,.str y_pfx,.slice false (Ja y_split)]] (.val (.bool (decide ((⟨x_host,x_pfx,x_split⟩:Rule)=(⟨y_host,y_pfx,y_split⟩:Rule))))):=by
 refine CallR.go2 (T:=T) Tryz.call182 Tryz.func182 rfl Tryz.ntmps182 (congrArg Array.toList Tryz.results182) (by decide) fun ts hn h0 h1=>?_
 (repeat' (first
 | (with_reducible first|refine callX.by (Jk5 _ _ ?_) ?_|assumption|(refine Qw hK _ ?_;clear hK K)|refine Qw ‹_› _ ?_|refine Qx ‹_› ?_|refine Qi fun K hK=>?_|refine Qj T fun K hK=>?_|refine Ql fun A B hA hB=>?_|refine Qn ?_|refine Qr ?_)
 | ((with_reducible first|apply Qy|apply Qz|apply QA)<;>intro hb<;>try simp only[nr] at hb)
 |simp only[go_sem,↓reduceIte,reduceIte,Qa,Qh,Qb,Qc,Qd,Qe,Qf,Qg,reduceCtorEq, *]
 |with_reducible refine fun(bn:Bool) hbn=>?_))
 all_goals ((repeat clear hK);(repeat clear hA);(repeat clear hB))
 all_goals simp_all
theorem Jhj(fn:FuncId)(caps:List AV)(hc:Caps caps)(xs ys:List Rule)(hp:∀x∈xs,∀y,CallR Tryz.prog fn (.agg [.str x.host,.str x.pfx,.slice false (Ja x.split)] :: .agg [.str y.host,.str y.pfx,.slice false (Ja y.split)] :: caps) (.val (.bool (decide (x=y)))))(hl:Jc xs.length):CallR Tryz.prog 185 [.slice false (Ja xs),.slice false (Ja ys),.clo (.func fn) [] caps] (.val (.bool (decide (xs=ys)))):=by
 have hca:=hc.args
 have hcp:=hc.pure
 have hcn:=hc.nrm
 refine CallR.go3 (T:=T) Tryz.call185 Tryz.func185 rfl Tryz.ntmps185 (congrArg Array.toList Tryz.results185) (by decide) fun ts hn h0 h1 h2=>?_
 by_cases hll:xs.length=ys.length
 ·(repeat' (first
 | (with_reducible first|assumption|(refine Qw hK _ ?_;clear hK K)|refine Qw ‹_› _ ?_|refine Qx ‹_› ?_|refine Qi fun K hK=>?_|refine Qj T fun K hK=>?_|refine Ql fun A B hA hB=>?_|refine Qm ?_|refine Qn ?_|refine Qp ?_|refine Qr ?_)
 | ((with_reducible first|apply Qy|apply Qz|apply QA)<;>intro hb<;>try simp only[nr] at hb)
 |simp only[go_sem,↓reduceIte,reduceIte,Qa,Qh,Qb,Qc,Qd,Qe,Qf,Qg,reduceCtorEq, *,-hp]
 |with_reducible refine fun(bn:Bool) hbn=>?_))
  refine Qs [1,2,15,16] (fun m ts'=>∃(i:Nat),m=xs.length-i∧i≤xs.length∧xs.take i=ys.take i∧ts'.tmp 17=.int .i64 i) xs.length ?_ ?_
  ·refine⟨0,?_⟩
   simp only[go_sem,↓reduceIte,reduceIte,Qa,Qh,Qb,Qc,Qd,Qe,Qf,Qg,reduceCtorEq, *,-hp]
  ·rintro m A hM ts' hk ⟨i,hm,f1,f2,s1⟩
   simp only[go_sem,↓reduceIte,reduceIte,Qa,Qh,Qb,Qc,Qd,Qe,Qf,Qg,reduceCtorEq, *] at hk
   by_cases hlt:i<xs.length
   ·have hlu:i<ys.length:=by omega
    have hne:=Jb1 hlt hlu
    have hpi:=hp _ (QC hlt) ys[i]
    (repeat' (first
 | (with_reducible first|refine callX.by (hpi) ?_|assumption|(refine Qw hK _ ?_;clear hK K)|refine Qw ‹_› _ ?_|refine Qx ‹_› ?_|refine Qi fun K hK=>?_|refine Qj T fun K hK=>?_|refine Ql fun A B hA hB=>?_|refine Qm ?_|refine Qn ?_|refine Qp ?_|refine Qr ?_)
 | ((with_reducible first|apply Qy|apply Qz|apply QA)<;>intro hb<;>try simp only[nr] at hb)
 |simp only[go_sem,↓reduceIte,reduceIte,Qa,Qh,Qb,Qc,Qd,Qe,Qf,Qg,reduceCtorEq, *,-hp,-hpi]
 |with_reducible refine fun(bn:Bool) hbn=>?_))
    all_goals ((repeat clear hK);(repeat clear hA);(repeat clear hB))
    all_goals first
     | (refine hM.on (xs.length-(i+1)) (by omega) (by simp only[go_sem,↓reduceIte,reduceIte,Qa,Qh,Qb,Qc,Qd,Qe,Qf,Qg,reduceCtorEq, *,Jj hlt hl,-hp,-hpi]) ⟨i+1,rfl,by omega,Jb0 f2 hlt hlu (of_decide_eq_true hb),?_⟩;simp only[go_sem,↓reduceIte,reduceIte,Qa,Qh,Qb,Qc,Qd,Qe,Qf,Qg,reduceCtorEq, *,Jj hlt hl,-hp,-hpi];done)
     | (clear hM hp hpi;grind)
   ·have:=JbZ f2 hlt hll
    (repeat' (first
 | (with_reducible first|assumption|(refine Qw hK _ ?_;clear hK K)|refine Qw ‹_› _ ?_|refine Qx ‹_› ?_|refine Qi fun K hK=>?_|refine Qj T fun K hK=>?_|refine Ql fun A B hA hB=>?_|refine Qm ?_|refine Qn ?_|refine Qp ?_|refine Qr ?_)
 | ((with_reducible first|apply Qy|apply Qz|apply QA)<;>intro hb<;>try simp only[nr] at hb)
 |simp only[go_sem,↓reduceIte,reduceIte,Qa,Qh,Qb,Qc,Qd,Qe,Qf,Qg,reduceCtorEq, *,-hp]
 |with_reducible refine fun(bn:Bool) hbn=>?_))
    all_goals ((repeat clear hK);(repeat clear hA);(repeat clear hB))
    all_goals (clear hM hp;grind)
 ·have:¬xs=ys:=by rintro rfl;exact hll rfl
  (repeat' (first
 | (with_reducible first|assumption|(refine Qw hK _ ?_;clear hK K)|refine Qw ‹_› _ ?_|refine Qx ‹_› ?_|refine Qi fun K hK=>?_|refine Qj T fun K hK=>?_|refine Ql fun A B hA hB=>?_|refine Qm ?_|refine Qn ?_|refine Qp ?_|refine Qr ?_)
 | ((with_reducible first|apply Qy|apply Qz|apply QA)<;>intro hb<;>try simp only[nr] at hb)
 |simp only[go_sem,↓reduceIte,reduceIte,Qa,Qh,Qb,Qc,Qd,Qe,Qf,Qg,reduceCtorEq, *,-hp]
 |with_reducible refine fun(bn:Bool) hbn=>?_))
  all_goals ((repeat clear hK);(repeat clear hA);(repeat clear hB))
  all_goals (clear hp;grind)
def JeK(a b:Res):Bool:=decide (a.kind=b.kind∧a.name=b.name∧a.port=b.port∧a.to'=b.to'∧a.rules'=b.rules'∧a.hosts=b.hosts)
set_option maxHeartbeats 4000000 in
theorem Jj1(a_kind:Int)(a_name:List UInt8)(a_ver:Int)(a_port:Int)(a_to:List UInt8)(a_rules:List Rule)(a_hosts:List Int)(b_kind:Int)(b_name:List UInt8)(b_ver:Int)(b_port:Int)(b_to:List UInt8)(b_rules:List Rule)(b_hosts:List Int)(hh:Jc a_hosts.length)(hl:Jc a_rules.length)(hs:∀x∈a_rules,V1 x):CallR Tryz.prog 144 [.agg [.int .i64 a_kind,.str a_name,.int .i64 a_ver,.int .i64 a_port,.str a_to,.slice false (Ja a_rules),.slice false (Ja a_hosts)],.agg [.int .i64 b_kind,.str b_name,.int .i64 b_ver,.int .i64 b_port,.str b_to,.slice false (Ja b_rules),.slice false (Ja b_hosts)]] (.val (.bool (JeK (⟨a_kind,a_name,a_ver,a_port,a_to,a_rules,a_hosts⟩:Res) (⟨b_kind,b_name,b_ver,b_port,b_to,b_rules,b_hosts⟩:Res)))):=by
 have h:=Jhj 182 [] Caps.nil a_rules b_rules (fun x hx y=>JgD x.host x.pfx x.split y.host y.pfx y.split (hs x hx).2.2.1) hl
 refine CallR.go2 (T:=T) Tryz.call144 Tryz.func144 rfl Tryz.ntmps144 (congrArg Array.toList Tryz.results144) (by decide) fun ts hn h0 h1=>?_
 (repeat' (first
 | (with_reducible first|refine callX.by (h) ?_|refine callX.by (JgD _ _ _ _ _ _ ?_) ?_|refine callX.by (Vc _ _ _ _ _ _ _) ?_|refine callX.by (Jk3 _ _ ?_) ?_|refine callX.by (Jhj _ _ ?_ _ _ ?_ ?_) ?_|assumption|(refine Qw hK _ ?_;clear hK K)|refine Qw ‹_› _ ?_|refine Qx ‹_› ?_|refine Qi fun K hK=>?_|refine Qj T fun K hK=>?_|refine Qk (id:=2) T mixed [([6],[8,11,12,13,14,15,16,17,18,19,20,21,22,23,24,25,26,27,28,29,30,31,32,33,34,35,36,37,38,39]),([7],[8,12,13,14,15,16,17,18,19,20,21,22,23,24,25,26,27,28,29,30,31,32,33,34,35,36,37,38,39]),([8],[6,7,12,13,14,15,16,17,18,19,20,21,22,23,24,25,26,27,28,29,30,31,32,33,34,35,36,37,38,39]),([9],[19,20,21,22,23,24,25,26,27,28,29,30,31,32,33,34,35,36,37,38,39]),([10],[19,20,21,22,23,24,25,26,27,28,29,30,31,32,33,34,35,36,37,38,39]),([11],[6,26,27,28,29,30,31,32,33,34,35,36,37,38,39]),([12],[6,7,8,14,15,17,18,19,20,21,22,23,24,25,26,27,28,29,30,31,32,33,34,35,36,37,38,39]),([13],[6,7,8,14,15,18,19,20,21,22,23,24,25,26,27,28,29,30,31,32,33,34,35,36,37,38,39]),([14],[6,7,8,12,13,17,18,19,20,21,22,23,24,25,26,27,28,29,30,31,32,33,34,35,36,37,38,39]),([15],[6,7,8,12,13,18,19,20,21,22,23,24,25,26,27,28,29,30,31,32,33,34,35,36,37,38,39]),([16],[6,7,8,19,20,21,22,23,24,25,26,27,28,29,30,31,32,33,34,35,36,37,38,39]),([17],[6,7,8,12,14,26,27,28,29,30,31,32,33,34,35,36,37,38,39]),([18],[6,7,8,12,13,14,15,32,33,34,35,36,37,38,39]),([19],[6,7,8,9,10,12,13,14,15,16,21,22,24,25,26,27,28,29,30,31,32,33,34,35,36,37,38,39]),([20],[6,7,8,9,10,12,13,14,15,16,21,22,25,26,27,28,29,30,31,32,33,34,35,36,37,38,39]),([21],[6,7,8,9,10,12,13,14,15,16,19,20,24,25,26,27,28,29,30,31,32,33,34,35,36,37,38,39]),([22],[6,7,8,9,10,12,13,14,15,16,19,20,25,26,27,28,29,30,31,32,33,34,35,36,37,38,39]),([23],[6,7,8,9,10,12,13,14,15,16,26,27,28,29,30,31,32,33,34,35,36,37,38,39]),([24],[6,7,8,9,10,12,13,14,15,16,19,21,32,33,34,35,36,37,38,39]),([25],[6,7,8,9,10,12,13,14,15,16,19,20,21,22,33,34,35,36,37,38,39]),([26],[6,7,8,9,10,11,12,13,14,15,16,17,19,20,21,22,23,28,29,31,32,33,34,35,36,37,38,39]),([27],[6,7,8,9,10,11,12,13,14,15,16,17,19,20,21,22,23,28,29,33,34,35,36,37,38,39]),([28],[6,7,8,9,10,11,12,13,14,15,16,17,19,20,21,22,23,26,27,31,32,33,34,35,36,37,38,39]),([29],[6,7,8,9,10,11,12,13,14,15,16,17,19,20,21,22,23,26,27,33,34,35,36,37,38,39]),([30],[6,7,8,9,10,11,12,13,14,15,16,17,19,20,21,22,23]),([31],[6,7,8,9,10,11,12,13,14,15,16,17,19,20,21,22,23,26,28]),([32],[6,7,8,9,10,11,12,13,14,15,16,17,18,19,20,21,22,23,24,26,28]),([33],[6,7,8,9,10,11,12,13,14,15,16,17,18,19,20,21,22,23,24,25,26,27,28,29,35,36,37,39]),([34],[6,7,8,9,10,11,12,13,14,15,16,17,18,19,20,21,22,23,24,25,26,27,28,29,35,36,37]),([35],[6,7,8,9,10,11,12,13,14,15,16,17,18,19,20,21,22,23,24,25,26,27,28,29,33,34,37,39]),([36],[6,7,8,9,10,11,12,13,14,15,16,17,18,19,20,21,22,23,24,25,26,27,28,29,33,34,37]),([37],[6,7,8,9,10,11,12,13,14,15,16,17,18,19,20,21,22,23,24,25,26,27,28,29,33,34,35,36]),([38],[6,7,8,9,10,11,12,13,14,15,16,17,18,19,20,21,22,23,24,25,26,27,28,29]),([39],[6,7,8,9,10,11,12,13,14,15,16,17,18,19,20,21,22,23,24,25,26,27,28,29,33,35])] (by kernel_rfl) fun K hK=>?_|refine Ql fun A B hA hB=>?_|refine Qn ?_|refine Qr ?_)
 | ((with_reducible first|apply Qy|apply Qz|apply QA)<;>intro hb<;>try simp only[nr] at hb)
 |simp only[go_sem,↓reduceIte,reduceIte,Qa,Qh,Qb,Qc,Qd,Qe,Qf,Qg,reduceCtorEq, *,-hs,-h]
 |with_reducible refine fun(bn:Bool) hbn=>?_))
 all_goals ((repeat clear hK);(repeat clear hA);(repeat clear hB))
 all_goals (clear h hs;grind [JeK])
theorem Jek(a_kind:Int)(a_name:List UInt8)(a_ver:Int)(a_port:Int)(a_to:List UInt8)(a_rules:List Rule)(a_hosts:List Int)(b_kind:Int)(b_name:List UInt8)(b_ver:Int)(b_port:Int)(b_to:List UInt8)(b_rules:List Rule)(b_hosts:List Int)(hh:Jc a_hosts.length)(hl:Jc a_rules.length)(hs:∀x∈a_rules,V1 x):CallR Tryz.prog 107 [.agg [.int .i64 a_kind,.str a_name,.int .i64 a_ver,.int .i64 a_port,.str a_to,.slice false (Ja a_rules),.slice false (Ja a_hosts)],.agg [.int .i64 b_kind,.str b_name,.int .i64 b_ver,.int .i64 b_port,.str b_to,.slice false (Ja b_rules),.slice false (Ja b_hosts)]] (.val (.bool (decide ((⟨a_kind,a_name,a_ver,a_port,a_to,a_rules,a_hosts⟩:Res)=(⟨b_kind,b_name,b_ver,b_port,b_to,b_rules,b_hosts⟩:Res))))):=by
 refine CallR.go2 (T:=T) Tryz.call107 Tryz.func107 rfl Tryz.ntmps107 (congrArg Array.toList Tryz.results107) (by decide) fun ts hn h0 h1=>?_
 (repeat' (first
 | (with_reducible first|refine callX.by (Jj1 _ _ _ _ _ _ _ _ _ _ _ _ _ _ ?_ ?_ ?_) ?_|assumption|(refine Qw hK _ ?_;clear hK K)|refine Qw ‹_› _ ?_|refine Qx ‹_› ?_|refine Qi fun K hK=>?_|refine Qj T fun K hK=>?_|refine Ql fun A B hA hB=>?_|refine Qn ?_|refine Qr ?_)
 | ((with_reducible first|apply Qy|apply Qz|apply QA)<;>intro hb<;>try simp only[nr] at hb)
 |simp only[go_sem,↓reduceIte,reduceIte,Qa,Qh,Qb,Qc,Qd,Qe,Qf,Qg,reduceCtorEq, *,-hs]
 |with_reducible refine fun(bn:Bool) hbn=>?_))
 all_goals ((repeat clear hK);(repeat clear hA);(repeat clear hB))
 all_goals (clear hs;grind [JeK])
def Zm(l:List Weight):List Key:=(l.filter fun w=>decide (0<w.w)).map fun w=>⟨2,w.cluster⟩
def Vp(l:List Rule):List Key:=l.flatMap fun x=>Zm x.split
def Ze(r:Res):List Key:=if r.to'=[] then [] else [⟨IntKind.i64.wrap (r.kind+1),r.to'⟩]
def JN(r:Res):List Key:=if Yd r=0 then VT (JJ (Ze r++Vp r.rules')) else []
theorem Jh6(x:Rule)(l:List Rule):Vp (x :: l)=Zm x.split++Vp l:=rfl
theorem Jl3(w:Weight)(l:List Weight):Zm (w :: l)=(if 0<w.w then [⟨2,w.cluster⟩] else [])++Zm l:=by
 unfold Zm
 by_cases h:0<w.w<;>simp[h]
theorem Jjo{r:Res}(h:Yd r=0):Y9 r=true:=by
 unfold Yd at h
 cases hs:Y9 r with
 |true=>rfl
 |false =>
  rw[hs] at h
  split at h
  ·cases h
  ·split at h
   ·cases h
   ·simp at h
theorem Jjw{r:Res}(h:Y9 r=true):r.rules'.length≤8∧r.hosts.length≤8∧∀x∈r.rules',x.split.length≤4:=by
 simp only[Y9,Bool.and_eq_true,decide_eq_true_eq,List.all_eq_true] at h
 refine⟨h.2.2.1,h.2.2.2.1,fun x hx=>?_⟩
 have:=h.2.2.2.2.2 x hx
 simp only[Ja6,Bool.and_eq_true,decide_eq_true_eq] at this
 exact this.1
theorem Jl4(l:List Weight):(Zm l).length≤l.length:=by
 unfold Zm
 rw[List.length_map]
 exact List.length_filter_le _ _
set_option maxHeartbeats 4000000 in
theorem Jam(r_kind:Int)(r_name:List UInt8)(r_ver:Int)(r_port:Int)(r_to:List UInt8)(r_rules:List Rule)(r_hosts:List Int)(hl:Jc r_rules.length)(hh:Jc r_hosts.length)(hs:∀x∈r_rules,V1 x):CallR Tryz.prog 179 [.agg [.int .i64 r_kind,.str r_name,.int .i64 r_ver,.int .i64 r_port,.str r_to,.slice false (Ja r_rules),.slice false (Ja r_hosts)]] (.own 2 (Ja (JN (⟨r_kind,r_name,r_ver,r_port,r_to,r_rules,r_hosts⟩:Res)))):=by
 by_cases hsn:Yd (⟨r_kind,r_name,r_ver,r_port,r_to,r_rules,r_hosts⟩:Res)=0
 rotate_left
 ·have hr:JN (⟨r_kind,r_name,r_ver,r_port,r_to,r_rules,r_hosts⟩:Res)=[]:=if_neg hsn
  rw[hr]
  refine CallR.go1 (T:=T) Tryz.call179 Tryz.func179 rfl Tryz.ntmps179 (congrArg Array.toList Tryz.results179) (by decide) fun ts hn h0=>?_
  (repeat' (first
 | (with_reducible first|refine callX.by (Vq _ _ _ _ _ _ _ ?_ ?_ ?_) ?_|refine callX.by Vz ?_)
 | (with_reducible refine callX.ar ?_ ?_ (Zz ?_ ?_);(focus(simp only[go_sem,↓reduceIte,reduceIte,Qa,Qh,Qb,Qc,Qd,Qe,Qf,Qg,reduceCtorEq, *,-hs];first|done|rfl)))
 |with_reducible refine callX.by (Vu _ _ _ _) ?_
 | (with_reducible refine callX.mv ?_ ?_ ?_ (Zf ?_ ?_);(focus(simp only[go_sem,↓reduceIte,reduceIte,Qa,Qh,Qb,Qc,Qd,Qe,Qf,Qg,reduceCtorEq, *,-hs];first|done|rfl));(focus(simp only[go_sem,↓reduceIte,reduceIte,Qa,Qh,Qb,Qc,Qd,Qe,Qf,Qg,reduceCtorEq, *,-hs];first|done|rfl)))
 | (with_reducible first|assumption|(refine Qw hK _ ?_;clear hK K)|refine Qw ‹_› _ ?_|refine Qx ‹_› ?_|refine Qi fun K hK=>?_|refine Qj T fun K hK=>?_|refine Ql fun A B hA hB=>?_|refine Qm ?_|refine Qn ?_|refine Qp ?_|refine Qr ?_)
 | ((with_reducible first|apply Qy|apply Qz|apply QA)<;>intro hb<;>try simp only[nr] at hb)
 |simp only[go_sem,↓reduceIte,reduceIte,Qa,Qh,Qb,Qc,Qd,Qe,Qf,Qg,reduceCtorEq, *,-hs]
 |with_reducible refine fun(bn:Bool) hbn=>?_))
  all_goals rfl
 obtain⟨hb1,hb2,hb3⟩:=Jjw (Jjo hsn)
 simp only at hb1 hb2 hb3
 have hr:JN (⟨r_kind,r_name,r_ver,r_port,r_to,r_rules,r_hosts⟩:Res)=VT (JJ (Ze (⟨r_kind,r_name,r_ver,r_port,r_to,r_rules,r_hosts⟩:Res)++Vp r_rules)):=if_pos hsn
 rw[hr]
 obtain⟨bs,hbs⟩:∃bs,Ze (⟨r_kind,r_name,r_ver,r_port,r_to,r_rules,r_hosts⟩:Res)=bs:=⟨_,rfl⟩
 rw[hbs]
 have hbl:bs.length≤1:=by
  rw[←hbs];unfold Ze;split<;>simp
 clear hr
 have hr0:V0 1 24:=JbS (by decide) (by decide)
 have hsk:∀x∈r_rules,Jc x.split.length:=fun x hx=>(hs x hx).2.2.1
 refine CallR.go1 (T:=T) Tryz.call179 Tryz.func179 rfl Tryz.ntmps179 (congrArg Array.toList Tryz.results179) (by decide) fun ts hn h0=>?_
 (repeat' (first
 | (with_reducible first|refine SpecC.cutAtS 6 [1] (fun ts'=>∃(g:Nat),ts'.tmp 3=.os 3 g bs.length∧ts'.gen 3=g∧ts'.obj 3=.arr 2 (Ja bs)) ?_ ?_|refine callX.by (Vq _ _ _ _ _ _ _ ?_ ?_ ?_) ?_|refine callX.by Vz ?_)
 | (with_reducible refine callX.ar ?_ ?_ (Zz ?_ ?_);(focus(simp only[go_sem,↓reduceIte,reduceIte,Qa,Qh,Qb,Qc,Qd,Qe,Qf,Qg,reduceCtorEq, *,-hs,-hsk,-hb3];first|done|rfl)))
 |with_reducible refine callX.by (Vu _ _ _ _) ?_
 | (with_reducible refine callX.mv ?_ ?_ ?_ (Zf ?_ ?_);(focus(simp only[go_sem,↓reduceIte,reduceIte,Qa,Qh,Qb,Qc,Qd,Qe,Qf,Qg,reduceCtorEq, *,-hs,-hsk,-hb3];first|done|rfl));(focus(simp only[go_sem,↓reduceIte,reduceIte,Qa,Qh,Qb,Qc,Qd,Qe,Qf,Qg,reduceCtorEq, *,-hs,-hsk,-hb3];first|done|rfl)))
 | (with_reducible first|assumption|(refine Qw hK _ ?_;clear hK K)|refine Qw ‹_› _ ?_|refine Qx ‹_› ?_|refine Qi fun K hK=>?_|refine Qj T fun K hK=>?_|refine Ql fun A B hA hB=>?_|refine Qm ?_|refine Qn ?_|refine Qp ?_|refine Qr ?_)
 | ((with_reducible first|apply Qy|apply Qz|apply QA)<;>intro hb<;>try simp only[nr] at hb)
 |simp only[go_sem,↓reduceIte,reduceIte,Qa,Qh,Qb,Qc,Qd,Qe,Qf,Qg,reduceCtorEq, *,-hs,-hsk,-hb3]
 |with_reducible refine fun(bn:Bool) hbn=>?_))
 ·have e:bs=[⟨IntKind.i64.wrap (r_kind+1),r_to⟩]:=by rw[←hbs];unfold Ze;rw[if_neg (of_decide_eq_false hb)]
  subst e
  have ea:Ja [(⟨IntKind.i64.wrap (r_kind+1),r_to⟩:Key)]=[AV.agg [AV.int IntKind.i64 (IntKind.i64.wrap (r_kind+1)),AV.str r_to]]:=rfl
  (repeat clear hK);(repeat clear hA);(repeat clear hB)
  (refine⟨_,(Ent.ren 3 22 (by simp only[go_sem,↓reduceIte,reduceIte,Qa,Qh,Qb,Qc,Qd,Qe,Qf,Qg,reduceCtorEq, *,-hs,-hsk,-hb3];done) (by simp only[go_sem,↓reduceIte,reduceIte,Qa,Qh,Qb,Qc,Qd,Qe,Qf,Qg,reduceCtorEq, *,-hs,-hsk,-hb3];done)),by simp only[go_sem,↓reduceIte,reduceIte,Qa,Qh,Qb,Qc,Qd,Qe,Qf,Qg,reduceCtorEq, *,-hs,-hsk,-hb3];done,⟨ts.gen 3+1,?_⟩⟩;simp only[go_sem,↓reduceIte,reduceIte,Qa,Qh,Qb,Qc,Qd,Qe,Qf,Qg,reduceCtorEq, *,-hs,-hsk,-hb3];done)
 ·have e:bs=[]:=by rw[←hbs];unfold Ze;rw[if_pos (of_decide_eq_true hb)]
  subst e
  (repeat clear hK);(repeat clear hA);(repeat clear hB)
  (refine⟨_,(Ent.virt 3 2 (by simp only[go_sem,↓reduceIte,reduceIte,Qa,Qh,Qb,Qc,Qd,Qe,Qf,Qg,reduceCtorEq, *,-hs,-hsk,-hb3,JY];done) (by decide)),by simp only[go_sem,↓reduceIte,reduceIte,Qa,Qh,Qb,Qc,Qd,Qe,Qf,Qg,reduceCtorEq, *,-hs,-hsk,-hb3,JY];done,⟨ts.gen 3+1,?_⟩⟩;simp only[go_sem,↓reduceIte,reduceIte,Qa,Qh,Qb,Qc,Qd,Qe,Qf,Qg,reduceCtorEq, *,-hs,-hsk,-hb3,JY];done)
 ·intro ts2 hk3
  rintro⟨g2,v1,v2,v3⟩
  simp only[go_sem,↓reduceIte,reduceIte,Qa,Qh,Qb,Qc,Qd,Qe,Qf,Qg,reduceCtorEq, *] at hk3
  (repeat' (first
 | (with_reducible first|refine callX.by (Vq _ _ _ _ _ _ _ ?_ ?_ ?_) ?_|refine callX.by Vz ?_)
 | (with_reducible refine callX.ar ?_ ?_ (Zz ?_ ?_);(focus(simp only[go_sem,↓reduceIte,reduceIte,Qa,Qh,Qb,Qc,Qd,Qe,Qf,Qg,reduceCtorEq, *,-hs,-hsk,-hb3];first|done|rfl)))
 |with_reducible refine callX.by (Vu _ _ _ _) ?_
 | (with_reducible refine callX.mv ?_ ?_ ?_ (Zf ?_ ?_);(focus(simp only[go_sem,↓reduceIte,reduceIte,Qa,Qh,Qb,Qc,Qd,Qe,Qf,Qg,reduceCtorEq, *,-hs,-hsk,-hb3];first|done|rfl));(focus(simp only[go_sem,↓reduceIte,reduceIte,Qa,Qh,Qb,Qc,Qd,Qe,Qf,Qg,reduceCtorEq, *,-hs,-hsk,-hb3];first|done|rfl)))
 | (with_reducible first|assumption|(refine Qw hK _ ?_;clear hK K)|refine Qw ‹_› _ ?_|refine Qx ‹_› ?_|refine Qi fun K hK=>?_|refine Qj T fun K hK=>?_|refine Ql fun A B hA hB=>?_|refine Qm ?_|refine Qn ?_|refine Qp ?_|refine Qr ?_)
 | ((with_reducible first|apply Qy|apply Qz|apply QA)<;>intro hb<;>try simp only[nr] at hb)
 |simp only[go_sem,↓reduceIte,reduceIte,Qa,Qh,Qb,Qc,Qd,Qe,Qf,Qg,reduceCtorEq, *,-hs,-hsk,-hb3]
 |with_reducible refine fun(bn:Bool) hbn=>?_))
  refine Qs [24,25] (fun m ts'=>∃(i:Nat),∃(g:Nat),∃(ys:List Key),m=r_rules.length-i∧i≤r_rules.length∧ys.length≤1+4*i∧bs++Vp r_rules=ys++Vp (r_rules.drop i)∧ts'.tmp 3=.os 3 g ys.length∧ts'.gen 3=g∧ts'.obj 3=.arr 2 (Ja ys)∧ts'.tmp 26=.int .i64 i) r_rules.length ?_ ?_
  ·refine⟨0,g2,bs,rfl,Nat.zero_le _,by omega,rfl,?_⟩
   simp only[go_sem,↓reduceIte,reduceIte,Qa,Qh,Qb,Qc,Qd,Qe,Qf,Qg,reduceCtorEq, *,-hs,-hsk,-hb3]
  ·rintro m A hM ts' hk ⟨i,g,ys,hm,f1,f2,f3,s1,s2,s3,s4⟩
   simp only[go_sem,↓reduceIte,reduceIte,Qa,Qh,Qb,Qc,Qd,Qe,Qf,Qg,reduceCtorEq, *] at hk
   by_cases hlt:i<r_rules.length
   ·rw[List.drop_eq_getElem_cons hlt,Jh6] at f3
    have hx4:=hb3 _ (QC hlt)
    have hxs:=hsk _ (QC hlt)
    (repeat' (first
 | (with_reducible first|refine callX.by (Vq _ _ _ _ _ _ _ ?_ ?_ ?_) ?_|refine callX.by Vz ?_)
 | (with_reducible refine callX.ar ?_ ?_ (Zz ?_ ?_);(focus(simp only[go_sem,↓reduceIte,reduceIte,Qa,Qh,Qb,Qc,Qd,Qe,Qf,Qg,reduceCtorEq, *,-hs,-hsk,-hb3,-f3];first|done|rfl)))
 |with_reducible refine callX.by (Vu _ _ _ _) ?_
 | (with_reducible refine callX.mv ?_ ?_ ?_ (Zf ?_ ?_);(focus(simp only[go_sem,↓reduceIte,reduceIte,Qa,Qh,Qb,Qc,Qd,Qe,Qf,Qg,reduceCtorEq, *,-hs,-hsk,-hb3,-f3];first|done|rfl));(focus(simp only[go_sem,↓reduceIte,reduceIte,Qa,Qh,Qb,Qc,Qd,Qe,Qf,Qg,reduceCtorEq, *,-hs,-hsk,-hb3,-f3];first|done|rfl)))
 | (with_reducible first|assumption|(refine Qw hK _ ?_;clear hK K)|refine Qw ‹_› _ ?_|refine Qx ‹_› ?_|refine Qi fun K hK=>?_|refine Qj T fun K hK=>?_|refine Ql fun A B hA hB=>?_|refine Qm ?_|refine Qn ?_|refine Qp ?_|refine Qr ?_)
 | ((with_reducible first|apply Qy|apply Qz|apply QA)<;>intro hb<;>try simp only[nr] at hb)
 |simp only[go_sem,↓reduceIte,reduceIte,Qa,Qh,Qb,Qc,Qd,Qe,Qf,Qg,reduceCtorEq, *,-hs,-hsk,-hb3,-f3]
 |with_reducible refine fun(bn:Bool) hbn=>?_))
    refine Qs [24,25,26,31,32] (fun m ts'=>∃(j:Nat),∃(g':Nat),∃(zs:List Key),m=r_rules[i].split.length-j∧j≤r_rules[i].split.length∧zs.length≤1+4*i+j∧ys++Zm r_rules[i].split=zs++Zm (r_rules[i].split.drop j)∧ts'.tmp 3=.os 3 g' zs.length∧ts'.gen 3=g'∧ts'.obj 3=.arr 2 (Ja zs)∧ts'.tmp 33=.int .i64 j) r_rules[i].split.length ?_ ?_
    ·refine⟨0,g,ys,rfl,Nat.zero_le _,by omega,rfl,?_⟩
     simp only[go_sem,↓reduceIte,reduceIte,Qa,Qh,Qb,Qc,Qd,Qe,Qf,Qg,reduceCtorEq, *,-hs,-hsk,-hb3,-f3]
    ·revert hM f3
     intro hM0 f30
     rintro m A hM ts' hk ⟨j,g',zs,hm,f1,f2,f3,s1,s2,s3,s4⟩
     simp only[go_sem,↓reduceIte,reduceIte,Qa,Qh,Qb,Qc,Qd,Qe,Qf,Qg,reduceCtorEq, *] at hk
     by_cases hjt:j<r_rules[i].split.length
     ·rw[List.drop_eq_getElem_cons hjt,Jl3] at f3
      have hr1:V0 (zs.length+1) 24:=JbS (by omega) (by decide)
      (repeat' (first
 | (with_reducible first|refine callX.by (Vq _ _ _ _ _ _ _ ?_ ?_ ?_) ?_|refine callX.by Vz ?_)
 | (with_reducible refine callX.ar ?_ ?_ (Zz ?_ ?_);(focus(simp only[go_sem,↓reduceIte,reduceIte,Qa,Qh,Qb,Qc,Qd,Qe,Qf,Qg,reduceCtorEq, *,-hs,-hsk,-hb3,-f3,-f30];first|done|rfl)))
 |with_reducible refine callX.by (Vu _ _ _ _) ?_
 | (with_reducible refine callX.mv ?_ ?_ ?_ (Zf ?_ ?_);(focus(simp only[go_sem,↓reduceIte,reduceIte,Qa,Qh,Qb,Qc,Qd,Qe,Qf,Qg,reduceCtorEq, *,-hs,-hsk,-hb3,-f3,-f30];first|done|rfl));(focus(simp only[go_sem,↓reduceIte,reduceIte,Qa,Qh,Qb,Qc,Qd,Qe,Qf,Qg,reduceCtorEq, *,-hs,-hsk,-hb3,-f3,-f30];first|done|rfl)))
 | (with_reducible first|assumption|(refine Qw hK _ ?_;clear hK K)|refine Qw ‹_› _ ?_|refine Qx ‹_› ?_|refine Qi fun K hK=>?_|refine Qj T fun K hK=>?_|refine Ql fun A B hA hB=>?_|refine Qm ?_|refine Qn ?_|refine Qp ?_|refine Qr ?_)
 | ((with_reducible first|apply Qy|apply Qz|apply QA)<;>intro hb<;>try simp only[nr] at hb)
 |simp only[go_sem,↓reduceIte,reduceIte,Qa,Qh,Qb,Qc,Qd,Qe,Qf,Qg,reduceCtorEq, *,-hs,-hsk,-hb3,-f3,-f30]
 |with_reducible refine fun(bn:Bool) hbn=>?_))
      all_goals ((repeat clear hK);(repeat clear hA);(repeat clear hB))
      ·(refine hM.onE (r_rules[i].split.length-(j+1)) (Ent.ren 3 45 ?_ ?_) ?_ ?_ ?_;(focus(simp only[go_sem,↓reduceIte,reduceIte,Qa,Qh,Qb,Qc,Qd,Qe,Qf,Qg,reduceCtorEq, *,Jj hjt hxs,List.length_append,-f3,-f30,-hM0];first|done|rfl));(focus(simp only[go_sem,↓reduceIte,reduceIte,Qa,Qh,Qb,Qc,Qd,Qe,Qf,Qg,reduceCtorEq, *,Jj hjt hxs,List.length_append,-f3,-f30,-hM0];first|done|rfl));omega;(focus(simp only[go_sem,↓reduceIte,reduceIte,Qa,Qh,Qb,Qc,Qd,Qe,Qf,Qg,reduceCtorEq, *,Jj hjt hxs,List.length_append,-f3,-f30,-hM0];done));refine⟨j+1,g'+1,zs++[⟨2,r_rules[i].split[j].cluster⟩],rfl,by omega,by simp;omega,by rw[f3,if_pos hb,List.append_assoc],?_⟩;simp only[go_sem,↓reduceIte,reduceIte,Qa,Qh,Qb,Qc,Qd,Qe,Qf,Qg,reduceCtorEq, *,Jj hjt hxs,List.length_append,-f3,-f30,-hM0];done)
      ·rw[if_neg (by omega),List.nil_append] at f3
       (refine hM.on (r_rules[i].split.length-(j+1)) (by omega) (by simp only[go_sem,↓reduceIte,reduceIte,Qa,Qh,Qb,Qc,Qd,Qe,Qf,Qg,reduceCtorEq, *,Jj hjt hxs,-f3,-f30,-hM0]) ⟨j+1,g',zs,rfl,by omega,by omega,f3,?_⟩;simp only[go_sem,↓reduceIte,reduceIte,Qa,Qh,Qb,Qc,Qd,Qe,Qf,Qg,reduceCtorEq, *,Jj hjt hxs,-f3,-f30,-hM0];done)
     ·rw[List.drop_eq_nil_of_le (by omega)] at f3
      (repeat' (first
 | (with_reducible first|refine callX.by (Vq _ _ _ _ _ _ _ ?_ ?_ ?_) ?_|refine callX.by Vz ?_)
 | (with_reducible refine callX.ar ?_ ?_ (Zz ?_ ?_);(focus(simp only[go_sem,↓reduceIte,reduceIte,Qa,Qh,Qb,Qc,Qd,Qe,Qf,Qg,reduceCtorEq, *,-hs,-hsk,-hb3,-f3,-f30];first|done|rfl)))
 |with_reducible refine callX.by (Vu _ _ _ _) ?_
 | (with_reducible refine callX.mv ?_ ?_ ?_ (Zf ?_ ?_);(focus(simp only[go_sem,↓reduceIte,reduceIte,Qa,Qh,Qb,Qc,Qd,Qe,Qf,Qg,reduceCtorEq, *,-hs,-hsk,-hb3,-f3,-f30];first|done|rfl));(focus(simp only[go_sem,↓reduceIte,reduceIte,Qa,Qh,Qb,Qc,Qd,Qe,Qf,Qg,reduceCtorEq, *,-hs,-hsk,-hb3,-f3,-f30];first|done|rfl)))
 | (with_reducible first|assumption|(refine Qw hK _ ?_;clear hK K)|refine Qw ‹_› _ ?_|refine Qx ‹_› ?_|refine Qi fun K hK=>?_|refine Qj T fun K hK=>?_|refine Ql fun A B hA hB=>?_|refine Qm ?_|refine Qn ?_|refine Qp ?_|refine Qr ?_)
 | ((with_reducible first|apply Qy|apply Qz|apply QA)<;>intro hb<;>try simp only[nr] at hb)
 |simp only[go_sem,↓reduceIte,reduceIte,Qa,Qh,Qb,Qc,Qd,Qe,Qf,Qg,reduceCtorEq, *,-hs,-hsk,-hb3,-f3,-f30]
 |with_reducible refine fun(bn:Bool) hbn=>?_))
      all_goals ((repeat clear hK);(repeat clear hA);(repeat clear hB))
      all_goals (clear hM;revert hM0;intro hM)
      (refine hM.on (r_rules.length-(i+1)) (by omega) (by simp only[go_sem,↓reduceIte,reduceIte,Qa,Qh,Qb,Qc,Qd,Qe,Qf,Qg,reduceCtorEq, *,Jj hlt hl,-f3,-f30,-hs,-hsk,-hb3]) ⟨i+1,g',zs,rfl,by omega,by omega,by rw[f30,←List.append_assoc,f3];simp[Zm],?_⟩;simp only[go_sem,↓reduceIte,reduceIte,Qa,Qh,Qb,Qc,Qd,Qe,Qf,Qg,reduceCtorEq, *,Jj hlt hl,-f3,-f30,-hs,-hsk,-hb3];done)
   ·rw[List.drop_eq_nil_of_le (by omega)] at f3
    have e:ys=bs++Vp r_rules:=by rw[f3];simp[Vp]
    subst e
    clear f3
    have hk1:=Jaa (bs++Vp r_rules)
    have htk:(JJ (bs++Vp r_rules)).take (bs++Vp r_rules).length=JJ (bs++Vp r_rules):=List.take_of_length_le (by omega)
    have htk2:(JJ (bs++Vp r_rules)).take (bs.length+(Vp r_rules).length)=JJ (bs++Vp r_rules):=List.take_of_length_le (by rw[hk1,List.length_append];exact Nat.le_refl _)
    have hsm1:Jc (bs++Vp r_rules).length:=by unfold Jc;omega
    have hsm2:Jc (JJ (bs++Vp r_rules)).length:=by rw[hk1];exact hsm1
    (repeat' (first
 | (with_reducible first|refine callX.by (Vq _ _ _ _ _ _ _ ?_ ?_ ?_) ?_|refine callX.by Vz ?_)
 | (with_reducible refine callX.ar ?_ ?_ (Zz ?_ ?_);(focus(simp only[go_sem,↓reduceIte,reduceIte,Qa,Qh,Qb,Qc,Qd,Qe,Qf,Qg,reduceCtorEq, *,Nat.le_refl,-hs,-hsk,-hb3];first|done|rfl)))
 |with_reducible refine callX.by (Vu _ _ _ _) ?_
 | (with_reducible refine callX.mv ?_ ?_ ?_ (Zf ?_ ?_);(focus(simp only[go_sem,↓reduceIte,reduceIte,Qa,Qh,Qb,Qc,Qd,Qe,Qf,Qg,reduceCtorEq, *,Nat.le_refl,-hs,-hsk,-hb3];first|done|rfl));(focus(simp only[go_sem,↓reduceIte,reduceIte,Qa,Qh,Qb,Qc,Qd,Qe,Qf,Qg,reduceCtorEq, *,Nat.le_refl,-hs,-hsk,-hb3];first|done|rfl)))
 | (with_reducible first|assumption|(refine Qw hK _ ?_;clear hK K)|refine Qw ‹_› _ ?_|refine Qx ‹_› ?_|refine Qi fun K hK=>?_|refine Qj T fun K hK=>?_|refine Ql fun A B hA hB=>?_|refine Qm ?_|refine Qn ?_|refine Qp ?_|refine Qr ?_)
 | ((with_reducible first|apply Qy|apply Qz|apply QA)<;>intro hb<;>try simp only[nr] at hb)
 |simp only[go_sem,↓reduceIte,reduceIte,Qa,Qh,Qb,Qc,Qd,Qe,Qf,Qg,reduceCtorEq, *,Nat.le_refl,-hs,-hsk,-hb3]
 |with_reducible refine fun(bn:Bool) hbn=>?_))
    all_goals ((repeat clear hK);(repeat clear hA);(repeat clear hB))
    all_goals rfl
end Go.Proofs.YthjalhfmpffbjaaGreatDoor.Lg
