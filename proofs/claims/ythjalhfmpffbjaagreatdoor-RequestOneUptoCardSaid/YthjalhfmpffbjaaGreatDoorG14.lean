/- Parts of the proof, one behind the other. -/
import Derived.Test.YthjalhfmpffbjaaGreatDoorG13
namespace Go.Proofs.YthjalhfmpffbjaaGreatDoor.Lg
set_option maxRecDepth 100000
set_option maxHeartbeats 64000000
set_option linter.unusedVariables false
set_option linter.unusedSimpArgs false
open Go
open Nat renaming reduceEqDiff → Qa, reduceLT → Qb, reduceLeDiff → Qc, reduceAdd → Qd, reduceMul → Qe, reduceSub → Qf, reduceBEq → Qg
open String renaming reduceEq → Qh
open SpecC renaming seqW → Qi, regW → Qj, drawW → Qk, condW → Ql, block → Qm, skip → Qn, exit → Qp, ret → Qr, loopF → Qs
open NxK renaming out → Qw
open Nx renaming out → Qx
open condK renaming split → Qy
open gK renaming split_t → Qz, split_f → QA
open List renaming getElem_mem → QC
@[go_sem] def Z1:List (List Nat×List Nat):=[([30],[33,34,35,36,37,38,39,40,41,42,43,44,45,46]),([31],[]),([32],[]),([33],[30,34,35,38,39,40,41,42,43,44,45,46]),([34],[30,33,37,38,39,40,41,42,43,44,45,46]),([35],[30,33,38,39,40,41,42,43,44,45,46]),([36],[30,39,40,41,42,43,44,45,46]),([37],[30,34,39,40,41,42,45,46]),([38],[30,33,34,35,39,40,41,42,46]),([39],[30,33,34,35,36,37,38,40,43,44,45,46]),([40],[30,33,34,35,36,37,38,39,43,44,45,46]),([41],[30,33,34,35,36,37,38,44,45,46]),([42],[30,33,34,35,36,37,38,45,46]),([43],[30,33,34,35,36,39,40,46]),([44],[30,33,34,35,36,39,40,41]),([45],[30,33,34,35,36,37,39,40,41,42]),([46],[30,33,34,35,36,37,38,39,40,41,42,43])]
def Y7:List Res→Int
 | []=>0
 |r :: l=>if V2 r=0 then Y7 l else V2 r
def Zh:List Res→Bool
 | []=>true
 |a :: l=>match l with
  | []=>true
  |b :: _=>decide (JJ (Jo a) (Jo b)<0) && Zh l
def Jbs:List Res→List (Int×Bool)→Bool
 | [],_=>true
 |r :: l,M=>if(JE M r.port).getD false then false else Jbs l (JU M r.port true)
def Vc(l:List Res):Int:=if 64<l.length then 3 else if Y7 l≠0 then Y7 l else if Zh l=false then 2 else if Jbs (Y1 l 0) []=false then 13 else 0
theorem Jmm(a b:Res)(l:List Res):Zh (a :: b :: l)=(decide (JJ (Jo a) (Jo b)<0) && Zh (b :: l)):=rfl
theorem JcE(xs:List Res)(hl:Jc xs.length)(hs:∀r∈xs,Jw r):CallR Tryz.prog 141 [.slice false (Ja xs)] (.val (.int .i64 (Vc xs))):=by
 by_cases h64:64<xs.length
 ·have e:Vc xs=3:=by simp[Vc,h64]
  rw[e]
  refine Jl Tryz.call141 Tryz.func141 rfl Tryz.ntmps141 Tryz.results141 fun ts hn h0=>?_
  (repeat' (first
 | (with_reducible first|refine callX.by (Vz _ _ _ _ _ _ _ ?_ ?_ ?_) ?_|refine callX.by VJ ?_|refine callX.by (Vg _ _ _ _ _ _ _) ?_|refine callX.by (Vw _ _ _ _) ?_|refine callX.by (Jak _ _ ?_) ?_|assumption|(refine Qw hK _ ?_;clear hK K)|refine Qw ‹_› _ ?_|refine Qx ‹_› ?_|refine Qi fun K hK=>?_|refine Qj T fun K hK=>?_|refine Qk (id:=13) T mixed Z1 (by kernel_rfl) fun K hK=>?_|refine Ql fun A B hA hB=>?_|refine Qm ?_|refine Qn ?_|refine Qp ?_|refine Qr ?_)
 |(with_reducible first|apply Qy|apply Qz|apply QA)<;>intro hb<;>try simp only[nr] at hb
 |simp only[go_sem,↓reduceIte,Qa,Qh,Qb,Qc,Qd,Qe,Qf,Qg,reduceCtorEq, *,-hs,-e]
 |intro(bn:Bool) hbn))
 have hl64:xs.length≤64:=by omega
 refine Jl Tryz.call141 Tryz.func141 rfl Tryz.ntmps141 Tryz.results141 fun ts hn h0=>?_
 (repeat' (first
 | (with_reducible first|refine callX.by (Vz _ _ _ _ _ _ _ ?_ ?_ ?_) ?_|refine callX.by VJ ?_|refine callX.by (Vg _ _ _ _ _ _ _) ?_|refine callX.by (Vw _ _ _ _) ?_|refine callX.by (Jak _ _ ?_) ?_|assumption|(refine Qw hK _ ?_;clear hK K)|refine Qw ‹_› _ ?_|refine Qx ‹_› ?_|refine Qi fun K hK=>?_|refine Qj T fun K hK=>?_|refine Qk (id:=13) T mixed Z1 (by kernel_rfl) fun K hK=>?_|refine Ql fun A B hA hB=>?_|refine Qm ?_|refine Qn ?_|refine Qp ?_|refine Qr ?_)
 |(with_reducible first|apply Qy|apply Qz|apply QA)<;>intro hb<;>try simp only[nr] at hb
 |simp only[go_sem,↓reduceIte,Qa,Qh,Qb,Qc,Qd,Qe,Qf,Qg,reduceCtorEq, *,-hs]
 |intro(bn:Bool) hbn))
 refine Qs [0,13,14] (fun m ts'=>∃(i:Nat),m=xs.length-i∧i≤xs.length∧Y7 xs=Y7 (xs.drop i)∧ts'.tmp 15=.int .i64 i) xs.length ?_ ?_
 ·refine⟨0,?_⟩
  simp only[go_sem,↓reduceIte,Qa,Qh,Qb,Qc,Qd,Qe,Qf,Qg,reduceCtorEq, *,-hs]
 ·rintro m A hM ts' hk ⟨i,hm,f1,f2,s1⟩
  simp only[go_sem,↓reduceIte,Qa,Qh,Qb,Qc,Qd,Qe,Qf,Qg,reduceCtorEq, *] at hk
  by_cases hlt:i<xs.length
  ·rw[List.drop_eq_getElem_cons hlt,Y7] at f2
   obtain⟨_,_,hsl,hsr,hsh⟩:=hs _ (QC hlt)
   (repeat' (first
 | (with_reducible first|refine callX.by (Vz _ _ _ _ _ _ _ ?_ ?_ ?_) ?_|refine callX.by VJ ?_|refine callX.by (Vg _ _ _ _ _ _ _) ?_|refine callX.by (Vw _ _ _ _) ?_|refine callX.by (Jak _ _ ?_) ?_|assumption|(refine Qw hK _ ?_;clear hK K)|refine Qw ‹_› _ ?_|refine Qx ‹_› ?_|refine Qi fun K hK=>?_|refine Qj T fun K hK=>?_|refine Qk (id:=13) T mixed Z1 (by kernel_rfl) fun K hK=>?_|refine Ql fun A B hA hB=>?_|refine Qm ?_|refine Qn ?_|refine Qp ?_|refine Qr ?_)
 |(with_reducible first|apply Qy|apply Qz|apply QA)<;>intro hb<;>try simp only[nr] at hb
 |simp only[go_sem,↓reduceIte,Qa,Qh,Qb,Qc,Qd,Qe,Qf,Qg,reduceCtorEq, *,-hs,-hsr,-f2]
 |intro(bn:Bool) hbn))
   all_goals ((repeat clear hK);(repeat clear hA);(repeat clear hB))
   ·rw[if_neg (by simpa using hb)] at f2
    have hb':¬V2 xs[i]=0:=by simpa using hb
    simp[Vc,h64,f2,hb']
   ·rw[if_pos (by simpa using hb)] at f2
    (refine hM.on (xs.length-(i+1)) (by omega) (by simp only[go_sem,↓reduceIte,Qa,Qh,Qb,Qc,Qd,Qe,Qf,Qg,reduceCtorEq, *,Jh hlt hl,-hs,-hsr,-f2]) ⟨i+1,rfl,by omega,f2,?_⟩;simp only[go_sem,↓reduceIte,Qa,Qh,Qb,Qc,Qd,Qe,Qf,Qg,reduceCtorEq, *,Jh hlt hl,-hs,-hsr,-f2];done)
  ·rw[List.drop_eq_nil_of_le (by omega),Y7] at f2
   have e1:Vc xs=if Zh xs=false then 2 else if Jbs (Y1 xs 0) []=false then 13 else 0:=by simp[Vc,h64,f2]
   clear f2
   have h00:¬(0:Int)<0:=by decide
   (repeat' (first
 | (with_reducible first|refine callX.by (Vz _ _ _ _ _ _ _ ?_ ?_ ?_) ?_|refine callX.by VJ ?_|refine callX.by (Vg _ _ _ _ _ _ _) ?_|refine callX.by (Vw _ _ _ _) ?_|refine callX.by (Jak _ _ ?_) ?_|assumption|(refine Qw hK _ ?_;clear hK K)|refine Qw ‹_› _ ?_|refine Qx ‹_› ?_|refine Qi fun K hK=>?_|refine Qj T fun K hK=>?_|refine Qk (id:=13) T mixed Z1 (by kernel_rfl) fun K hK=>?_|refine Ql fun A B hA hB=>?_|refine Qm ?_|refine Qn ?_|refine Qp ?_|refine Qr ?_)
 |(with_reducible first|apply Qy|apply Qz|apply QA)<;>intro hb<;>try simp only[nr] at hb
 |simp only[go_sem,↓reduceIte,Qa,Qh,Qb,Qc,Qd,Qe,Qf,Qg,reduceCtorEq, *,-hs,-e1]
 |intro(bn:Bool) hbn))
   refine Qs [0,26] (fun m ts'=>∃(k:Nat),m=xs.length-k∧k≤xs.length∧Zh xs=Zh (xs.drop (k-1))∧ts'.tmp 27=.int .i64 k) xs.length ?_ ?_
   ·refine⟨0,?_⟩
    simp only[go_sem,↓reduceIte,Qa,Qh,Qb,Qc,Qd,Qe,Qf,Qg,reduceCtorEq, *,-hs,-e1]
   ·clear hM
    rintro m A hM ts' hk ⟨k,hm,f1,f2,s1⟩
    simp only[go_sem,↓reduceIte,Qa,Qh,Qb,Qc,Qd,Qe,Qf,Qg,reduceCtorEq, *] at hk
    by_cases hkt:k<xs.length
    ·by_cases hk0:k=0
     ·subst hk0
      have hkt':(0:Int)<(xs.length:Int):=by omega
      have w01:IntKind.i64.wrap (0+1)=((1:Nat):Int):=by decide
      (repeat' (first
 | (with_reducible first|refine callX.by (Vz _ _ _ _ _ _ _ ?_ ?_ ?_) ?_|refine callX.by VJ ?_|refine callX.by (Vg _ _ _ _ _ _ _) ?_|refine callX.by (Vw _ _ _ _) ?_|refine callX.by (Jak _ _ ?_) ?_|assumption|(refine Qw hK _ ?_;clear hK K)|refine Qw ‹_› _ ?_|refine Qx ‹_› ?_|refine Qi fun K hK=>?_|refine Qj T fun K hK=>?_|refine Qk (id:=13) T mixed Z1 (by kernel_rfl) fun K hK=>?_|refine Ql fun A B hA hB=>?_|refine Qm ?_|refine Qn ?_|refine Qp ?_|refine Qr ?_)
 |(with_reducible first|apply Qy|apply Qz|apply QA)<;>intro hb<;>try simp only[nr] at hb
 |simp only[go_sem,↓reduceIte,Qa,Qh,Qb,Qc,Qd,Qe,Qf,Qg,reduceCtorEq, *,-hs,-e1,-f2]
 |intro(bn:Bool) hbn))
      all_goals ((repeat clear hK);(repeat clear hA);(repeat clear hB))
      (refine hM.on (xs.length-1) (by omega) (by simp only[go_sem,↓reduceIte,Qa,Qh,Qb,Qc,Qd,Qe,Qf,Qg,reduceCtorEq, *,w01,-hs,-e1,-f2]) ⟨1,rfl,by omega,f2,?_⟩;simp only[go_sem,↓reduceIte,Qa,Qh,Qb,Qc,Qd,Qe,Qf,Qg,reduceCtorEq, *,w01,-hs,-e1,-f2];done)
     ·have hk1:k-1<xs.length:=by omega
      have hk2:(0:Int)<(k:Int):=by omega
      have hk3:IntKind.i64.wrap ((k:Int)-1)=((k-1:Nat):Int):=by
       rw[show(k:Int)-1=((k-1:Nat):Int) by omega];exact IntWalk.i64_in _ (by unfold Jc at hl;omega)
      rw[List.drop_eq_getElem_cons hk1,show k-1+1=k by omega,List.drop_eq_getElem_cons hkt,Jmm] at f2
      (repeat' (first
 | (with_reducible first|refine callX.by (Vz _ _ _ _ _ _ _ ?_ ?_ ?_) ?_|refine callX.by VJ ?_|refine callX.by (Vg _ _ _ _ _ _ _) ?_|refine callX.by (Vw _ _ _ _) ?_|refine callX.by (Jak _ _ ?_) ?_|assumption|(refine Qw hK _ ?_;clear hK K)|refine Qw ‹_› _ ?_|refine Qx ‹_› ?_|refine Qi fun K hK=>?_|refine Qj T fun K hK=>?_|refine Qk (id:=13) T mixed Z1 (by kernel_rfl) fun K hK=>?_|refine Ql fun A B hA hB=>?_|refine Qm ?_|refine Qn ?_|refine Qp ?_|refine Qr ?_)
 |(with_reducible first|apply Qy|apply Qz|apply QA)<;>intro hb<;>try simp only[nr] at hb
 |simp only[go_sem,↓reduceIte,Qa,Qh,Qb,Qc,Qd,Qe,Qf,Qg,reduceCtorEq, *,-hs,-e1,-f2]
 |intro(bn:Bool) hbn))
      all_goals ((repeat clear hK);(repeat clear hA);(repeat clear hB))
      ·have hb':¬JJ (Jo xs[k-1]) (Jo xs[k])<0:=by simp only[Jo];omega
       rw[e1,f2]
       simp[hb']
      ·have hb':JJ (Jo xs[k-1]) (Jo xs[k])<0:=by simp only[Jo];omega
       rw[decide_eq_true hb',Bool.true_and,←List.drop_eq_getElem_cons hkt] at f2
       (refine hM.on (xs.length-(k+1)) (by omega) (by simp only[go_sem,↓reduceIte,Qa,Qh,Qb,Qc,Qd,Qe,Qf,Qg,reduceCtorEq, *,Jh hkt hl,-hs,-e1,-f2]) ⟨k+1,rfl,by omega,f2,?_⟩;simp only[go_sem,↓reduceIte,Qa,Qh,Qb,Qc,Qd,Qe,Qf,Qg,reduceCtorEq, *,Jh hkt hl,-hs,-e1,-f2];done)
    ·have hup:Zh xs=true:=by
      rw[f2]
      by_cases h0:xs.length=0
      ·rw[List.length_eq_zero_iff.1 h0];simp[Zh]
      ·rw[List.drop_eq_getElem_cons (show k-1<xs.length by omega),List.drop_eq_nil_of_le (by omega)]
       rfl
     rw[hup,if_neg (by simp)] at e1
     clear f2 hup
     have hyl:(Y1 xs 0).length≤64:=Nat.le_trans (List.length_filter_le _ _) hl64
     have hys:Jc (Y1 xs 0).length:=by unfold Jc;omega
     (repeat' (first
 | (with_reducible first|refine callX.by (Vz _ _ _ _ _ _ _ ?_ ?_ ?_) ?_|refine callX.by VJ ?_|refine callX.by (Vg _ _ _ _ _ _ _) ?_|refine callX.by (Vw _ _ _ _) ?_|refine callX.by (Jak _ _ ?_) ?_|assumption|(refine Qw hK _ ?_;clear hK K)|refine Qw ‹_› _ ?_|refine Qx ‹_› ?_|refine Qi fun K hK=>?_|refine Qj T fun K hK=>?_|refine Qk (id:=13) T mixed Z1 (by kernel_rfl) fun K hK=>?_|refine Ql fun A B hA hB=>?_|refine Qm ?_|refine Qn ?_|refine Qp ?_|refine Qr ?_)
 |(with_reducible first|apply Qy|apply Qz|apply QA)<;>intro hb<;>try simp only[nr] at hb
 |simp only[go_sem,↓reduceIte,Qa,Qh,Qb,Qc,Qd,Qe,Qf,Qg,reduceCtorEq, *,-hs,-e1]
 |intro(bn:Bool) hbn))
     refine Qs [50,51] (fun m ts'=>∃(j:Nat),∃(M:List (Int×Bool)),∃(g:Nat),m=(Y1 xs 0).length-j∧j≤(Y1 xs 0).length∧Jbs (Y1 xs 0) []=Jbs ((Y1 xs 0).drop j) M∧ts'.tmp 7=.mref 48 g∧ts'.gen 48=g∧ts'.obj 48=.mp (Ju M) (Jz M)∧ts'.tmp 52=.int .i64 j) (Y1 xs 0).length ?_ ?_
     ·refine⟨0,[],ts'.gen 48+1,rfl,Nat.zero_le _,rfl,?_⟩
      simp only[go_sem,↓reduceIte,Qa,Qh,Qb,Qc,Qd,Qe,Qf,Qg,reduceCtorEq, *,-hs,-e1]
     ·clear hM
      rintro m A hM ts' hk ⟨j,M,g,hm,f1,f2,s1,s2,s3,s4⟩
      simp only[go_sem,↓reduceIte,Qa,Qh,Qb,Qc,Qd,Qe,Qf,Qg,reduceCtorEq, *] at hk
      by_cases hjt:j<(Y1 xs 0).length
      ·rw[List.drop_eq_getElem_cons hjt,Jbs] at f2
       (repeat' (first
 | (with_reducible first|refine callX.by (Vz _ _ _ _ _ _ _ ?_ ?_ ?_) ?_|refine callX.by VJ ?_|refine callX.by (Vg _ _ _ _ _ _ _) ?_|refine callX.by (Vw _ _ _ _) ?_|refine callX.by (Jak _ _ ?_) ?_|assumption|(refine Qw hK _ ?_;clear hK K)|refine Qw ‹_› _ ?_|refine Qx ‹_› ?_|refine Qi fun K hK=>?_|refine Qj T fun K hK=>?_|refine Qk (id:=13) T mixed Z1 (by kernel_rfl) fun K hK=>?_|refine Ql fun A B hA hB=>?_|refine Qm ?_|refine Qn ?_|refine Qp ?_|refine Qr ?_)
 |(with_reducible first|apply Qy|apply Qz|apply QA)<;>intro hb<;>try simp only[nr] at hb
 |simp only[go_sem,↓reduceIte,Qa,Qh,Qb,Qc,Qd,Qe,Qf,Qg,reduceCtorEq, *,-hs,-e1,-f2]
 |intro(bn:Bool) hbn))
       all_goals ((repeat clear hK);(repeat clear hA);(repeat clear hB))
       ·rw[if_pos (by simpa using hb)] at f2
        rw[e1,f2];rfl
       ·rw[if_neg (by simpa using hb)] at f2
        (refine hM.on ((Y1 xs 0).length-(j+1)) (by omega) (by simp only[go_sem,↓reduceIte,Qa,Qh,Qb,Qc,Qd,Qe,Qf,Qg,reduceCtorEq, *,Jh hjt hys,-hs,-e1,-f2]) ⟨j+1,JU M (Y1 xs 0)[j].port true,g,rfl,by omega,f2,?_⟩;simp only[go_sem,↓reduceIte,Qa,Qh,Qb,Qc,Qd,Qe,Qf,Qg,reduceCtorEq, *,Jh hjt hys,-hs,-e1,-f2];done)
      ·rw[List.drop_eq_nil_of_le (by omega),Jbs] at f2
       have e2:Vc xs=0:=by rw[e1,f2];rfl
       (repeat' (first
 | (with_reducible first|refine callX.by (Vz _ _ _ _ _ _ _ ?_ ?_ ?_) ?_|refine callX.by VJ ?_|refine callX.by (Vg _ _ _ _ _ _ _) ?_|refine callX.by (Vw _ _ _ _) ?_|refine callX.by (Jak _ _ ?_) ?_|assumption|(refine Qw hK _ ?_;clear hK K)|refine Qw ‹_› _ ?_|refine Qx ‹_› ?_|refine Qi fun K hK=>?_|refine Qj T fun K hK=>?_|refine Qk (id:=13) T mixed Z1 (by kernel_rfl) fun K hK=>?_|refine Ql fun A B hA hB=>?_|refine Qm ?_|refine Qn ?_|refine Qp ?_|refine Qr ?_)
 |(with_reducible first|apply Qy|apply Qz|apply QA)<;>intro hb<;>try simp only[nr] at hb
 |simp only[go_sem,↓reduceIte,Qa,Qh,Qb,Qc,Qd,Qe,Qf,Qg,reduceCtorEq, *,-hs,-e1,-f2]
 |intro(bn:Bool) hbn))
def awq:Res:=⟨0,[108],0,80,[97],[],[]⟩
theorem Jhl:V2 awq=0:=by decide
theorem Jm0:JO awq=[⟨1,[97]⟩]:=by
 unfold JO
 rw[if_pos Jhl]
 have e:ZG awq++Vx awq.rules'=[⟨1,[97]⟩]:=by decide
 rw[e]
 have e2:JK [⟨1,[97]⟩]=[(⟨1,[97]⟩:Key)]:=by simp[JK]
 rw[e2];rfl
theorem JaX:CallR Tryz.prog 179 [.agg [.int .i64 0,.str [108],.int .i64 0,.int .i64 80,.str [97],.slice false [],.slice false []]] (.own 2 [.agg [.int .i64 1,.str [97]]]):=by
 have h:=JaM 0 [108] 0 80 [97] [] [] (by simp[Jc]) (by simp[Jc]) (by simp)
 have e:=Jm0;unfold awq at e
 rw[e] at h;exact h
theorem VJ:CallR Tryz.prog 157 [.agg [.int .i64 0,.str [108],.int .i64 0,.int .i64 80,.str [97],.slice false [],.slice false []]] (.val (.int .i64 0)):=by
 have h:=Vz 0 [108] 0 80 [97] [] [] (by simp[Jc]) (by simp[Jc]) (by simp)
 have e:=Jhl;unfold awq at e
 rw[e] at h;exact h
theorem Jjj{next:Int}(hn:next≤2147483647):∀(l:List Snap) (a:Int),0≤a→a≤next→JaG next l a=ZV next l a
 | [],_,_,_=>rfl
 |s :: r,a,h0,h1=>by
  have hw:IntKind.i64.wrap (a+1)=a+1:=IntWalk.i64_in _ (by omega)
  rw[JaG,ZV,hw]
  by_cases h2:a+1≤s.id∧s.id≤next
  ·rw[Jjj hn r s.id (by omega) h2.2]
   congr 1
   rw[Bool.eq_iff_iff]
   by_cases hr:r=[]
   ·simp only[Zi,hr,if_true,ne_eq,not_true,decide_false,Bool.and_false,Bool.or_false,Bool.and_eq_true,Bool.not_eq_true',Bool.or_eq_false_iff,decide_eq_true_eq,decide_eq_false_iff_not]
    omega
   ·simp only[Zi,hr,if_false,ne_eq,not_false_eq_true,decide_true,Bool.and_true,Bool.and_eq_true,Bool.not_eq_true',Bool.or_eq_false_iff,decide_eq_true_eq,decide_eq_false_iff_not]
    omega
  ·have e1:Zi s.id (a+1) next=false:=by
    simp only[Zi,Bool.and_eq_false_iff,decide_eq_false_iff_not];omega
   have e2:(decide (s.id≤a) || decide (next<s.id))=true:=by
    simp only[Bool.or_eq_true,decide_eq_true_eq];omega
   rw[e1,e2];simp
theorem Jjk(p:Pins):ZP p=Jct p:=by
 unfold ZP Jct
 by_cases h:0≤p.next'∧p.next'≤2147483647
 ·rw[Jjj h.2 _ 0 (by omega) h.1]
  generalize ZV p.next' p.snaps 0=b
  rw[Bool.eq_iff_iff]
  simp only[Zi,Bool.and_eq_true,Bool.not_eq_true',Bool.or_eq_false_iff,decide_eq_true_eq,decide_eq_false_iff_not]
  constructor
  ·rintro⟨h1,_,h2⟩;exact⟨⟨⟨by omega,by omega⟩,by omega⟩,h1⟩
  ·rintro⟨⟨⟨_,_⟩,h2⟩,h1⟩;exact⟨h1,h,by omega⟩
 ·have e1:Zi p.next' 0 2147483647=false:=by
   simp only[Zi,Bool.and_eq_false_iff,decide_eq_false_iff_not];omega
  have e2:(decide (p.next' < 0) || decide (2147483647<p.next'))=true:=by
   simp only[Bool.or_eq_true,decide_eq_true_eq];omega
  rw[e1,e2];simp
theorem Jdk(p:Pins):Jq p=Vb p:=by unfold Jq Vb;rw[Jjk]
theorem Jjz{next:Int}:∀ {l:List Snap} {a:Int},ZV next l a=true→l.Pairwise (fun x y=>x.id<y.id)∧∀x∈l,a<x.id∧x.id≤next∧0≤x.pins∧x.pins≤10000
 | [],_,_=>⟨.nil,by simp⟩
 |s :: r,a,h=>by
  rw[ZV] at h
  simp only[Bool.and_eq_true,Bool.not_eq_true',Bool.or_eq_false_iff,decide_eq_false_iff_not] at h
  obtain⟨⟨⟨⟨⟨h1,h2⟩,h3⟩,h4⟩,_⟩,h5⟩:=h
  obtain⟨h6,h7⟩:=Jjz h5
  refine⟨.cons (fun x hx=>(h7 x hx).1) h6,fun x hx=>?_⟩
  rcases List.mem_cons.1 hx with rfl|hx
  ·omega
  ·have:=h7 x hx;omega
theorem Jgb{xs:List Snap}{id:Int}:∀ {n:Nat},n≤xs.length→J6 xs id n=-1→∀k,(h:k<xs.length)→k<n→xs[k].id≠id
 |0,_,_,k,_,hk=>by omega
 |n+1,hn,h,k,hkl,hk=>by
  rw[J6] at h
  split at h
  ·omega
  ·rename_i hne
   by_cases e:k=n
   ·subst e
    have:xs.getD k default=xs[k]:=by simp[hkl]
    rwa [this] at hne
   ·exact Jgb (by omega) h k hkl (by omega)
theorem Jgc{xs:List Snap}{id:Int}:∀ {n:Nat},n≤xs.length→J6 xs id n≠-1→∃k,∃h:k<xs.length,J6 xs id n=k∧xs[k].id=id
 |0,_,h=>by simp[J6] at h
 |n+1,hn,h=>by
  rw[J6] at h ⊢
  by_cases e:(xs.getD n default).id=id
  ·rw[if_pos e]
   have hlt:n<xs.length:=by omega
   have e2:xs.getD n default=xs[n]:=by simp[hlt]
   exact⟨n,hlt,rfl,by rwa [e2] at e⟩
  ·rw[if_neg e] at h ⊢
   exact Jgc (by omega) h
theorem JgS{xs:List Snap}(hu:xs.Pairwise (fun x y=>x.id<y.id)){i j:Nat}(hi:i<xs.length)(hj:j<xs.length)(h:xs[i].id=xs[j].id):i=j:=by
 rw[List.pairwise_iff_getElem] at hu
 rcases Nat.lt_trichotomy i j with h1|h1|h1
 ·have:=hu i j hi hj h1;omega
 ·exact h1
 ·have:=hu j i hj hi h1;omega
theorem Jh7{xs:List Snap}(hu:xs.Pairwise (fun x y=>x.id<y.id)){k:Nat}(hk:k<xs.length):xs.find? (fun x=>decide (x.id=xs[k].id))=some xs[k]:=by
 cases hf:xs.find? (fun x=>decide (x.id=xs[k].id)) with
 |none =>
  have:=List.find?_eq_none.1 hf xs[k] (QC hk)
  simp at this
 |some y =>
  have h1:=List.find?_some hf
  have h2:=List.mem_of_find?_eq_some hf
  obtain⟨j,hj,rfl⟩:=List.getElem_of_mem h2
  have:j=k:=JgS hu hj hk (by simpa using h1)
  subst this;rfl
theorem JjT(p:Pins):(Vb p).snaps.Pairwise (fun x y=>x.id<y.id):=by
 unfold Vb
 split
 ·rename_i h
  unfold Jct at h
  simp only[Bool.and_eq_true] at h
  exact(Jjz h.2).1
 ·exact .nil
theorem Jga(p:Pins)(id:Int):Zc p id=Jby p id:=by
 unfold Zc Jby
 rw[Jdk]
 simp only
 have hu:=JjT p
 generalize (Vb p).snaps=xs at *
 by_cases h:J6 xs id xs.length=-1
 ·have hn:=Jgb (Nat.le_refl _) h
  rw[h,if_pos (by omega)]
  have:xs.find? (fun x=>decide (x.id=id))=none:=by
   rw[List.find?_eq_none]
   intro x hx
   obtain⟨j,hj,rfl⟩:=List.getElem_of_mem hx
   simpa using hn j hj hj
  rw[this]
 ·obtain⟨k,hk,e,rfl⟩:=Jgc (Nat.le_refl _) h
  rw[e,if_neg (by omega),Jh7 hu hk]
  simp[hk]
theorem Jjy{next:Int}:∀(l:List Snap) (a:Int),ZV next l a=true↔l.Pairwise (fun x y=>x.id<y.id)∧(∀x∈l,a<x.id∧x.id≤next∧0≤x.pins∧x.pins≤10000)∧∀x∈l.dropLast,0<x.pins
 | [],a=>by simp[ZV]
 |s :: r,a=>by
  rw[ZV,Bool.and_eq_true,Jjy r s.id,List.pairwise_cons]
  cases r with
  |nil=>simp;omega
  |cons y r =>
   simp only[List.dropLast_cons_cons]
   grind
structure OkP(p:Pins):Prop where
 lo:0≤p.next'
 hi:p.next'≤2147483647
 len:p.snaps.length≤1000
 up:p.snaps.Pairwise (fun x y=>x.id<y.id)
 mem:∀x∈p.snaps,0<x.id∧x.id≤p.next'∧0≤x.pins∧x.pins≤10000
 pos:∀x∈p.snaps.dropLast,0<x.pins
theorem Jgg(p:Pins):Jct p=true↔OkP p:=by
 unfold Jct
 rw[Bool.and_eq_true,Jjy]
 simp only[Bool.not_eq_true',Bool.or_eq_false_iff,decide_eq_false_iff_not]
 constructor
 ·rintro⟨⟨⟨h1,h2⟩,h3⟩,h4,h5,h6⟩
  exact⟨by omega,by omega,by omega,h4,h5,h6⟩
 ·rintro⟨h1,h2,h3,h4,h5,h6⟩
  exact⟨⟨⟨by omega,by omega⟩,by omega⟩,h4,h5,h6⟩
theorem Jbp(p:Pins):ZP p=true↔OkP p:=by rw[Jjk,Jgg]
theorem Jpb:OkP ⟨0,[]⟩:=⟨by simp,by simp,by simp,.nil,by simp,by simp⟩
theorem Jcm(p:Pins):OkP (Vb p):=by
 unfold Vb
 split
 ·exact(Jgg p).1 ‹_›
 ·exact Jpb
theorem Jdr{p:Pins}(h:OkP p):Vb p=p:=by unfold Vb;rw[if_pos ((Jgg p).2 h)]
theorem Jac{p:Pins}(h:OkP p):Jq p=p:=by rw[Jdk,Jdr h]
theorem Jpw(p:Pins)(l:List Res):Vt p l=JeO p l:=by
 have h:=Jcm p
 unfold Vt JeO
 rw[Jdk]
 have e:(Vb p).snaps.filter (fun x=>!decide (x.pins=0))=(Vb p).snaps.filter (fun x=>decide (0<x.pins)):=by
  apply List.filter_congr
  intro x hx
  have:=h.mem x hx
  rw[Bool.eq_iff_iff]
  simp only[Bool.not_eq_true',decide_eq_false_iff_not,decide_eq_true_eq]
  omega
 simp only[e]
theorem JeX{α:Type}(l:List α)(i:Nat)(x:α)(h:i<l.length):l.set i x=l.take i++[x]++l.drop (i+1):=by
 rw[List.set_eq_take_append_cons_drop,if_pos h];simp
theorem Jpt(p:Pins):Vs p=JeN p:=by
 unfold Vs JeN
 rw[Jdk]
 cases hg:(Vb p).snaps.getLast? with
 |none=>simp[hg]
 |some s =>
  have hne:0<(Vb p).snaps.length:=by
   cases h0:(Vb p).snaps with
   |nil=>rw[h0] at hg;simp at hg
   |cons=>simp
  simp only[hg]
  split
  ·rfl
  ·rw[Zz,JeX _ _ _ (by omega),if_pos (.inr (by omega))]
theorem Jgp{q:Pins}{id:Int}:∀ {l:List Snap} {i:Nat},(∀x∈l,x.id≠id)→Jbw q id l i=(q,10)
 | [],_,_=>rfl
 |s :: r,i,h=>by
  rw[Jbw,if_neg (h s (by simp)),Jgp fun x hx=>h x (by simp[hx])]
theorem Jgo{q:Pins}{id:Int}:∀ {l:List Snap} {i k:Nat} (hk:k<l.length),l[k].id=id→(∀j,(h:j<k)→l[j].id≠id) →
  Jbw q id l i=if l[k].pins=0 then (q,15) else (Zz q (i+k) ⟨l[k].id,IntKind.i64.wrap (l[k].pins-1),l[k].l⟩,0)
 | [],_,_,hk,_,_=>by simp at hk
 |s :: r,i,0,hk,h1,_=>by
  rw[Jbw,if_pos (by simpa using h1)];simp
 |s :: r,i,k+1,hk,h1,h2=>by
  rw[Jbw,if_neg (by simpa using h2 0 (by omega)),Jgo (k:=k) (by simpa using hk) (by simpa using h1) (fun j hj=>by simpa using h2 (j+1) (by omega))]
  have:i+1+k=i+(k+1):=by omega
  rw[this];simp
theorem Jgd(p:Pins)(id:Int):Vh p id=Zy p id:=by
 have hok:=Jcm p
 have hu:=JjT p
 unfold Vh Zy
 rw[Jdk]
 generalize Vb p=q at *
 simp only
 by_cases h:J6 q.snaps id q.snaps.length=-1
 ·have hn:=Jgb (Nat.le_refl _) h
  rw[h,if_pos (by omega),Jgp]
  intro x hx
  obtain⟨j,hj,rfl⟩:=List.getElem_of_mem hx
  exact hn j hj hj
 ·obtain⟨k,hk,e,rfl⟩:=Jgc (Nat.le_refl _) h
  have hb:=hok.mem _ (QC hk)
  rw[e,if_neg (by omega),Jgo hk rfl (fun j hj hid=>by
   have:=JgS hu (by omega) hk hid
   omega)]
  have hgd:q.snaps.getD k default=q.snaps[k]:=by simp[hk]
  simp only[Int.toNat_natCast,hgd,Nat.zero_add]
  by_cases h0:q.snaps[k].pins=0
  ·simp[h0]
  ·have hw:IntKind.i64.wrap (q.snaps[k].pins-1)=q.snaps[k].pins-1:=IntWalk.i64_in _ (by omega)
   simp only[h0,if_false,hw]
   unfold Zz
   by_cases h1:(k:Int)≠(q.snaps.length:Int)-1∧q.snaps[k].pins-1=0
   ·rw[if_pos h1,if_neg (show ¬(0<q.snaps[k].pins-1∨k+1=q.snaps.length) by omega),JeX _ _ _ hk]
    simp[List.take_append,List.drop_append,Nat.min_eq_left (Nat.le_of_lt hk)]
   ·rw[if_neg h1,if_pos (by show 0<q.snaps[k].pins-1∨k+1=q.snaps.length;omega),JeX _ _ _ hk]
def Up(l:List Key):Prop:=l.Pairwise fun x y=>JJ x y<0
def Le(l:List Key):Prop:=l.Pairwise fun x y=>¬JJ y x<0
theorem JoA(K:List Key):Le (JK K):=by
 have:=List.pairwise_mergeSort (le:=fun x y:Key=>!decide (JJ y x<0)) (fun a b c h k=>by
  simp only[Bool.not_eq_true',decide_eq_false_iff_not] at h k ⊢
  intro h3
  by_cases h4:JJ b c=0
  ·have:=Jeg _ _ h4;subst this;exact h h3
  ·have:JJ b c<0:=by have:=Jca b c;omega
   exact h (Jc1 _ _ _ this h3)) (fun a b=>by
  simp only[Bool.or_eq_true,Bool.not_eq_true',decide_eq_false_iff_not]
  have:=Jca a b;omega) K
 unfold Le JK
 exact this.imp fun h=>by simpa using h
theorem JoB(K:List Key)(x:Key):x∈JK K↔x∈K:=by unfold JK;exact List.mem_mergeSort
theorem JiE:∀ {a:Key} {r:List Key},Le (a :: r)→Up (a :: Ve (a :: r))∧∀x,x∈a :: Ve (a :: r)↔x∈a :: r
 |a,[],_=>by simp[Ve,Up]
 |a,b :: r,h=>by
  obtain⟨h1,h2⟩:=List.pairwise_cons.1 h
  obtain⟨u,m⟩:=JiE h2
  rw[Ve]
  by_cases e:b=a
  ·subst e
   rw[if_pos rfl]
   exact⟨u,fun x=>by rw[m];simp⟩
  ·rw[if_neg e]
   refine⟨List.pairwise_cons.2 ⟨fun z hz=>?_,u⟩,fun x=>?_⟩
   ·have hab:JJ a b<0:=by
     have h3:=h1 b (by simp)
     have h4:=Jca a b
     by_cases h5:JJ a b=0
     ·exact absurd (Jeg _ _ h5).symm e
     ·omega
    rcases List.mem_cons.1 hz with rfl|hz
    ·exact hab
    ·exact Jc1 _ _ _ hab ((List.pairwise_cons.1 u).1 z hz)
   ·rw[List.mem_cons,m,←List.mem_cons]
theorem Jou{l:List Key}(h:Le l):Up (V8 l)∧∀x,x∈V8 l↔x∈l:=by
 unfold V8
 cases l with
 |nil=>simp[Ve,Up]
 |cons a r=>simpa using JiE h
theorem Jew(p:Pins):Up (JW p)∧∀x,x∈JW p↔x∈JZ (Jq p).snaps:=by
 obtain⟨h1,h2⟩:=Jou (JoA (JZ (Jq p).snaps))
 exact⟨h1,fun x=>by rw[JW,h2,JoB]⟩
theorem JpV{r:Res}(h:¬V2 r=0):JO r=[]:=by unfold JO;rw[if_neg h]
theorem Jgn(r:Res):(JO r).length≤33:=by
 by_cases hs:V2 r=0
 ·obtain⟨b1,b2,b3⟩:=Jkj (Jka hs)
  have hc:∀l:List Key,(Ve l).length≤l.length-1:=by
   intro l
   induction l with
   |nil=>simp[Ve]
   |cons a r ih =>
    cases r with
    |nil=>simp[Ve]
    |cons b r=>rw[Ve];split<;>simp only[List.length_cons] at ih ⊢<;>omega
  have hk:∀l:List Key,(V8 l).length≤l.length:=by
   intro l;unfold V8;rw[List.length_append];have:=hc l
   cases l with
   |nil=>simpa using this
   |cons a r=>simp only[List.length_cons,List.take_succ_cons,List.take_zero,List.length_nil] at this ⊢;omega
  have hkR:∀l:List Rule,(∀x∈l,x.split.length≤4)→(Vx l).length≤4*l.length:=by
   intro l
   induction l with
   |nil=>simp[Vx]
   |cons a r ih =>
    intro h
    rw[JiI,List.length_append]
    have:=ih fun x hx=>h x (List.mem_cons_of_mem _ hx)
    have h2:=h a (by simp)
    have h3:=Joz a.split
    simp only[List.length_cons];omega
  have hb:(ZG r).length≤1:=by unfold ZG;split<;>simp
  have:=hk (JK (ZG r++Vx r.rules'))
  rw[JaB,List.length_append] at this
  have:=hkR _ b3
  unfold JO
  rw[if_pos hs]
  omega
 ·rw[JpV hs];simp
theorem JbG{n:Nat}(h:n≤65536):Jc n:=by unfold Jc;omega
end Go.Proofs.YthjalhfmpffbjaaGreatDoor.Lg
