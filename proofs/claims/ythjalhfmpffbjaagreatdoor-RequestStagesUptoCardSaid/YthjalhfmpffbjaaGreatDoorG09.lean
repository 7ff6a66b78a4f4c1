/- Parts of the proof, one behind the other. -/
import Derived.Test.YthjalhfmpffbjaaGreatDoorG08
namespace Go.Proofs.YthjalhfmpffbjaaGreatDoor.Lg
set_option maxRecDepth 100000
set_option linter.unusedVariables false
set_option linter.unusedSimpArgs false
open Go
open Nat renaming reduceEqDiff → Qa, reduceLT → Qb, reduceLeDiff → Qc, reduceAdd → Qd, reduceMul → Qe, reduceSub → Qf, reduceBEq → Qg
open String renaming reduceEq → Qh
open SpecC renaming seqW → Qi, regW → Qj, drawW → Qk, condW → Ql, block → Qm, skip → Qn, exit → Qp, ret → Qr, loopF → Qs
open NxK renaming out → Qw
open Nx renaming out → Qx
open condK renaming split → Qy
open gK renaming split_t → Qz, split_f → QA
open List renaming getElem_mem → QC
open CallR renaming go1 → QD
@[go_sem] def Wd2:List (List Nat×List Nat):=[([20],[21,23,24,25]),([21],[20,23,24,25]),([22],[23,24,25]),([23],[20,21,22,24]),([24],[20,21,22,23]),([25],[20,21,22])]
theorem JgM(i j:Nat)(xs:List Snap)(hl:Jc xs.length)(hij:i≤j)(hj:j≤xs.length):CallM Tryz.prog 173 3 (Ja xs) [.int .i64 i,.int .i64 j] (.own 3 (Ja (xs.take i++xs.drop j))):=by
 have hi:i≤xs.length:=by omega
 refine CallM.go2 (T:=T) Tryz.call173 Tryz.func173 rfl Tryz.ntmps173 (congrArg Array.toList Tryz.results173) (by decide) fun ts hn h0 hg0 ho0 h1 h2=>?_
 by_cases hne:i=j
 ·subst hne
  (repeat' (first
 | (with_reducible first|assumption|(refine Qw hK _ ?_;clear hK K)|refine Qw ‹_› _ ?_|refine Qx ‹_› ?_|refine Qi fun K hK=>?_|refine Qj T fun K hK=>?_|refine Qk (id:=5) T mixed Wd2 (by kernel_rfl) fun K hK=>?_|refine Ql fun A B hA hB=>?_|refine Qn ?_|refine Qr ?_)
 | ((with_reducible first|apply Qy|apply Qz|apply QA)<;>intro hb<;>try simp only[nr] at hb)
 |simp only[go_sem,↓reduceIte,reduceIte,Qa,Qh,Qb,Qc,Qd,Qe,Qf,Qg,reduceCtorEq, *]
 |with_reducible refine fun(bn:Bool) hbn=>?_))
  all_goals simp
 ·have hne2:¬(i:Int)=j:=by omega
  have htd:(xs.drop j).take (xs.length-j)=xs.drop j:=List.take_of_length_le (by simp)
  have h1:j+(xs.length-j)=xs.length:=by omega
  have h2:i+(xs.length-j)≤xs.length:=by omega
  have h3:(xs.take i++xs.drop j++xs.drop (i+(xs.length-j))).length=xs.length:=by simp;omega
  have h4:i+(xs.length-j)+(xs.length-(i+(xs.length-j)))=xs.length:=by omega
  have h5:(xs.take i++xs.drop j++xs.drop (i+(xs.length-j))).take (i+(xs.length-j))=xs.take i++xs.drop j:=by
   rw[List.take_append_of_le_length (by simp;omega)]
   exact List.take_of_length_le (by simp;omega)
  (repeat' (first
 | (with_reducible first|assumption|(refine Qw hK _ ?_;clear hK K)|refine Qw ‹_› _ ?_|refine Qx ‹_› ?_|refine Qi fun K hK=>?_|refine Qj T fun K hK=>?_|refine Qk (id:=5) T mixed Wd2 (by kernel_rfl) fun K hK=>?_|refine Ql fun A B hA hB=>?_|refine Qn ?_|refine Qr ?_)
 | ((with_reducible first|apply Qy|apply Qz|apply QA)<;>intro hb<;>try simp only[nr] at hb)
 |simp only[go_sem,↓reduceIte,reduceIte,Qa,Qh,Qb,Qc,Qd,Qe,Qf,Qg,reduceCtorEq, *]
 |with_reducible refine fun(bn:Bool) hbn=>?_))
def Jfp(p:Pins)(l:List Res):Pins×Int×Int :=
 let q:=Jq p
 if q.next'=2147483647 then (q,0,14) else
  let s:=q.snaps.filter fun x=>!decide (x.pins=0)
  if 1000≤s.length then (q,0,8) else
   (⟨IntKind.i64.wrap (q.next'+1),s++[⟨IntKind.i64.wrap (q.next'+1),0,l⟩]⟩,IntKind.i64.wrap (q.next'+1),0)
def VU(p:Pins)(id:Int):Pins×Int :=
 let q:=Jq p
 let k:=J3 q.snaps id q.snaps.length
 if k<0 then (q,10) else
  let s:=q.snaps.getD k.toNat default
  if s.pins=0 then (q,15) else
   let t:Snap:=⟨s.id,IntKind.i64.wrap (s.pins-1),s.l⟩
   let l:=q.snaps.set k.toNat t
   if k≠q.snaps.length-1∧t.pins=0 then (⟨q.next',l.take k.toNat++l.drop (k.toNat+1)⟩,0) else (⟨q.next',l⟩,0)
theorem Jcy(next id:Int)(xs:List Snap)(hl:Jc xs.length):CallR Tryz.prog 129 [.agg [.int .i64 next,.slice false (Ja xs)],.int .i64 id] (.val (.tup [Dat.av (VU ⟨next,xs⟩ id).1,.int .i64 (VU ⟨next,xs⟩ id).2])):=by
 have hl2:Jc (Jq ⟨next,xs⟩).snaps.length:=Jcz hl
 have hp:=JdT (Jq ⟨next,xs⟩).snaps id (Jq ⟨next,xs⟩).snaps.length
 refine CallR.go2 (T:=T) Tryz.call129 Tryz.func129 rfl Tryz.ntmps129 (congrArg Array.toList Tryz.results129) (by decide) fun ts hn h0 h1=>?_
 by_cases hneg:J3 (Jq ⟨next,xs⟩).snaps id (Jq ⟨next,xs⟩).snaps.length<0
 ·(repeat' (first
 | (with_reducible first|refine callX.by (ZM _ _ ?_) ?_|refine callX.by (JdV _ _ _ ?_) ?_|refine callX.by (Jhj _ _ _) ?_|refine callX.by (JeJ _ _ ?_) ?_|refine callX.by (Zl _ _ ?_) ?_)
 | (with_reducible refine callX.mv ?_ ?_ ?_ (JgM ?_ ?_ ?_ ?_ ?_ ?_);(focus(simp only[go_sem,↓reduceIte,reduceIte,Qa,Qh,Qb,Qc,Qd,Qe,Qf,Qg,reduceCtorEq, *];first|done|rfl));(focus(simp only[go_sem,↓reduceIte,reduceIte,Qa,Qh,Qb,Qc,Qd,Qe,Qf,Qg,reduceCtorEq, *];first|done|rfl)))
 | (with_reducible first|assumption|(refine Qw hK _ ?_;clear hK K)|refine Qw ‹_› _ ?_|refine Qx ‹_› ?_|refine Qi fun K hK=>?_|refine Qj T fun K hK=>?_|refine Ql fun A B hA hB=>?_|refine Qm ?_|refine Qn ?_|refine Qr ?_)
 | ((with_reducible first|apply Qy|apply Qz|apply QA)<;>intro hb<;>try simp only[nr] at hb)
 |simp only[go_sem,↓reduceIte,reduceIte,Qa,Qh,Qb,Qc,Qd,Qe,Qf,Qg,reduceCtorEq, *]
 |with_reducible refine fun(bn:Bool) hbn=>?_))
  all_goals simp[VU,hneg]
 ·obtain⟨k,hk⟩:∃k:Nat,J3 (Jq ⟨next,xs⟩).snaps id (Jq ⟨next,xs⟩).snaps.length=k:=⟨_,(Int.toNat_of_nonneg (by omega)).symm⟩
  have hlt:k<(Jq ⟨next,xs⟩).snaps.length:=by omega
  have hw:IntKind.i64.wrap ((k:Int)+1)=((k+1:Nat):Int):=Ji hlt hl2
  have hkk:k≤k+1:=by omega
  have hk1:k+1≤(Jq ⟨next,xs⟩).snaps.length:=hlt
  (repeat' (first
 | (with_reducible first|refine callX.by (ZM _ _ ?_) ?_|refine callX.by (JdV _ _ _ ?_) ?_|refine callX.by (Jhj _ _ _) ?_|refine callX.by (JeJ _ _ ?_) ?_|refine callX.by (Zl _ _ ?_) ?_)
 | (with_reducible refine callX.mv ?_ ?_ ?_ (JgM ?_ ?_ ?_ ?_ ?_ ?_);(focus(simp only[go_sem,↓reduceIte,reduceIte,Qa,Qh,Qb,Qc,Qd,Qe,Qf,Qg,reduceCtorEq, *];first|done|rfl));(focus(simp only[go_sem,↓reduceIte,reduceIte,Qa,Qh,Qb,Qc,Qd,Qe,Qf,Qg,reduceCtorEq, *];first|done|rfl)))
 | (with_reducible first|assumption|(refine Qw hK _ ?_;clear hK K)|refine Qw ‹_› _ ?_|refine Qx ‹_› ?_|refine Qi fun K hK=>?_|refine Qj T fun K hK=>?_|refine Ql fun A B hA hB=>?_|refine Qm ?_|refine Qn ?_|refine Qr ?_)
 | ((with_reducible first|apply Qy|apply Qz|apply QA)<;>intro hb<;>try simp only[nr] at hb)
 |simp only[go_sem,↓reduceIte,reduceIte,Qa,Qh,Qb,Qc,Qd,Qe,Qf,Qg,reduceCtorEq, *]
 |with_reducible refine fun(bn:Bool) hbn=>?_))
  all_goals ((repeat clear hK);(repeat clear hA);(repeat clear hB))
  all_goals ((try simp only[Jks,Jkr] at *);simp[VU,JhN,List.take_of_length_le, *])
def Jdm(x:Rule):Bool:=decide (x.split.length≤20) && decide (x.host.length≤100) && decide (x.pfx.length≤100)
def Jbl(r:Res):Bool:=r.rules'.all Jdm && (decide (r.rules'.length≤20) && decide (r.hosts.length≤20) && decide (r.name.length≤100) && decide (r.to'.length≤100))
theorem JeP(r_kind:Int)(r_name:List UInt8)(r_ver:Int)(r_port:Int)(r_to:List UInt8)(r_rules:List Rule)(r_hosts:List Int)(hl:Jc r_rules.length):CallR Tryz.prog 94 [.agg [.int .i64 r_kind,.str r_name,.int .i64 r_ver,.int .i64 r_port,.str r_to,.slice false (Ja r_rules),.slice false (Ja r_hosts)]] (.val (.bool (Jbl (⟨r_kind,r_name,r_ver,r_port,r_to,r_rules,r_hosts⟩:Res)))):=by
 refine QD (T:=T) Tryz.call94 Tryz.func94 rfl Tryz.ntmps94 (congrArg Array.toList Tryz.results94) (by decide) fun ts hn h0=>?_
 (repeat' (first
 | (with_reducible first|assumption|(refine Qw hK _ ?_;clear hK K)|refine Qw ‹_› _ ?_|refine Qx ‹_› ?_|refine Qi fun K hK=>?_|refine Qj T fun K hK=>?_|refine Ql fun A B hA hB=>?_|refine Qm ?_|refine Qn ?_|refine Qp ?_|refine Qr ?_)
 | ((with_reducible first|apply Qy|apply Qz|apply QA)<;>intro hb<;>try simp only[nr] at hb)
 |simp only[go_sem,↓reduceIte,reduceIte,Qa,Qh,Qb,Qc,Qd,Qe,Qf,Qg,reduceCtorEq, *]
 |with_reducible refine fun(bn:Bool) hbn=>?_))
 refine Qs [1] (fun m ts'=>∃(i:Nat),m=r_rules.length-i∧i≤r_rules.length∧r_rules.all Jdm=(r_rules.drop i).all Jdm∧ts'.tmp 3=.int .i64 i) r_rules.length ?_ ?_
 ·refine⟨0,?_⟩
  simp only[go_sem,↓reduceIte,reduceIte,Qa,Qh,Qb,Qc,Qd,Qe,Qf,Qg,reduceCtorEq, *]
 ·rintro m A hM ts' hk ⟨i,hm,f1,f2,s1⟩
  simp only[go_sem,↓reduceIte,reduceIte,Qa,Qh,Qb,Qc,Qd,Qe,Qf,Qg,reduceCtorEq, *] at hk
  by_cases hlt:i<r_rules.length
  ·rw[List.drop_eq_getElem_cons hlt,List.all_cons,Jdm] at f2
   (repeat' (first
 | (with_reducible first|assumption|(refine Qw hK _ ?_;clear hK K)|refine Qw ‹_› _ ?_|refine Qx ‹_› ?_|refine Qi fun K hK=>?_|refine Qj T fun K hK=>?_|refine Ql fun A B hA hB=>?_|refine Qm ?_|refine Qn ?_|refine Qp ?_|refine Qr ?_)
 | ((with_reducible first|apply Qy|apply Qz|apply QA)<;>intro hb<;>try simp only[nr] at hb)
 |simp only[go_sem,↓reduceIte,reduceIte,Qa,Qh,Qb,Qc,Qd,Qe,Qf,Qg,reduceCtorEq, *]
 |with_reducible refine fun(bn:Bool) hbn=>?_))
   all_goals ((repeat clear hK);(repeat clear hA);(repeat clear hB))
   all_goals first
    | (clear hM;(simp only[Jbl,f2];rw[Bool.eq_iff_iff];simp only[Bool.and_eq_true,Bool.or_eq_true,Bool.not_eq_true',Bool.false_eq_true,decide_eq_true_eq,decide_eq_false_iff_not,true_and,and_true,true_iff,false_iff,iff_true,iff_false,true_or,or_true,false_or,or_false] at *;omega))
    | (refine hM.on (r_rules.length-(i+1)) (by omega) (by simp only[go_sem,↓reduceIte,reduceIte,Qa,Qh,Qb,Qc,Qd,Qe,Qf,Qg,reduceCtorEq, *,Ji hlt hl,-f2]) ⟨i+1,rfl,by omega,by clear hM;grind,?_⟩;simp only[go_sem,↓reduceIte,reduceIte,Qa,Qh,Qb,Qc,Qd,Qe,Qf,Qg,reduceCtorEq, *,Ji hlt hl,-f2];done)
  ·rw[List.drop_eq_nil_of_le (by omega),List.all_nil] at f2
   (repeat' (first
 | (with_reducible first|assumption|(refine Qw hK _ ?_;clear hK K)|refine Qw ‹_› _ ?_|refine Qx ‹_› ?_|refine Qi fun K hK=>?_|refine Qj T fun K hK=>?_|refine Ql fun A B hA hB=>?_|refine Qm ?_|refine Qn ?_|refine Qp ?_|refine Qr ?_)
 | ((with_reducible first|apply Qy|apply Qz|apply QA)<;>intro hb<;>try simp only[nr] at hb)
 |simp only[go_sem,↓reduceIte,reduceIte,Qa,Qh,Qb,Qc,Qd,Qe,Qf,Qg,reduceCtorEq, *]
 |with_reducible refine fun(bn:Bool) hbn=>?_))
   all_goals ((repeat clear hK);(repeat clear hA);(repeat clear hB))
   all_goals (clear hM;(simp only[Jbl,f2];rw[Bool.eq_iff_iff];simp only[Bool.and_eq_true,Bool.or_eq_true,Bool.not_eq_true',Bool.false_eq_true,decide_eq_true_eq,decide_eq_false_iff_not,true_and,and_true,true_iff,false_iff,iff_true,iff_false,true_or,or_true,false_or,or_false] at *;omega))
theorem Y8{α}{xs ys:List α}{i:Nat}(h:xs.take i=ys.take i)(h1:i<xs.length)(h2:i<ys.length)(h3:xs[i]=ys[i]):xs.take (i+1)=ys.take (i+1):=by
 rw[List.take_succ_eq_append_getElem h1,List.take_succ_eq_append_getElem h2,h,h3]
theorem Y7{α}{xs ys:List α}{i:Nat}(h:xs.take i=ys.take i)(h1:¬i<xs.length)(h2:xs.length=ys.length):xs=ys:=by
 rwa [List.take_of_length_le (by omega),List.take_of_length_le (by omega)] at h
theorem Y9{α}{xs ys:List α}{i:Nat}(h1:i<xs.length)(h2:i<ys.length)(h3:¬xs[i]=ys[i]):¬xs=ys:=by
 rintro rfl;exact h3 rfl
@[go_sem] def Wd3:List (List Nat×List Nat):=[([18],[19,22,23,24,25,26,27,28,29,30,31,32,33,34,35,36,37,38,39,40,41,42,43,44,45,46,47,48,49,50,51,52,53,54,55,56]),([19],[18,22,23,24,25,26,27,28,29,30,31,32,33,34,35,36,37,38,39,40,41,42,43,44,45,46,47,48,49,50,51,52,53,54,55,56]),([20],[23,24,25,26,27,28,29,30,31,32,33,34,35,36,37,38,39,40,41,42,43,44,45,46,47,48,49,50,51,52,53,54,55,56]),([21],[23,24,25,26,27,29,30,31,32,33,34,35,36,37,38,39,40,41,42,43,44,45,46,47,48,49,50,51,52,53,54,55,56]),([22],[18,19,23,24,25,26,27,30,31,32,33,34,35,36,37,38,39,40,41,42,43,44,45,46,47,48,49,50,51,52,53,54,55,56]),([23],[18,19,20,21,22,24,27,28,29,30,31,32,33,34,35,36,37,38,39,40,41,42,43,44,45,46,47,48,49,50,51,52,53,54,55,56]),([24],[18,19,20,21,22,23,27,28,29,30,31,32,33,34,35,36,37,38,39,40,41,42,43,44,45,46,47,48,49,50,51,52,53,54,55,56]),([25],[18,19,20,21,22,28,29,30,31,32,33,34,35,36,37,38,39,40,41,42,43,44,45,46,47,48,49,50,51,52,53,54,55,56]),([26],[18,19,20,21,22,29,30,31,32,33,34,35,36,37,38,39,40,41,42,43,44,45,46,47,48,49,50,51,52,53,54,55,56]),([27],[18,19,20,21,22,23,24,30,31,32,33,34,35,36,37,38,39,40,41,42,43,44,45,46,47,48,49,50,51,52,53,54,55,56]),([28],[18,19,20,23,24,25,43,44,45,46,47,48,49,50,51,52,53,54,55,56]),([29],[18,19,20,21,23,24,25,26]),([30],[18,19,20,21,22,23,24,25,26,27,31,34,35,36,37,38,39,40,41,42,43,44,45,46,47,48,49,50,51,52,53,54,55,56]),([31],[18,19,20,21,22,23,24,25,26,27,30,34,35,36,37,38,39,40,41,42,43,44,45,46,47,48,49,50,51,52,53,54,55,56]),([32],[18,19,20,21,22,23,24,25,26,27,35,36,37,38,39,40,41,42,43,44,45,46,47,48,49,50,51,52,53,54,55,56]),([33],[18,19,20,21,22,23,24,25,26,27,35,36,37,38,39,41,42,43,44,45,46,47,48,49,50,51,52,53,54,55,56]),([34],[18,19,20,21,22,23,24,25,26,27,30,31,35,36,37,38,39,42,43,44,45,46,47,48,49,50,51,52,53,54,55,56]),([35],[18,19,20,21,22,23,24,25,26,27,30,31,32,33,34,36,39,40,41,42,43,44,45,46,47,48,49,50,51,52,53,54,55,56]),([36],[18,19,20,21,22,23,24,25,26,27,30,31,32,33,34,35,39,40,41,42,43,44,45,46,47,48,49,50,51,52,53,54,55,56]),([37],[18,19,20,21,22,23,24,25,26,27,30,31,32,33,34,40,41,42,43,44,45,46,47,48,49,50,51,52,53,54,55,56]),([38],[18,19,20,21,22,23,24,25,26,27,30,31,32,33,34,41,42,43,44,45,46,47,48,49,50,51,52,53,54,55,56]),([39],[18,19,20,21,22,23,24,25,26,27,30,31,32,33,34,35,36,42,43,44,45,46,47,48,49,50,51,52,53,54,55,56]),([40],[18,19,20,21,22,23,24,25,26,27,30,31,32,35,36,37,43,44,45,46,47,48,49,50,51,52,53,54,55,56]),([41],[18,19,20,21,22,23,24,25,26,27,30,31,32,33,35,36,37,38]),([42],[18,19,20,21,22,23,24,25,26,27,30,31,32,33,34,35,36,37,38,39]),([43],[18,19,20,21,22,23,24,25,26,27,28,30,31,32,33,34,35,36,37,38,39,40,44,47,48,49,50,51,52,53,54,55,56]),([44],[18,19,20,21,22,23,24,25,26,27,28,30,31,32,33,34,35,36,37,38,39,40,43,47,48,49,50,51,52,53,54,55,56]),([45],[18,19,20,21,22,23,24,25,26,27,28,30,31,32,33,34,35,36,37,38,39,40,48,49,50,51,52,53,54,55,56]),([46],[18,19,20,21,22,23,24,25,26,27,28,30,31,32,33,34,35,36,37,38,39,40,49,50,51,52,53,54,55,56]),([47],[18,19,20,21,22,23,24,25,26,27,28,30,31,32,33,34,35,36,37,38,39,40,43,44,49,50,51,52,53,54,56]),([48],[18,19,20,21,22,23,24,25,26,27,28,30,31,32,33,34,35,36,37,38,39,40,43,44,45,49,50,51,52,53,54]),([49],[18,19,20,21,22,23,24,25,26,27,28,30,31,32,33,34,35,36,37,38,39,40,43,44,45,46,47,48,50,53,54,55,56]),([50],[18,19,20,21,22,23,24,25,26,27,28,30,31,32,33,34,35,36,37,38,39,40,43,44,45,46,47,48,49,53,54,55,56]),([51],[18,19,20,21,22,23,24,25,26,27,28,30,31,32,33,34,35,36,37,38,39,40,43,44,45,46,47,48,54,55,56]),([52],[18,19,20,21,22,23,24,25,26,27,28,30,31,32,33,34,35,36,37,38,39,40,43,44,45,46,47,48,55,56]),([53],[18,19,20,21,22,23,24,25,26,27,28,30,31,32,33,34,35,36,37,38,39,40,43,44,45,46,47,48,49,50,56]),([54],[18,19,20,21,22,23,24,25,26,27,28,30,31,32,33,34,35,36,37,38,39,40,43,44,45,46,47,48,49,50,51]),([55],[18,19,20,21,22,23,24,25,26,27,28,30,31,32,33,34,35,36,37,38,39,40,43,44,45,46,49,50,51,52]),([56],[18,19,20,21,22,23,24,25,26,27,28,30,31,32,33,34,35,36,37,38,39,40,43,44,45,46,47,49,50,51,52,53])]
@[go_sem] def Wd4:List (List Nat×List Nat):=[([67],[68,71,72,73,74,75,76,77,78,79,80,81,82]),([68],[67,71,72,73,74,75,76,77,78,79,80,81,82]),([69],[72,73,74,75,76,77,78,79,80,81,82]),([70],[72,74,75,76,77,78,79,80,81,82]),([71],[67,68,72,75,76,77,78,79,80,81,82]),([72],[67,68,69,70,71,75,76,77,78,79,80,81,82]),([73],[67,68,69,75,76,77,78,79,80,81,82]),([74],[67,68,69,70,75,76,77,78,79,80,81,82]),([75],[67,68,69,70,71,72,73,74,76,79,80,81,82]),([76],[67,68,69,70,71,72,73,74,75,79,80,81,82]),([77],[67,68,69,70,71,72,73,74,80,81,82]),([78],[67,68,69,70,71,72,73,74,80,82]),([79],[67,68,69,70,71,72,73,74,75,76,80]),([80],[67,68,69,70,71,72,73,74,75,76,77,78,79]),([81],[67,68,69,70,71,72,73,74,75,76,77]),([82],[67,68,69,70,71,72,73,74,75,76,77,78])]
set_option maxHeartbeats 4000000 in
theorem Jd7(xs ys:List Rule)(hl:Jc xs.length)(hs:∀x∈xs,VC x):CallR Tryz.prog 131 [.slice false (Ja xs),.slice false (Ja ys)] (.val (.bool (decide (xs=ys)))):=by
 refine CallR.go2 (T:=T) Tryz.call131 Tryz.func131 rfl Tryz.ntmps131 (congrArg Array.toList Tryz.results131) (by decide) fun ts hn h0 h1=>?_
 by_cases hll:xs.length=ys.length
 ·(repeat' (first
 | (with_reducible first|assumption|(refine Qw hK _ ?_;clear hK K)|refine Qw ‹_› _ ?_|refine Qx ‹_› ?_|refine Qi fun K hK=>?_|refine Qj T fun K hK=>?_|refine Qk (id:=6) T mixed Wd3 (by kernel_rfl) fun K hK=>?_|refine Qk (id:=11) T mixed Wd4 (by kernel_rfl) fun K hK=>?_|refine Ql fun A B hA hB=>?_|refine Qm ?_|refine Qn ?_|refine Qp ?_|refine Qr ?_)
 | ((with_reducible first|apply Qy|apply Qz|apply QA)<;>intro hb<;>try simp only[nr] at hb)
 |simp only[go_sem,↓reduceIte,reduceIte,Qa,Qh,Qb,Qc,Qd,Qe,Qf,Qg,reduceCtorEq, *]
 |with_reducible refine fun(bn:Bool) hbn=>?_))
  refine Qs [0,1] (fun m ts'=>∃(i:Nat),m=xs.length-i∧i≤xs.length∧xs.take i=ys.take i∧ts'.tmp 5=.int .i64 i) xs.length ?_ ?_
  ·refine⟨0,?_⟩
   simp only[go_sem,↓reduceIte,reduceIte,Qa,Qh,Qb,Qc,Qd,Qe,Qf,Qg,reduceCtorEq, *]
  ·rintro m A hM ts' hk ⟨i,hm,f1,f2,s1⟩
   simp only[go_sem,↓reduceIte,reduceIte,Qa,Qh,Qb,Qc,Qd,Qe,Qf,Qg,reduceCtorEq, *] at hk
   by_cases hlt:i<xs.length
   ·have hlu:i<ys.length:=by omega
    have hne:=Y9 hlt hlu
    rw[JgU] at hne
    have hsm:=hs xs[i] (QC hlt)
    have hsl:=hsm.2.2.1
    (repeat' (first
 | (with_reducible first|assumption|(refine Qw hK _ ?_;clear hK K)|refine Qw ‹_› _ ?_|refine Qx ‹_› ?_|refine Qi fun K hK=>?_|refine Qj T fun K hK=>?_|refine Qk (id:=6) T mixed Wd3 (by kernel_rfl) fun K hK=>?_|refine Qk (id:=11) T mixed Wd4 (by kernel_rfl) fun K hK=>?_|refine Ql fun A B hA hB=>?_|refine Qm ?_|refine Qn ?_|refine Qp ?_|refine Qr ?_)
 | ((with_reducible first|apply Qy|apply Qz|apply QA)<;>intro hb<;>try simp only[nr] at hb)
 |simp only[go_sem,↓reduceIte,reduceIte,Qa,Qh,Qb,Qc,Qd,Qe,Qf,Qg,reduceCtorEq, *]
 |with_reducible refine fun(bn:Bool) hbn=>?_))
    iterate 3 (focus(clear hM;all_goals ((repeat clear hK);(repeat clear hA);(repeat clear hB));grind))
    ·have hls:xs[i].split.length=ys[i].split.length:=by clear hM hK;grind
     refine Qs [0,1,5] (fun m ts'=>∃(j:Nat),m=xs[i].split.length-j∧j≤xs[i].split.length∧xs[i].split.take j=ys[i].split.take j∧ts'.tmp 6=.int .i64 j) xs[i].split.length ?_ ?_
     ·refine⟨0,?_⟩
      simp only[go_sem,↓reduceIte,reduceIte,Qa,Qh,Qb,Qc,Qd,Qe,Qf,Qg,reduceCtorEq, *]
     ·revert hM
      intro hM0
      rintro m A hM ts' hk ⟨j,hm,f1,f2,s1⟩
      simp only[go_sem,↓reduceIte,reduceIte,Qa,Qh,Qb,Qc,Qd,Qe,Qf,Qg,reduceCtorEq, *] at hk
      by_cases hjt:j<xs[i].split.length
      ·have hju:j<ys[i].split.length:=by omega
       have hne2:=Y9 hjt hju
       rw[Jdk] at hne2
       (repeat' (first
 | (with_reducible first|assumption|(refine Qw hK _ ?_;clear hK K)|refine Qw ‹_› _ ?_|refine Qx ‹_› ?_|refine Qi fun K hK=>?_|refine Qj T fun K hK=>?_|refine Qk (id:=6) T mixed Wd3 (by kernel_rfl) fun K hK=>?_|refine Qk (id:=11) T mixed Wd4 (by kernel_rfl) fun K hK=>?_|refine Ql fun A B hA hB=>?_|refine Qm ?_|refine Qn ?_|refine Qp ?_|refine Qr ?_)
 | ((with_reducible first|apply Qy|apply Qz|apply QA)<;>intro hb<;>try simp only[nr] at hb)
 |simp only[go_sem,↓reduceIte,reduceIte,Qa,Qh,Qb,Qc,Qd,Qe,Qf,Qg,reduceCtorEq, *]
 |with_reducible refine fun(bn:Bool) hbn=>?_))
       all_goals ((repeat clear hK);(repeat clear hA);(repeat clear hB))
       all_goals first
        | (refine hM.on (xs[i].split.length-(j+1)) (by omega) (by simp only[go_sem,↓reduceIte,reduceIte,Qa,Qh,Qb,Qc,Qd,Qe,Qf,Qg,reduceCtorEq, *,Ji hjt hsl]) ⟨j+1,rfl,by omega,by clear hM hM0;apply Y8 f2 hjt hju;rw[Jdk];grind,?_⟩;simp only[go_sem,↓reduceIte,reduceIte,Qa,Qh,Qb,Qc,Qd,Qe,Qf,Qg,reduceCtorEq, *,Ji hjt hsl];done)
        | (clear hM hM0;grind)
      ·have hju:¬j<ys[i].split.length:=by omega
       have:=Y7 f2 hjt hls
       (repeat' (first
 | (with_reducible first|assumption|(refine Qw hK _ ?_;clear hK K)|refine Qw ‹_› _ ?_|refine Qx ‹_› ?_|refine Qi fun K hK=>?_|refine Qj T fun K hK=>?_|refine Qk (id:=6) T mixed Wd3 (by kernel_rfl) fun K hK=>?_|refine Qk (id:=11) T mixed Wd4 (by kernel_rfl) fun K hK=>?_|refine Ql fun A B hA hB=>?_|refine Qm ?_|refine Qn ?_|refine Qp ?_|refine Qr ?_)
 | ((with_reducible first|apply Qy|apply Qz|apply QA)<;>intro hb<;>try simp only[nr] at hb)
 |simp only[go_sem,↓reduceIte,reduceIte,Qa,Qh,Qb,Qc,Qd,Qe,Qf,Qg,reduceCtorEq, *]
 |with_reducible refine fun(bn:Bool) hbn=>?_))
       all_goals ((repeat clear hK);(repeat clear hA);(repeat clear hB))
       all_goals (clear hM;revert hM0;intro hM)
       all_goals first
        | (refine hM.on (xs.length-(i+1)) (by omega) (by simp only[go_sem,↓reduceIte,reduceIte,Qa,Qh,Qb,Qc,Qd,Qe,Qf,Qg,reduceCtorEq, *,Ji hlt hl]) ⟨i+1,rfl,by omega,by clear hM;apply Y8 ‹_› hlt hlu;rw[JgU];grind,?_⟩;simp only[go_sem,↓reduceIte,reduceIte,Qa,Qh,Qb,Qc,Qd,Qe,Qf,Qg,reduceCtorEq, *,Ji hlt hl];done)
   ·have:=Y7 f2 hlt hll
    (repeat' (first
 | (with_reducible first|assumption|(refine Qw hK _ ?_;clear hK K)|refine Qw ‹_› _ ?_|refine Qx ‹_› ?_|refine Qi fun K hK=>?_|refine Qj T fun K hK=>?_|refine Qk (id:=6) T mixed Wd3 (by kernel_rfl) fun K hK=>?_|refine Qk (id:=11) T mixed Wd4 (by kernel_rfl) fun K hK=>?_|refine Ql fun A B hA hB=>?_|refine Qm ?_|refine Qn ?_|refine Qp ?_|refine Qr ?_)
 | ((with_reducible first|apply Qy|apply Qz|apply QA)<;>intro hb<;>try simp only[nr] at hb)
 |simp only[go_sem,↓reduceIte,reduceIte,Qa,Qh,Qb,Qc,Qd,Qe,Qf,Qg,reduceCtorEq, *]
 |with_reducible refine fun(bn:Bool) hbn=>?_))
    all_goals ((repeat clear hK);(repeat clear hA);(repeat clear hB))
    all_goals (clear hM;grind)
 ·have:¬xs=ys:=by rintro rfl;exact hll rfl
  (repeat' (first
 | (with_reducible first|assumption|(refine Qw hK _ ?_;clear hK K)|refine Qw ‹_› _ ?_|refine Qx ‹_› ?_|refine Qi fun K hK=>?_|refine Qj T fun K hK=>?_|refine Qk (id:=6) T mixed Wd3 (by kernel_rfl) fun K hK=>?_|refine Qk (id:=11) T mixed Wd4 (by kernel_rfl) fun K hK=>?_|refine Ql fun A B hA hB=>?_|refine Qm ?_|refine Qn ?_|refine Qp ?_|refine Qr ?_)
 | ((with_reducible first|apply Qy|apply Qz|apply QA)<;>intro hb<;>try simp only[nr] at hb)
 |simp only[go_sem,↓reduceIte,reduceIte,Qa,Qh,Qb,Qc,Qd,Qe,Qf,Qg,reduceCtorEq, *]
 |with_reducible refine fun(bn:Bool) hbn=>?_))
  all_goals ((repeat clear hK);(repeat clear hA);(repeat clear hB))
  all_goals grind
theorem JaL{α:Type}(p:α→Bool)(xs:List α):decide (0≤JE p xs 0)=xs.any p:=by
 by_cases h:JE p xs 0=-1
 ·have hn:=Jdx p xs 0 (Int.le_refl _) h
  have h2:xs.any p=false:=List.any_eq_false.2 fun x hx=>by simp[hn x hx]
  rw[h,h2];decide
 ·obtain⟨k,h1,h2,h3,h4⟩:=Jdy p xs 0 (Int.le_refl _) h
  have h5:xs.any p=true:=List.any_eq_true.2 ⟨xs[k],QC h2,h4 h2⟩
  rw[h1,h5];simp
section closures
theorem Jhq(fn:FuncId)(caps:List AV)(hc:Caps caps)(p:Weight→Bool)(xs:List Weight)(hp:∀x∈xs,CallR Tryz.prog fn (.agg [.str x.cluster,.int .i64 x.w] :: caps) (.val (.bool (p x))))(hl:Jc xs.length):CallR Tryz.prog 243 [.slice false (Ja xs),.clo (.func fn) [] caps] (.val (.int .i64 (JE p xs 0))):=by
 have hca:=hc.args
 have hcp:=hc.pure
 have hcn:=hc.nrm
 refine CallR.go2 (T:=T) Tryz.call243 Tryz.func243 rfl Tryz.ntmps243 (congrArg Array.toList Tryz.results243) (by decide) fun ts hn h0 h1=>?_
 (repeat' (first
 | (with_reducible first|assumption|(refine Qw hK _ ?_;clear hK K)|refine Qw ‹_› _ ?_|refine Qx ‹_› ?_|refine Qi fun K hK=>?_|refine Qj T fun K hK=>?_|refine Ql fun A B hA hB=>?_|refine Qm ?_|refine Qn ?_|refine Qp ?_|refine Qr ?_)
 | ((with_reducible first|apply Qy|apply Qz|apply QA)<;>intro hb<;>try simp only[nr] at hb)
 |simp only[go_sem,↓reduceIte,reduceIte,Qa,Qh,Qb,Qc,Qd,Qe,Qf,Qg,reduceCtorEq, *,-hp]
 |with_reducible refine fun(bn:Bool) hbn=>?_))
 refine Qs [0,1,7] (fun m ts'=>∃(i:Nat),m=xs.length-i∧i≤xs.length∧JE p xs 0=JE p (xs.drop i) i∧ts'.tmp 8=.int .i64 i) xs.length ?_ ?_
 ·refine⟨0,?_⟩
  simp only[go_sem,↓reduceIte,reduceIte,Qa,Qh,Qb,Qc,Qd,Qe,Qf,Qg,reduceCtorEq, *,-hp]
 ·rintro m A hM ts' hk ⟨i,hm,f1,f2,s1⟩
  simp only[go_sem,↓reduceIte,reduceIte,Qa,Qh,Qb,Qc,Qd,Qe,Qf,Qg,reduceCtorEq, *] at hk
  by_cases hlt:i<xs.length
  ·rw[List.drop_eq_getElem_cons hlt,JE] at f2
   have hpi:=hp _ (QC hlt)
   (repeat' (first
 | (with_reducible first|refine callX.by (hpi) ?_|assumption|(refine Qw hK _ ?_;clear hK K)|refine Qw ‹_› _ ?_|refine Qx ‹_› ?_|refine Qi fun K hK=>?_|refine Qj T fun K hK=>?_|refine Ql fun A B hA hB=>?_|refine Qm ?_|refine Qn ?_|refine Qp ?_|refine Qr ?_)
 | ((with_reducible first|apply Qy|apply Qz|apply QA)<;>intro hb<;>try simp only[nr] at hb)
 |simp only[go_sem,↓reduceIte,reduceIte,Qa,Qh,Qb,Qc,Qd,Qe,Qf,Qg,reduceCtorEq, *,-hp,-hpi]
 |with_reducible refine fun(bn:Bool) hbn=>?_))
   all_goals ((repeat clear hK);(repeat clear hA);(repeat clear hB))
   rw[if_neg (by simp[hb])] at f2
   (refine hM.on (xs.length-(i+1)) (by omega) (by simp only[go_sem,↓reduceIte,reduceIte,Qa,Qh,Qb,Qc,Qd,Qe,Qf,Qg,reduceCtorEq, *,Ji hlt hl,-f2,-hp,-hpi]) ⟨i+1,rfl,by omega,f2,?_⟩;simp only[go_sem,↓reduceIte,reduceIte,Qa,Qh,Qb,Qc,Qd,Qe,Qf,Qg,reduceCtorEq, *,Ji hlt hl,-f2,-hp,-hpi];done)
  ·rw[List.drop_eq_nil_of_le (by omega),JE] at f2
   (repeat' (first
 | (with_reducible first|assumption|(refine Qw hK _ ?_;clear hK K)|refine Qw ‹_› _ ?_|refine Qx ‹_› ?_|refine Qi fun K hK=>?_|refine Qj T fun K hK=>?_|refine Ql fun A B hA hB=>?_|refine Qm ?_|refine Qn ?_|refine Qp ?_|refine Qr ?_)
 | ((with_reducible first|apply Qy|apply Qz|apply QA)<;>intro hb<;>try simp only[nr] at hb)
 |simp only[go_sem,↓reduceIte,reduceIte,Qa,Qh,Qb,Qc,Qd,Qe,Qf,Qg,reduceCtorEq, *,-hp]
 |with_reducible refine fun(bn:Bool) hbn=>?_))
theorem Zf(fn:FuncId)(caps:List AV)(hc:Caps caps)(p:Weight→Bool)(xs:List Weight)(hp:∀x∈xs,CallR Tryz.prog fn (.agg [.str x.cluster,.int .i64 x.w] :: caps) (.val (.bool (p x))))(hl:Jc xs.length):CallR Tryz.prog 223 [.slice false (Ja xs),.clo (.func fn) [] caps] (.val (.bool (xs.any p))):=by
 have hca:=hc.args
 have hcp:=hc.pure
 have hcn:=hc.nrm
 have hi:=Jhq fn caps hc p xs hp hl
 have ha:=JaL p xs
 refine CallR.go2 (T:=T) Tryz.call223 Tryz.func223 rfl Tryz.ntmps223 (congrArg Array.toList Tryz.results223) (by decide) fun ts hn h0 h1=>?_
 (repeat' (first
 | (with_reducible first|refine callX.by (hi) ?_|refine callX.by (Jhq _ _ ?_ _ _ ?_ ?_) ?_|assumption|(refine Qw hK _ ?_;clear hK K)|refine Qw ‹_› _ ?_|refine Qx ‹_› ?_|refine Qi fun K hK=>?_|refine Qj T fun K hK=>?_|refine Ql fun A B hA hB=>?_|refine Qn ?_|refine Qr ?_)
 | ((with_reducible first|apply Qy|apply Qz|apply QA)<;>intro hb<;>try simp only[nr] at hb)
 |simp only[go_sem,↓reduceIte,reduceIte,Qa,Qh,Qb,Qc,Qd,Qe,Qf,Qg,reduceCtorEq, *,-hp,-hi]
 |with_reducible refine fun(bn:Bool) hbn=>?_))
theorem Jhp(fn:FuncId)(caps:List AV)(hc:Caps caps)(p:Rule→Bool)(xs:List Rule)(hp:∀x∈xs,CallR Tryz.prog fn (.agg [.str x.host,.str x.pfx,.slice false (Ja x.split)] :: caps) (.val (.bool (p x))))(hl:Jc xs.length):CallR Tryz.prog 244 [.slice false (Ja xs),.clo (.func fn) [] caps] (.val (.int .i64 (JE p xs 0))):=by
 have hca:=hc.args
 have hcp:=hc.pure
 have hcn:=hc.nrm
 refine CallR.go2 (T:=T) Tryz.call244 Tryz.func244 rfl Tryz.ntmps244 (congrArg Array.toList Tryz.results244) (by decide) fun ts hn h0 h1=>?_
 (repeat' (first
 | (with_reducible first|assumption|(refine Qw hK _ ?_;clear hK K)|refine Qw ‹_› _ ?_|refine Qx ‹_› ?_|refine Qi fun K hK=>?_|refine Qj T fun K hK=>?_|refine Ql fun A B hA hB=>?_|refine Qm ?_|refine Qn ?_|refine Qp ?_|refine Qr ?_)
 | ((with_reducible first|apply Qy|apply Qz|apply QA)<;>intro hb<;>try simp only[nr] at hb)
 |simp only[go_sem,↓reduceIte,reduceIte,Qa,Qh,Qb,Qc,Qd,Qe,Qf,Qg,reduceCtorEq, *,-hp]
 |with_reducible refine fun(bn:Bool) hbn=>?_))
 refine Qs [0,1,7] (fun m ts'=>∃(i:Nat),m=xs.length-i∧i≤xs.length∧JE p xs 0=JE p (xs.drop i) i∧ts'.tmp 8=.int .i64 i) xs.length ?_ ?_
 ·refine⟨0,?_⟩
  simp only[go_sem,↓reduceIte,reduceIte,Qa,Qh,Qb,Qc,Qd,Qe,Qf,Qg,reduceCtorEq, *,-hp]
 ·rintro m A hM ts' hk ⟨i,hm,f1,f2,s1⟩
  simp only[go_sem,↓reduceIte,reduceIte,Qa,Qh,Qb,Qc,Qd,Qe,Qf,Qg,reduceCtorEq, *] at hk
  by_cases hlt:i<xs.length
  ·rw[List.drop_eq_getElem_cons hlt,JE] at f2
   have hpi:=hp _ (QC hlt)
   (repeat' (first
 | (with_reducible first|refine callX.by (hpi) ?_|assumption|(refine Qw hK _ ?_;clear hK K)|refine Qw ‹_› _ ?_|refine Qx ‹_› ?_|refine Qi fun K hK=>?_|refine Qj T fun K hK=>?_|refine Ql fun A B hA hB=>?_|refine Qm ?_|refine Qn ?_|refine Qp ?_|refine Qr ?_)
 | ((with_reducible first|apply Qy|apply Qz|apply QA)<;>intro hb<;>try simp only[nr] at hb)
 |simp only[go_sem,↓reduceIte,reduceIte,Qa,Qh,Qb,Qc,Qd,Qe,Qf,Qg,reduceCtorEq, *,-hp,-hpi]
 |with_reducible refine fun(bn:Bool) hbn=>?_))
   all_goals ((repeat clear hK);(repeat clear hA);(repeat clear hB))
   rw[if_neg (by simp[hb])] at f2
   (refine hM.on (xs.length-(i+1)) (by omega) (by simp only[go_sem,↓reduceIte,reduceIte,Qa,Qh,Qb,Qc,Qd,Qe,Qf,Qg,reduceCtorEq, *,Ji hlt hl,-f2,-hp,-hpi]) ⟨i+1,rfl,by omega,f2,?_⟩;simp only[go_sem,↓reduceIte,reduceIte,Qa,Qh,Qb,Qc,Qd,Qe,Qf,Qg,reduceCtorEq, *,Ji hlt hl,-f2,-hp,-hpi];done)
  ·rw[List.drop_eq_nil_of_le (by omega),JE] at f2
   (repeat' (first
 | (with_reducible first|assumption|(refine Qw hK _ ?_;clear hK K)|refine Qw ‹_› _ ?_|refine Qx ‹_› ?_|refine Qi fun K hK=>?_|refine Qj T fun K hK=>?_|refine Ql fun A B hA hB=>?_|refine Qm ?_|refine Qn ?_|refine Qp ?_|refine Qr ?_)
 | ((with_reducible first|apply Qy|apply Qz|apply QA)<;>intro hb<;>try simp only[nr] at hb)
 |simp only[go_sem,↓reduceIte,reduceIte,Qa,Qh,Qb,Qc,Qd,Qe,Qf,Qg,reduceCtorEq, *,-hp]
 |with_reducible refine fun(bn:Bool) hbn=>?_))
theorem Z3(fn:FuncId)(caps:List AV)(hc:Caps caps)(p:Rule→Bool)(xs:List Rule)(hp:∀x∈xs,CallR Tryz.prog fn (.agg [.str x.host,.str x.pfx,.slice false (Ja x.split)] :: caps) (.val (.bool (p x))))(hl:Jc xs.length):CallR Tryz.prog 227 [.slice false (Ja xs),.clo (.func fn) [] caps] (.val (.bool (xs.any p))):=by
 have hca:=hc.args
 have hcp:=hc.pure
 have hcn:=hc.nrm
 have hi:=Jhp fn caps hc p xs hp hl
 have ha:=JaL p xs
 refine CallR.go2 (T:=T) Tryz.call227 Tryz.func227 rfl Tryz.ntmps227 (congrArg Array.toList Tryz.results227) (by decide) fun ts hn h0 h1=>?_
 (repeat' (first
 | (with_reducible first|refine callX.by (hi) ?_|refine callX.by (Jhp _ _ ?_ _ _ ?_ ?_) ?_|assumption|(refine Qw hK _ ?_;clear hK K)|refine Qw ‹_› _ ?_|refine Qx ‹_› ?_|refine Qi fun K hK=>?_|refine Qj T fun K hK=>?_|refine Ql fun A B hA hB=>?_|refine Qn ?_|refine Qr ?_)
 | ((with_reducible first|apply Qy|apply Qz|apply QA)<;>intro hb<;>try simp only[nr] at hb)
 |simp only[go_sem,↓reduceIte,reduceIte,Qa,Qh,Qb,Qc,Qd,Qe,Qf,Qg,reduceCtorEq, *,-hp,-hi]
 |with_reducible refine fun(bn:Bool) hbn=>?_))
end closures
def Zb(n most:Int):Bool:=decide (0≤n) && decide (n≤most)
theorem Ja2(n most:Int):CallR Tryz.prog 192 [.int .i64 n,.int .i64 most] (.val (.bool (Zb n most))):=by
 refine CallR.go2 (T:=T) Tryz.call192 Tryz.func192 rfl Tryz.ntmps192 (congrArg Array.toList Tryz.results192) (by decide) fun ts hn h0 h1=>?_
 (repeat' (first
 | (with_reducible first|assumption|(refine Qw hK _ ?_;clear hK K)|refine Qw ‹_› _ ?_|refine Qx ‹_› ?_|refine Qi fun K hK=>?_|refine Qj T fun K hK=>?_|refine Ql fun A B hA hB=>?_|refine Qn ?_|refine Qr ?_)
 | ((with_reducible first|apply Qy|apply Qz|apply QA)<;>intro hb<;>try simp only[nr] at hb)
 |simp only[go_sem,↓reduceIte,reduceIte,Qa,Qh,Qb,Qc,Qd,Qe,Qf,Qg,reduceCtorEq, *]
 |with_reducible refine fun(bn:Bool) hbn=>?_))
 all_goals ((repeat clear hK);(repeat clear hA);(repeat clear hB))
 all_goals (simp only[Zb];rw[Bool.eq_iff_iff];simp only[Bool.and_eq_true,Bool.or_eq_true,Bool.not_eq_true',Bool.false_eq_true,decide_eq_true_eq,decide_eq_false_iff_not,true_and,and_true,true_iff,false_iff,iff_true,iff_false,true_or,or_true,false_or,or_false] at *;omega)
theorem JbQ(w_cluster:List UInt8)(w_w:Int):CallR Tryz.prog 224 [.agg [.str w_cluster,.int .i64 w_w]] (.val (.bool (!Zb w_w 100))):=by
 refine QD (T:=T) Tryz.call224 Tryz.func224 rfl Tryz.ntmps224 (congrArg Array.toList Tryz.results224) (by decide) fun ts hn h0=>?_
 (repeat' (first
 | (with_reducible first|refine callX.by (Ja2 _ _) ?_|assumption|(refine Qw hK _ ?_;clear hK K)|refine Qw ‹_› _ ?_|refine Qx ‹_› ?_|refine Qi fun K hK=>?_|refine Qj T fun K hK=>?_|refine Ql fun A B hA hB=>?_|refine Qn ?_|refine Qr ?_)
 | ((with_reducible first|apply Qy|apply Qz|apply QA)<;>intro hb<;>try simp only[nr] at hb)
 |simp only[go_sem,↓reduceIte,reduceIte,Qa,Qh,Qb,Qc,Qd,Qe,Qf,Qg,reduceCtorEq, *]
 |with_reducible refine fun(bn:Bool) hbn=>?_))
theorem Jiz(w_cluster:List UInt8)(w_w:Int):CallR Tryz.prog 245 [.agg [.str w_cluster,.int .i64 w_w]] (.val (.bool (!Yg w_cluster))):=by
 refine QD (T:=T) Tryz.call245 Tryz.func245 rfl Tryz.ntmps245 (congrArg Array.toList Tryz.results245) (by decide) fun ts hn h0=>?_
 (repeat' (first
 | (with_reducible first|refine callX.by (JbA _) ?_|assumption|(refine Qw hK _ ?_;clear hK K)|refine Qw ‹_› _ ?_|refine Qx ‹_› ?_|refine Qi fun K hK=>?_|refine Qj T fun K hK=>?_|refine Ql fun A B hA hB=>?_|refine Qn ?_|refine Qr ?_)
 | ((with_reducible first|apply Qy|apply Qz|apply QA)<;>intro hb<;>try simp only[nr] at hb)
 |simp only[go_sem,↓reduceIte,reduceIte,Qa,Qh,Qb,Qc,Qd,Qe,Qf,Qg,reduceCtorEq, *]
 |with_reducible refine fun(bn:Bool) hbn=>?_))
theorem Jjg(w_cluster:List UInt8)(w_w:Int):CallR Tryz.prog 246 [.agg [.str w_cluster,.int .i64 w_w]] (.val (.bool (decide (0<w_w)))):=by
 refine QD (T:=T) Tryz.call246 Tryz.func246 rfl Tryz.ntmps246 (congrArg Array.toList Tryz.results246) (by decide) fun ts hn h0=>?_
 (repeat' (first
 | (with_reducible first|assumption|(refine Qw hK _ ?_;clear hK K)|refine Qw ‹_› _ ?_|refine Qx ‹_› ?_|refine Qi fun K hK=>?_|refine Qj T fun K hK=>?_|refine Ql fun A B hA hB=>?_|refine Qn ?_|refine Qr ?_)
 | ((with_reducible first|apply Qy|apply Qz|apply QA)<;>intro hb<;>try simp only[nr] at hb)
 |simp only[go_sem,↓reduceIte,reduceIte,Qa,Qh,Qb,Qc,Qd,Qe,Qf,Qg,reduceCtorEq, *]
 |with_reducible refine fun(bn:Bool) hbn=>?_))
def Jjh(x:Rule):Bool:=x.split.any fun w=>decide (0<w.w)
theorem JcX(x_host:List UInt8)(x_pfx:List UInt8)(x_split:List Weight)(hl:Jc x_split.length):CallR Tryz.prog 231 [.agg [.str x_host,.str x_pfx,.slice false (Ja x_split)]] (.val (.bool (Jjh (⟨x_host,x_pfx,x_split⟩:Rule)))):=by
 have h:=Zf 246 [] Caps.nil (fun w=>decide (0<w.w)) x_split (fun w _=>Jjg w.cluster w.w) hl
 refine QD (T:=T) Tryz.call231 Tryz.func231 rfl Tryz.ntmps231 (congrArg Array.toList Tryz.results231) (by decide) fun ts hn h0=>?_
 (repeat' (first
 | (with_reducible first|refine callX.by (h) ?_|refine callX.by (Zf _ _ ?_ _ _ ?_ ?_) ?_|refine callX.by (Jjg _ _) ?_|assumption|(refine Qw hK _ ?_;clear hK K)|refine Qw ‹_› _ ?_|refine Qx ‹_› ?_|refine Qi fun K hK=>?_|refine Qj T fun K hK=>?_|refine Ql fun A B hA hB=>?_|refine Qn ?_|refine Qr ?_)
 | ((with_reducible first|apply Qy|apply Qz|apply QA)<;>intro hb<;>try simp only[nr] at hb)
 |simp only[go_sem,↓reduceIte,reduceIte,Qa,Qh,Qb,Qc,Qd,Qe,Qf,Qg,reduceCtorEq, *,-h]
 |with_reducible refine fun(bn:Bool) hbn=>?_))
 all_goals rfl
def JcI(x:Rule):Bool:=Jcc x.host && (Jaj x.pfx && !(x.split.any fun w=>!Yg w.cluster))
theorem Jnh(x_host:List UInt8)(x_pfx:List UInt8)(x_split:List Weight)(hh:Jc x_host.length)(hl:Jc x_split.length):CallR Tryz.prog 229 [.agg [.str x_host,.str x_pfx,.slice false (Ja x_split)]] (.val (.bool (JcI (⟨x_host,x_pfx,x_split⟩:Rule)))):=by
 have h:=Zf 245 [] Caps.nil (fun w=>!Yg w.cluster) x_split (fun w _=>Jiz w.cluster w.w) hl
 refine QD (T:=T) Tryz.call229 Tryz.func229 rfl Tryz.ntmps229 (congrArg Array.toList Tryz.results229) (by decide) fun ts hn h0=>?_
 (repeat' (first
 | (with_reducible first|refine callX.by (h) ?_|refine callX.by (Jhh _ ?_) ?_|refine callX.by (Jif _) ?_|refine callX.by (Zf _ _ ?_ _ _ ?_ ?_) ?_|refine callX.by (Jiz _ _) ?_|assumption|(refine Qw hK _ ?_;clear hK K)|refine Qw ‹_› _ ?_|refine Qx ‹_› ?_|refine Qi fun K hK=>?_|refine Qj T fun K hK=>?_|refine Ql fun A B hA hB=>?_|refine Qn ?_|refine Qr ?_)
 | ((with_reducible first|apply Qy|apply Qz|apply QA)<;>intro hb<;>try simp only[nr] at hb)
 |simp only[go_sem,↓reduceIte,reduceIte,Qa,Qh,Qb,Qc,Qd,Qe,Qf,Qg,reduceCtorEq, *,-h]
 |with_reducible refine fun(bn:Bool) hbn=>?_))
 all_goals ((repeat clear hK);(repeat clear hA);(repeat clear hB))
 all_goals (clear h;simp_all[JcI])
theorem JhL(x_host:List UInt8)(x_pfx:List UInt8)(x_split:List Weight)(hh:Jc x_host.length)(hl:Jc x_split.length):CallR Tryz.prog 228 [.agg [.str x_host,.str x_pfx,.slice false (Ja x_split)]] (.val (.bool (!JcI (⟨x_host,x_pfx,x_split⟩:Rule)))):=by
 refine QD (T:=T) Tryz.call228 Tryz.func228 rfl Tryz.ntmps228 (congrArg Array.toList Tryz.results228) (by decide) fun ts hn h0=>?_
 (repeat' (first
 | (with_reducible first|refine callX.by (Jnh _ _ _ ?_ ?_) ?_|assumption|(refine Qw hK _ ?_;clear hK K)|refine Qw ‹_› _ ?_|refine Qx ‹_› ?_|refine Qi fun K hK=>?_|refine Qj T fun K hK=>?_|refine Ql fun A B hA hB=>?_|refine Qn ?_|refine Qr ?_)
 | ((with_reducible first|apply Qy|apply Qz|apply QA)<;>intro hb<;>try simp only[nr] at hb)
 |simp only[go_sem,↓reduceIte,reduceIte,Qa,Qh,Qb,Qc,Qd,Qe,Qf,Qg,reduceCtorEq, *]
 |with_reducible refine fun(bn:Bool) hbn=>?_))
theorem JhG(k:Int):CallR Tryz.prog 226 [.int .i64 k] (.val (.agg [.bool (decide (k=0)),.bool (decide (k=0) || decide (k=2)),.bool (decide (k=1)),.bool (decide (k=3))])):=by
 refine QD (T:=T) Tryz.call226 Tryz.func226 rfl Tryz.ntmps226 (congrArg Array.toList Tryz.results226) (by decide) fun ts hn h0=>?_
 (repeat' (first
 | (with_reducible first|assumption|(refine Qw hK _ ?_;clear hK K)|refine Qw ‹_› _ ?_|refine Qx ‹_› ?_|refine Qi fun K hK=>?_|refine Qj T fun K hK=>?_|refine Ql fun A B hA hB=>?_|refine Qn ?_|refine Qr ?_)
 | ((with_reducible first|apply Qy|apply Qz|apply QA)<;>intro hb<;>try simp only[nr] at hb)
 |simp only[go_sem,↓reduceIte,reduceIte,Qa,Qh,Qb,Qc,Qd,Qe,Qf,Qg,reduceCtorEq, *]
 |with_reducible refine fun(bn:Bool) hbn=>?_))
 all_goals ((repeat clear hK);(repeat clear hA);(repeat clear hB))
 all_goals simp_all
def Je7(r:Res):Bool:=!((decide (r.kind=0) || decide (r.kind=2)) && !Yg r.to') && !(r.rules'.any fun x=>!JcI x)
theorem Jl3(r_kind:Int)(r_name:List UInt8)(r_ver:Int)(r_port:Int)(r_to:List UInt8)(r_rules:List Rule)(r_hosts:List Int)(hl:Jc r_rules.length)(hs:∀x∈r_rules,VC x):CallR Tryz.prog 196 [.agg [.int .i64 r_kind,.str r_name,.int .i64 r_ver,.int .i64 r_port,.str r_to,.slice false (Ja r_rules),.slice false (Ja r_hosts)]] (.val (.bool (Je7 (⟨r_kind,r_name,r_ver,r_port,r_to,r_rules,r_hosts⟩:Res)))):=by
 have h:=Z3 228 [] Caps.nil (fun x=>!JcI x) r_rules (fun x hx=>JhL x.host x.pfx x.split (hs x hx).1 (hs x hx).2.2.1) hl
 refine QD (T:=T) Tryz.call196 Tryz.func196 rfl Tryz.ntmps196 (congrArg Array.toList Tryz.results196) (by decide) fun ts hn h0=>?_
 (repeat' (first
 | (with_reducible first|refine callX.by (h) ?_|refine callX.by (JhG _) ?_|refine callX.by (JbA _) ?_|refine callX.by (Z3 _ _ ?_ _ _ ?_ ?_) ?_|refine callX.by (JhL _ _ _ ?_ ?_) ?_|assumption|(refine Qw hK _ ?_;clear hK K)|refine Qw ‹_› _ ?_|refine Qx ‹_› ?_|refine Qi fun K hK=>?_|refine Qj T fun K hK=>?_|refine Ql fun A B hA hB=>?_|refine Qn ?_|refine Qr ?_)
 | ((with_reducible first|apply Qy|apply Qz|apply QA)<;>intro hb<;>try simp only[nr] at hb)
 |simp only[go_sem,↓reduceIte,reduceIte,Qa,Qh,Qb,Qc,Qd,Qe,Qf,Qg,reduceCtorEq, *,-h]
 |with_reducible refine fun(bn:Bool) hbn=>?_))
 all_goals ((repeat clear hK);(repeat clear hA);(repeat clear hB))
 all_goals (clear h hs;simp_all[Je7])
 all_goals (intros;omega)
end Go.Proofs.YthjalhfmpffbjaaGreatDoor.Lg
