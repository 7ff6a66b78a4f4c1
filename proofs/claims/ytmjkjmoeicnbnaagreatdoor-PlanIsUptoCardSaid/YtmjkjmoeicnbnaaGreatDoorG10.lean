/- Parts of the proof, one behind the other. -/
import Derived.Test.YtmjkjmoeicnbnaaGreatDoorG09
namespace Go.Proofs.YtmjkjmoeicnbnaaGreatDoor.Lg
set_option maxRecDepth 100000
set_option linter.unusedVariables false
set_option linter.unusedSimpArgs false
open Go
open Nat renaming reduceEqDiff → Qa, reduceLT → Qb, reduceLeDiff → Qc, reduceAdd → Qd, reduceMul → Qe, reduceSub → Qf, reduceBEq → Qg
open String renaming reduceEq → Qh
open SpecC renaming seqW → Qi, regW → Qj, condW → Ql, block → Qm, skip → Qn, exit → Qp, ret → Qr, loopF → Qs
open NxK renaming out → Qw
open Nx renaming out → Qx
open condK renaming split → Qy
open gK renaming split_t → Qz, split_f → QA
open List renaming getElem_mem → QC
open CallR renaming go1 → QD
theorem Jc8{α:Type}(p:α→Bool)(xs:List α):decide (0≤JM p xs 0)=xs.any p:=by
 by_cases h:JM p xs 0=-1
 ·have hn:=Jc9 p xs 0 (Int.le_refl _) h
  have h2:xs.any p=false:=List.any_eq_false.2 fun x hx=>by simp[hn x hx]
  rw[h,h2];decide
 ·obtain⟨k,h1,h2,h3,h4⟩:=Jda p xs 0 (Int.le_refl _) h
  have h5:xs.any p=true:=List.any_eq_true.2 ⟨xs[k],QC h2,h4 h2⟩
  rw[h1,h5];simp
section closures
theorem JgF(fn:FuncId)(caps:List AV)(hc:Caps caps)(p:Weight→Bool)(xs:List Weight)(hp:∀x∈xs,CallR Tryz.prog fn (.agg [.str x.cluster,.int .i64 x.w] :: caps) (.val (.bool (p x))))(hl:Jc xs.length):CallR Tryz.prog 219 [.slice false (Ja xs),.clo (.func fn) [] caps] (.val (.int .i64 (JM p xs 0))):=by
 have hca:=hc.args
 have hcp:=hc.pure
 have hcn:=hc.nrm
 refine CallR.go2 (T:=T) Tryz.call219 Tryz.func219 rfl Tryz.ntmps219 (congrArg Array.toList Tryz.results219) (by decide) fun ts hn h0 h1=>?_
 (repeat' (first
 | (with_reducible first|assumption|(refine Qw hK _ ?_;clear hK K)|refine Qw ‹_› _ ?_|refine Qx ‹_› ?_|refine Qi fun K hK=>?_|refine Qj T fun K hK=>?_|refine Ql fun A B hA hB=>?_|refine Qm ?_|refine Qn ?_|refine Qp ?_|refine Qr ?_)
 | ((with_reducible first|apply Qy|apply Qz|apply QA)<;>intro hb<;>try simp only[nr] at hb)
 |simp only[go_sem,↓reduceIte,reduceIte,Qa,Qh,Qb,Qc,Qd,Qe,Qf,Qg,reduceCtorEq, *,-hp]
 |with_reducible refine fun(bn:Bool) hbn=>?_))
 refine Qs [0,1,7] (fun m ts'=>∃(i:Nat),m=xs.length-i∧i≤xs.length∧JM p xs 0=JM p (xs.drop i) i∧ts'.tmp 8=.int .i64 i) xs.length ?_ ?_
 ·refine⟨0,?_⟩
  simp only[go_sem,↓reduceIte,reduceIte,Qa,Qh,Qb,Qc,Qd,Qe,Qf,Qg,reduceCtorEq, *,-hp]
 ·rintro m A hM ts' hk ⟨i,hm,f1,f2,s1⟩
  simp only[go_sem,↓reduceIte,reduceIte,Qa,Qh,Qb,Qc,Qd,Qe,Qf,Qg,reduceCtorEq, *] at hk
  by_cases hlt:i<xs.length
  ·rw[List.drop_eq_getElem_cons hlt,JM] at f2
   have hpi:=hp _ (QC hlt)
   (repeat' (first
 | (with_reducible first|refine callX.by (hpi) ?_|assumption|(refine Qw hK _ ?_;clear hK K)|refine Qw ‹_› _ ?_|refine Qx ‹_› ?_|refine Qi fun K hK=>?_|refine Qj T fun K hK=>?_|refine Ql fun A B hA hB=>?_|refine Qm ?_|refine Qn ?_|refine Qp ?_|refine Qr ?_)
 | ((with_reducible first|apply Qy|apply Qz|apply QA)<;>intro hb<;>try simp only[nr] at hb)
 |simp only[go_sem,↓reduceIte,reduceIte,Qa,Qh,Qb,Qc,Qd,Qe,Qf,Qg,reduceCtorEq, *,-hp,-hpi]
 |with_reducible refine fun(bn:Bool) hbn=>?_))
   all_goals ((repeat clear hK);(repeat clear hA);(repeat clear hB))
   rw[if_neg (by simp[hb])] at f2
   (refine hM.on (xs.length-(i+1)) (by omega) (by simp only[go_sem,↓reduceIte,reduceIte,Qa,Qh,Qb,Qc,Qd,Qe,Qf,Qg,reduceCtorEq, *,Jd hlt hl,-f2,-hp,-hpi]) ⟨i+1,rfl,by omega,f2,?_⟩;simp only[go_sem,↓reduceIte,reduceIte,Qa,Qh,Qb,Qc,Qd,Qe,Qf,Qg,reduceCtorEq, *,Jd hlt hl,-f2,-hp,-hpi];done)
  ·rw[List.drop_eq_nil_of_le (by omega),JM] at f2
   (repeat' (first
 | (with_reducible first|assumption|(refine Qw hK _ ?_;clear hK K)|refine Qw ‹_› _ ?_|refine Qx ‹_› ?_|refine Qi fun K hK=>?_|refine Qj T fun K hK=>?_|refine Ql fun A B hA hB=>?_|refine Qm ?_|refine Qn ?_|refine Qp ?_|refine Qr ?_)
 | ((with_reducible first|apply Qy|apply Qz|apply QA)<;>intro hb<;>try simp only[nr] at hb)
 |simp only[go_sem,↓reduceIte,reduceIte,Qa,Qh,Qb,Qc,Qd,Qe,Qf,Qg,reduceCtorEq, *,-hp]
 |with_reducible refine fun(bn:Bool) hbn=>?_))
theorem Zv(fn:FuncId)(caps:List AV)(hc:Caps caps)(p:Weight→Bool)(xs:List Weight)(hp:∀x∈xs,CallR Tryz.prog fn (.agg [.str x.cluster,.int .i64 x.w] :: caps) (.val (.bool (p x))))(hl:Jc xs.length):CallR Tryz.prog 191 [.slice false (Ja xs),.clo (.func fn) [] caps] (.val (.bool (xs.any p))):=by
 have hca:=hc.args
 have hcp:=hc.pure
 have hcn:=hc.nrm
 have hi:=JgF fn caps hc p xs hp hl
 have ha:=Jc8 p xs
 refine CallR.go2 (T:=T) Tryz.call191 Tryz.func191 rfl Tryz.ntmps191 (congrArg Array.toList Tryz.results191) (by decide) fun ts hn h0 h1=>?_
 (repeat' (first
 | (with_reducible first|refine callX.by (hi) ?_|refine callX.by (JgF _ _ ?_ _ _ ?_ ?_) ?_|assumption|(refine Qw hK _ ?_;clear hK K)|refine Qw ‹_› _ ?_|refine Qx ‹_› ?_|refine Qi fun K hK=>?_|refine Qj T fun K hK=>?_|refine Ql fun A B hA hB=>?_|refine Qn ?_|refine Qr ?_)
 | ((with_reducible first|apply Qy|apply Qz|apply QA)<;>intro hb<;>try simp only[nr] at hb)
 |simp only[go_sem,↓reduceIte,reduceIte,Qa,Qh,Qb,Qc,Qd,Qe,Qf,Qg,reduceCtorEq, *,-hp,-hi]
 |with_reducible refine fun(bn:Bool) hbn=>?_))
theorem JgE(fn:FuncId)(caps:List AV)(hc:Caps caps)(p:Rule→Bool)(xs:List Rule)(hp:∀x∈xs,CallR Tryz.prog fn (.agg [.str x.host,.str x.pfx,.slice false (Ja x.split)] :: caps) (.val (.bool (p x))))(hl:Jc xs.length):CallR Tryz.prog 220 [.slice false (Ja xs),.clo (.func fn) [] caps] (.val (.int .i64 (JM p xs 0))):=by
 have hca:=hc.args
 have hcp:=hc.pure
 have hcn:=hc.nrm
 refine CallR.go2 (T:=T) Tryz.call220 Tryz.func220 rfl Tryz.ntmps220 (congrArg Array.toList Tryz.results220) (by decide) fun ts hn h0 h1=>?_
 (repeat' (first
 | (with_reducible first|assumption|(refine Qw hK _ ?_;clear hK K)|refine Qw ‹_› _ ?_|refine Qx ‹_› ?_|refine Qi fun K hK=>?_|refine Qj T fun K hK=>?_|refine Ql fun A B hA hB=>?_|refine Qm ?_|refine Qn ?_|refine Qp ?_|refine Qr ?_)
 | ((with_reducible first|apply Qy|apply Qz|apply QA)<;>intro hb<;>try simp only[nr] at hb)
 |simp only[go_sem,↓reduceIte,reduceIte,Qa,Qh,Qb,Qc,Qd,Qe,Qf,Qg,reduceCtorEq, *,-hp]
 |with_reducible refine fun(bn:Bool) hbn=>?_))
 refine Qs [0,1,7] (fun m ts'=>∃(i:Nat),m=xs.length-i∧i≤xs.length∧JM p xs 0=JM p (xs.drop i) i∧ts'.tmp 8=.int .i64 i) xs.length ?_ ?_
 ·refine⟨0,?_⟩
  simp only[go_sem,↓reduceIte,reduceIte,Qa,Qh,Qb,Qc,Qd,Qe,Qf,Qg,reduceCtorEq, *,-hp]
 ·rintro m A hM ts' hk ⟨i,hm,f1,f2,s1⟩
  simp only[go_sem,↓reduceIte,reduceIte,Qa,Qh,Qb,Qc,Qd,Qe,Qf,Qg,reduceCtorEq, *] at hk
  by_cases hlt:i<xs.length
  ·rw[List.drop_eq_getElem_cons hlt,JM] at f2
   have hpi:=hp _ (QC hlt)
   (repeat' (first
 | (with_reducible first|refine callX.by (hpi) ?_|assumption|(refine Qw hK _ ?_;clear hK K)|refine Qw ‹_› _ ?_|refine Qx ‹_› ?_|refine Qi fun K hK=>?_|refine Qj T fun K hK=>?_|refine Ql fun A B hA hB=>?_|refine Qm ?_|refine Qn ?_|refine Qp ?_|refine Qr ?_)
 | ((with_reducible first|apply Qy|apply Qz|apply QA)<;>intro hb<;>try simp only[nr] at hb)
 |simp only[go_sem,↓reduceIte,reduceIte,Qa,Qh,Qb,Qc,Qd,Qe,Qf,Qg,reduceCtorEq, *,-hp,-hpi]
 |with_reducible refine fun(bn:Bool) hbn=>?_))
   all_goals ((repeat clear hK);(repeat clear hA);(repeat clear hB))
   rw[if_neg (by simp[hb])] at f2
   (refine hM.on (xs.length-(i+1)) (by omega) (by simp only[go_sem,↓reduceIte,reduceIte,Qa,Qh,Qb,Qc,Qd,Qe,Qf,Qg,reduceCtorEq, *,Jd hlt hl,-f2,-hp,-hpi]) ⟨i+1,rfl,by omega,f2,?_⟩;simp only[go_sem,↓reduceIte,reduceIte,Qa,Qh,Qb,Qc,Qd,Qe,Qf,Qg,reduceCtorEq, *,Jd hlt hl,-f2,-hp,-hpi];done)
  ·rw[List.drop_eq_nil_of_le (by omega),JM] at f2
   (repeat' (first
 | (with_reducible first|assumption|(refine Qw hK _ ?_;clear hK K)|refine Qw ‹_› _ ?_|refine Qx ‹_› ?_|refine Qi fun K hK=>?_|refine Qj T fun K hK=>?_|refine Ql fun A B hA hB=>?_|refine Qm ?_|refine Qn ?_|refine Qp ?_|refine Qr ?_)
 | ((with_reducible first|apply Qy|apply Qz|apply QA)<;>intro hb<;>try simp only[nr] at hb)
 |simp only[go_sem,↓reduceIte,reduceIte,Qa,Qh,Qb,Qc,Qd,Qe,Qf,Qg,reduceCtorEq, *,-hp]
 |with_reducible refine fun(bn:Bool) hbn=>?_))
theorem Jam(fn:FuncId)(caps:List AV)(hc:Caps caps)(p:Rule→Bool)(xs:List Rule)(hp:∀x∈xs,CallR Tryz.prog fn (.agg [.str x.host,.str x.pfx,.slice false (Ja x.split)] :: caps) (.val (.bool (p x))))(hl:Jc xs.length):CallR Tryz.prog 195 [.slice false (Ja xs),.clo (.func fn) [] caps] (.val (.bool (xs.any p))):=by
 have hca:=hc.args
 have hcp:=hc.pure
 have hcn:=hc.nrm
 have hi:=JgE fn caps hc p xs hp hl
 have ha:=Jc8 p xs
 refine CallR.go2 (T:=T) Tryz.call195 Tryz.func195 rfl Tryz.ntmps195 (congrArg Array.toList Tryz.results195) (by decide) fun ts hn h0 h1=>?_
 (repeat' (first
 | (with_reducible first|refine callX.by (hi) ?_|refine callX.by (JgE _ _ ?_ _ _ ?_ ?_) ?_|assumption|(refine Qw hK _ ?_;clear hK K)|refine Qw ‹_› _ ?_|refine Qx ‹_› ?_|refine Qi fun K hK=>?_|refine Qj T fun K hK=>?_|refine Ql fun A B hA hB=>?_|refine Qn ?_|refine Qr ?_)
 | ((with_reducible first|apply Qy|apply Qz|apply QA)<;>intro hb<;>try simp only[nr] at hb)
 |simp only[go_sem,↓reduceIte,reduceIte,Qa,Qh,Qb,Qc,Qd,Qe,Qf,Qg,reduceCtorEq, *,-hp,-hi]
 |with_reducible refine fun(bn:Bool) hbn=>?_))
end closures
def JH(n most:Int):Bool:=decide (0≤n) && decide (n≤most)
theorem Ja8(n most:Int):CallR Tryz.prog 154 [.int .i64 n,.int .i64 most] (.val (.bool (JH n most))):=by
 refine CallR.go2 (T:=T) Tryz.call154 Tryz.func154 rfl Tryz.ntmps154 (congrArg Array.toList Tryz.results154) (by decide) fun ts hn h0 h1=>?_
 (repeat' (first
 | (with_reducible first|assumption|(refine Qw hK _ ?_;clear hK K)|refine Qw ‹_› _ ?_|refine Qx ‹_› ?_|refine Qi fun K hK=>?_|refine Qj T fun K hK=>?_|refine Ql fun A B hA hB=>?_|refine Qn ?_|refine Qr ?_)
 | ((with_reducible first|apply Qy|apply Qz|apply QA)<;>intro hb<;>try simp only[nr] at hb)
 |simp only[go_sem,↓reduceIte,reduceIte,Qa,Qh,Qb,Qc,Qd,Qe,Qf,Qg,reduceCtorEq, *]
 |with_reducible refine fun(bn:Bool) hbn=>?_))
 all_goals ((repeat clear hK);(repeat clear hA);(repeat clear hB))
 all_goals (simp only[JH];rw[Bool.eq_iff_iff];simp only[Bool.and_eq_true,Bool.or_eq_true,Bool.not_eq_true',Bool.false_eq_true,decide_eq_true_eq,decide_eq_false_iff_not,true_and,and_true,true_iff,false_iff,iff_true,iff_false,true_or,or_true,false_or,or_false] at *;omega)
theorem JbL(w_cluster:List UInt8)(w_w:Int):CallR Tryz.prog 192 [.agg [.str w_cluster,.int .i64 w_w]] (.val (.bool (!JH w_w 100))):=by
 refine QD (T:=T) Tryz.call192 Tryz.func192 rfl Tryz.ntmps192 (congrArg Array.toList Tryz.results192) (by decide) fun ts hn h0=>?_
 (repeat' (first
 | (with_reducible first|refine callX.by (Ja8 _ _) ?_|assumption|(refine Qw hK _ ?_;clear hK K)|refine Qw ‹_› _ ?_|refine Qx ‹_› ?_|refine Qi fun K hK=>?_|refine Qj T fun K hK=>?_|refine Ql fun A B hA hB=>?_|refine Qn ?_|refine Qr ?_)
 | ((with_reducible first|apply Qy|apply Qz|apply QA)<;>intro hb<;>try simp only[nr] at hb)
 |simp only[go_sem,↓reduceIte,reduceIte,Qa,Qh,Qb,Qc,Qd,Qe,Qf,Qg,reduceCtorEq, *]
 |with_reducible refine fun(bn:Bool) hbn=>?_))
theorem Jh1(w_cluster:List UInt8)(w_w:Int):CallR Tryz.prog 223 [.agg [.str w_cluster,.int .i64 w_w]] (.val (.bool (!JL w_cluster))):=by
 refine QD (T:=T) Tryz.call223 Tryz.func223 rfl Tryz.ntmps223 (congrArg Array.toList Tryz.results223) (by decide) fun ts hn h0=>?_
 (repeat' (first
 | (with_reducible first|refine callX.by (Jdk _) ?_|assumption|(refine Qw hK _ ?_;clear hK K)|refine Qw ‹_› _ ?_|refine Qx ‹_› ?_|refine Qi fun K hK=>?_|refine Qj T fun K hK=>?_|refine Ql fun A B hA hB=>?_|refine Qn ?_|refine Qr ?_)
 | ((with_reducible first|apply Qy|apply Qz|apply QA)<;>intro hb<;>try simp only[nr] at hb)
 |simp only[go_sem,↓reduceIte,reduceIte,Qa,Qh,Qb,Qc,Qd,Qe,Qf,Qg,reduceCtorEq, *]
 |with_reducible refine fun(bn:Bool) hbn=>?_))
theorem JiC(w_cluster:List UInt8)(w_w:Int):CallR Tryz.prog 224 [.agg [.str w_cluster,.int .i64 w_w]] (.val (.bool (decide (0<w_w)))):=by
 refine QD (T:=T) Tryz.call224 Tryz.func224 rfl Tryz.ntmps224 (congrArg Array.toList Tryz.results224) (by decide) fun ts hn h0=>?_
 (repeat' (first
 | (with_reducible first|assumption|(refine Qw hK _ ?_;clear hK K)|refine Qw ‹_› _ ?_|refine Qx ‹_› ?_|refine Qi fun K hK=>?_|refine Qj T fun K hK=>?_|refine Ql fun A B hA hB=>?_|refine Qn ?_|refine Qr ?_)
 | ((with_reducible first|apply Qy|apply Qz|apply QA)<;>intro hb<;>try simp only[nr] at hb)
 |simp only[go_sem,↓reduceIte,reduceIte,Qa,Qh,Qb,Qc,Qd,Qe,Qf,Qg,reduceCtorEq, *]
 |with_reducible refine fun(bn:Bool) hbn=>?_))
def Jfq(x:Rule):Bool:=x.split.any fun w=>decide (0<w.w)
theorem JcH(x_host:List UInt8)(x_pfx:List UInt8)(x_split:List Weight)(hl:Jc x_split.length):CallR Tryz.prog 199 [.agg [.str x_host,.str x_pfx,.slice false (Ja x_split)]] (.val (.bool (Jfq (⟨x_host,x_pfx,x_split⟩:Rule)))):=by
 have h:=Zv 224 [] Caps.nil (fun w=>decide (0<w.w)) x_split (fun w _=>JiC w.cluster w.w) hl
 refine QD (T:=T) Tryz.call199 Tryz.func199 rfl Tryz.ntmps199 (congrArg Array.toList Tryz.results199) (by decide) fun ts hn h0=>?_
 (repeat' (first
 | (with_reducible first|refine callX.by (h) ?_|refine callX.by (Zv _ _ ?_ _ _ ?_ ?_) ?_|refine callX.by (JiC _ _) ?_|assumption|(refine Qw hK _ ?_;clear hK K)|refine Qw ‹_› _ ?_|refine Qx ‹_› ?_|refine Qi fun K hK=>?_|refine Qj T fun K hK=>?_|refine Ql fun A B hA hB=>?_|refine Qn ?_|refine Qr ?_)
 | ((with_reducible first|apply Qy|apply Qz|apply QA)<;>intro hb<;>try simp only[nr] at hb)
 |simp only[go_sem,↓reduceIte,reduceIte,Qa,Qh,Qb,Qc,Qd,Qe,Qf,Qg,reduceCtorEq, *,-h]
 |with_reducible refine fun(bn:Bool) hbn=>?_))
 all_goals rfl
def Yx(x:Rule):Bool:=YU x.host && (V6 x.pfx && !(x.split.any fun w=>!JL w.cluster))
theorem Jmb(x_host:List UInt8)(x_pfx:List UInt8)(x_split:List Weight)(hh:Jc x_host.length)(hl:Jc x_split.length):CallR Tryz.prog 197 [.agg [.str x_host,.str x_pfx,.slice false (Ja x_split)]] (.val (.bool (Yx (⟨x_host,x_pfx,x_split⟩:Rule)))):=by
 have h:=Zv 223 [] Caps.nil (fun w=>!JL w.cluster) x_split (fun w _=>Jh1 w.cluster w.w) hl
 refine QD (T:=T) Tryz.call197 Tryz.func197 rfl Tryz.ntmps197 (congrArg Array.toList Tryz.results197) (by decide) fun ts hn h0=>?_
 (repeat' (first
 | (with_reducible first|refine callX.by (h) ?_|refine callX.by (Jj9 _ ?_) ?_|refine callX.by (Jlz _) ?_|refine callX.by (Zv _ _ ?_ _ _ ?_ ?_) ?_|refine callX.by (Jh1 _ _) ?_|assumption|(refine Qw hK _ ?_;clear hK K)|refine Qw ‹_› _ ?_|refine Qx ‹_› ?_|refine Qi fun K hK=>?_|refine Qj T fun K hK=>?_|refine Ql fun A B hA hB=>?_|refine Qn ?_|refine Qr ?_)
 | ((with_reducible first|apply Qy|apply Qz|apply QA)<;>intro hb<;>try simp only[nr] at hb)
 |simp only[go_sem,↓reduceIte,reduceIte,Qa,Qh,Qb,Qc,Qd,Qe,Qf,Qg,reduceCtorEq, *,-h]
 |with_reducible refine fun(bn:Bool) hbn=>?_))
 all_goals ((repeat clear hK);(repeat clear hA);(repeat clear hB))
 all_goals (clear h;simp_all[Yx])
theorem Jg3(x_host:List UInt8)(x_pfx:List UInt8)(x_split:List Weight)(hh:Jc x_host.length)(hl:Jc x_split.length):CallR Tryz.prog 196 [.agg [.str x_host,.str x_pfx,.slice false (Ja x_split)]] (.val (.bool (!Yx (⟨x_host,x_pfx,x_split⟩:Rule)))):=by
 refine QD (T:=T) Tryz.call196 Tryz.func196 rfl Tryz.ntmps196 (congrArg Array.toList Tryz.results196) (by decide) fun ts hn h0=>?_
 (repeat' (first
 | (with_reducible first|refine callX.by (Jmb _ _ _ ?_ ?_) ?_|assumption|(refine Qw hK _ ?_;clear hK K)|refine Qw ‹_› _ ?_|refine Qx ‹_› ?_|refine Qi fun K hK=>?_|refine Qj T fun K hK=>?_|refine Ql fun A B hA hB=>?_|refine Qn ?_|refine Qr ?_)
 | ((with_reducible first|apply Qy|apply Qz|apply QA)<;>intro hb<;>try simp only[nr] at hb)
 |simp only[go_sem,↓reduceIte,reduceIte,Qa,Qh,Qb,Qc,Qd,Qe,Qf,Qg,reduceCtorEq, *]
 |with_reducible refine fun(bn:Bool) hbn=>?_))
theorem JgW(k:Int):CallR Tryz.prog 194 [.int .i64 k] (.val (.agg [.bool (decide (k=0)),.bool (decide (k=0) || decide (k=2)),.bool (decide (k=1)),.bool (decide (k=3))])):=by
 refine QD (T:=T) Tryz.call194 Tryz.func194 rfl Tryz.ntmps194 (congrArg Array.toList Tryz.results194) (by decide) fun ts hn h0=>?_
 (repeat' (first
 | (with_reducible first|assumption|(refine Qw hK _ ?_;clear hK K)|refine Qw ‹_› _ ?_|refine Qx ‹_› ?_|refine Qi fun K hK=>?_|refine Qj T fun K hK=>?_|refine Ql fun A B hA hB=>?_|refine Qn ?_|refine Qr ?_)
 | ((with_reducible first|apply Qy|apply Qz|apply QA)<;>intro hb<;>try simp only[nr] at hb)
 |simp only[go_sem,↓reduceIte,reduceIte,Qa,Qh,Qb,Qc,Qd,Qe,Qf,Qg,reduceCtorEq, *]
 |with_reducible refine fun(bn:Bool) hbn=>?_))
 all_goals ((repeat clear hK);(repeat clear hA);(repeat clear hB))
 all_goals simp_all
def Zi(r:Res):Bool:=!((decide (r.kind=0) || decide (r.kind=2)) && !JL r.to') && !(r.rules'.any fun x=>!Yx x)
theorem Jk6(r_kind:Int)(r_name:List UInt8)(r_ver:Int)(r_port:Int)(r_to:List UInt8)(r_rules:List Rule)(r_hosts:List Int)(hl:Jc r_rules.length)(hs:∀x∈r_rules,VB x):CallR Tryz.prog 158 [.agg [.int .i64 r_kind,.str r_name,.int .i64 r_ver,.int .i64 r_port,.str r_to,.slice false (Ja r_rules),.slice false (Ja r_hosts)]] (.val (.bool (Zi (⟨r_kind,r_name,r_ver,r_port,r_to,r_rules,r_hosts⟩:Res)))):=by
 have h:=Jam 196 [] Caps.nil (fun x=>!Yx x) r_rules (fun x hx=>Jg3 x.host x.pfx x.split (hs x hx).1 (hs x hx).2.2.1) hl
 refine QD (T:=T) Tryz.call158 Tryz.func158 rfl Tryz.ntmps158 (congrArg Array.toList Tryz.results158) (by decide) fun ts hn h0=>?_
 (repeat' (first
 | (with_reducible first|refine callX.by (h) ?_|refine callX.by (JgW _) ?_|refine callX.by (Jdk _) ?_|refine callX.by (Jam _ _ ?_ _ _ ?_ ?_) ?_|refine callX.by (Jg3 _ _ _ ?_ ?_) ?_|assumption|(refine Qw hK _ ?_;clear hK K)|refine Qw ‹_› _ ?_|refine Qx ‹_› ?_|refine Qi fun K hK=>?_|refine Qj T fun K hK=>?_|refine Ql fun A B hA hB=>?_|refine Qn ?_|refine Qr ?_)
 | ((with_reducible first|apply Qy|apply Qz|apply QA)<;>intro hb<;>try simp only[nr] at hb)
 |simp only[go_sem,↓reduceIte,reduceIte,Qa,Qh,Qb,Qc,Qd,Qe,Qf,Qg,reduceCtorEq, *,-h]
 |with_reducible refine fun(bn:Bool) hbn=>?_))
 all_goals ((repeat clear hK);(repeat clear hA);(repeat clear hB))
 all_goals (clear h hs;simp_all[Zi])
 all_goals (intros;omega)
end Go.Proofs.YtmjkjmoeicnbnaaGreatDoor.Lg
