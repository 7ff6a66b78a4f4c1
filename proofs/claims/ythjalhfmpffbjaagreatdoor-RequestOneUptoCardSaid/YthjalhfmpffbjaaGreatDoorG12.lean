/- Parts of the proof, one behind the other. -/
import Derived.Shelf.SlGeneric
import Derived.Shelf.SlSortCmp.NoneTotal
import Derived.Ground.SlsfProg
import Derived.Test.YthjalhfmpffbjaaGreatDoorProg
import Derived.Test.YthjalhfmpffbjaaGreatDoorG11
namespace Go.Proofs.YthjalhfmpffbjaaGreatDoor.Lg
set_option maxRecDepth 100000
set_option maxHeartbeats 64000000
set_option linter.unusedVariables false
set_option linter.unusedSimpArgs false
open Go
open Nat renaming reduceEqDiff → Qa, reduceLT → Qb, reduceLeDiff → Qc, reduceAdd → Qd, reduceMul → Qe, reduceSub → Qf, reduceBEq → Qg
open String renaming reduceEq → Qh
open SpecC renaming seqW → Qi, regW → Qj, condW → Ql, block → Qm, skip → Qn, exit → Qp, ret → Qr, loopF → Qs
open NxK renaming out → Qw
open Nx renaming out → Qx
open condK renaming split → Qy
open gK renaming split_t → Qz, split_f → QA
open List renaming getElem_mem → QC
theorem JmJ(a b c d e f g h:Bool):CallR Tryz.prog 225 [.agg [.bool a,.bool b,.bool c,.bool d],.agg [.bool e,.bool f,.bool g,.bool h]] (.val (.agg [.bool (a && e),.bool (b && f),.bool (c && g),.bool (d && h)])):=by
 cases a<;>cases b<;>cases c<;>cases d
 all_goals
  refine Jm Tryz.call225 Tryz.func225 rfl Tryz.ntmps225 Tryz.results225 fun ts hn h0 h1=>?_
  (repeat' (first
 | (with_reducible first|assumption|(refine Qw hK _ ?_;clear hK K)|refine Qw ‹_› _ ?_|refine Qx ‹_› ?_|refine Qi fun K hK=>?_|refine Qj T fun K hK=>?_|refine Ql fun A B hA hB=>?_|refine Qn ?_|refine Qr ?_)
 |(with_reducible first|apply Qy|apply Qz|apply QA)<;>intro hb<;>try simp only[nr] at hb
 |simp only[go_sem,↓reduceIte,Qa,Qh,Qb,Qc,Qd,Qe,Qf,Qg,reduceCtorEq, *]
 |intro(bn:Bool) hbn))
theorem bx1(a b:Bool):decide ((!a && b)=!a)=(a || b):=by cases a<;>cases b<;>rfl
theorem bx2(p b:Bool):decide ((p && b)=p)=(!p || b):=by cases p<;>cases b<;>rfl
theorem bx3(n:Nat):(!decide ((0:Int)<(n:Int)))=decide (n=0):=by
 rw[Bool.eq_iff_iff];simp only[Bool.not_eq_true',decide_eq_false_iff_not,decide_eq_true_eq];omega
def JgG(r:Res):Bool:=(decide (r.port=0) || decide (r.kind=0)) && ((decide (r.to'=[]) || (decide (r.kind=0) || decide (r.kind=2))) && ((decide (r.rules'.length=0) || decide (r.kind=1)) && (decide (r.hosts.length=0) || decide (r.kind=3))))
theorem JqB(Ln:Int)(Lp:List UInt8)(Lx Lq:Int)(LA:List UInt8)(r_rules:List Rule)(r_hosts:List Int):CallR Tryz.prog 195 [.agg [.int .i64 Ln,.str Lp,.int .i64 Lx,.int .i64 Lq,.str LA,.slice false (Ja r_rules),.slice false (Ja r_hosts)]] (.val (.bool (JgG (⟨Ln,Lp,Lx,Lq,LA,r_rules,r_hosts⟩:Res)))):=by
 refine Jl Tryz.call195 Tryz.func195 rfl Tryz.ntmps195 Tryz.results195 fun ts hn h0=>?_
 (repeat' (first
 | (with_reducible first|refine callX.by (JiM _) ?_|refine callX.by (JmJ _ _ _ _ _ _ _ _) ?_|assumption|(refine Qw hK _ ?_;clear hK K)|refine Qw ‹_› _ ?_|refine Qx ‹_› ?_|refine Qi fun K hK=>?_|refine Qj T fun K hK=>?_|refine SpecC.drawW (id:=2) T mixed [([19],[20,21,22,24]),([20],[19,23,24]),([21],[19,24]),([22],[19,24]),([23],[20,24]),([24],[19,20,21,22,23])] (by kernel_rfl) fun K hK=>?_|refine Ql fun A B hA hB=>?_|refine Qn ?_|refine Qr ?_)
 |(with_reducible first|apply Qy|apply Qz|apply QA)<;>intro hb<;>try simp only[nr] at hb
 |simp only[go_sem,↓reduceIte,Qa,Qh,Qb,Qc,Qd,Qe,Qf,Qg,reduceCtorEq, *]
 |intro(bn:Bool) hbn))
 all_goals ((repeat clear hK);(repeat clear hA);(repeat clear hB))
 all_goals simp only[bx1,bx2,bx3,JgG,Bool.not_not]
def JbF(x:Rule):Bool:=decide (x.split.length≤4) && !(x.split.any fun w=>!ZD w.w 100)
def ZB(r:Res):Bool:=ZD r.ver 2147483647 && (ZD r.port 65535 && (decide (r.rules'.length≤8) && (decide (r.hosts.length≤8) && (r.hosts.all (fun h=>ZD h 2147483647) && r.rules'.all JbF))))
theorem JqO(Ln:Int)(Lp:List UInt8)(Lx Lq:Int)(LA:List UInt8)(r_rules:List Rule)(r_hosts:List Int)(hl:Jc r_rules.length)(hh:Jc r_hosts.length)(hs:∀x∈r_rules,Yh x):CallR Tryz.prog 194 [.agg [.int .i64 Ln,.str Lp,.int .i64 Lx,.int .i64 Lq,.str LA,.slice false (Ja r_rules),.slice false (Ja r_hosts)]] (.val (.bool (ZB (⟨Ln,Lp,Lx,Lq,LA,r_rules,r_hosts⟩:Res)))):=by
 refine Jl Tryz.call194 Tryz.func194 rfl Tryz.ntmps194 Tryz.results194 fun ts hn h0=>?_
 (repeat' (first
 | (with_reducible first|refine callX.by (JcF _ _) ?_|refine callX.by (Jau _ _ ?_ _ _ ?_ ?_) ?_|refine callX.by (JdE _ _) ?_|assumption|(refine Qw hK _ ?_;clear hK K)|refine Qw ‹_› _ ?_|refine Qx ‹_› ?_|refine Qi fun K hK=>?_|refine Qj T fun K hK=>?_|refine Ql fun A B hA hB=>?_|refine Qm ?_|refine Qn ?_|refine Qp ?_|refine Qr ?_)
 |(with_reducible first|apply Qy|apply Qz|apply QA)<;>intro hb<;>try simp only[nr] at hb
 |simp only[go_sem,↓reduceIte,Qa,Qh,Qb,Qc,Qd,Qe,Qf,Qg,reduceCtorEq, *,-hs]
 |intro(bn:Bool) hbn))
 iterate 4 (focus(all_goals ((repeat clear hK);(repeat clear hA);(repeat clear hB));clear hs;simp_all[ZB];try omega))
 refine Qs [1,30,31] (fun m ts'=>∃(i:Nat),m=r_hosts.length-i∧i≤r_hosts.length∧r_hosts.all (fun h=>ZD h 2147483647)=(r_hosts.drop i).all (fun h=>ZD h 2147483647)∧ts'.tmp 32=.int .i64 i) r_hosts.length ?_ ?_
 ·refine⟨0,?_⟩
  simp only[go_sem,↓reduceIte,Qa,Qh,Qb,Qc,Qd,Qe,Qf,Qg,reduceCtorEq, *,-hs]
 ·rintro m A hM ts' hk ⟨i,hm,f1,f2,s1⟩
  simp only[go_sem,↓reduceIte,Qa,Qh,Qb,Qc,Qd,Qe,Qf,Qg,reduceCtorEq, *] at hk
  by_cases hlt:i<r_hosts.length
  ·rw[List.drop_eq_getElem_cons hlt,List.all_cons] at f2
   (repeat' (first
 | (with_reducible first|refine callX.by (JcF _ _) ?_|refine callX.by (Jau _ _ ?_ _ _ ?_ ?_) ?_|refine callX.by (JdE _ _) ?_|assumption|(refine Qw hK _ ?_;clear hK K)|refine Qw ‹_› _ ?_|refine Qx ‹_› ?_|refine Qi fun K hK=>?_|refine Qj T fun K hK=>?_|refine Ql fun A B hA hB=>?_|refine Qm ?_|refine Qn ?_|refine Qp ?_|refine Qr ?_)
 |(with_reducible first|apply Qy|apply Qz|apply QA)<;>intro hb<;>try simp only[nr] at hb
 |simp only[go_sem,↓reduceIte,Qa,Qh,Qb,Qc,Qd,Qe,Qf,Qg,reduceCtorEq, *,-hs,-f2]
 |intro(bn:Bool) hbn))
   all_goals ((repeat clear hK);(repeat clear hA);(repeat clear hB))
   ·clear hM hs;simp_all[ZB]
    intro hall
    obtain⟨x,hx,e⟩:=f2
    rw[hall x hx] at e;cases e
   ·(refine hM.on (r_hosts.length-(i+1)) (by omega) (by simp only[go_sem,↓reduceIte,Qa,Qh,Qb,Qc,Qd,Qe,Qf,Qg,reduceCtorEq, *,Jh hlt hh,-hs,-f2]) ⟨i+1,rfl,by omega,by rw[f2,hb];simp,?_⟩;simp only[go_sem,↓reduceIte,Qa,Qh,Qb,Qc,Qd,Qe,Qf,Qg,reduceCtorEq, *,Jh hlt hh,-hs,-f2];done)
  ·rw[List.drop_eq_nil_of_le (by omega),List.all_nil] at f2
   have hhost:=f2
   clear f2 f1 hM
   (repeat' (first
 | (with_reducible first|refine callX.by (JcF _ _) ?_|refine callX.by (Jau _ _ ?_ _ _ ?_ ?_) ?_|refine callX.by (JdE _ _) ?_|assumption|(refine Qw hK _ ?_;clear hK K)|refine Qw ‹_› _ ?_|refine Qx ‹_› ?_|refine Qi fun K hK=>?_|refine Qj T fun K hK=>?_|refine Ql fun A B hA hB=>?_|refine Qm ?_|refine Qn ?_|refine Qp ?_|refine Qr ?_)
 |(with_reducible first|apply Qy|apply Qz|apply QA)<;>intro hb<;>try simp only[nr] at hb
 |simp only[go_sem,↓reduceIte,Qa,Qh,Qb,Qc,Qd,Qe,Qf,Qg,reduceCtorEq, *,-hs,-hhost]
 |intro(bn:Bool) hbn))
   refine Qs [41,42] (fun m ts'=>∃(i:Nat),m=r_rules.length-i∧i≤r_rules.length∧r_rules.all JbF=(r_rules.drop i).all JbF∧ts'.tmp 43=.int .i64 i) r_rules.length ?_ ?_
   ·refine⟨0,?_⟩
    simp only[go_sem,↓reduceIte,Qa,Qh,Qb,Qc,Qd,Qe,Qf,Qg,reduceCtorEq, *,-hs,-hhost]
   ·rintro m A hM ts' hk ⟨i,hm,f1,f2,s1⟩
    simp only[go_sem,↓reduceIte,Qa,Qh,Qb,Qc,Qd,Qe,Qf,Qg,reduceCtorEq, *] at hk
    by_cases hlt:i<r_rules.length
    ·rw[List.drop_eq_getElem_cons hlt,List.all_cons] at f2
     have hsi:=hs _ (QC hlt)
     have h:=Jau 224 [] Caps.nil (fun w=>!ZD w.w 100) r_rules[i].split (fun w _=>JdE w.cluster w.w) hsi.2.2.1
     (repeat' (first
 | (with_reducible first|refine callX.by (h) ?_|assumption|(refine Qw hK _ ?_;clear hK K)|refine Qw ‹_› _ ?_|refine Qx ‹_› ?_|refine Qi fun K hK=>?_|refine Qj T fun K hK=>?_|refine Ql fun A B hA hB=>?_|refine Qm ?_|refine Qn ?_|refine Qp ?_|refine Qr ?_)
 |(with_reducible first|apply Qy|apply Qz|apply QA)<;>intro hb<;>try simp only[nr] at hb
 |simp only[go_sem,↓reduceIte,Qa,Qh,Qb,Qc,Qd,Qe,Qf,Qg,reduceCtorEq, *,-hs,-hhost,-f2,-hsi,-h]
 |intro(bn:Bool) hbn))
     all_goals ((repeat clear hK);(repeat clear hA);(repeat clear hB))
     all_goals first
      | (refine hM.on (r_rules.length-(i+1)) (by omega) (by simp only[go_sem,↓reduceIte,Qa,Qh,Qb,Qc,Qd,Qe,Qf,Qg,reduceCtorEq, *,Jh hlt hl,-hs,-hhost,-f2,-hsi,-h]) ⟨i+1,rfl,by omega,by clear h hM hs hsi;rw[f2];simp_all[JbF],?_⟩;simp only[go_sem,↓reduceIte,Qa,Qh,Qb,Qc,Qd,Qe,Qf,Qg,reduceCtorEq, *,Jh hlt hl,-hs,-hhost,-f2,-hsi,-h];done)
      | (clear h hM hs hsi;simp_all[ZB,JbF];done)
      | (clear h hM hs hsi;simp_all[ZB,JbF];intros;omega)
      |trace_state
    ·rw[List.drop_eq_nil_of_le (by omega),List.all_nil] at f2
     (repeat' (first
 | (with_reducible first|refine callX.by (JcF _ _) ?_|refine callX.by (Jau _ _ ?_ _ _ ?_ ?_) ?_|refine callX.by (JdE _ _) ?_|assumption|(refine Qw hK _ ?_;clear hK K)|refine Qw ‹_› _ ?_|refine Qx ‹_› ?_|refine Qi fun K hK=>?_|refine Qj T fun K hK=>?_|refine Ql fun A B hA hB=>?_|refine Qm ?_|refine Qn ?_|refine Qp ?_|refine Qr ?_)
 |(with_reducible first|apply Qy|apply Qz|apply QA)<;>intro hb<;>try simp only[nr] at hb
 |simp only[go_sem,↓reduceIte,Qa,Qh,Qb,Qc,Qd,Qe,Qf,Qg,reduceCtorEq, *,-hs,-hhost,-f2]
 |intro(bn:Bool) hbn))
     all_goals ((repeat clear hK);(repeat clear hA);(repeat clear hB))
     all_goals (clear hM hs;simp_all[ZB];try omega)
theorem Jof(xs:List Int)(v:Int)(hl:Jc xs.length):CallR Tryz.prog 93 [.slice false (Ja xs),.int .i64 v] (.val (.int .i64 (JC (fun y=>decide (v=y)) xs 0))):=by
 refine Jm Tryz.call93 Tryz.func93 rfl Tryz.ntmps93 Tryz.results93 fun ts hn h0 h1=>?_
 (repeat' (first
 | (with_reducible first|assumption|(refine Qw hK _ ?_;clear hK K)|refine Qw ‹_› _ ?_|refine Qx ‹_› ?_|refine Qi fun K hK=>?_|refine Qj T fun K hK=>?_|refine Ql fun A B hA hB=>?_|refine Qm ?_|refine Qn ?_|refine Qp ?_|refine Qr ?_)
 |(with_reducible first|apply Qy|apply Qz|apply QA)<;>intro hb<;>try simp only[nr] at hb
 |simp only[go_sem,↓reduceIte,Qa,Qh,Qb,Qc,Qd,Qe,Qf,Qg,reduceCtorEq, *]
 |intro(bn:Bool) hbn))
 refine Qs [0,1,7] (fun m ts'=>∃(i:Nat),m=xs.length-i∧i≤xs.length∧JC (fun y=>decide (v=y)) xs 0=JC (fun y=>decide (v=y)) (xs.drop i) i∧ts'.tmp 8=.int .i64 i) xs.length ?_ ?_
 ·refine⟨0,?_⟩
  simp only[go_sem,↓reduceIte,Qa,Qh,Qb,Qc,Qd,Qe,Qf,Qg,reduceCtorEq, *]
 ·rintro m A hM ts' hk ⟨i,hm,f1,f2,s1⟩
  simp only[go_sem,↓reduceIte,Qa,Qh,Qb,Qc,Qd,Qe,Qf,Qg,reduceCtorEq, *] at hk
  by_cases hlt:i<xs.length
  ·rw[List.drop_eq_getElem_cons hlt,JC] at f2
   (repeat' (first
 | (with_reducible first|assumption|(refine Qw hK _ ?_;clear hK K)|refine Qw ‹_› _ ?_|refine Qx ‹_› ?_|refine Qi fun K hK=>?_|refine Qj T fun K hK=>?_|refine Ql fun A B hA hB=>?_|refine Qm ?_|refine Qn ?_|refine Qp ?_|refine Qr ?_)
 |(with_reducible first|apply Qy|apply Qz|apply QA)<;>intro hb<;>try simp only[nr] at hb
 |simp only[go_sem,↓reduceIte,Qa,Qh,Qb,Qc,Qd,Qe,Qf,Qg,reduceCtorEq, *]
 |intro(bn:Bool) hbn))
   all_goals ((repeat clear hK);(repeat clear hA);(repeat clear hB))
   rw[if_neg (by simpa using hb)] at f2
   (refine hM.on (xs.length-(i+1)) (by omega) (by simp only[go_sem,↓reduceIte,Qa,Qh,Qb,Qc,Qd,Qe,Qf,Qg,reduceCtorEq, *,Jh hlt hl,-f2]) ⟨i+1,rfl,by omega,f2,?_⟩;simp only[go_sem,↓reduceIte,Qa,Qh,Qb,Qc,Qd,Qe,Qf,Qg,reduceCtorEq, *,Jh hlt hl,-f2];done)
  ·rw[List.drop_eq_nil_of_le (by omega),JC] at f2
   (repeat' (first
 | (with_reducible first|assumption|(refine Qw hK _ ?_;clear hK K)|refine Qw ‹_› _ ?_|refine Qx ‹_› ?_|refine Qi fun K hK=>?_|refine Qj T fun K hK=>?_|refine Ql fun A B hA hB=>?_|refine Qm ?_|refine Qn ?_|refine Qp ?_|refine Qr ?_)
 |(with_reducible first|apply Qy|apply Qz|apply QA)<;>intro hb<;>try simp only[nr] at hb
 |simp only[go_sem,↓reduceIte,Qa,Qh,Qb,Qc,Qd,Qe,Qf,Qg,reduceCtorEq, *]
 |intro(bn:Bool) hbn))
theorem ZI(xs:List Int)(v:Int)(hl:Jc xs.length):CallR Tryz.prog 62 [.slice false (Ja xs),.int .i64 v] (.val (.bool (xs.any fun y=>decide (v=y)))):=by
 have ha:=Jbf (fun y=>decide (v=y)) xs
 refine Jm Tryz.call62 Tryz.func62 rfl Tryz.ntmps62 Tryz.results62 fun ts hn h0 h1=>?_
 (repeat' (first
 | (with_reducible first|refine callX.by (Jof _ _ ?_) ?_|assumption|(refine Qw hK _ ?_;clear hK K)|refine Qw ‹_› _ ?_|refine Qx ‹_› ?_|refine Qi fun K hK=>?_|refine Qj T fun K hK=>?_|refine Ql fun A B hA hB=>?_|refine Qn ?_|refine Qr ?_)
 |(with_reducible first|apply Qy|apply Qz|apply QA)<;>intro hb<;>try simp only[nr] at hb
 |simp only[go_sem,↓reduceIte,Qa,Qh,Qb,Qc,Qd,Qe,Qf,Qg,reduceCtorEq, *]
 |intro(bn:Bool) hbn))
theorem JqG(h p:List UInt8)(sp:List Weight)(LR LW:List UInt8)(LL:List Weight):CallR Tryz.prog 230 [.agg [.str LR,.str LW,.slice false (Ja LL)],.ro [.str h,.str p,.slice false (Ja sp)]] (.val (.bool (decide (h=LR) && decide (p=LW)))):=by
 refine Jm Tryz.call230 Tryz.func230 rfl Tryz.ntmps230 Tryz.results230 fun ts hn h0 h1=>?_
 (repeat' (first
 | (with_reducible first|assumption|(refine Qw hK _ ?_;clear hK K)|refine Qw ‹_› _ ?_|refine Qx ‹_› ?_|refine Qi fun K hK=>?_|refine Qj T fun K hK=>?_|refine Ql fun A B hA hB=>?_|refine Qn ?_|refine Qr ?_)
 |(with_reducible first|apply Qy|apply Qz|apply QA)<;>intro hb<;>try simp only[nr] at hb
 |simp only[go_sem,↓reduceIte,Qa,Qh,Qb,Qc,Qd,Qe,Qf,Qg,reduceCtorEq, *]
 |intro(bn:Bool) hbn))
 all_goals ((repeat clear hK);(repeat clear hA);(repeat clear hB))
 all_goals simp_all
def JhS(x y:Rule):Bool:=decide (x.host=y.host) && decide (x.pfx=y.pfx)
def Jcy:List Rule→List Rule→Bool
 |_,[]=>true
 |p,x :: r=>Jmp x && (!(p.any (JhS x)) && Jcy (p++[x]) r)
def Jcx:List Int→List Int→Bool
 |_,[]=>true
 |p,h :: r=>!(p.any fun y=>decide (h=y)) && Jcx (p++[h]) r
def JdA(r:Res):Bool:=Jcy [] r.rules' && Jcx [] r.hosts
theorem Jkt{α:Type}{l:List α}{i:Nat}(h:i<l.length):l.take i++[l[i]]=l.take (i+1):=(List.take_succ_eq_append_getElem h).symm
theorem Jni(h p:List UInt8)(sp:List Weight):Caps [.ro [.str h,.str p,.slice false (Ja sp)]]:=⟨by simp only[go_sem,Bool.and_self],by simp only[go_sem]⟩
theorem JqH(Ln:Int)(Lp:List UInt8)(Lx Lq:Int)(LA:List UInt8)(r_rules:List Rule)(r_hosts:List Int)(hl:Jc r_rules.length)(hh:Jc r_hosts.length)(hs:∀x∈r_rules,Yh x):CallR Tryz.prog 197 [.agg [.int .i64 Ln,.str Lp,.int .i64 Lx,.int .i64 Lq,.str LA,.slice false (Ja r_rules),.slice false (Ja r_hosts)]] (.val (.bool (JdA (⟨Ln,Lp,Lx,Lq,LA,r_rules,r_hosts⟩:Res)))):=by
 refine Jl Tryz.call197 Tryz.func197 rfl Tryz.ntmps197 Tryz.results197 fun ts hn h0=>?_
 (repeat' (first
 | (with_reducible first|refine callX.by (JdI _ _ _ ?_) ?_|refine callX.by (Jat _ _ ?_ _ _ ?_ ?_) ?_|refine callX.by (ZI _ _ ?_) ?_|assumption|(refine Qw hK _ ?_;clear hK K)|refine Qw ‹_› _ ?_|refine Qx ‹_› ?_|refine Qi fun K hK=>?_|refine Qj T fun K hK=>?_|refine Ql fun A B hA hB=>?_|refine Qm ?_|refine Qn ?_|refine Qp ?_|refine Qr ?_)
 |(with_reducible first|apply Qy|apply Qz|apply QA)<;>intro hb<;>try simp only[nr] at hb
 |simp only[go_sem,↓reduceIte,Qa,Qh,Qb,Qc,Qd,Qe,Qf,Qg,reduceCtorEq, *,-hs]
 |intro(bn:Bool) hbn))
 refine Qs [1,9,10] (fun m ts'=>∃(i:Nat),m=r_rules.length-i∧i≤r_rules.length∧Jcy [] r_rules=Jcy (r_rules.take i) (r_rules.drop i)∧ts'.tmp 11=.int .i64 i) r_rules.length ?_ ?_
 ·refine⟨0,?_⟩
  simp only[go_sem,↓reduceIte,Qa,Qh,Qb,Qc,Qd,Qe,Qf,Qg,reduceCtorEq, *,-hs]
 ·rintro m A hM ts' hk ⟨i,hm,f1,f2,s1⟩
  simp only[go_sem,↓reduceIte,Qa,Qh,Qb,Qc,Qd,Qe,Qf,Qg,reduceCtorEq, *] at hk
  by_cases hlt:i<r_rules.length
  ·rw[List.drop_eq_getElem_cons hlt,Jcy] at f2
   have hsi:=hs _ (QC hlt)
   have hsl:=hsi.2.2.1
   have hti:Jc (r_rules.take i).length:=by unfold Jc at *;rw[List.length_take];omega
   have h:=Jat 230 [.ro [.str r_rules[i].host,.str r_rules[i].pfx,.slice false (Ja r_rules[i].split)]] (Jni _ _ _) (JhS r_rules[i]) (r_rules.take i) (fun y _=>JqG _ _ _ y.host y.pfx y.split) hti
   (repeat' (first
 | (with_reducible first|refine callX.by (h) ?_|refine callX.by (JdI _ _ _ ?_) ?_|refine callX.by (Jat _ _ ?_ _ _ ?_ ?_) ?_|refine callX.by (ZI _ _ ?_) ?_|assumption|(refine Qw hK _ ?_;clear hK K)|refine Qw ‹_› _ ?_|refine Qx ‹_› ?_|refine Qi fun K hK=>?_|refine Qj T fun K hK=>?_|refine Ql fun A B hA hB=>?_|refine Qm ?_|refine Qn ?_|refine Qp ?_|refine Qr ?_)
 |(with_reducible first|apply Qy|apply Qz|apply QA)<;>intro hb<;>try simp only[nr] at hb
 |simp only[go_sem,↓reduceIte,Qa,Qh,Qb,Qc,Qd,Qe,Qf,Qg,reduceCtorEq, *,-hs,-f2,-hsi,-h,Int.le_refl,Int.toNat_zero]
 |intro(bn:Bool) hbn))
   all_goals ((repeat clear hK);(repeat clear hA);(repeat clear hB))
   all_goals first
    | (refine hM.on (r_rules.length-(i+1)) (by omega) (by simp only[go_sem,↓reduceIte,Qa,Qh,Qb,Qc,Qd,Qe,Qf,Qg,reduceCtorEq, *,Jh hlt hl,-hs,-f2,-hsi,-h]) ⟨i+1,rfl,by omega,by clear h hM hs hsi;rw[f2,←Jkt hlt];simp_all,?_⟩;simp only[go_sem,↓reduceIte,Qa,Qh,Qb,Qc,Qd,Qe,Qf,Qg,reduceCtorEq, *,Jh hlt hl,-hs,-f2,-hsi,-h];done)
    | (clear h hM hs hsi;simp_all[JdA];done)
    |trace_state
  ·rw[List.drop_eq_nil_of_le (by omega),Jcy] at f2
   have hr1:=f2
   clear f2 f1 hM
   (repeat' (first
 | (with_reducible first|refine callX.by (JdI _ _ _ ?_) ?_|refine callX.by (Jat _ _ ?_ _ _ ?_ ?_) ?_|refine callX.by (ZI _ _ ?_) ?_|assumption|(refine Qw hK _ ?_;clear hK K)|refine Qw ‹_› _ ?_|refine Qx ‹_› ?_|refine Qi fun K hK=>?_|refine Qj T fun K hK=>?_|refine Ql fun A B hA hB=>?_|refine Qm ?_|refine Qn ?_|refine Qp ?_|refine Qr ?_)
 |(with_reducible first|apply Qy|apply Qz|apply QA)<;>intro hb<;>try simp only[nr] at hb
 |simp only[go_sem,↓reduceIte,Qa,Qh,Qb,Qc,Qd,Qe,Qf,Qg,reduceCtorEq, *,-hs,-hr1]
 |intro(bn:Bool) hbn))
   refine Qs [1,30,31] (fun m ts'=>∃(i:Nat),m=r_hosts.length-i∧i≤r_hosts.length∧Jcx [] r_hosts=Jcx (r_hosts.take i) (r_hosts.drop i)∧ts'.tmp 32=.int .i64 i) r_hosts.length ?_ ?_
   ·refine⟨0,?_⟩
    simp only[go_sem,↓reduceIte,Qa,Qh,Qb,Qc,Qd,Qe,Qf,Qg,reduceCtorEq, *,-hs,-hr1]
   ·rintro m A hM ts' hk ⟨i,hm,f1,f2,s1⟩
    simp only[go_sem,↓reduceIte,Qa,Qh,Qb,Qc,Qd,Qe,Qf,Qg,reduceCtorEq, *] at hk
    by_cases hlt:i<r_hosts.length
    ·rw[List.drop_eq_getElem_cons hlt,Jcx] at f2
     have hti:Jc (r_hosts.take i).length:=by unfold Jc at *;rw[List.length_take];omega
     (repeat' (first
 | (with_reducible first|refine callX.by (JdI _ _ _ ?_) ?_|refine callX.by (Jat _ _ ?_ _ _ ?_ ?_) ?_|refine callX.by (ZI _ _ ?_) ?_|assumption|(refine Qw hK _ ?_;clear hK K)|refine Qw ‹_› _ ?_|refine Qx ‹_› ?_|refine Qi fun K hK=>?_|refine Qj T fun K hK=>?_|refine Ql fun A B hA hB=>?_|refine Qm ?_|refine Qn ?_|refine Qp ?_|refine Qr ?_)
 |(with_reducible first|apply Qy|apply Qz|apply QA)<;>intro hb<;>try simp only[nr] at hb
 |simp only[go_sem,↓reduceIte,Qa,Qh,Qb,Qc,Qd,Qe,Qf,Qg,reduceCtorEq, *,-hs,-f2,-hr1,Int.le_refl,Int.toNat_zero]
 |intro(bn:Bool) hbn))
     all_goals ((repeat clear hK);(repeat clear hA);(repeat clear hB))
     all_goals first
      | (refine hM.on (r_hosts.length-(i+1)) (by omega) (by simp only[go_sem,↓reduceIte,Qa,Qh,Qb,Qc,Qd,Qe,Qf,Qg,reduceCtorEq, *,Jh hlt hh,-hs,-f2,-hr1]) ⟨i+1,rfl,by omega,by clear hM hs;rw[f2,←Jkt hlt];simp_all,?_⟩;simp only[go_sem,↓reduceIte,Qa,Qh,Qb,Qc,Qd,Qe,Qf,Qg,reduceCtorEq, *,Jh hlt hh,-hs,-f2,-hr1];done)
      | (clear hM hs;simp_all[JdA];done)
      |trace_state
    ·rw[List.drop_eq_nil_of_le (by omega),Jcx] at f2
     (repeat' (first
 | (with_reducible first|refine callX.by (JdI _ _ _ ?_) ?_|refine callX.by (Jat _ _ ?_ _ _ ?_ ?_) ?_|refine callX.by (ZI _ _ ?_) ?_|assumption|(refine Qw hK _ ?_;clear hK K)|refine Qw ‹_› _ ?_|refine Qx ‹_› ?_|refine Qi fun K hK=>?_|refine Qj T fun K hK=>?_|refine Ql fun A B hA hB=>?_|refine Qm ?_|refine Qn ?_|refine Qp ?_|refine Qr ?_)
 |(with_reducible first|apply Qy|apply Qz|apply QA)<;>intro hb<;>try simp only[nr] at hb
 |simp only[go_sem,↓reduceIte,Qa,Qh,Qb,Qc,Qd,Qe,Qf,Qg,reduceCtorEq, *,-hs,-f2,-hr1]
 |intro(bn:Bool) hbn))
     all_goals ((repeat clear hK);(repeat clear hA);(repeat clear hB))
     all_goals (clear hM hs;simp_all[JdA])
def V2(r:Res):Int:=if ZD r.kind 3=false then 4 else if Yy r.name=false then 5 else if ZB r=false then 3 else if JgG r=false then 2 else if JfP r=false then 5 else if JdA r=false then 2 else 0
theorem Vz(Ln:Int)(Lp:List UInt8)(Lx Lq:Int)(LA:List UInt8)(r_rules:List Rule)(r_hosts:List Int)(hl:Jc r_rules.length)(hh:Jc r_hosts.length)(hs:∀x∈r_rules,Yh x):CallR Tryz.prog 157 [.agg [.int .i64 Ln,.str Lp,.int .i64 Lx,.int .i64 Lq,.str LA,.slice false (Ja r_rules),.slice false (Ja r_hosts)]] (.val (.int .i64 (V2 (⟨Ln,Lp,Lx,Lq,LA,r_rules,r_hosts⟩:Res)))):=by
 refine Jl Tryz.call157 Tryz.func157 rfl Tryz.ntmps157 Tryz.results157 fun ts hn h0=>?_
 (repeat' (first
 | (with_reducible first|refine callX.by (JcF _ _) ?_|refine callX.by (Jcj _) ?_|refine callX.by (JqO _ _ _ _ _ _ _ ?_ ?_ ?_) ?_|refine callX.by (JqB _ _ _ _ _ _ _) ?_|refine callX.by (Jo0 _ _ _ _ _ _ _ ?_ ?_) ?_|refine callX.by (JqH _ _ _ _ _ _ _ ?_ ?_ ?_) ?_|assumption|(refine Qw hK _ ?_;clear hK K)|refine Qw ‹_› _ ?_|refine Qx ‹_› ?_|refine Qi fun K hK=>?_|refine Qj T fun K hK=>?_|refine Ql fun A B hA hB=>?_|refine Qm ?_|refine Qn ?_|refine Qr ?_)
 |(with_reducible first|apply Qy|apply Qz|apply QA)<;>intro hb<;>try simp only[nr] at hb
 |simp only[go_sem,↓reduceIte,Qa,Qh,Qb,Qc,Qd,Qe,Qf,Qg,reduceCtorEq, *,-hs]
 |intro(bn:Bool) hbn))
 all_goals ((repeat clear hK);(repeat clear hA);(repeat clear hB))
 all_goals first|assumption|(clear hs;simp_all[V2])
def V7(xs:List Res):Bool:=xs.all Jb1 && decide (xs.length≤80)
theorem Jb0(xs:List Res)(hl:Jc xs.length)(hs:∀x∈xs,Jw x):CallR Tryz.prog 63 [.slice false (Ja xs)] (.val (.bool (V7 xs))):=by
 refine Jl Tryz.call63 Tryz.func63 rfl Tryz.ntmps63 Tryz.results63 fun ts hn h0=>?_
 (repeat' (first
 | (with_reducible first|refine callX.by (Jfx _ _ _ _ _ _ _ ?_) ?_|assumption|(refine Qw hK _ ?_;clear hK K)|refine Qw ‹_› _ ?_|refine Qx ‹_› ?_|refine Qi fun K hK=>?_|refine Qj T fun K hK=>?_|refine Ql fun A B hA hB=>?_|refine Qm ?_|refine Qn ?_|refine Qp ?_|refine Qr ?_)
 |(with_reducible first|apply Qy|apply Qz|apply QA)<;>intro hb<;>try simp only[nr] at hb
 |simp only[go_sem,↓reduceIte,Qa,Qh,Qb,Qc,Qd,Qe,Qf,Qg,reduceCtorEq, *]
 |intro(bn:Bool) hbn))
 refine Qs [0] (fun m ts'=>∃(i:Nat),m=xs.length-i∧i≤xs.length∧xs.all Jb1=(xs.drop i).all Jb1∧ts'.tmp 3=.int .i64 i) xs.length ?_ ?_
 ·refine⟨0,?_⟩
  simp only[go_sem,↓reduceIte,Qa,Qh,Qb,Qc,Qd,Qe,Qf,Qg,reduceCtorEq, *]
 ·rintro m A hM ts' hk ⟨i,hm,f1,f2,s1⟩
  simp only[go_sem,↓reduceIte,Qa,Qh,Qb,Qc,Qd,Qe,Qf,Qg,reduceCtorEq, *] at hk
  by_cases hlt:i<xs.length
  ·rw[List.drop_eq_getElem_cons hlt,List.all_cons] at f2
   obtain⟨hs1,hs2,hs3,hs4,hs5⟩:=hs xs[i] (QC hlt)
   (repeat' (first
 | (with_reducible first|refine callX.by (Jfx _ _ _ _ _ _ _ ?_) ?_|assumption|(refine Qw hK _ ?_;clear hK K)|refine Qw ‹_› _ ?_|refine Qx ‹_› ?_|refine Qi fun K hK=>?_|refine Qj T fun K hK=>?_|refine Ql fun A B hA hB=>?_|refine Qm ?_|refine Qn ?_|refine Qp ?_|refine Qr ?_)
 |(with_reducible first|apply Qy|apply Qz|apply QA)<;>intro hb<;>try simp only[nr] at hb
 |simp only[go_sem,↓reduceIte,Qa,Qh,Qb,Qc,Qd,Qe,Qf,Qg,reduceCtorEq, *]
 |intro(bn:Bool) hbn))
   all_goals ((repeat clear hK);(repeat clear hA);(repeat clear hB))
   all_goals clear hs hs4
   all_goals first
    | (refine hM.on (xs.length-(i+1)) (by omega) (by simp only[go_sem,↓reduceIte,Qa,Qh,Qb,Qc,Qd,Qe,Qf,Qg,reduceCtorEq, *,Jh hlt hl,-f2]) ⟨i+1,rfl,by omega,by clear hM;grind,?_⟩;simp only[go_sem,↓reduceIte,Qa,Qh,Qb,Qc,Qd,Qe,Qf,Qg,reduceCtorEq, *,Jh hlt hl,-f2];done)
    | (clear hM;grind [V7])
  ·rw[List.drop_eq_nil_of_le (by omega),List.all_nil] at f2
   (repeat' (first
 | (with_reducible first|refine callX.by (Jfx _ _ _ _ _ _ _ ?_) ?_|assumption|(refine Qw hK _ ?_;clear hK K)|refine Qw ‹_› _ ?_|refine Qx ‹_› ?_|refine Qi fun K hK=>?_|refine Qj T fun K hK=>?_|refine Ql fun A B hA hB=>?_|refine Qm ?_|refine Qn ?_|refine Qp ?_|refine Qr ?_)
 |(with_reducible first|apply Qy|apply Qz|apply QA)<;>intro hb<;>try simp only[nr] at hb
 |simp only[go_sem,↓reduceIte,Qa,Qh,Qb,Qc,Qd,Qe,Qf,Qg,reduceCtorEq, *]
 |intro(bn:Bool) hbn))
   all_goals ((repeat clear hK);(repeat clear hA);(repeat clear hB))
   all_goals (clear hM hs;grind [V7])
def Vb(p:Pins):Pins:=if Jct p then p else ⟨0,[]⟩
def Zz(p:Pins)(i:Nat)(s:Snap):Pins:=⟨p.next',p.snaps.take i++(if 0<s.pins∨i+1=p.snaps.length then [s] else [])++p.snaps.drop (i+1)⟩
def JeO(p:Pins)(l:List Res):Pins×Int×Int :=
 let q:=Vb p
 if q.next'=2147483647 then (q,0,14) else
  let s:=q.snaps.filter fun x=>decide (0<x.pins)
  if 1000≤s.length then (q,0,8) else
   (⟨IntKind.i64.wrap (q.next'+1),s++[⟨IntKind.i64.wrap (q.next'+1),0,l⟩]⟩,IntKind.i64.wrap (q.next'+1),0)
def Jby(p:Pins)(id:Int):List Res×Bool :=
 match (Vb p).snaps.find? fun x=>decide (x.id=id) with
 |none=>([],false)
 |some s=>(s.l,true)
def JeN(p:Pins):Pins×Int×Int :=
 let q:=Vb p
 match q.snaps.getLast? with
 |none=>(q,0,10)
 |some s=>if s.pins=10000 then (q,0,14) else (Zz q (q.snaps.length-1) ⟨s.id,IntKind.i64.wrap (s.pins+1),s.l⟩,s.id,0)
def Jbw(q:Pins)(id:Int):List Snap→Nat→Pins×Int
 | [],_=>(q,10)
 |s :: r,i=>if s.id=id then (if s.pins=0 then (q,15) else (Zz q i ⟨s.id,IntKind.i64.wrap (s.pins-1),s.l⟩,0)) else Jbw q id r (i+1)
def Zy(p:Pins)(id:Int):Pins×Int:=Jbw (Vb p) id (Vb p).snaps 0
def Ja7(p:Pins):Bool:=p.snaps.all (fun s=>V7 s.l) && decide (p.snaps.length≤20)
theorem JnI(next:Int)(xs:List Snap)(hl:Jc xs.length)(hs:∀x∈xs,Yt x):CallR Tryz.prog 72 [.agg [.int .i64 next,.slice false (Ja xs)]] (.val (.bool (Ja7 ⟨next,xs⟩))):=by
 refine Jl Tryz.call72 Tryz.func72 rfl Tryz.ntmps72 Tryz.results72 fun ts hn h0=>?_
 (repeat' (first
 | (with_reducible first|refine callX.by (Jb0 _ ?_ ?_) ?_|assumption|(refine Qw hK _ ?_;clear hK K)|refine Qw ‹_› _ ?_|refine Qx ‹_› ?_|refine Qi fun K hK=>?_|refine Qj T fun K hK=>?_|refine Ql fun A B hA hB=>?_|refine Qm ?_|refine Qn ?_|refine Qp ?_|refine Qr ?_)
 |(with_reducible first|apply Qy|apply Qz|apply QA)<;>intro hb<;>try simp only[nr] at hb
 |simp only[go_sem,↓reduceIte,Qa,Qh,Qb,Qc,Qd,Qe,Qf,Qg,reduceCtorEq, *]
 |intro(bn:Bool) hbn))
 refine Qs [1] (fun m ts'=>∃(i:Nat),m=xs.length-i∧i≤xs.length∧xs.all (fun s=>V7 s.l)=(xs.drop i).all (fun s=>V7 s.l)∧ts'.tmp 3=.int .i64 i) xs.length ?_ ?_
 ·refine⟨0,?_⟩
  simp only[go_sem,↓reduceIte,Qa,Qh,Qb,Qc,Qd,Qe,Qf,Qg,reduceCtorEq, *]
 ·rintro m A hM ts' hk ⟨i,hm,f1,f2,s1⟩
  simp only[go_sem,↓reduceIte,Qa,Qh,Qb,Qc,Qd,Qe,Qf,Qg,reduceCtorEq, *] at hk
  by_cases hlt:i<xs.length
  ·rw[List.drop_eq_getElem_cons hlt,List.all_cons] at f2
   obtain⟨hs1,hs2⟩:=hs xs[i] (QC hlt)
   (repeat' (first
 | (with_reducible first|refine callX.by (Jb0 _ ?_ ?_) ?_|assumption|(refine Qw hK _ ?_;clear hK K)|refine Qw ‹_› _ ?_|refine Qx ‹_› ?_|refine Qi fun K hK=>?_|refine Qj T fun K hK=>?_|refine Ql fun A B hA hB=>?_|refine Qm ?_|refine Qn ?_|refine Qp ?_|refine Qr ?_)
 |(with_reducible first|apply Qy|apply Qz|apply QA)<;>intro hb<;>try simp only[nr] at hb
 |simp only[go_sem,↓reduceIte,Qa,Qh,Qb,Qc,Qd,Qe,Qf,Qg,reduceCtorEq, *]
 |intro(bn:Bool) hbn))
   all_goals ((repeat clear hK);(repeat clear hA);(repeat clear hB))
   all_goals clear hs hs2
   all_goals first
    | (refine hM.on (xs.length-(i+1)) (by omega) (by simp only[go_sem,↓reduceIte,Qa,Qh,Qb,Qc,Qd,Qe,Qf,Qg,reduceCtorEq, *,Jh hlt hl,-f2]) ⟨i+1,rfl,by omega,by clear hM;grind,?_⟩;simp only[go_sem,↓reduceIte,Qa,Qh,Qb,Qc,Qd,Qe,Qf,Qg,reduceCtorEq, *,Jh hlt hl,-f2];done)
    | (clear hM;grind [Ja7])
  ·rw[List.drop_eq_nil_of_le (by omega),List.all_nil] at f2
   (repeat' (first
 | (with_reducible first|refine callX.by (Jb0 _ ?_ ?_) ?_|assumption|(refine Qw hK _ ?_;clear hK K)|refine Qw ‹_› _ ?_|refine Qx ‹_› ?_|refine Qi fun K hK=>?_|refine Qj T fun K hK=>?_|refine Ql fun A B hA hB=>?_|refine Qm ?_|refine Qn ?_|refine Qp ?_|refine Qr ?_)
 |(with_reducible first|apply Qy|apply Qz|apply QA)<;>intro hb<;>try simp only[nr] at hb
 |simp only[go_sem,↓reduceIte,Qa,Qh,Qb,Qc,Qd,Qe,Qf,Qg,reduceCtorEq, *]
 |intro(bn:Bool) hbn))
   all_goals ((repeat clear hK);(repeat clear hA);(repeat clear hB))
   all_goals (clear hM hs;grind [Ja7])
theorem Jhx:∀a b:List UInt8,Lib.compareBytes b a=- Lib.compareBytes a b
 | [],[]=>rfl
 | [],_ :: _=>rfl
 |_ :: _,[]=>rfl
 |x :: a,y :: b=>by
  have h:=Jhx a b
  have hxy:¬(x<y∧y<x):=fun h=>by simp only[UInt8.lt_iff_toNat_lt] at h;omega
  simp only[Lib.compareBytes]
  by_cases h1:x<y<;>by_cases h2:y<x<;>simp[h1,h2,h]
  exact absurd ⟨h1,h2⟩ hxy
theorem Jhz:∀a b:List UInt8,Lib.compareBytes a b=0→a=b
 | [],[]=>fun _=>rfl
 | [],_ :: _=>fun h=>by simp[Lib.compareBytes] at h
 |_ :: _,[]=>fun h=>by simp[Lib.compareBytes] at h
 |x :: a,y :: b=>fun h=>by
  simp only[Lib.compareBytes] at h
  by_cases h1:x<y
  ·simp[h1] at h
  ·by_cases h2:y<x
   ·simp[h1,h2] at h
   ·have e:x=y:=by
     apply UInt8.toNat_inj.1
     simp only[UInt8.lt_iff_toNat_lt] at h1 h2;omega
    rw[if_neg h1,if_neg h2] at h
    rw[e,Jhz a b h]
theorem Jhy:∀a b c:List UInt8,Lib.compareBytes a b<0→Lib.compareBytes b c<0→Lib.compareBytes a c<0
 | [],[],_,h,_=>by simp[Lib.compareBytes] at h
 | [],_ :: _,[],_,h=>by simp[Lib.compareBytes] at h
 | [],_ :: _,_ :: _,_,_=>by simp[Lib.compareBytes]
 |_ :: _,[],_,h,_=>by simp[Lib.compareBytes] at h
 |_ :: _,_ :: _,[],_,h=>by simp[Lib.compareBytes] at h
 |x :: a,y :: b,z :: c,h,k=>by
  simp only[Lib.compareBytes,UInt8.lt_iff_toNat_lt] at h k ⊢
  by_cases h1:x.toNat<y.toNat
  ·by_cases k1:y.toNat<z.toNat
   ·rw[if_pos (by omega)];omega
   ·rw[if_neg k1] at k
    by_cases k2:z.toNat<y.toNat
    ·rw[if_pos k2] at k;omega
    ·rw[if_pos (by omega)];omega
  ·rw[if_neg h1] at h
   by_cases h2:y.toNat<x.toNat
   ·rw[if_pos h2] at h;omega
   ·rw[if_neg h2] at h
    by_cases k1:y.toNat<z.toNat
    ·rw[if_pos (by omega)];omega
    ·rw[if_neg k1] at k
     by_cases k2:z.toNat<y.toNat
     ·rw[if_pos k2] at k;omega
     ·rw[if_neg k2] at k
      rw[if_neg (by omega),if_neg (by omega)]
      exact Jhy a b c h k
theorem Jef(a b:Key):JJ a b=if a.kind<b.kind then -1 else if b.kind<a.kind then 1 else Lib.compareBytes a.name b.name:=by
 unfold JJ JaP
 generalize Lib.compareBytes a.name b.name=c
 simp only[ior,Jay]
 by_cases h1:a.kind<b.kind
 ·simp[h1]
 ·by_cases h2:b.kind<a.kind
  ·simp[h1,h2]
  ·by_cases h3:c=0
   ·simp[h1,h2,h3]
   ·simp[h1,h2,h3]
theorem Jca(a b:Key):JJ b a=- JJ a b:=by
 have h:=Jhx a.name b.name
 rw[Jef,Jef,h]
 by_cases h1:a.kind<b.kind
 ·rw[if_neg (by omega),if_pos h1,if_pos h1];rfl
 ·by_cases h2:b.kind<a.kind
  ·rw[if_pos h2,if_neg h1,if_pos h2]
  ·rw[if_neg h2,if_neg h1,if_neg h1,if_neg h2]
theorem Jeg(a b:Key)(h:JJ a b=0):a=b:=by
 obtain⟨k1,n1⟩:=a;obtain⟨k2,n2⟩:=b
 rw[Jef] at h
 simp only at h
 by_cases h1:k1<k2
 ·rw[if_pos h1] at h;omega
 ·by_cases h2:k2<k1
  ·rw[if_neg h1,if_pos h2] at h;omega
  ·rw[if_neg h1,if_neg h2] at h
   have e:k1=k2:=by omega
   rw[e,Jhz _ _ h]
theorem Jos(a b:Key):JJ a b<0↔a.kind<b.kind∨(a.kind=b.kind∧Lib.compareBytes a.name b.name<0):=by
 rw[Jef]
 by_cases h1:a.kind<b.kind
 ·rw[if_pos h1];omega
 ·by_cases h2:b.kind<a.kind
  ·rw[if_neg h1,if_pos h2];omega
  ·rw[if_neg h1,if_neg h2];omega
theorem Jc1(a b c:Key)(h:JJ a b<0)(k:JJ b c<0):JJ a c<0:=by
 rw[Jos] at h k ⊢
 rcases h with h|⟨h,h'⟩<;>rcases k with k|⟨k,k'⟩
 ·exact .inl (by omega)
 ·exact .inl (by omega)
 ·exact .inl (by omega)
 ·exact .inr ⟨by omega,Jhy _ _ _ h' k'⟩
theorem JiF(a:Key):¬JJ a a<0:=fun h=>by have:=Jca a a;omega
def JK(xs:List Key):List Key:=xs.mergeSort fun x y=>!decide (JJ y x<0)
theorem JaB(xs:List Key):(JK xs).length=xs.length:=by simp[JK]
def Ve:List Key→List Key
 |x :: y :: r=>if y=x then Ve (y :: r) else y :: Ve (y :: r)
 |_=>[]
def V8(xs:List Key):List Key:=xs.take 1++Ve xs
def JZ(l:List Snap):List Key:=l.flatMap fun s=>s.l.map Jo
def JW(p:Pins):List Key:=V8 (JK (JZ (Jq p).snaps))
theorem Jiq(s:Snap)(l:List Snap):JZ (s :: l)=s.l.map Jo++JZ l:=rfl
end Go.Proofs.YthjalhfmpffbjaaGreatDoor.Lg
namespace Go.Proofs
open Go.Shelf
def Tryz.sortKey_ren:Go.Shelf.Ren:=⟨fun|6=>119|15=>162|14=>161|28=>206|29=>207|20=>198|21=>199|22=>200|23=>201|24=>202|25=>203|26=>204|27=>205|46=>232|47=>233|48=>234|49=>235|50=>236|57=>247|n=>n,fun|22=>77|24=>134|25=>194|3=>3|39=>234|0=>0|53=>265|55=>267|4=>4|46=>259|45=>258|50=>130|5=>5|9=>9|66=>280|70=>284|76=>293|77=>294|n=>n,fun|n=>n⟩
theorem Tryz.sortKey:Go.Proofs.SlLaysF0.n6 Tryz.prog Tryz.sortKey_ren:={
 mixed:=by kernel_rfl
 f6:=⟨Tryz.f119.name,by decide,Tryz.func119.trans (congrArg some (by kernel_rfl))⟩
 f14:=⟨Tryz.f161.name,by decide,Tryz.func161.trans (congrArg some (by kernel_rfl))⟩
 f15:=Tryz.func162.trans (congrArg some (by kernel_rfl))
 f20:=⟨Tryz.f198.name,by decide,Tryz.func198.trans (congrArg some (by kernel_rfl))⟩
 f21:=⟨Tryz.f199.name,by decide,Tryz.func199.trans (congrArg some (by kernel_rfl))⟩
 f22:=⟨Tryz.f200.name,by decide,Tryz.func200.trans (congrArg some (by kernel_rfl))⟩
 f23:=⟨Tryz.f201.name,by decide,Tryz.func201.trans (congrArg some (by kernel_rfl))⟩
 f24:=⟨Tryz.f202.name,by decide,Tryz.func202.trans (congrArg some (by kernel_rfl))⟩
 f25:=⟨Tryz.f203.name,by decide,Tryz.func203.trans (congrArg some (by kernel_rfl))⟩
 f26:=⟨Tryz.f204.name,by decide,Tryz.func204.trans (congrArg some (by kernel_rfl))⟩
 f27:=⟨Tryz.f205.name,by decide,Tryz.func205.trans (congrArg some (by kernel_rfl))⟩
 f28:=Tryz.func206.trans (congrArg some (by kernel_rfl))
 f29:=Tryz.func207.trans (congrArg some (by kernel_rfl))
 f46:=⟨Tryz.f232.name,by decide,Tryz.func232.trans (congrArg some (by kernel_rfl))⟩
 f47:=Tryz.func233.trans (congrArg some (by kernel_rfl))
 f48:=Tryz.func234.trans (congrArg some (by kernel_rfl))
 f49:=⟨Tryz.f235.name,by decide,Tryz.func235.trans (congrArg some (by kernel_rfl))⟩
 f50:=⟨Tryz.f236.name,by decide,Tryz.func236.trans (congrArg some (by kernel_rfl))⟩
 f57:=⟨Tryz.f247.name,by decide,Tryz.func247.trans (congrArg some (by kernel_rfl))⟩
 t0:=Tryz.underlying0
 a0:=Tryz.isAgg0
 z0:=Tryz.sizeOf0
 v0:=Tryz.zeroValue0
 t3:=Tryz.underlying3
 a3:=Tryz.isAgg3
 z3:=Tryz.sizeOf3
 v3:=Tryz.zeroValue3
 t4:=Tryz.underlying4
 a4:=Tryz.isAgg4
 z4:=Tryz.sizeOf4
 v4:=Tryz.zeroValue4
 t5:=Tryz.underlying5
 a5:=Tryz.isAgg5
 z5:=Tryz.sizeOf5
 v5:=Tryz.zeroValue5
 t9:=Tryz.underlying9
 a9:=Tryz.isAgg9
 z9:=Tryz.sizeOf9
 v9:=Tryz.zeroValue9
 t22:=Tryz.underlying77
 a22:=Tryz.isAgg77
 z22:=Tryz.sizeOf77
 v22:=Tryz.zeroValue77
 t25:=Tryz.underlying194
 a25:=Tryz.isAgg194
 z25:=Tryz.sizeOf194
 v25:=Tryz.zeroValue194
 t39:=Tryz.underlying234
 a39:=Tryz.isAgg234
 z39:=Tryz.sizeOf234
 v39:=Tryz.zeroValue234
 t45:=Tryz.underlying258
 a45:=Tryz.isAgg258
 z45:=Tryz.sizeOf258
 v45:=Tryz.zeroValue258
 t46:=Tryz.underlying259
 a46:=Tryz.isAgg259
 z46:=Tryz.sizeOf259
 v46:=Tryz.zeroValue259
 t50:=Tryz.underlying130
 a50:=Tryz.isAgg130
 z50:=Tryz.sizeOf130
 v50:=Tryz.zeroValue130
 t53:=Tryz.underlying265
 a53:=Tryz.isAgg265
 z53:=Tryz.sizeOf265
 v53:=Tryz.zeroValue265
 t55:=Tryz.underlying267
 a55:=Tryz.isAgg267
 z55:=Tryz.sizeOf267
 v55:=Tryz.zeroValue267
 t66:=Tryz.underlying280
 a66:=Tryz.isAgg280
 z66:=Tryz.sizeOf280
 v66:=Tryz.zeroValue280
 t70:=Tryz.underlying284
 a70:=Tryz.isAgg284
 z70:=Tryz.sizeOf284
 v70:=Tryz.zeroValue284
 t76:=Tryz.underlying293
 a76:=Tryz.isAgg293
 z76:=Tryz.sizeOf293
 v76:=Tryz.zeroValue293
 t77:=Tryz.underlying294
 a77:=Tryz.isAgg294
 z77:=Tryz.sizeOf294
 v77:=Tryz.zeroValue294 }
end Go.Proofs
namespace Go.Proofs.YthjalhfmpffbjaaGreatDoor.Lg
set_option maxRecDepth 100000
set_option maxHeartbeats 64000000
set_option linter.unusedVariables false
set_option linter.unusedSimpArgs false
open Go
theorem JoC:Go.Sort.SWO (ltOf JJ) where
 irrefl x:=by simp only[ltOf,decide_eq_false_iff_not];exact JiF x
 trans x y z h k:=by
  simp only[ltOf,decide_eq_true_eq] at h k ⊢
  exact Jc1 x y z h k
 ntrans x y z h k:=by
  simp only[ltOf,decide_eq_false_iff_not] at h k ⊢
  intro h3
  by_cases h4:JJ y z=0
  ·have:=Jeg _ _ h4;subst this;exact h h3
  ·have h5:JJ z y<0:=by have:=Jca y z;omega
   exact h (Jc1 _ _ _ h3 h5)
theorem JoD(x y:Key)(h:ltOf JJ x y=false)(k:ltOf JJ y x=false):x=y:=by
 simp only[ltOf,decide_eq_false_iff_not] at h k
 have:=Jca x y
 exact Jeg _ _ (by omega)
def VV(k:Key):List Value:=[.int .i64 k.kind,.string ⟨k.name.toArray⟩]
theorem Jov{c:Ctx}{v:Value}{k:Key}{j:Nat}(hj:j<2)(h:Rep c v ((Dat.av k).cells.getD j .any)):v=(VV k)[j]!:=by
 match j,hj with
 |0,_ =>
  change Rep c v (.int .i64 k.kind) at h
  cases h;rfl
 |1,_ =>
  change Rep c v (.str k.name) at h
  cases h with
  |str s _ h =>
   obtain⟨a⟩:=s
   have e:a=k.name.toArray:=by rw[←h]
   subst e;rfl
theorem JpZ(c:Ctx)(k:Key){j:Nat}(hj:j<2):Rep c ((VV k)[j]!) ((Dat.av k).cells.getD j .any):=by
 match j,hj with
 |0,_=>exact .int _ _
 |1,_=>exact .str _ _ rfl
theorem Jot(x y:Key)(W:World):Calls Tryz.prog 120 #[.agg (VV x).toArray,.agg (VV y).toArray] W fun e w'=>e=.returned (.int .i64 (JJ x y))∧∃q os',w'=Go.Sort.grow (W.drewN q) os':=by
 have eg:∀args w,(callFunc 120 args).run Tryz.prog w=.ok (.enter 120 args) w:=enters_of Tryz.func120 (by kernel_rfl) rfl
 have hx:∀(z:Key) (j:Nat),Rep (Vm W) ((VV z).toArray.getD j undef) (([.int .i64 z.kind,.str z.name]:List AV).getD j .any):=fun z j=>by
  match j with
  |0=>exact .int _ _
  |1=>exact .str _ _ rfl
  |j+2=>exact .any _
 have h:=(Vw x.kind y.kind x.name y.name).top #[.agg (VV x).toArray,.agg (VV y).toArray] W rfl fun i=>by
  match i with
  |0=>exact .agg _ _ rfl (hx x)
  |1=>exact .agg _ _ rfl (hx y)
  |i+2=>exact .any _
 rw[eg] at h
 refine Calls.mono h ?_
 rintro e w' ⟨v,rfl,hv,hg⟩
 cases hv
 exact⟨rfl,hg.grown⟩
open Go.Sort in
theorem ZX(xs:List Key)(hl:Jc xs.length):JdK Tryz.prog 119 120 2 (Ja xs) (Ja (JK xs)):=by
 intro E ts G a w d v0 hrel hob hos
 have L:=Tryz.sortKey
 have e6:∀args w,(callFunc 119 args).run Tryz.prog w=.ok (.enter 119 args) w:=enters_of Tryz.func119 (by kernel_rfl) rfl
 have eg:∀args w,(callFunc 120 args).run Tryz.prog w=.ok (.enter 120 args) w:=enters_of Tryz.func120 (by kernel_rfl) rfl
 rw[e6]
 show Calls _ _ _ _ _
 have hobk:=hrel.obj d
 rw[hob] at hobk
 obtain⟨_,hcl,hobk⟩:=hobk
 unfold JN at hos
 have hcl':∀x∈Ja (JK xs),x.cells.length=2:=fun x hx=>by
  simp only[Ja,List.mem_map] at hx
  obtain⟨k,_,rfl⟩:=hx
  rfl
 cases hκ:G.κ d with
 |none =>
  have hκ':(Jb E G ts w).κ d=none:=hκ
  rw[hκ'] at hos hobk
  obtain⟨hlen,ad,rfl⟩:=hos
  have hx:xs=[]:=List.eq_nil_of_length_eq_zero (by simpa[Ja] using hlen)
  subst hx
  have h:=AnyF.slices_SortFunc_none L ad 0 (.func (.func 120) #[] #[]) w
  change Calls _ 119 _ _ _ at h
  refine h.mono ?_
  rintro e w' ⟨rfl,rfl⟩
  refine⟨rfl,⟨rfl,rfl,rfl,Nat.le_refl _,Nat.le_refl _,fun _ _ _=>rfl⟩,by decide,hcl',?_⟩
  have hκ2:(Jb E G (ts.setObj d (.arr 2 (Ja (JK [])))) w').κ d=none:=hκ
  rw[hκ2]
  show Ja (JK [])=[]
  simp[JK,Ja]
 |some cap =>
  have hκ':(Jb E G ts w).κ d=some cap:=hκ
  rw[hκ'] at hos hobk
  obtain⟨rfl,hle⟩:=hos
  obtain⟨vs,T,hh,hsz,hlc,hcells⟩:=hobk
  have hlen:(Ja xs).length=xs.length:=by simp[Ja]
  rw[hlen] at hlc hle hcells ⊢
  have hval:∀t,t<xs.length*2→vs[t]?=some ((flatK VV 2 xs.toArray)[t]!):=fun t ht=>by
   have h2:t<vs.size:=by omega
   rw[get_flatK _ _ _ _ (by simpa using ht)]
   have hq:t / 2<xs.length:=by omega
   have h:=hcells (t / 2) (t % 2) hq (by omega)
   have e:t / 2*2+t % 2=t:=by omega
   rw[e] at h
   have e2:(Ja xs).getD (t / 2) .any=Dat.av xs[t / 2]:=by simp[Ja,hq]
   rw[e2] at h
   have:=Jov (by omega) h
   rw[Array.getElem?_eq_getElem h2]
   have e3:vs.getD t undef=vs[t]:=by simp[Array.getD,h2]
   rw[e3] at this
   rw[this]
   congr 2
   simp[hq]
  have hblk:G.β d<w.heap.size:=by
   have:w.heap[G.β d]?=_:=hh
   by_cases hb:G.β d<w.heap.size
   ·exact hb
   ·rw[Array.getElem?_eq_none (by omega)] at this;cases this
  have hH:HoldsK VV 2 w (G.β d) 0 xs.toArray:=fun j hj=>by
   rw[size_flatK] at hj
   have hj':j<xs.length*2:=by simpa using hj
   have hh':w.heap[G.β d]?=some (.cells vs T (0,0)):=hh
   constructor
   ·simp only[World.cell?,hh',Nat.zero_add]
    exact hval j hj'
   ·simp only[World.frozen?,hh']
    simp
  have hcmp:CmpLays Tryz.prog 120 #[] VV 2 JJ (G.β d) 0 xs.toArray.size w:=fun m os dk hdk x y=>by
   have h:=Jot x y (sortWorldK VV 2 w (G.β d) 0 m dk os)
   simpa using h
  have h:=AnyQ.slices_SortFunc_total L 2 Tryz.isAgg134 Tryz.sizeOf134 VV (fun _=>rfl) (fun x v hv=>by
   simp only[VV,List.mem_cons,List.not_mem_nil,or_false] at hv
   rcases hv with rfl|rfl<;>rfl) JJ JoC 120 #[] (G.β d) 0 cap xs.toArray w eg hcmp hH hblk (by unfold Jc at hl;simp;omega) JoD
  change Calls _ 119 _ _ _ at h
  have hsa:xs.toArray.size=xs.length:=by simp
  rw[hsa] at h
  refine h.mono ?_
  rintro e w' ⟨rfl,n,os,rfl⟩
  have hks:(xs.toArray.toList.mergeSort fun x y=>!(ltOf JJ) y x)=JK xs:=rfl
  rw[hks]
  have hh':w.heap[G.β d]?=some (.cells vs T (0,0)):=hh
  have hnew:(sortWorldK VV 2 w (G.β d) 0 n (JK xs).toArray os).heap[G.β d]?=some (.cells (putCells id 0 (flatK VV 2 (JK xs).toArray) vs) T (0,0)):=by
   simp only[sortWorldK,grow,putRowK,putRow,mapBlock,Go.Sort.ahead]
   rw[Array.getElem?_append_left (by simpa using hblk),Array.getElem?_modify,if_pos rfl,hh']
   rfl
  refine⟨rfl,⟨rfl,rfl,rfl,?_,?_,fun i hi hne=>?_⟩,by decide,hcl',?_⟩
  ·simp only[sortWorldK,grow,putRowK,putRow,mapBlock,Go.Sort.ahead];simp
  ·simp only[sortWorldK,grow,putRowK,putRow,mapBlock,Go.Sort.ahead];omega
  ·have hlive:Jj ts G d:=⟨by simp[hob,Ob.kind],by rw[hκ];simp⟩
   have hne:=hne hlive
   simp only[sortWorldK,grow,putRowK,putRow,mapBlock,Go.Sort.ahead]
   rw[Array.getElem?_append_left (by simpa using hi),Array.getElem?_modify,if_neg (fun h=>hne h.symm)]
  ·have hκ2:(Jb E G (ts.setObj d (.arr 2 (Ja (JK xs)))) (sortWorldK VV 2 w (G.β d) 0 n (JK xs).toArray os)).κ d=some cap:=hκ
   rw[hκ2]
   have hlen2:(Ja (JK xs)).length=xs.length:=by simp[Ja,JaB]
   refine⟨_,T,hnew,by simp[putCells,hsz],by rw[hlen2];exact hlc,fun i j hi hj=>?_⟩
   rw[hlen2] at hi
   have hi2:i<(JK xs).length:=by rw[JaB];exact hi
   have ht:i*2+j<vs.size:=by omega
   have e2:(Ja (JK xs)).getD i .any=Dat.av (JK xs)[i]:=by simp[Ja,hi2]
   rw[e2]
   have e3:(putCells id 0 (flatK VV 2 (JK xs).toArray) vs).getD (i*2+j) undef=(VV (JK xs)[i])[j]!:=by
    have hf:i*2+j<(JK xs).toArray.size*2:=by simp[JaB];omega
    simp only[putCells,Array.getD,Array.size_mapIdx,ht,dite_true,Array.getInternal_eq_getElem,Array.getElem_mapIdx]
    rw[if_pos ⟨Nat.zero_le _,by rw[size_flatK];omega⟩]
    simp only[Nat.sub_zero,id]
    rw[get_flatK _ _ _ _ hf]
    have e4:(i*2+j) / 2=i:=by omega
    have e5:(i*2+j) % 2=j:=by omega
    rw[e4,e5]
    congr 2
    simp[hi2]
   rw[e3]
   exact JpZ _ _ hj
end Go.Proofs.YthjalhfmpffbjaaGreatDoor.Lg
