/- Parts of the proof, one behind the other. -/
import Derived.Shelf.SlGeneric
import Derived.Shelf.SlSortCmp.NoneTotal
import Derived.Ground.SlsfProg
import Derived.Test.YthjalhfmpffbjaaGreatDoorProg
import Derived.Test.YthjalhfmpffbjaaGreatDoorG12
set_option linter.unusedVariables false
set_option linter.unusedSimpArgs false
set_option maxRecDepth 100000
set_option maxHeartbeats 64000000
namespace Go.Proofs.YthjalhfmpffbjaaGreatDoor.Lg
open Go
open Nat renaming reduceEqDiff → Qa, reduceLT → Qb, reduceLeDiff → Qc, reduceAdd → Qd, reduceMul → Qe, reduceSub → Qf, reduceBEq → Qg
open String renaming reduceEq → Qh
open SpecC renaming seqW → Qi, regW → Qj, drawW → Qk, condW → Ql, block → Qm, skip → Qn, exit → Qp, ret → Qr, loopF → Qs
open NxK renaming out → Qw
open Nx renaming out → Qx
open condK renaming split → Qy
open gK renaming split_t → Qz, split_f → QA
open List renaming getElem_mem → QC
theorem JmP(a b c d e f g h:Bool):CallR Tryz.prog 225 [.agg [.bool a,.bool b,.bool c,.bool d],.agg [.bool e,.bool f,.bool g,.bool h]] (.val (.agg [.bool (a && e),.bool (b && f),.bool (c && g),.bool (d && h)])):=by
 cases a<;>cases b<;>cases c<;>cases d
 all_goals
  refine Jn Tryz.call225 Tryz.func225 rfl Tryz.ntmps225 Tryz.results225 fun ts hn h0 h1=>?_
  (repeat' (first
 | (with_reducible first|assumption|(refine Qw hK _ ?_;clear hK K)|refine Qw ‹_› _ ?_|refine Qx ‹_› ?_|refine Qi fun K hK=>?_|refine Qj T fun K hK=>?_|refine Ql fun A B hA hB=>?_|refine Qn ?_|refine Qr ?_)
 |(with_reducible first|apply Qy|apply Qz|apply QA)<;>intro hb<;>try simp only[nr] at hb
 |simp only[go_sem,↓reduceIte,Qa,Qh,Qb,Qc,Qd,Qe,Qf,Qg,reduceCtorEq, *]
 |intro(bn:Bool) hbn))
theorem bx1(a b:Bool):decide ((!a && b)=!a)=(a || b):=by cases a<;>cases b<;>rfl
theorem bx2(p b:Bool):decide ((p && b)=p)=(!p || b):=by cases p<;>cases b<;>rfl
theorem bx3(n:Nat):(!decide ((0:Int)<(n:Int)))=decide (n=0):=by
 rw[Bool.eq_iff_iff];simp only[Bool.not_eq_true',decide_eq_false_iff_not,decide_eq_true_eq];omega
def JgQ(r:Res):Bool:=(decide (r.port=0) || decide (r.kind=0)) && ((decide (r.to'=[]) || (decide (r.kind=0) || decide (r.kind=2))) && ((decide (r.rules'.length=0) || decide (r.kind=1)) && (decide (r.hosts.length=0) || decide (r.kind=3))))
theorem JqK(Ln:Int)(Lp:List UInt8)(Lx Lq:Int)(LA:List UInt8)(r_rules:List Rule)(r_hosts:List Int):CallR Tryz.prog 195 [.agg [.int .i64 Ln,.str Lp,.int .i64 Lx,.int .i64 Lq,.str LA,.slice false (Ja r_rules),.slice false (Ja r_hosts)]] (.val (.bool (JgQ (⟨Ln,Lp,Lx,Lq,LA,r_rules,r_hosts⟩:Res)))):=by
 refine Jl Tryz.call195 Tryz.func195 rfl Tryz.ntmps195 Tryz.results195 fun ts hn h0=>?_
 (repeat' (first
 | (with_reducible first|refine callX.by (JiV _) ?_|refine callX.by (JmP _ _ _ _ _ _ _ _) ?_|assumption|(refine Qw hK _ ?_;clear hK K)|refine Qw ‹_› _ ?_|refine Qx ‹_› ?_|refine Qi fun K hK=>?_|refine Qj T fun K hK=>?_|refine Qk (id:=2) T mixed [([19],[20,21,22,24]),([20],[19,23,24]),([21],[19,24]),([22],[19,24]),([23],[20,24]),([24],[19,20,21,22,23])] (by kernel_rfl) fun K hK=>?_|refine Ql fun A B hA hB=>?_|refine Qn ?_|refine Qr ?_)
 |(with_reducible first|apply Qy|apply Qz|apply QA)<;>intro hb<;>try simp only[nr] at hb
 |simp only[go_sem,↓reduceIte,Qa,Qh,Qb,Qc,Qd,Qe,Qf,Qg,reduceCtorEq, *]
 |intro(bn:Bool) hbn))
 all_goals ((repeat clear hK);(repeat clear hA);(repeat clear hB))
 all_goals simp only[bx1,bx2,bx3,JgQ,Bool.not_not]
def JbB(x:Rule):Bool:=decide (x.split.length≤4) && !(x.split.any fun w=>!ZB w.w 100)
def Zz(r:Res):Bool:=ZB r.ver 2147483647 && (ZB r.port 65535 && (decide (r.rules'.length≤8) && (decide (r.hosts.length≤8) && (r.hosts.all (fun h=>ZB h 2147483647) && r.rules'.all JbB))))
theorem JqW(Ln:Int)(Lp:List UInt8)(Lx Lq:Int)(LA:List UInt8)(r_rules:List Rule)(r_hosts:List Int)(hl:Jc r_rules.length)(hh:Jc r_hosts.length)(hs:∀x∈r_rules,VR x):CallR Tryz.prog 194 [.agg [.int .i64 Ln,.str Lp,.int .i64 Lx,.int .i64 Lq,.str LA,.slice false (Ja r_rules),.slice false (Ja r_hosts)]] (.val (.bool (Zz (⟨Ln,Lp,Lx,Lq,LA,r_rules,r_hosts⟩:Res)))):=by
 refine Jl Tryz.call194 Tryz.func194 rfl Tryz.ntmps194 Tryz.results194 fun ts hn h0=>?_
 (repeat' (first
 | (with_reducible first|refine callX.by (JcA _ _) ?_|refine callX.by (Jau _ _ ?_ _ _ ?_ ?_) ?_|refine callX.by (Jdy _ _) ?_|assumption|(refine Qw hK _ ?_;clear hK K)|refine Qw ‹_› _ ?_|refine Qx ‹_› ?_|refine Qi fun K hK=>?_|refine Qj T fun K hK=>?_|refine Ql fun A B hA hB=>?_|refine Qm ?_|refine Qn ?_|refine Qp ?_|refine Qr ?_)
 |(with_reducible first|apply Qy|apply Qz|apply QA)<;>intro hb<;>try simp only[nr] at hb
 |simp only[go_sem,↓reduceIte,Qa,Qh,Qb,Qc,Qd,Qe,Qf,Qg,reduceCtorEq, *,-hs]
 |intro(bn:Bool) hbn))
 iterate 4 (focus(all_goals ((repeat clear hK);(repeat clear hA);(repeat clear hB));clear hs;simp_all[Zz];try omega))
 refine Qs [1,30,31] (fun m ts'=>∃(i:Nat),m=r_hosts.length-i∧i≤r_hosts.length∧r_hosts.all (fun h=>ZB h 2147483647)=(r_hosts.drop i).all (fun h=>ZB h 2147483647)∧ts'.tmp 32=.int .i64 i) r_hosts.length ?_ ?_
 ·refine⟨0,?_⟩
  simp only[go_sem,↓reduceIte,Qa,Qh,Qb,Qc,Qd,Qe,Qf,Qg,reduceCtorEq, *,-hs]
 ·rintro m A hM ts' hk ⟨i,hm,f1,f2,s1⟩
  simp only[go_sem,↓reduceIte,Qa,Qh,Qb,Qc,Qd,Qe,Qf,Qg,reduceCtorEq, *] at hk
  by_cases hlt:i<r_hosts.length
  ·rw[List.drop_eq_getElem_cons hlt,List.all_cons] at f2
   (repeat' (first
 | (with_reducible first|refine callX.by (JcA _ _) ?_|refine callX.by (Jau _ _ ?_ _ _ ?_ ?_) ?_|refine callX.by (Jdy _ _) ?_|assumption|(refine Qw hK _ ?_;clear hK K)|refine Qw ‹_› _ ?_|refine Qx ‹_› ?_|refine Qi fun K hK=>?_|refine Qj T fun K hK=>?_|refine Ql fun A B hA hB=>?_|refine Qm ?_|refine Qn ?_|refine Qp ?_|refine Qr ?_)
 |(with_reducible first|apply Qy|apply Qz|apply QA)<;>intro hb<;>try simp only[nr] at hb
 |simp only[go_sem,↓reduceIte,Qa,Qh,Qb,Qc,Qd,Qe,Qf,Qg,reduceCtorEq, *,-hs,-f2]
 |intro(bn:Bool) hbn))
   all_goals ((repeat clear hK);(repeat clear hA);(repeat clear hB))
   ·clear hM hs;simp_all[Zz]
    intro hall
    obtain⟨x,hx,e⟩:=f2
    rw[hall x hx] at e;cases e
   ·(refine hM.on (r_hosts.length-(i+1)) (by omega) (by simp only[go_sem,↓reduceIte,Qa,Qh,Qb,Qc,Qd,Qe,Qf,Qg,reduceCtorEq, *,Jg hlt hh,-hs,-f2]) ⟨i+1,rfl,by omega,by rw[f2,hb];simp,?_⟩;simp only[go_sem,↓reduceIte,Qa,Qh,Qb,Qc,Qd,Qe,Qf,Qg,reduceCtorEq, *,Jg hlt hh,-hs,-f2];done)
  ·rw[List.drop_eq_nil_of_le (by omega),List.all_nil] at f2
   have hhost:=f2
   clear f2 f1 hM
   (repeat' (first
 | (with_reducible first|refine callX.by (JcA _ _) ?_|refine callX.by (Jau _ _ ?_ _ _ ?_ ?_) ?_|refine callX.by (Jdy _ _) ?_|assumption|(refine Qw hK _ ?_;clear hK K)|refine Qw ‹_› _ ?_|refine Qx ‹_› ?_|refine Qi fun K hK=>?_|refine Qj T fun K hK=>?_|refine Ql fun A B hA hB=>?_|refine Qm ?_|refine Qn ?_|refine Qp ?_|refine Qr ?_)
 |(with_reducible first|apply Qy|apply Qz|apply QA)<;>intro hb<;>try simp only[nr] at hb
 |simp only[go_sem,↓reduceIte,Qa,Qh,Qb,Qc,Qd,Qe,Qf,Qg,reduceCtorEq, *,-hs,-hhost]
 |intro(bn:Bool) hbn))
   refine Qs [41,42] (fun m ts'=>∃(i:Nat),m=r_rules.length-i∧i≤r_rules.length∧r_rules.all JbB=(r_rules.drop i).all JbB∧ts'.tmp 43=.int .i64 i) r_rules.length ?_ ?_
   ·refine⟨0,?_⟩
    simp only[go_sem,↓reduceIte,Qa,Qh,Qb,Qc,Qd,Qe,Qf,Qg,reduceCtorEq, *,-hs,-hhost]
   ·rintro m A hM ts' hk ⟨i,hm,f1,f2,s1⟩
    simp only[go_sem,↓reduceIte,Qa,Qh,Qb,Qc,Qd,Qe,Qf,Qg,reduceCtorEq, *] at hk
    by_cases hlt:i<r_rules.length
    ·rw[List.drop_eq_getElem_cons hlt,List.all_cons] at f2
     have hsi:=hs _ (QC hlt)
     have h:=Jau 224 [] Caps.nil (fun w=>!ZB w.w 100) r_rules[i].split (fun w _=>Jdy w.cluster w.w) hsi.2.2.1
     (repeat' (first
 | (with_reducible first|refine callX.by (h) ?_|assumption|(refine Qw hK _ ?_;clear hK K)|refine Qw ‹_› _ ?_|refine Qx ‹_› ?_|refine Qi fun K hK=>?_|refine Qj T fun K hK=>?_|refine Ql fun A B hA hB=>?_|refine Qm ?_|refine Qn ?_|refine Qp ?_|refine Qr ?_)
 |(with_reducible first|apply Qy|apply Qz|apply QA)<;>intro hb<;>try simp only[nr] at hb
 |simp only[go_sem,↓reduceIte,Qa,Qh,Qb,Qc,Qd,Qe,Qf,Qg,reduceCtorEq, *,-hs,-hhost,-f2,-hsi,-h]
 |intro(bn:Bool) hbn))
     all_goals ((repeat clear hK);(repeat clear hA);(repeat clear hB))
     all_goals first
      | (refine hM.on (r_rules.length-(i+1)) (by omega) (by simp only[go_sem,↓reduceIte,Qa,Qh,Qb,Qc,Qd,Qe,Qf,Qg,reduceCtorEq, *,Jg hlt hl,-hs,-hhost,-f2,-hsi,-h]) ⟨i+1,rfl,by omega,by clear h hM hs hsi;rw[f2];simp_all[JbB],?_⟩;simp only[go_sem,↓reduceIte,Qa,Qh,Qb,Qc,Qd,Qe,Qf,Qg,reduceCtorEq, *,Jg hlt hl,-hs,-hhost,-f2,-hsi,-h];done)
      | (clear h hM hs hsi;simp_all[Zz,JbB];done)
      | (clear h hM hs hsi;simp_all[Zz,JbB];intros;omega)
      |trace_state
    ·rw[List.drop_eq_nil_of_le (by omega),List.all_nil] at f2
     (repeat' (first
 | (with_reducible first|refine callX.by (JcA _ _) ?_|refine callX.by (Jau _ _ ?_ _ _ ?_ ?_) ?_|refine callX.by (Jdy _ _) ?_|assumption|(refine Qw hK _ ?_;clear hK K)|refine Qw ‹_› _ ?_|refine Qx ‹_› ?_|refine Qi fun K hK=>?_|refine Qj T fun K hK=>?_|refine Ql fun A B hA hB=>?_|refine Qm ?_|refine Qn ?_|refine Qp ?_|refine Qr ?_)
 |(with_reducible first|apply Qy|apply Qz|apply QA)<;>intro hb<;>try simp only[nr] at hb
 |simp only[go_sem,↓reduceIte,Qa,Qh,Qb,Qc,Qd,Qe,Qf,Qg,reduceCtorEq, *,-hs,-hhost,-f2]
 |intro(bn:Bool) hbn))
     all_goals ((repeat clear hK);(repeat clear hA);(repeat clear hB))
     all_goals (clear hM hs;simp_all[Zz];try omega)
theorem Jok(xs:List Int)(v:Int)(hl:Jc xs.length):CallR Tryz.prog 93 [.slice false (Ja xs),.int .i64 v] (.val (.int .i64 (JC (fun y=>decide (v=y)) xs 0))):=by
 refine Jn Tryz.call93 Tryz.func93 rfl Tryz.ntmps93 Tryz.results93 fun ts hn h0 h1=>?_
 (repeat' (first
 | (with_reducible first|assumption|(refine Qw hK _ ?_;clear hK K)|refine Qw ‹_› _ ?_|refine Qx ‹_› ?_|refine Qi fun K hK=>?_|refine Qj T fun K hK=>?_|refine Ql fun A B hA hB=>?_|refine Qm ?_|refine Qn ?_|refine Qp ?_|refine Qr ?_)
 |(with_reducible first|apply Qy|apply Qz|apply QA)<;>intro hb<;>try simp only[nr] at hb
 |simp only[go_sem,↓reduceIte,Qa,Qh,Qb,Qc,Qd,Qe,Qf,Qg,reduceCtorEq, *]
 |intro(bn:Bool) hbn))
 refine Qs [0,1,7] (fun m ts'=>∃(i:Nat),m=xs.length-i∧i≤xs.length∧JC (fun y=>decide (v=y)) xs 0=JC (fun y=>decide (v=y)) (xs.drop i) i∧ts'.tmp 8=.int .i64 i) xs.length ?_ ?_
 ·refine⟨0,?_⟩
  simp only[go_sem,↓reduceIte,Qa,Qh,Qb,Qc,Qd,Qe,Qf,Qg,reduceCtorEq, *]
 ·rintro m A hM ts' hk ⟨i,hm,f1,f2,s1⟩
  simp only[go_sem,↓reduceIte,Qa,Qh,Qb,Qc,Qd,Qe,Qf,Qg,reduceCtorEq, *] at hk
  by_cases hlt:i<xs.length
  ·rw[List.drop_eq_getElem_cons hlt,JC] at f2
   (repeat' (first
 | (with_reducible first|assumption|(refine Qw hK _ ?_;clear hK K)|refine Qw ‹_› _ ?_|refine Qx ‹_› ?_|refine Qi fun K hK=>?_|refine Qj T fun K hK=>?_|refine Ql fun A B hA hB=>?_|refine Qm ?_|refine Qn ?_|refine Qp ?_|refine Qr ?_)
 |(with_reducible first|apply Qy|apply Qz|apply QA)<;>intro hb<;>try simp only[nr] at hb
 |simp only[go_sem,↓reduceIte,Qa,Qh,Qb,Qc,Qd,Qe,Qf,Qg,reduceCtorEq, *]
 |intro(bn:Bool) hbn))
   all_goals ((repeat clear hK);(repeat clear hA);(repeat clear hB))
   rw[if_neg (by simpa using hb)] at f2
   (refine hM.on (xs.length-(i+1)) (by omega) (by simp only[go_sem,↓reduceIte,Qa,Qh,Qb,Qc,Qd,Qe,Qf,Qg,reduceCtorEq, *,Jg hlt hl,-f2]) ⟨i+1,rfl,by omega,f2,?_⟩;simp only[go_sem,↓reduceIte,Qa,Qh,Qb,Qc,Qd,Qe,Qf,Qg,reduceCtorEq, *,Jg hlt hl,-f2];done)
  ·rw[List.drop_eq_nil_of_le (by omega),JC] at f2
   (repeat' (first
 | (with_reducible first|assumption|(refine Qw hK _ ?_;clear hK K)|refine Qw ‹_› _ ?_|refine Qx ‹_› ?_|refine Qi fun K hK=>?_|refine Qj T fun K hK=>?_|refine Ql fun A B hA hB=>?_|refine Qm ?_|refine Qn ?_|refine Qp ?_|refine Qr ?_)
 |(with_reducible first|apply Qy|apply Qz|apply QA)<;>intro hb<;>try simp only[nr] at hb
 |simp only[go_sem,↓reduceIte,Qa,Qh,Qb,Qc,Qd,Qe,Qf,Qg,reduceCtorEq, *]
 |intro(bn:Bool) hbn))
theorem JcI(xs:List Int)(v:Int)(hl:Jc xs.length):CallR Tryz.prog 62 [.slice false (Ja xs),.int .i64 v] (.val (.bool (xs.any fun y=>decide (v=y)))):=by
 have ha:=Jbh (fun y=>decide (v=y)) xs
 refine Jn Tryz.call62 Tryz.func62 rfl Tryz.ntmps62 Tryz.results62 fun ts hn h0 h1=>?_
 (repeat' (first
 | (with_reducible first|refine callX.by (Jok _ _ ?_) ?_|assumption|(refine Qw hK _ ?_;clear hK K)|refine Qw ‹_› _ ?_|refine Qx ‹_› ?_|refine Qi fun K hK=>?_|refine Qj T fun K hK=>?_|refine Ql fun A B hA hB=>?_|refine Qn ?_|refine Qr ?_)
 |(with_reducible first|apply Qy|apply Qz|apply QA)<;>intro hb<;>try simp only[nr] at hb
 |simp only[go_sem,↓reduceIte,Qa,Qh,Qb,Qc,Qd,Qe,Qf,Qg,reduceCtorEq, *]
 |intro(bn:Bool) hbn))
theorem JqP(h p:List UInt8)(sp:List Weight)(LS LV:List UInt8)(LP:List Weight):CallR Tryz.prog 230 [.agg [.str LS,.str LV,.slice false (Ja LP)],.ro [.str h,.str p,.slice false (Ja sp)]] (.val (.bool (decide (h=LS) && decide (p=LV)))):=by
 refine Jn Tryz.call230 Tryz.func230 rfl Tryz.ntmps230 Tryz.results230 fun ts hn h0 h1=>?_
 (repeat' (first
 | (with_reducible first|assumption|(refine Qw hK _ ?_;clear hK K)|refine Qw ‹_› _ ?_|refine Qx ‹_› ?_|refine Qi fun K hK=>?_|refine Qj T fun K hK=>?_|refine Ql fun A B hA hB=>?_|refine Qn ?_|refine Qr ?_)
 |(with_reducible first|apply Qy|apply Qz|apply QA)<;>intro hb<;>try simp only[nr] at hb
 |simp only[go_sem,↓reduceIte,Qa,Qh,Qb,Qc,Qd,Qe,Qf,Qg,reduceCtorEq, *]
 |intro(bn:Bool) hbn))
 all_goals ((repeat clear hK);(repeat clear hA);(repeat clear hB))
 all_goals simp_all
def JhZ(x y:Rule):Bool:=decide (x.host=y.host) && decide (x.pfx=y.pfx)
def Jcw:List Rule→List Rule→Bool
 |_,[]=>true
 |p,x :: r=>Jmt x && (!(p.any (JhZ x)) && Jcw (p++[x]) r)
def Jcv:List Int→List Int→Bool
 |_,[]=>true
 |p,h :: r=>!(p.any fun y=>decide (h=y)) && Jcv (p++[h]) r
def Jdu(r:Res):Bool:=Jcw [] r.rules' && Jcv [] r.hosts
theorem Jkx{α:Type}{l:List α}{i:Nat}(h:i<l.length):l.take i++[l[i]]=l.take (i+1):=(List.take_succ_eq_append_getElem h).symm
theorem Jnm(h p:List UInt8)(sp:List Weight):Caps [.ro [.str h,.str p,.slice false (Ja sp)]]:=⟨by simp only[go_sem,Bool.and_self],by simp only[go_sem]⟩
theorem JqQ(Ln:Int)(Lp:List UInt8)(Lx Lq:Int)(LA:List UInt8)(r_rules:List Rule)(r_hosts:List Int)(hl:Jc r_rules.length)(hh:Jc r_hosts.length)(hs:∀x∈r_rules,VR x):CallR Tryz.prog 197 [.agg [.int .i64 Ln,.str Lp,.int .i64 Lx,.int .i64 Lq,.str LA,.slice false (Ja r_rules),.slice false (Ja r_hosts)]] (.val (.bool (Jdu (⟨Ln,Lp,Lx,Lq,LA,r_rules,r_hosts⟩:Res)))):=by
 refine Jl Tryz.call197 Tryz.func197 rfl Tryz.ntmps197 Tryz.results197 fun ts hn h0=>?_
 (repeat' (first
 | (with_reducible first|refine callX.by (JdD _ _ _ ?_) ?_|refine callX.by (Jat _ _ ?_ _ _ ?_ ?_) ?_|refine callX.by (JcI _ _ ?_) ?_|assumption|(refine Qw hK _ ?_;clear hK K)|refine Qw ‹_› _ ?_|refine Qx ‹_› ?_|refine Qi fun K hK=>?_|refine Qj T fun K hK=>?_|refine Ql fun A B hA hB=>?_|refine Qm ?_|refine Qn ?_|refine Qp ?_|refine Qr ?_)
 |(with_reducible first|apply Qy|apply Qz|apply QA)<;>intro hb<;>try simp only[nr] at hb
 |simp only[go_sem,↓reduceIte,Qa,Qh,Qb,Qc,Qd,Qe,Qf,Qg,reduceCtorEq, *,-hs]
 |intro(bn:Bool) hbn))
 refine Qs [1,9,10] (fun m ts'=>∃(i:Nat),m=r_rules.length-i∧i≤r_rules.length∧Jcw [] r_rules=Jcw (r_rules.take i) (r_rules.drop i)∧ts'.tmp 11=.int .i64 i) r_rules.length ?_ ?_
 ·refine⟨0,?_⟩
  simp only[go_sem,↓reduceIte,Qa,Qh,Qb,Qc,Qd,Qe,Qf,Qg,reduceCtorEq, *,-hs]
 ·rintro m A hM ts' hk ⟨i,hm,f1,f2,s1⟩
  simp only[go_sem,↓reduceIte,Qa,Qh,Qb,Qc,Qd,Qe,Qf,Qg,reduceCtorEq, *] at hk
  by_cases hlt:i<r_rules.length
  ·rw[List.drop_eq_getElem_cons hlt,Jcw] at f2
   have hsi:=hs _ (QC hlt)
   have hsl:=hsi.2.2.1
   have hti:Jc (r_rules.take i).length:=by unfold Jc at *;rw[List.length_take];omega
   have h:=Jat 230 [.ro [.str r_rules[i].host,.str r_rules[i].pfx,.slice false (Ja r_rules[i].split)]] (Jnm _ _ _) (JhZ r_rules[i]) (r_rules.take i) (fun y _=>JqP _ _ _ y.host y.pfx y.split) hti
   (repeat' (first
 | (with_reducible first|refine callX.by (h) ?_|refine callX.by (JdD _ _ _ ?_) ?_|refine callX.by (Jat _ _ ?_ _ _ ?_ ?_) ?_|refine callX.by (JcI _ _ ?_) ?_|assumption|(refine Qw hK _ ?_;clear hK K)|refine Qw ‹_› _ ?_|refine Qx ‹_› ?_|refine Qi fun K hK=>?_|refine Qj T fun K hK=>?_|refine Ql fun A B hA hB=>?_|refine Qm ?_|refine Qn ?_|refine Qp ?_|refine Qr ?_)
 |(with_reducible first|apply Qy|apply Qz|apply QA)<;>intro hb<;>try simp only[nr] at hb
 |simp only[go_sem,↓reduceIte,Qa,Qh,Qb,Qc,Qd,Qe,Qf,Qg,reduceCtorEq, *,-hs,-f2,-hsi,-h,Int.le_refl,Int.toNat_zero]
 |intro(bn:Bool) hbn))
   all_goals ((repeat clear hK);(repeat clear hA);(repeat clear hB))
   all_goals first
    | (refine hM.on (r_rules.length-(i+1)) (by omega) (by simp only[go_sem,↓reduceIte,Qa,Qh,Qb,Qc,Qd,Qe,Qf,Qg,reduceCtorEq, *,Jg hlt hl,-hs,-f2,-hsi,-h]) ⟨i+1,rfl,by omega,by clear h hM hs hsi;rw[f2,←Jkx hlt];simp_all,?_⟩;simp only[go_sem,↓reduceIte,Qa,Qh,Qb,Qc,Qd,Qe,Qf,Qg,reduceCtorEq, *,Jg hlt hl,-hs,-f2,-hsi,-h];done)
    | (clear h hM hs hsi;simp_all[Jdu];done)
    |trace_state
  ·rw[List.drop_eq_nil_of_le (by omega),Jcw] at f2
   have hr1:=f2
   clear f2 f1 hM
   (repeat' (first
 | (with_reducible first|refine callX.by (JdD _ _ _ ?_) ?_|refine callX.by (Jat _ _ ?_ _ _ ?_ ?_) ?_|refine callX.by (JcI _ _ ?_) ?_|assumption|(refine Qw hK _ ?_;clear hK K)|refine Qw ‹_› _ ?_|refine Qx ‹_› ?_|refine Qi fun K hK=>?_|refine Qj T fun K hK=>?_|refine Ql fun A B hA hB=>?_|refine Qm ?_|refine Qn ?_|refine Qp ?_|refine Qr ?_)
 |(with_reducible first|apply Qy|apply Qz|apply QA)<;>intro hb<;>try simp only[nr] at hb
 |simp only[go_sem,↓reduceIte,Qa,Qh,Qb,Qc,Qd,Qe,Qf,Qg,reduceCtorEq, *,-hs,-hr1]
 |intro(bn:Bool) hbn))
   refine Qs [1,30,31] (fun m ts'=>∃(i:Nat),m=r_hosts.length-i∧i≤r_hosts.length∧Jcv [] r_hosts=Jcv (r_hosts.take i) (r_hosts.drop i)∧ts'.tmp 32=.int .i64 i) r_hosts.length ?_ ?_
   ·refine⟨0,?_⟩
    simp only[go_sem,↓reduceIte,Qa,Qh,Qb,Qc,Qd,Qe,Qf,Qg,reduceCtorEq, *,-hs,-hr1]
   ·rintro m A hM ts' hk ⟨i,hm,f1,f2,s1⟩
    simp only[go_sem,↓reduceIte,Qa,Qh,Qb,Qc,Qd,Qe,Qf,Qg,reduceCtorEq, *] at hk
    by_cases hlt:i<r_hosts.length
    ·rw[List.drop_eq_getElem_cons hlt,Jcv] at f2
     have hti:Jc (r_hosts.take i).length:=by unfold Jc at *;rw[List.length_take];omega
     (repeat' (first
 | (with_reducible first|refine callX.by (JdD _ _ _ ?_) ?_|refine callX.by (Jat _ _ ?_ _ _ ?_ ?_) ?_|refine callX.by (JcI _ _ ?_) ?_|assumption|(refine Qw hK _ ?_;clear hK K)|refine Qw ‹_› _ ?_|refine Qx ‹_› ?_|refine Qi fun K hK=>?_|refine Qj T fun K hK=>?_|refine Ql fun A B hA hB=>?_|refine Qm ?_|refine Qn ?_|refine Qp ?_|refine Qr ?_)
 |(with_reducible first|apply Qy|apply Qz|apply QA)<;>intro hb<;>try simp only[nr] at hb
 |simp only[go_sem,↓reduceIte,Qa,Qh,Qb,Qc,Qd,Qe,Qf,Qg,reduceCtorEq, *,-hs,-f2,-hr1,Int.le_refl,Int.toNat_zero]
 |intro(bn:Bool) hbn))
     all_goals ((repeat clear hK);(repeat clear hA);(repeat clear hB))
     all_goals first
      | (refine hM.on (r_hosts.length-(i+1)) (by omega) (by simp only[go_sem,↓reduceIte,Qa,Qh,Qb,Qc,Qd,Qe,Qf,Qg,reduceCtorEq, *,Jg hlt hh,-hs,-f2,-hr1]) ⟨i+1,rfl,by omega,by clear hM hs;rw[f2,←Jkx hlt];simp_all,?_⟩;simp only[go_sem,↓reduceIte,Qa,Qh,Qb,Qc,Qd,Qe,Qf,Qg,reduceCtorEq, *,Jg hlt hh,-hs,-f2,-hr1];done)
      | (clear hM hs;simp_all[Jdu];done)
      |trace_state
    ·rw[List.drop_eq_nil_of_le (by omega),Jcv] at f2
     (repeat' (first
 | (with_reducible first|refine callX.by (JdD _ _ _ ?_) ?_|refine callX.by (Jat _ _ ?_ _ _ ?_ ?_) ?_|refine callX.by (JcI _ _ ?_) ?_|assumption|(refine Qw hK _ ?_;clear hK K)|refine Qw ‹_› _ ?_|refine Qx ‹_› ?_|refine Qi fun K hK=>?_|refine Qj T fun K hK=>?_|refine Ql fun A B hA hB=>?_|refine Qm ?_|refine Qn ?_|refine Qp ?_|refine Qr ?_)
 |(with_reducible first|apply Qy|apply Qz|apply QA)<;>intro hb<;>try simp only[nr] at hb
 |simp only[go_sem,↓reduceIte,Qa,Qh,Qb,Qc,Qd,Qe,Qf,Qg,reduceCtorEq, *,-hs,-f2,-hr1]
 |intro(bn:Bool) hbn))
     all_goals ((repeat clear hK);(repeat clear hA);(repeat clear hB))
     all_goals (clear hM hs;simp_all[Jdu])
def V1(r:Res):Int:=if ZB r.kind 3=false then 4 else if Yv r.name=false then 5 else if Zz r=false then 3 else if JgQ r=false then 2 else if Jf1 r=false then 5 else if Jdu r=false then 2 else 0
theorem Vz(Ln:Int)(Lp:List UInt8)(Lx Lq:Int)(LA:List UInt8)(r_rules:List Rule)(r_hosts:List Int)(hl:Jc r_rules.length)(hh:Jc r_hosts.length)(hs:∀x∈r_rules,VR x):CallR Tryz.prog 157 [.agg [.int .i64 Ln,.str Lp,.int .i64 Lx,.int .i64 Lq,.str LA,.slice false (Ja r_rules),.slice false (Ja r_hosts)]] (.val (.int .i64 (V1 (⟨Ln,Lp,Lx,Lq,LA,r_rules,r_hosts⟩:Res)))):=by
 refine Jl Tryz.call157 Tryz.func157 rfl Tryz.ntmps157 Tryz.results157 fun ts hn h0=>?_
 (repeat' (first
 | (with_reducible first|refine callX.by (JcA _ _) ?_|refine callX.by (Jcg _) ?_|refine callX.by (JqW _ _ _ _ _ _ _ ?_ ?_ ?_) ?_|refine callX.by (JqK _ _ _ _ _ _ _) ?_|refine callX.by (Jo6 _ _ _ _ _ _ _ ?_ ?_) ?_|refine callX.by (JqQ _ _ _ _ _ _ _ ?_ ?_ ?_) ?_|assumption|(refine Qw hK _ ?_;clear hK K)|refine Qw ‹_› _ ?_|refine Qx ‹_› ?_|refine Qi fun K hK=>?_|refine Qj T fun K hK=>?_|refine Ql fun A B hA hB=>?_|refine Qm ?_|refine Qn ?_|refine Qr ?_)
 |(with_reducible first|apply Qy|apply Qz|apply QA)<;>intro hb<;>try simp only[nr] at hb
 |simp only[go_sem,↓reduceIte,Qa,Qh,Qb,Qc,Qd,Qe,Qf,Qg,reduceCtorEq, *,-hs]
 |intro(bn:Bool) hbn))
 all_goals ((repeat clear hK);(repeat clear hA);(repeat clear hB))
 all_goals first|assumption|(clear hs;simp_all[V1])
@[go_sem] def Wd5:List (List Nat×List Nat):=[([48],[50,52,53,54,55,56,57]),([49],[50,53,54,55,56,57]),([50],[48,49,53,54,55,56,57]),([51],[53,54,55,56,57]),([52],[48,53,54,55,56,57]),([53],[48,49,50,51,52,55,57]),([54],[48,49,50,51,52,55]),([55],[48,49,50,51,52,53,54]),([56],[48,49,50,51,52]),([57],[48,49,50,51,52,53])]
@[go_sem] def Wd6:List (List Nat×List Nat):=[([17],[18,21,22,23,24]),([18],[17,21,22,23,24]),([19],[21,22,23,24]),([20],[21,22,23,24]),([21],[17,18,19,20,22]),([22],[17,18,19,20,21]),([23],[17,18,19,20]),([24],[17,18,19,20])]
def JbM(a b:Res):Bool:=decide (a.kind=b.kind∧a.name=b.name∧a.port=b.port∧a.to'=b.to'∧a.rules'=b.rules'∧a.hosts=b.hosts)
theorem JmL(LF:Int)(LG:List UInt8)(LK Lb:Int)(LQ:List UInt8)(a_rules:List Rule)(a_hosts:List Int)(LH:Int)(LI:List UInt8)(LL LJ:Int)(LR:List UInt8)(LC:List Rule)(b_hosts:List Int)(hh:Jc a_hosts.length)(hl:Jc a_rules.length)(hs:∀x∈a_rules,VR x):CallR Tryz.prog 87 [.agg [.int .i64 LF,.str LG,.int .i64 LK,.int .i64 Lb,.str LQ,.slice false (Ja a_rules),.slice false (Ja a_hosts)],.agg [.int .i64 LH,.str LI,.int .i64 LL,.int .i64 LJ,.str LR,.slice false (Ja LC),.slice false (Ja b_hosts)]] (.val (.bool (JbM (⟨LF,LG,LK,Lb,LQ,a_rules,a_hosts⟩:Res) (⟨LH,LI,LL,LJ,LR,LC,b_hosts⟩:Res)))):=by
 refine Jn Tryz.call87 Tryz.func87 rfl Tryz.ntmps87 Tryz.results87 fun ts hn h0 h1=>?_
 by_cases hll:a_hosts.length=b_hosts.length
 ·(repeat' (first
 | (with_reducible first|refine callX.by (JeS _ _ ?_ ?_) ?_|assumption|(refine Qw hK _ ?_;clear hK K)|refine Qw ‹_› _ ?_|refine Qx ‹_› ?_|refine Qi fun K hK=>?_|refine Qj T fun K hK=>?_|refine Qk (id:=6) T mixed Wd5 (by kernel_rfl) fun K hK=>?_|refine Ql fun A B hA hB=>?_|refine Qm ?_|refine Qn ?_|refine Qp ?_|refine Qr ?_)
 |(with_reducible first|apply Qy|apply Qz|apply QA)<;>intro hb<;>try simp only[nr] at hb
 |simp only[go_sem,↓reduceIte,Qa,Qh,Qb,Qc,Qd,Qe,Qf,Qg,reduceCtorEq, *]
 |intro(bn:Bool) hbn))
  iterate 4 (focus(all_goals ((repeat clear hK);(repeat clear hA);(repeat clear hB));clear hs;grind [JbM]))
  refine Qs [2,3] (fun m ts'=>∃(i:Nat),m=a_hosts.length-i∧i≤a_hosts.length∧a_hosts.take i=b_hosts.take i∧ts'.tmp 5=.int .i64 i) a_hosts.length ?_ ?_
  ·refine⟨0,?_⟩
   simp only[go_sem,↓reduceIte,Qa,Qh,Qb,Qc,Qd,Qe,Qf,Qg,reduceCtorEq, *]
  ·rintro m A hM ts' hk ⟨i,hm,f1,f2,s1⟩
   simp only[go_sem,↓reduceIte,Qa,Qh,Qb,Qc,Qd,Qe,Qf,Qg,reduceCtorEq, *] at hk
   by_cases hlt:i<a_hosts.length
   ·have hlu:i<b_hosts.length:=by omega
    have hne:=ZW hlt hlu
    (repeat' (first
 | (with_reducible first|refine callX.by (JeS _ _ ?_ ?_) ?_|assumption|(refine Qw hK _ ?_;clear hK K)|refine Qw ‹_› _ ?_|refine Qx ‹_› ?_|refine Qi fun K hK=>?_|refine Qj T fun K hK=>?_|refine Qk (id:=6) T mixed Wd5 (by kernel_rfl) fun K hK=>?_|refine Ql fun A B hA hB=>?_|refine Qm ?_|refine Qn ?_|refine Qp ?_|refine Qr ?_)
 |(with_reducible first|apply Qy|apply Qz|apply QA)<;>intro hb<;>try simp only[nr] at hb
 |simp only[go_sem,↓reduceIte,Qa,Qh,Qb,Qc,Qd,Qe,Qf,Qg,reduceCtorEq, *]
 |intro(bn:Bool) hbn))
    all_goals ((repeat clear hK);(repeat clear hA);(repeat clear hB))
    all_goals first
     | (refine hM.on (a_hosts.length-(i+1)) (by omega) (by simp only[go_sem,↓reduceIte,Qa,Qh,Qb,Qc,Qd,Qe,Qf,Qg,reduceCtorEq, *,Jg hlt hh]) ⟨i+1,rfl,by omega,by clear hM hs;apply ZV f2 hlt hlu;grind,?_⟩;simp only[go_sem,↓reduceIte,Qa,Qh,Qb,Qc,Qd,Qe,Qf,Qg,reduceCtorEq, *,Jg hlt hh];done)
     | (clear hM hs;grind [JbM])
   ·have:=ZU f2 hlt hll
    (repeat' (first
 | (with_reducible first|refine callX.by (JeS _ _ ?_ ?_) ?_|assumption|(refine Qw hK _ ?_;clear hK K)|refine Qw ‹_› _ ?_|refine Qx ‹_› ?_|refine Qi fun K hK=>?_|refine Qj T fun K hK=>?_|refine Qk (id:=6) T mixed Wd5 (by kernel_rfl) fun K hK=>?_|refine Ql fun A B hA hB=>?_|refine Qm ?_|refine Qn ?_|refine Qp ?_|refine Qr ?_)
 |(with_reducible first|apply Qy|apply Qz|apply QA)<;>intro hb<;>try simp only[nr] at hb
 |simp only[go_sem,↓reduceIte,Qa,Qh,Qb,Qc,Qd,Qe,Qf,Qg,reduceCtorEq, *]
 |intro(bn:Bool) hbn))
    all_goals ((repeat clear hK);(repeat clear hA);(repeat clear hB))
    all_goals (clear hM hs;grind [JbM])
 ·have:¬a_hosts=b_hosts:=by rintro rfl;exact hll rfl
  (repeat' (first
 | (with_reducible first|refine callX.by (JeS _ _ ?_ ?_) ?_|assumption|(refine Qw hK _ ?_;clear hK K)|refine Qw ‹_› _ ?_|refine Qx ‹_› ?_|refine Qi fun K hK=>?_|refine Qj T fun K hK=>?_|refine Qk (id:=6) T mixed Wd5 (by kernel_rfl) fun K hK=>?_|refine Ql fun A B hA hB=>?_|refine Qm ?_|refine Qn ?_|refine Qp ?_|refine Qr ?_)
 |(with_reducible first|apply Qy|apply Qz|apply QA)<;>intro hb<;>try simp only[nr] at hb
 |simp only[go_sem,↓reduceIte,Qa,Qh,Qb,Qc,Qd,Qe,Qf,Qg,reduceCtorEq, *]
 |intro(bn:Bool) hbn))
  all_goals ((repeat clear hK);(repeat clear hA);(repeat clear hB))
  all_goals (clear hs;grind [JbM])
theorem JeW(LF:Int)(LG:List UInt8)(LK Lb:Int)(LQ:List UInt8)(a_rules:List Rule)(a_hosts:List Int)(LH:Int)(LI:List UInt8)(LL LJ:Int)(LR:List UInt8)(LC:List Rule)(b_hosts:List Int)(hh:Jc a_hosts.length)(hl:Jc a_rules.length)(hs:∀x∈a_rules,VR x):CallR Tryz.prog 56 [.agg [.int .i64 LF,.str LG,.int .i64 LK,.int .i64 Lb,.str LQ,.slice false (Ja a_rules),.slice false (Ja a_hosts)],.agg [.int .i64 LH,.str LI,.int .i64 LL,.int .i64 LJ,.str LR,.slice false (Ja LC),.slice false (Ja b_hosts)]] (.val (.bool (decide ((⟨LF,LG,LK,Lb,LQ,a_rules,a_hosts⟩:Res)=(⟨LH,LI,LL,LJ,LR,LC,b_hosts⟩:Res))))):=by
 refine Jn Tryz.call56 Tryz.func56 rfl Tryz.ntmps56 Tryz.results56 fun ts hn h0 h1=>?_
 (repeat' (first
 | (with_reducible first|refine callX.by (JmL _ _ _ _ _ _ _ _ _ _ _ _ _ _ ?_ ?_ ?_) ?_|assumption|(refine Qw hK _ ?_;clear hK K)|refine Qw ‹_› _ ?_|refine Qx ‹_› ?_|refine Qi fun K hK=>?_|refine Qj T fun K hK=>?_|refine Ql fun A B hA hB=>?_|refine Qn ?_|refine Qr ?_)
 |(with_reducible first|apply Qy|apply Qz|apply QA)<;>intro hb<;>try simp only[nr] at hb
 |simp only[go_sem,↓reduceIte,Qa,Qh,Qb,Qc,Qd,Qe,Qf,Qg,reduceCtorEq, *]
 |intro(bn:Bool) hbn))
 all_goals ((repeat clear hK);(repeat clear hA);(repeat clear hB))
 all_goals (clear hs;grind [JbM])
theorem JmN(xs ys:List Res)(hl:Jc xs.length)(hs:∀x∈xs,Jy x):CallR Tryz.prog 23 [.slice false (Ja xs),.slice false (Ja ys)] (.val (.bool (decide (xs=ys)))):=by
 refine Jn Tryz.call23 Tryz.func23 rfl Tryz.ntmps23 Tryz.results23 fun ts hn h0 h1=>?_
 by_cases hll:xs.length=ys.length
 ·(repeat' (first
 | (with_reducible first|refine callX.by (JeW _ _ _ _ _ _ _ _ _ _ _ _ _ _ ?_ ?_ ?_) ?_|assumption|(refine Qw hK _ ?_;clear hK K)|refine Qw ‹_› _ ?_|refine Qx ‹_› ?_|refine Qi fun K hK=>?_|refine Qj T fun K hK=>?_|refine Qk (id:=6) T mixed Wd6 (by kernel_rfl) fun K hK=>?_|refine Ql fun A B hA hB=>?_|refine Qm ?_|refine Qn ?_|refine Qp ?_|refine Qr ?_)
 |(with_reducible first|apply Qy|apply Qz|apply QA)<;>intro hb<;>try simp only[nr] at hb
 |simp only[go_sem,↓reduceIte,Qa,Qh,Qb,Qc,Qd,Qe,Qf,Qg,reduceCtorEq, *]
 |intro(bn:Bool) hbn))
  refine Qs [0,1] (fun m ts'=>∃(i:Nat),m=xs.length-i∧i≤xs.length∧xs.take i=ys.take i∧ts'.tmp 5=.int .i64 i) xs.length ?_ ?_
  ·refine⟨0,?_⟩
   simp only[go_sem,↓reduceIte,Qa,Qh,Qb,Qc,Qd,Qe,Qf,Qg,reduceCtorEq, *]
  ·rintro m A hM ts' hk ⟨i,hm,f1,f2,s1⟩
   simp only[go_sem,↓reduceIte,Qa,Qh,Qb,Qc,Qd,Qe,Qf,Qg,reduceCtorEq, *] at hk
   by_cases hlt:i<xs.length
   ·have hlu:i<ys.length:=by omega
    have hne:=ZW hlt hlu
    obtain⟨hs1,hs2,hs3,hs4,hs5⟩:=hs xs[i] (QC hlt)
    (repeat' (first
 | (with_reducible first|refine callX.by (JeW _ _ _ _ _ _ _ _ _ _ _ _ _ _ ?_ ?_ ?_) ?_|assumption|(refine Qw hK _ ?_;clear hK K)|refine Qw ‹_› _ ?_|refine Qx ‹_› ?_|refine Qi fun K hK=>?_|refine Qj T fun K hK=>?_|refine Qk (id:=6) T mixed Wd6 (by kernel_rfl) fun K hK=>?_|refine Ql fun A B hA hB=>?_|refine Qm ?_|refine Qn ?_|refine Qp ?_|refine Qr ?_)
 |(with_reducible first|apply Qy|apply Qz|apply QA)<;>intro hb<;>try simp only[nr] at hb
 |simp only[go_sem,↓reduceIte,Qa,Qh,Qb,Qc,Qd,Qe,Qf,Qg,reduceCtorEq, *]
 |intro(bn:Bool) hbn))
    all_goals ((repeat clear hK);(repeat clear hA);(repeat clear hB))
    all_goals clear hs hs4
    all_goals first
     | (refine hM.on (xs.length-(i+1)) (by omega) (by simp only[go_sem,↓reduceIte,Qa,Qh,Qb,Qc,Qd,Qe,Qf,Qg,reduceCtorEq, *,Jg hlt hl]) ⟨i+1,rfl,by omega,by clear hM;apply ZV f2 hlt hlu;grind,?_⟩;simp only[go_sem,↓reduceIte,Qa,Qh,Qb,Qc,Qd,Qe,Qf,Qg,reduceCtorEq, *,Jg hlt hl];done)
     | (clear hM;grind)
   ·have:=ZU f2 hlt hll
    (repeat' (first
 | (with_reducible first|refine callX.by (JeW _ _ _ _ _ _ _ _ _ _ _ _ _ _ ?_ ?_ ?_) ?_|assumption|(refine Qw hK _ ?_;clear hK K)|refine Qw ‹_› _ ?_|refine Qx ‹_› ?_|refine Qi fun K hK=>?_|refine Qj T fun K hK=>?_|refine Qk (id:=6) T mixed Wd6 (by kernel_rfl) fun K hK=>?_|refine Ql fun A B hA hB=>?_|refine Qm ?_|refine Qn ?_|refine Qp ?_|refine Qr ?_)
 |(with_reducible first|apply Qy|apply Qz|apply QA)<;>intro hb<;>try simp only[nr] at hb
 |simp only[go_sem,↓reduceIte,Qa,Qh,Qb,Qc,Qd,Qe,Qf,Qg,reduceCtorEq, *]
 |intro(bn:Bool) hbn))
    all_goals ((repeat clear hK);(repeat clear hA);(repeat clear hB))
    all_goals (clear hM hs;grind)
 ·have:¬xs=ys:=by rintro rfl;exact hll rfl
  (repeat' (first
 | (with_reducible first|refine callX.by (JeW _ _ _ _ _ _ _ _ _ _ _ _ _ _ ?_ ?_ ?_) ?_|assumption|(refine Qw hK _ ?_;clear hK K)|refine Qw ‹_› _ ?_|refine Qx ‹_› ?_|refine Qi fun K hK=>?_|refine Qj T fun K hK=>?_|refine Qk (id:=6) T mixed Wd6 (by kernel_rfl) fun K hK=>?_|refine Ql fun A B hA hB=>?_|refine Qm ?_|refine Qn ?_|refine Qp ?_|refine Qr ?_)
 |(with_reducible first|apply Qy|apply Qz|apply QA)<;>intro hb<;>try simp only[nr] at hb
 |simp only[go_sem,↓reduceIte,Qa,Qh,Qb,Qc,Qd,Qe,Qf,Qg,reduceCtorEq, *]
 |intro(bn:Bool) hbn))
  all_goals ((repeat clear hK);(repeat clear hA);(repeat clear hB))
  all_goals (clear hs;grind)
def V7(xs:List Res):Bool:=xs.all JbY && decide (xs.length≤80)
theorem JbX(xs:List Res)(hl:Jc xs.length)(hs:∀x∈xs,Jy x):CallR Tryz.prog 63 [.slice false (Ja xs)] (.val (.bool (V7 xs))):=by
 refine Jl Tryz.call63 Tryz.func63 rfl Tryz.ntmps63 Tryz.results63 fun ts hn h0=>?_
 (repeat' (first
 | (with_reducible first|refine callX.by (JfJ _ _ _ _ _ _ _ ?_) ?_|assumption|(refine Qw hK _ ?_;clear hK K)|refine Qw ‹_› _ ?_|refine Qx ‹_› ?_|refine Qi fun K hK=>?_|refine Qj T fun K hK=>?_|refine Ql fun A B hA hB=>?_|refine Qm ?_|refine Qn ?_|refine Qp ?_|refine Qr ?_)
 |(with_reducible first|apply Qy|apply Qz|apply QA)<;>intro hb<;>try simp only[nr] at hb
 |simp only[go_sem,↓reduceIte,Qa,Qh,Qb,Qc,Qd,Qe,Qf,Qg,reduceCtorEq, *]
 |intro(bn:Bool) hbn))
 refine Qs [0] (fun m ts'=>∃(i:Nat),m=xs.length-i∧i≤xs.length∧xs.all JbY=(xs.drop i).all JbY∧ts'.tmp 3=.int .i64 i) xs.length ?_ ?_
 ·refine⟨0,?_⟩
  simp only[go_sem,↓reduceIte,Qa,Qh,Qb,Qc,Qd,Qe,Qf,Qg,reduceCtorEq, *]
 ·rintro m A hM ts' hk ⟨i,hm,f1,f2,s1⟩
  simp only[go_sem,↓reduceIte,Qa,Qh,Qb,Qc,Qd,Qe,Qf,Qg,reduceCtorEq, *] at hk
  by_cases hlt:i<xs.length
  ·rw[List.drop_eq_getElem_cons hlt,List.all_cons] at f2
   obtain⟨hs1,hs2,hs3,hs4,hs5⟩:=hs xs[i] (QC hlt)
   (repeat' (first
 | (with_reducible first|refine callX.by (JfJ _ _ _ _ _ _ _ ?_) ?_|assumption|(refine Qw hK _ ?_;clear hK K)|refine Qw ‹_› _ ?_|refine Qx ‹_› ?_|refine Qi fun K hK=>?_|refine Qj T fun K hK=>?_|refine Ql fun A B hA hB=>?_|refine Qm ?_|refine Qn ?_|refine Qp ?_|refine Qr ?_)
 |(with_reducible first|apply Qy|apply Qz|apply QA)<;>intro hb<;>try simp only[nr] at hb
 |simp only[go_sem,↓reduceIte,Qa,Qh,Qb,Qc,Qd,Qe,Qf,Qg,reduceCtorEq, *]
 |intro(bn:Bool) hbn))
   all_goals ((repeat clear hK);(repeat clear hA);(repeat clear hB))
   all_goals clear hs hs4
   all_goals first
    | (refine hM.on (xs.length-(i+1)) (by omega) (by simp only[go_sem,↓reduceIte,Qa,Qh,Qb,Qc,Qd,Qe,Qf,Qg,reduceCtorEq, *,Jg hlt hl,-f2]) ⟨i+1,rfl,by omega,by clear hM;grind,?_⟩;simp only[go_sem,↓reduceIte,Qa,Qh,Qb,Qc,Qd,Qe,Qf,Qg,reduceCtorEq, *,Jg hlt hl,-f2];done)
    | (clear hM;grind [V7])
  ·rw[List.drop_eq_nil_of_le (by omega),List.all_nil] at f2
   (repeat' (first
 | (with_reducible first|refine callX.by (JfJ _ _ _ _ _ _ _ ?_) ?_|assumption|(refine Qw hK _ ?_;clear hK K)|refine Qw ‹_› _ ?_|refine Qx ‹_› ?_|refine Qi fun K hK=>?_|refine Qj T fun K hK=>?_|refine Ql fun A B hA hB=>?_|refine Qm ?_|refine Qn ?_|refine Qp ?_|refine Qr ?_)
 |(with_reducible first|apply Qy|apply Qz|apply QA)<;>intro hb<;>try simp only[nr] at hb
 |simp only[go_sem,↓reduceIte,Qa,Qh,Qb,Qc,Qd,Qe,Qf,Qg,reduceCtorEq, *]
 |intro(bn:Bool) hbn))
   all_goals ((repeat clear hK);(repeat clear hA);(repeat clear hB))
   all_goals (clear hM hs;grind [V7])
def Va(p:Pins):Pins:=if Jcq p then p else ⟨0,[]⟩
def Zx(p:Pins)(i:Nat)(s:Snap):Pins:=⟨p.next',p.snaps.take i++(if 0<s.pins∨i+1=p.snaps.length then [s] else [])++p.snaps.drop (i+1)⟩
def JeQ(p:Pins)(l:List Res):Pins×Int×Int :=
 let q:=Va p
 if q.next'=2147483647 then (q,0,14) else
  let s:=q.snaps.filter fun x=>decide (0<x.pins)
  if 1000≤s.length then (q,0,8) else
   (⟨IntKind.i64.wrap (q.next'+1),s++[⟨IntKind.i64.wrap (q.next'+1),0,l⟩]⟩,IntKind.i64.wrap (q.next'+1),0)
def Jae(p:Pins)(id:Int):List Res×Bool :=
 match (Va p).snaps.find? fun x=>decide (x.id=id) with
 |none=>([],false)
 |some s=>(s.l,true)
def JeP(p:Pins):Pins×Int×Int :=
 let q:=Va p
 match q.snaps.getLast? with
 |none=>(q,0,10)
 |some s=>if s.pins=10000 then (q,0,14) else (Zx q (q.snaps.length-1) ⟨s.id,IntKind.i64.wrap (s.pins+1),s.l⟩,s.id,0)
def Jbu(q:Pins)(id:Int):List Snap→Nat→Pins×Int
 | [],_=>(q,10)
 |s :: r,i=>if s.id=id then (if s.pins=0 then (q,15) else (Zx q i ⟨s.id,IntKind.i64.wrap (s.pins-1),s.l⟩,0)) else Jbu q id r (i+1)
def Zw(p:Pins)(id:Int):Pins×Int:=Jbu (Va p) id (Va p).snaps 0
def Ja9(p:Pins):Bool:=p.snaps.all (fun s=>V7 s.l) && decide (p.snaps.length≤20)
theorem JnM(next:Int)(xs:List Snap)(hl:Jc xs.length)(hs:∀x∈xs,Yp x):CallR Tryz.prog 72 [.agg [.int .i64 next,.slice false (Ja xs)]] (.val (.bool (Ja9 ⟨next,xs⟩))):=by
 refine Jl Tryz.call72 Tryz.func72 rfl Tryz.ntmps72 Tryz.results72 fun ts hn h0=>?_
 (repeat' (first
 | (with_reducible first|refine callX.by (JbX _ ?_ ?_) ?_|assumption|(refine Qw hK _ ?_;clear hK K)|refine Qw ‹_› _ ?_|refine Qx ‹_› ?_|refine Qi fun K hK=>?_|refine Qj T fun K hK=>?_|refine Ql fun A B hA hB=>?_|refine Qm ?_|refine Qn ?_|refine Qp ?_|refine Qr ?_)
 |(with_reducible first|apply Qy|apply Qz|apply QA)<;>intro hb<;>try simp only[nr] at hb
 |simp only[go_sem,↓reduceIte,Qa,Qh,Qb,Qc,Qd,Qe,Qf,Qg,reduceCtorEq, *]
 |intro(bn:Bool) hbn))
 refine Qs [1] (fun m ts'=>∃(i:Nat),m=xs.length-i∧i≤xs.length∧xs.all (fun s=>V7 s.l)=(xs.drop i).all (fun s=>V7 s.l)∧ts'.tmp 3=.int .i64 i) xs.length ?_ ?_
 ·refine⟨0,?_⟩
  simp only[go_sem,↓reduceIte,Qa,Qh,Qb,Qc,Qd,Qe,Qf,Qg,reduceCtorEq, *]
 ·rintro m A hM ts' hk ⟨i,hm,f1,f2,s1⟩
  simp only[go_sem,↓reduceIte,Qa,Qh,Qb,Qc,Qd,Qe,Qf,Qg,reduceCtorEq, *] at hk
  by_cases hlt:i<xs.length
  ·rw[List.drop_eq_getElem_cons hlt,List.all_cons] at f2
   obtain⟨hs1,hs2⟩:=hs xs[i] (QC hlt)
   (repeat' (first
 | (with_reducible first|refine callX.by (JbX _ ?_ ?_) ?_|assumption|(refine Qw hK _ ?_;clear hK K)|refine Qw ‹_› _ ?_|refine Qx ‹_› ?_|refine Qi fun K hK=>?_|refine Qj T fun K hK=>?_|refine Ql fun A B hA hB=>?_|refine Qm ?_|refine Qn ?_|refine Qp ?_|refine Qr ?_)
 |(with_reducible first|apply Qy|apply Qz|apply QA)<;>intro hb<;>try simp only[nr] at hb
 |simp only[go_sem,↓reduceIte,Qa,Qh,Qb,Qc,Qd,Qe,Qf,Qg,reduceCtorEq, *]
 |intro(bn:Bool) hbn))
   all_goals ((repeat clear hK);(repeat clear hA);(repeat clear hB))
   all_goals clear hs hs2
   all_goals first
    | (refine hM.on (xs.length-(i+1)) (by omega) (by simp only[go_sem,↓reduceIte,Qa,Qh,Qb,Qc,Qd,Qe,Qf,Qg,reduceCtorEq, *,Jg hlt hl,-f2]) ⟨i+1,rfl,by omega,by clear hM;grind,?_⟩;simp only[go_sem,↓reduceIte,Qa,Qh,Qb,Qc,Qd,Qe,Qf,Qg,reduceCtorEq, *,Jg hlt hl,-f2];done)
    | (clear hM;grind [Ja9])
  ·rw[List.drop_eq_nil_of_le (by omega),List.all_nil] at f2
   (repeat' (first
 | (with_reducible first|refine callX.by (JbX _ ?_ ?_) ?_|assumption|(refine Qw hK _ ?_;clear hK K)|refine Qw ‹_› _ ?_|refine Qx ‹_› ?_|refine Qi fun K hK=>?_|refine Qj T fun K hK=>?_|refine Ql fun A B hA hB=>?_|refine Qm ?_|refine Qn ?_|refine Qp ?_|refine Qr ?_)
 |(with_reducible first|apply Qy|apply Qz|apply QA)<;>intro hb<;>try simp only[nr] at hb
 |simp only[go_sem,↓reduceIte,Qa,Qh,Qb,Qc,Qd,Qe,Qf,Qg,reduceCtorEq, *]
 |intro(bn:Bool) hbn))
   all_goals ((repeat clear hK);(repeat clear hA);(repeat clear hB))
   all_goals (clear hM hs;grind [Ja9])
theorem JhF:∀a b:List UInt8,Lib.compareBytes b a=- Lib.compareBytes a b
 | [],[]=>rfl
 | [],_ :: _=>rfl
 |_ :: _,[]=>rfl
 |x :: a,y :: b=>by
  have h:=JhF a b
  have hxy:¬(x<y∧y<x):=fun h=>by simp only[UInt8.lt_iff_toNat_lt] at h;omega
  simp only[Lib.compareBytes]
  by_cases h1:x<y<;>by_cases h2:y<x<;>simp[h1,h2,h]
  exact absurd ⟨h1,h2⟩ hxy
theorem JhH:∀a b:List UInt8,Lib.compareBytes a b=0→a=b
 | [],[]=>fun _=>rfl
 | [],_ :: _=>fun h=>by simp[Lib.compareBytes] at h
 |_ :: _,[]=>fun h=>by simp[Lib.compareBytes] at h
 |x :: a,y :: b=>fun h=>by
  simp only[Lib.compareBytes] at h
  by_cases h1:x<y
  ·simp[h1] at h
  ·by_cases h2:y<x
   ·simp[h1,h2] at h
   ·have e:x=y:=by
     apply UInt8.toNat_inj.1
     simp only[UInt8.lt_iff_toNat_lt] at h1 h2;omega
    rw[if_neg h1,if_neg h2] at h
    rw[e,JhH a b h]
theorem JhG:∀a b c:List UInt8,Lib.compareBytes a b<0→Lib.compareBytes b c<0→Lib.compareBytes a c<0
 | [],[],_,h,_=>by simp[Lib.compareBytes] at h
 | [],_ :: _,[],_,h=>by simp[Lib.compareBytes] at h
 | [],_ :: _,_ :: _,_,_=>by simp[Lib.compareBytes]
 |_ :: _,[],_,h,_=>by simp[Lib.compareBytes] at h
 |_ :: _,_ :: _,[],_,h=>by simp[Lib.compareBytes] at h
 |x :: a,y :: b,z :: c,h,k=>by
  simp only[Lib.compareBytes,UInt8.lt_iff_toNat_lt] at h k ⊢
  by_cases h1:x.toNat<y.toNat
  ·by_cases k1:y.toNat<z.toNat
   ·rw[if_pos (by omega)];omega
   ·rw[if_neg k1] at k
    by_cases k2:z.toNat<y.toNat
    ·rw[if_pos k2] at k;omega
    ·rw[if_pos (by omega)];omega
  ·rw[if_neg h1] at h
   by_cases h2:y.toNat<x.toNat
   ·rw[if_pos h2] at h;omega
   ·rw[if_neg h2] at h
    by_cases k1:y.toNat<z.toNat
    ·rw[if_pos (by omega)];omega
    ·rw[if_neg k1] at k
     by_cases k2:z.toNat<y.toNat
     ·rw[if_pos k2] at k;omega
     ·rw[if_neg k2] at k
      rw[if_neg (by omega),if_neg (by omega)]
      exact JhG a b c h k
theorem Jef(a b:Key):JL a b=if a.kind<b.kind then -1 else if b.kind<a.kind then 1 else Lib.compareBytes a.name b.name:=by
 unfold JL JaS
 generalize Lib.compareBytes a.name b.name=c
 simp only[ior,Jay]
 by_cases h1:a.kind<b.kind
 ·simp[h1]
 ·by_cases h2:b.kind<a.kind
  ·simp[h1,h2]
  ·by_cases h3:c=0
   ·simp[h1,h2,h3]
   ·simp[h1,h2,h3]
theorem Jb7(a b:Key):JL b a=- JL a b:=by
 have h:=JhF a.name b.name
 rw[Jef,Jef,h]
 by_cases h1:a.kind<b.kind
 ·rw[if_neg (by omega),if_pos h1,if_pos h1];rfl
 ·by_cases h2:b.kind<a.kind
  ·rw[if_pos h2,if_neg h1,if_pos h2]
  ·rw[if_neg h2,if_neg h1,if_neg h1,if_neg h2]
theorem Jeg(a b:Key)(h:JL a b=0):a=b:=by
 obtain⟨k1,n1⟩:=a;obtain⟨k2,n2⟩:=b
 rw[Jef] at h
 simp only at h
 by_cases h1:k1<k2
 ·rw[if_pos h1] at h;omega
 ·by_cases h2:k2<k1
  ·rw[if_neg h1,if_pos h2] at h;omega
  ·rw[if_neg h1,if_neg h2] at h
   have e:k1=k2:=by omega
   rw[e,JhH _ _ h]
theorem Jox(a b:Key):JL a b<0↔a.kind<b.kind∨(a.kind=b.kind∧Lib.compareBytes a.name b.name<0):=by
 rw[Jef]
 by_cases h1:a.kind<b.kind
 ·rw[if_pos h1];omega
 ·by_cases h2:b.kind<a.kind
  ·rw[if_neg h1,if_pos h2];omega
  ·rw[if_neg h1,if_neg h2];omega
theorem JcV(a b c:Key)(h:JL a b<0)(k:JL b c<0):JL a c<0:=by
 rw[Jox] at h k ⊢
 rcases h with h|⟨h,h'⟩<;>rcases k with k|⟨k,k'⟩
 ·exact .inl (by omega)
 ·exact .inl (by omega)
 ·exact .inl (by omega)
 ·exact .inr ⟨by omega,JhG _ _ _ h' k'⟩
theorem JiO(a:Key):¬JL a a<0:=fun h=>by have:=Jb7 a a;omega
def JM(xs:List Key):List Key:=xs.mergeSort fun x y=>!decide (JL y x<0)
theorem JaB(xs:List Key):(JM xs).length=xs.length:=by simp[JM]
def Vd:List Key→List Key
 |x :: y :: r=>if y=x then Vd (y :: r) else y :: Vd (y :: r)
 |_=>[]
def V8(xs:List Key):List Key:=xs.take 1++Vd xs
def JZ(l:List Snap):List Key:=l.flatMap fun s=>s.l.map Jo
def JV(p:Pins):List Key:=V8 (JM (JZ (Jq p).snaps))
theorem Jiz(s:Snap)(l:List Snap):JZ (s :: l)=s.l.map Jo++JZ l:=rfl
end Go.Proofs.YthjalhfmpffbjaaGreatDoor.Lg
namespace Go.Proofs
open Go.Shelf
def Tryz.sortKey_ren:Go.Shelf.Ren:=⟨fun|6=>119|15=>162|14=>161|28=>206|29=>207|20=>198|21=>199|22=>200|23=>201|24=>202|25=>203|26=>204|27=>205|46=>232|47=>233|48=>234|49=>235|50=>236|57=>247|n=>n,fun|22=>77|24=>134|25=>194|3=>3|39=>234|0=>0|53=>265|55=>267|4=>4|46=>259|45=>258|50=>130|5=>5|9=>9|66=>280|70=>284|76=>293|77=>294|n=>n,fun|n=>n⟩
theorem Tryz.sortKey:Go.Proofs.SlLaysF0.n6 Tryz.prog Tryz.sortKey_ren:={
 mixed:=by kernel_rfl
 f6:=⟨Tryz.f119.name,by decide,Tryz.func119.trans (congrArg some (by kernel_rfl))⟩
 f14:=⟨Tryz.f161.name,by decide,Tryz.func161.trans (congrArg some (by kernel_rfl))⟩
 f15:=Tryz.func162.trans (congrArg some (by kernel_rfl))
 f20:=⟨Tryz.f198.name,by decide,Tryz.func198.trans (congrArg some (by kernel_rfl))⟩
 f21:=⟨Tryz.f199.name,by decide,Tryz.func199.trans (congrArg some (by kernel_rfl))⟩
 f22:=⟨Tryz.f200.name,by decide,Tryz.func200.trans (congrArg some (by kernel_rfl))⟩
 f23:=⟨Tryz.f201.name,by decide,Tryz.func201.trans (congrArg some (by kernel_rfl))⟩
 f24:=⟨Tryz.f202.name,by decide,Tryz.func202.trans (congrArg some (by kernel_rfl))⟩
 f25:=⟨Tryz.f203.name,by decide,Tryz.func203.trans (congrArg some (by kernel_rfl))⟩
 f26:=⟨Tryz.f204.name,by decide,Tryz.func204.trans (congrArg some (by kernel_rfl))⟩
 f27:=⟨Tryz.f205.name,by decide,Tryz.func205.trans (congrArg some (by kernel_rfl))⟩
 f28:=Tryz.func206.trans (congrArg some (by kernel_rfl))
 f29:=Tryz.func207.trans (congrArg some (by kernel_rfl))
 f46:=⟨Tryz.f232.name,by decide,Tryz.func232.trans (congrArg some (by kernel_rfl))⟩
 f47:=Tryz.func233.trans (congrArg some (by kernel_rfl))
 f48:=Tryz.func234.trans (congrArg some (by kernel_rfl))
 f49:=⟨Tryz.f235.name,by decide,Tryz.func235.trans (congrArg some (by kernel_rfl))⟩
 f50:=⟨Tryz.f236.name,by decide,Tryz.func236.trans (congrArg some (by kernel_rfl))⟩
 f57:=⟨Tryz.f247.name,by decide,Tryz.func247.trans (congrArg some (by kernel_rfl))⟩
 t0:=Tryz.underlying0
 a0:=Tryz.isAgg0
 z0:=Tryz.sizeOf0
 v0:=Tryz.zeroValue0
 t3:=Tryz.underlying3
 a3:=Tryz.isAgg3
 z3:=Tryz.sizeOf3
 v3:=Tryz.zeroValue3
 t4:=Tryz.underlying4
 a4:=Tryz.isAgg4
 z4:=Tryz.sizeOf4
 v4:=Tryz.zeroValue4
 t5:=Tryz.underlying5
 a5:=Tryz.isAgg5
 z5:=Tryz.sizeOf5
 v5:=Tryz.zeroValue5
 t9:=Tryz.underlying9
 a9:=Tryz.isAgg9
 z9:=Tryz.sizeOf9
 v9:=Tryz.zeroValue9
 t22:=Tryz.underlying77
 a22:=Tryz.isAgg77
 z22:=Tryz.sizeOf77
 v22:=Tryz.zeroValue77
 t25:=Tryz.underlying194
 a25:=Tryz.isAgg194
 z25:=Tryz.sizeOf194
 v25:=Tryz.zeroValue194
 t39:=Tryz.underlying234
 a39:=Tryz.isAgg234
 z39:=Tryz.sizeOf234
 v39:=Tryz.zeroValue234
 t45:=Tryz.underlying258
 a45:=Tryz.isAgg258
 z45:=Tryz.sizeOf258
 v45:=Tryz.zeroValue258
 t46:=Tryz.underlying259
 a46:=Tryz.isAgg259
 z46:=Tryz.sizeOf259
 v46:=Tryz.zeroValue259
 t50:=Tryz.underlying130
 a50:=Tryz.isAgg130
 z50:=Tryz.sizeOf130
 v50:=Tryz.zeroValue130
 t53:=Tryz.underlying265
 a53:=Tryz.isAgg265
 z53:=Tryz.sizeOf265
 v53:=Tryz.zeroValue265
 t55:=Tryz.underlying267
 a55:=Tryz.isAgg267
 z55:=Tryz.sizeOf267
 v55:=Tryz.zeroValue267
 t66:=Tryz.underlying280
 a66:=Tryz.isAgg280
 z66:=Tryz.sizeOf280
 v66:=Tryz.zeroValue280
 t70:=Tryz.underlying284
 a70:=Tryz.isAgg284
 z70:=Tryz.sizeOf284
 v70:=Tryz.zeroValue284
 t76:=Tryz.underlying293
 a76:=Tryz.isAgg293
 z76:=Tryz.sizeOf293
 v76:=Tryz.zeroValue293
 t77:=Tryz.underlying294
 a77:=Tryz.isAgg294
 z77:=Tryz.sizeOf294
 v77:=Tryz.zeroValue294 }
end Go.Proofs
