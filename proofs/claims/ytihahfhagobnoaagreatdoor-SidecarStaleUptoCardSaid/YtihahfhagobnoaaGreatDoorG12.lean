/- Parts of the proof, one behind the other. -/
import Derived.Test.YtihahfhagobnoaaGreatDoorG11
namespace Go.Proofs.YtihahfhagobnoaaGreatDoor.Lg
set_option maxRecDepth 100000
set_option linter.unusedVariables false
set_option linter.unusedSimpArgs false
open Go
open Nat renaming reduceEqDiff → Qa, reduceLT → Qb, reduceLeDiff → Qc, reduceAdd → Qd, reduceMul → Qe, reduceSub → Qf, reduceBEq → Qg
open String renaming reduceEq → Qh
open SpecC renaming seqW → Qi, regW → Qj, drawW → Qk, condW → Ql, block → Qm, skip → Qn, exit → Qp, ret → Qr, loopF → Qs
open NxK renaming out → Qw
open Nx renaming out → Qx
open condK renaming split → Qy
open gK renaming split_t → Qz, split_f → QA
open List renaming getElem_mem → QC
open CallR renaming go1 → QD
theorem Jkf(a b c d e f g h:Bool):CallR Tryz.prog 172 [.agg [.bool a,.bool b,.bool c,.bool d],.agg [.bool e,.bool f,.bool g,.bool h]] (.val (.agg [.bool (a && e),.bool (b && f),.bool (c && g),.bool (d && h)])):=by
 cases a<;>cases b<;>cases c<;>cases d
 all_goals
  refine CallR.go2 (T:=T) Tryz.call172 Tryz.func172 rfl Tryz.ntmps172 (congrArg Array.toList Tryz.results172) (by decide) fun ts hn h0 h1=>?_
  (repeat' (first
 | (with_reducible first|assumption|(refine Qw hK _ ?_;clear hK K)|refine Qw ‹_› _ ?_|refine Qx ‹_› ?_|refine Qi fun K hK=>?_|refine Qj T fun K hK=>?_|refine Ql fun A B hA hB=>?_|refine Qn ?_|refine Qr ?_)
 | ((with_reducible first|apply Qy|apply Qz|apply QA)<;>intro hb<;>try simp only[nr] at hb)
 |simp only[go_sem,↓reduceIte,reduceIte,Qa,Qh,Qb,Qc,Qd,Qe,Qf,Qg,reduceCtorEq, *]
 |with_reducible refine fun(bn:Bool) hbn=>?_))
theorem bx1(a b:Bool):decide ((!a && b)=!a)=(a || b):=by cases a<;>cases b<;>rfl
theorem bx2(p b:Bool):decide ((p && b)=p)=(!p || b):=by cases p<;>cases b<;>rfl
theorem bx3(n:Nat):(!decide ((0:Int)<(n:Int)))=decide (n=0):=by
 rw[Bool.eq_iff_iff];simp only[Bool.not_eq_true',decide_eq_false_iff_not,decide_eq_true_eq];omega
def Ja3(r:Res):Bool:=(decide (r.port=0) || decide (r.kind=0)) && ((decide (r.to'=[]) || (decide (r.kind=0) || decide (r.kind=2))) && ((decide (r.rules'.length=0) || decide (r.kind=1)) && (decide (r.hosts.length=0) || decide (r.kind=3))))
theorem JnP(r_kind:Int)(r_name:List UInt8)(r_ver:Int)(r_port:Int)(r_to:List UInt8)(r_rules:List Rule)(r_hosts:List Int):CallR Tryz.prog 134 [.agg [.int .i64 r_kind,.str r_name,.int .i64 r_ver,.int .i64 r_port,.str r_to,.slice false (Ja r_rules),.slice false (Ja r_hosts)]] (.val (.bool (Ja3 (⟨r_kind,r_name,r_ver,r_port,r_to,r_rules,r_hosts⟩:Res)))):=by
 refine QD (T:=T) Tryz.call134 Tryz.func134 rfl Tryz.ntmps134 (congrArg Array.toList Tryz.results134) (by decide) fun ts hn h0=>?_
 (repeat' (first
 | (with_reducible first|refine callX.by (Jh9 _) ?_|refine callX.by (Jkf _ _ _ _ _ _ _ _) ?_|assumption|(refine Qw hK _ ?_;clear hK K)|refine Qw ‹_› _ ?_|refine Qx ‹_› ?_|refine Qi fun K hK=>?_|refine Qj T fun K hK=>?_|refine Qk (id:=2) T mixed [([19],[20,21,22,24]),([20],[19,23,24]),([21],[19,24]),([22],[19,24]),([23],[20,24]),([24],[19,20,21,22,23])] (by kernel_rfl) fun K hK=>?_|refine Ql fun A B hA hB=>?_|refine Qn ?_|refine Qr ?_)
 | ((with_reducible first|apply Qy|apply Qz|apply QA)<;>intro hb<;>try simp only[nr] at hb)
 |simp only[go_sem,↓reduceIte,reduceIte,Qa,Qh,Qb,Qc,Qd,Qe,Qf,Qg,reduceCtorEq, *]
 |with_reducible refine fun(bn:Bool) hbn=>?_))
 all_goals ((repeat clear hK);(repeat clear hA);(repeat clear hB))
 all_goals simp only[bx1,bx2,bx3,Ja3,Bool.not_not]
def Ja5(x:Rule):Bool:=decide (x.split.length≤4) && !(x.split.any fun w=>!YP w.w 100)
def YM(r:Res):Bool:=YP r.ver 2147483647 && (YP r.port 65535 && (decide (r.rules'.length≤8) && (decide (r.hosts.length≤8) && (r.hosts.all (fun h=>YP h 2147483647) && r.rules'.all Ja5))))
set_option maxHeartbeats 4000000 in
theorem Jn1(r_kind:Int)(r_name:List UInt8)(r_ver:Int)(r_port:Int)(r_to:List UInt8)(r_rules:List Rule)(r_hosts:List Int)(hl:Jc r_rules.length)(hh:Jc r_hosts.length)(hs:∀x∈r_rules,Yp x):CallR Tryz.prog 133 [.agg [.int .i64 r_kind,.str r_name,.int .i64 r_ver,.int .i64 r_port,.str r_to,.slice false (Ja r_rules),.slice false (Ja r_hosts)]] (.val (.bool (YM (⟨r_kind,r_name,r_ver,r_port,r_to,r_rules,r_hosts⟩:Res)))):=by
 refine QD (T:=T) Tryz.call133 Tryz.func133 rfl Tryz.ntmps133 (congrArg Array.toList Tryz.results133) (by decide) fun ts hn h0=>?_
 (repeat' (first
 | (with_reducible first|refine callX.by (Ja9 _ _) ?_|refine callX.by (Zw _ _ ?_ _ _ ?_ ?_) ?_|refine callX.by (Jb0 _ _) ?_|assumption|(refine Qw hK _ ?_;clear hK K)|refine Qw ‹_› _ ?_|refine Qx ‹_› ?_|refine Qi fun K hK=>?_|refine Qj T fun K hK=>?_|refine Ql fun A B hA hB=>?_|refine Qm ?_|refine Qn ?_|refine Qp ?_|refine Qr ?_)
 | ((with_reducible first|apply Qy|apply Qz|apply QA)<;>intro hb<;>try simp only[nr] at hb)
 |simp only[go_sem,↓reduceIte,reduceIte,Qa,Qh,Qb,Qc,Qd,Qe,Qf,Qg,reduceCtorEq, *,-hs]
 |with_reducible refine fun(bn:Bool) hbn=>?_))
 iterate 4 (focus(all_goals ((repeat clear hK);(repeat clear hA);(repeat clear hB));clear hs;simp_all[YM];try omega))
 refine Qs [1,30,31] (fun m ts'=>∃(i:Nat),m=r_hosts.length-i∧i≤r_hosts.length∧r_hosts.all (fun h=>YP h 2147483647)=(r_hosts.drop i).all (fun h=>YP h 2147483647)∧ts'.tmp 32=.int .i64 i) r_hosts.length ?_ ?_
 ·refine⟨0,?_⟩
  simp only[go_sem,↓reduceIte,reduceIte,Qa,Qh,Qb,Qc,Qd,Qe,Qf,Qg,reduceCtorEq, *,-hs]
 ·rintro m A hM ts' hk ⟨i,hm,f1,f2,s1⟩
  simp only[go_sem,↓reduceIte,reduceIte,Qa,Qh,Qb,Qc,Qd,Qe,Qf,Qg,reduceCtorEq, *] at hk
  by_cases hlt:i<r_hosts.length
  ·rw[List.drop_eq_getElem_cons hlt,List.all_cons] at f2
   (repeat' (first
 | (with_reducible first|refine callX.by (Ja9 _ _) ?_|refine callX.by (Zw _ _ ?_ _ _ ?_ ?_) ?_|refine callX.by (Jb0 _ _) ?_|assumption|(refine Qw hK _ ?_;clear hK K)|refine Qw ‹_› _ ?_|refine Qx ‹_› ?_|refine Qi fun K hK=>?_|refine Qj T fun K hK=>?_|refine Ql fun A B hA hB=>?_|refine Qm ?_|refine Qn ?_|refine Qp ?_|refine Qr ?_)
 | ((with_reducible first|apply Qy|apply Qz|apply QA)<;>intro hb<;>try simp only[nr] at hb)
 |simp only[go_sem,↓reduceIte,reduceIte,Qa,Qh,Qb,Qc,Qd,Qe,Qf,Qg,reduceCtorEq, *,-hs,-f2]
 |with_reducible refine fun(bn:Bool) hbn=>?_))
   all_goals ((repeat clear hK);(repeat clear hA);(repeat clear hB))
   ·clear hM hs;simp_all[YM]
    intro hall
    obtain⟨x,hx,e⟩:=f2
    rw[hall x hx] at e;cases e
   ·(refine hM.on (r_hosts.length-(i+1)) (by omega) (by simp only[go_sem,↓reduceIte,reduceIte,Qa,Qh,Qb,Qc,Qd,Qe,Qf,Qg,reduceCtorEq, *,Jf hlt hh,-hs,-f2]) ⟨i+1,rfl,by omega,by rw[f2,hb];simp,?_⟩;simp only[go_sem,↓reduceIte,reduceIte,Qa,Qh,Qb,Qc,Qd,Qe,Qf,Qg,reduceCtorEq, *,Jf hlt hh,-hs,-f2];done)
  ·rw[List.drop_eq_nil_of_le (by omega),List.all_nil] at f2
   have hhost:=f2
   clear f2 f1 hM
   (repeat' (first
 | (with_reducible first|refine callX.by (Ja9 _ _) ?_|refine callX.by (Zw _ _ ?_ _ _ ?_ ?_) ?_|refine callX.by (Jb0 _ _) ?_|assumption|(refine Qw hK _ ?_;clear hK K)|refine Qw ‹_› _ ?_|refine Qx ‹_› ?_|refine Qi fun K hK=>?_|refine Qj T fun K hK=>?_|refine Ql fun A B hA hB=>?_|refine Qm ?_|refine Qn ?_|refine Qp ?_|refine Qr ?_)
 | ((with_reducible first|apply Qy|apply Qz|apply QA)<;>intro hb<;>try simp only[nr] at hb)
 |simp only[go_sem,↓reduceIte,reduceIte,Qa,Qh,Qb,Qc,Qd,Qe,Qf,Qg,reduceCtorEq, *,-hs,-hhost]
 |with_reducible refine fun(bn:Bool) hbn=>?_))
   refine Qs [41,42] (fun m ts'=>∃(i:Nat),m=r_rules.length-i∧i≤r_rules.length∧r_rules.all Ja5=(r_rules.drop i).all Ja5∧ts'.tmp 43=.int .i64 i) r_rules.length ?_ ?_
   ·refine⟨0,?_⟩
    simp only[go_sem,↓reduceIte,reduceIte,Qa,Qh,Qb,Qc,Qd,Qe,Qf,Qg,reduceCtorEq, *,-hs,-hhost]
   ·rintro m A hM ts' hk ⟨i,hm,f1,f2,s1⟩
    simp only[go_sem,↓reduceIte,reduceIte,Qa,Qh,Qb,Qc,Qd,Qe,Qf,Qg,reduceCtorEq, *] at hk
    by_cases hlt:i<r_rules.length
    ·rw[List.drop_eq_getElem_cons hlt,List.all_cons] at f2
     have hsi:=hs _ (QC hlt)
     have h:=Zw 171 [] Caps.nil (fun w=>!YP w.w 100) r_rules[i].split (fun w _=>Jb0 w.cluster w.w) hsi.2.2.1
     (repeat' (first
 | (with_reducible first|refine callX.by (h) ?_|refine callX.by (Ja9 _ _) ?_|refine callX.by (Zw _ _ ?_ _ _ ?_ ?_) ?_|refine callX.by (Jb0 _ _) ?_|assumption|(refine Qw hK _ ?_;clear hK K)|refine Qw ‹_› _ ?_|refine Qx ‹_› ?_|refine Qi fun K hK=>?_|refine Qj T fun K hK=>?_|refine Ql fun A B hA hB=>?_|refine Qm ?_|refine Qn ?_|refine Qp ?_|refine Qr ?_)
 | ((with_reducible first|apply Qy|apply Qz|apply QA)<;>intro hb<;>try simp only[nr] at hb)
 |simp only[go_sem,↓reduceIte,reduceIte,Qa,Qh,Qb,Qc,Qd,Qe,Qf,Qg,reduceCtorEq, *,-hs,-hhost,-f2,-hsi,-h]
 |with_reducible refine fun(bn:Bool) hbn=>?_))
     all_goals ((repeat clear hK);(repeat clear hA);(repeat clear hB))
     all_goals first
      | (refine hM.on (r_rules.length-(i+1)) (by omega) (by simp only[go_sem,↓reduceIte,reduceIte,Qa,Qh,Qb,Qc,Qd,Qe,Qf,Qg,reduceCtorEq, *,Jf hlt hl,-hs,-hhost,-f2,-hsi,-h]) ⟨i+1,rfl,by omega,by clear h hM hs hsi;rw[f2];simp_all[Ja5],?_⟩;simp only[go_sem,↓reduceIte,reduceIte,Qa,Qh,Qb,Qc,Qd,Qe,Qf,Qg,reduceCtorEq, *,Jf hlt hl,-hs,-hhost,-f2,-hsi,-h];done)
      | (clear h hM hs hsi;simp_all[YM,Ja5];done)
      | (clear h hM hs hsi;simp_all[YM,Ja5];intros;omega)
      |trace_state
    ·rw[List.drop_eq_nil_of_le (by omega),List.all_nil] at f2
     (repeat' (first
 | (with_reducible first|refine callX.by (Ja9 _ _) ?_|refine callX.by (Zw _ _ ?_ _ _ ?_ ?_) ?_|refine callX.by (Jb0 _ _) ?_|assumption|(refine Qw hK _ ?_;clear hK K)|refine Qw ‹_› _ ?_|refine Qx ‹_› ?_|refine Qi fun K hK=>?_|refine Qj T fun K hK=>?_|refine Ql fun A B hA hB=>?_|refine Qm ?_|refine Qn ?_|refine Qp ?_|refine Qr ?_)
 | ((with_reducible first|apply Qy|apply Qz|apply QA)<;>intro hb<;>try simp only[nr] at hb)
 |simp only[go_sem,↓reduceIte,reduceIte,Qa,Qh,Qb,Qc,Qd,Qe,Qf,Qg,reduceCtorEq, *,-hs,-hhost,-f2]
 |with_reducible refine fun(bn:Bool) hbn=>?_))
     all_goals ((repeat clear hK);(repeat clear hA);(repeat clear hB))
     all_goals (clear hM hs;simp_all[YM];try omega)
theorem JlI(xs:List Int)(v:Int)(hl:Jc xs.length):CallR Tryz.prog 196 [.slice false (Ja xs),.int .i64 v] (.val (.int .i64 (JA (fun y=>decide (v=y)) xs 0))):=by
 refine CallR.go2 (T:=T) Tryz.call196 Tryz.func196 rfl Tryz.ntmps196 (congrArg Array.toList Tryz.results196) (by decide) fun ts hn h0 h1=>?_
 (repeat' (first
 | (with_reducible first|assumption|(refine Qw hK _ ?_;clear hK K)|refine Qw ‹_› _ ?_|refine Qx ‹_› ?_|refine Qi fun K hK=>?_|refine Qj T fun K hK=>?_|refine Ql fun A B hA hB=>?_|refine Qm ?_|refine Qn ?_|refine Qp ?_|refine Qr ?_)
 | ((with_reducible first|apply Qy|apply Qz|apply QA)<;>intro hb<;>try simp only[nr] at hb)
 |simp only[go_sem,↓reduceIte,reduceIte,Qa,Qh,Qb,Qc,Qd,Qe,Qf,Qg,reduceCtorEq, *]
 |with_reducible refine fun(bn:Bool) hbn=>?_))
 refine Qs [0,1,7] (fun m ts'=>∃(i:Nat),m=xs.length-i∧i≤xs.length∧JA (fun y=>decide (v=y)) xs 0=JA (fun y=>decide (v=y)) (xs.drop i) i∧ts'.tmp 8=.int .i64 i) xs.length ?_ ?_
 ·refine⟨0,?_⟩
  simp only[go_sem,↓reduceIte,reduceIte,Qa,Qh,Qb,Qc,Qd,Qe,Qf,Qg,reduceCtorEq, *]
 ·rintro m A hM ts' hk ⟨i,hm,f1,f2,s1⟩
  simp only[go_sem,↓reduceIte,reduceIte,Qa,Qh,Qb,Qc,Qd,Qe,Qf,Qg,reduceCtorEq, *] at hk
  by_cases hlt:i<xs.length
  ·rw[List.drop_eq_getElem_cons hlt,JA] at f2
   (repeat' (first
 | (with_reducible first|assumption|(refine Qw hK _ ?_;clear hK K)|refine Qw ‹_› _ ?_|refine Qx ‹_› ?_|refine Qi fun K hK=>?_|refine Qj T fun K hK=>?_|refine Ql fun A B hA hB=>?_|refine Qm ?_|refine Qn ?_|refine Qp ?_|refine Qr ?_)
 | ((with_reducible first|apply Qy|apply Qz|apply QA)<;>intro hb<;>try simp only[nr] at hb)
 |simp only[go_sem,↓reduceIte,reduceIte,Qa,Qh,Qb,Qc,Qd,Qe,Qf,Qg,reduceCtorEq, *]
 |with_reducible refine fun(bn:Bool) hbn=>?_))
   all_goals ((repeat clear hK);(repeat clear hA);(repeat clear hB))
   rw[if_neg (by simpa using hb)] at f2
   (refine hM.on (xs.length-(i+1)) (by omega) (by simp only[go_sem,↓reduceIte,reduceIte,Qa,Qh,Qb,Qc,Qd,Qe,Qf,Qg,reduceCtorEq, *,Jf hlt hl,-f2]) ⟨i+1,rfl,by omega,f2,?_⟩;simp only[go_sem,↓reduceIte,reduceIte,Qa,Qh,Qb,Qc,Qd,Qe,Qf,Qg,reduceCtorEq, *,Jf hlt hl,-f2];done)
  ·rw[List.drop_eq_nil_of_le (by omega),JA] at f2
   (repeat' (first
 | (with_reducible first|assumption|(refine Qw hK _ ?_;clear hK K)|refine Qw ‹_› _ ?_|refine Qx ‹_› ?_|refine Qi fun K hK=>?_|refine Qj T fun K hK=>?_|refine Ql fun A B hA hB=>?_|refine Qm ?_|refine Qn ?_|refine Qp ?_|refine Qr ?_)
 | ((with_reducible first|apply Qy|apply Qz|apply QA)<;>intro hb<;>try simp only[nr] at hb)
 |simp only[go_sem,↓reduceIte,reduceIte,Qa,Qh,Qb,Qc,Qd,Qe,Qf,Qg,reduceCtorEq, *]
 |with_reducible refine fun(bn:Bool) hbn=>?_))
theorem Jcf(xs:List Int)(v:Int)(hl:Jc xs.length):CallR Tryz.prog 179 [.slice false (Ja xs),.int .i64 v] (.val (.bool (xs.any fun y=>decide (v=y)))):=by
 have ha:=JaM (fun y=>decide (v=y)) xs
 refine CallR.go2 (T:=T) Tryz.call179 Tryz.func179 rfl Tryz.ntmps179 (congrArg Array.toList Tryz.results179) (by decide) fun ts hn h0 h1=>?_
 (repeat' (first
 | (with_reducible first|refine callX.by (JlI _ _ ?_) ?_|assumption|(refine Qw hK _ ?_;clear hK K)|refine Qw ‹_› _ ?_|refine Qx ‹_› ?_|refine Qi fun K hK=>?_|refine Qj T fun K hK=>?_|refine Ql fun A B hA hB=>?_|refine Qn ?_|refine Qr ?_)
 | ((with_reducible first|apply Qy|apply Qz|apply QA)<;>intro hb<;>try simp only[nr] at hb)
 |simp only[go_sem,↓reduceIte,reduceIte,Qa,Qh,Qb,Qc,Qd,Qe,Qf,Qg,reduceCtorEq, *]
 |with_reducible refine fun(bn:Bool) hbn=>?_))
theorem JnV(h p:List UInt8)(sp:List Weight)(y_host:List UInt8)(y_pfx:List UInt8)(y_split:List Weight):CallR Tryz.prog 177 [.agg [.str y_host,.str y_pfx,.slice false (Ja y_split)],.ro [.str h,.str p,.slice false (Ja sp)]] (.val (.bool (decide (h=y_host) && decide (p=y_pfx)))):=by
 refine CallR.go2 (T:=T) Tryz.call177 Tryz.func177 rfl Tryz.ntmps177 (congrArg Array.toList Tryz.results177) (by decide) fun ts hn h0 h1=>?_
 (repeat' (first
 | (with_reducible first|assumption|(refine Qw hK _ ?_;clear hK K)|refine Qw ‹_› _ ?_|refine Qx ‹_› ?_|refine Qi fun K hK=>?_|refine Qj T fun K hK=>?_|refine Ql fun A B hA hB=>?_|refine Qn ?_|refine Qr ?_)
 | ((with_reducible first|apply Qy|apply Qz|apply QA)<;>intro hb<;>try simp only[nr] at hb)
 |simp only[go_sem,↓reduceIte,reduceIte,Qa,Qh,Qb,Qc,Qd,Qe,Qf,Qg,reduceCtorEq, *]
 |with_reducible refine fun(bn:Bool) hbn=>?_))
 all_goals ((repeat clear hK);(repeat clear hA);(repeat clear hB))
 all_goals simp_all
def Jg7(x y:Rule):Bool:=decide (x.host=y.host) && decide (x.pfx=y.pfx)
def Jb2:List Rule→List Rule→Bool
 |_,[]=>true
 |p,x :: r=>JjW x && (!(p.any (Jg7 x)) && Jb2 (p++[x]) r)
def Jb1:List Int→List Int→Bool
 |_,[]=>true
 |p,h :: r=>!(p.any fun y=>decide (h=y)) && Jb1 (p++[h]) r
def Ja4(r:Res):Bool:=Jb2 [] r.rules' && Jb1 [] r.hosts
theorem JjO{α:Type}{l:List α}{i:Nat}(h:i<l.length):l.take i++[l[i]]=l.take (i+1):=(List.take_succ_eq_append_getElem h).symm
theorem JkR(h p:List UInt8)(sp:List Weight):Caps [.ro [.str h,.str p,.slice false (Ja sp)]]:=⟨by simp only[go_sem,Bool.and_self],by simp only[go_sem]⟩
set_option maxHeartbeats 4000000 in
theorem JnW(r_kind:Int)(r_name:List UInt8)(r_ver:Int)(r_port:Int)(r_to:List UInt8)(r_rules:List Rule)(r_hosts:List Int)(hl:Jc r_rules.length)(hh:Jc r_hosts.length)(hs:∀x∈r_rules,Yp x):CallR Tryz.prog 136 [.agg [.int .i64 r_kind,.str r_name,.int .i64 r_ver,.int .i64 r_port,.str r_to,.slice false (Ja r_rules),.slice false (Ja r_hosts)]] (.val (.bool (Ja4 (⟨r_kind,r_name,r_ver,r_port,r_to,r_rules,r_hosts⟩:Res)))):=by
 refine QD (T:=T) Tryz.call136 Tryz.func136 rfl Tryz.ntmps136 (congrArg Array.toList Tryz.results136) (by decide) fun ts hn h0=>?_
 (repeat' (first
 | (with_reducible first|refine callX.by (Jdb _ _ _ ?_) ?_|refine callX.by (Z8 _ _ ?_ _ _ ?_ ?_) ?_|refine callX.by (Jcf _ _ ?_) ?_|assumption|(refine Qw hK _ ?_;clear hK K)|refine Qw ‹_› _ ?_|refine Qx ‹_› ?_|refine Qi fun K hK=>?_|refine Qj T fun K hK=>?_|refine Ql fun A B hA hB=>?_|refine Qm ?_|refine Qn ?_|refine Qp ?_|refine Qr ?_)
 | ((with_reducible first|apply Qy|apply Qz|apply QA)<;>intro hb<;>try simp only[nr] at hb)
 |simp only[go_sem,↓reduceIte,reduceIte,Qa,Qh,Qb,Qc,Qd,Qe,Qf,Qg,reduceCtorEq, *,-hs]
 |with_reducible refine fun(bn:Bool) hbn=>?_))
 refine Qs [1,9,10] (fun m ts'=>∃(i:Nat),m=r_rules.length-i∧i≤r_rules.length∧Jb2 [] r_rules=Jb2 (r_rules.take i) (r_rules.drop i)∧ts'.tmp 11=.int .i64 i) r_rules.length ?_ ?_
 ·refine⟨0,?_⟩
  simp only[go_sem,↓reduceIte,reduceIte,Qa,Qh,Qb,Qc,Qd,Qe,Qf,Qg,reduceCtorEq, *,-hs]
 ·rintro m A hM ts' hk ⟨i,hm,f1,f2,s1⟩
  simp only[go_sem,↓reduceIte,reduceIte,Qa,Qh,Qb,Qc,Qd,Qe,Qf,Qg,reduceCtorEq, *] at hk
  by_cases hlt:i<r_rules.length
  ·rw[List.drop_eq_getElem_cons hlt,Jb2] at f2
   have hsi:=hs _ (QC hlt)
   have hsl:=hsi.2.2.1
   have hti:Jc (r_rules.take i).length:=by unfold Jc at *;rw[List.length_take];omega
   have h:=Z8 177 [.ro [.str r_rules[i].host,.str r_rules[i].pfx,.slice false (Ja r_rules[i].split)]] (JkR _ _ _) (Jg7 r_rules[i]) (r_rules.take i) (fun y _=>JnV _ _ _ y.host y.pfx y.split) hti
   (repeat' (first
 | (with_reducible first|refine callX.by (h) ?_|refine callX.by (Jdb _ _ _ ?_) ?_|refine callX.by (Z8 _ _ ?_ _ _ ?_ ?_) ?_|refine callX.by (Jcf _ _ ?_) ?_|assumption|(refine Qw hK _ ?_;clear hK K)|refine Qw ‹_› _ ?_|refine Qx ‹_› ?_|refine Qi fun K hK=>?_|refine Qj T fun K hK=>?_|refine Ql fun A B hA hB=>?_|refine Qm ?_|refine Qn ?_|refine Qp ?_|refine Qr ?_)
 | ((with_reducible first|apply Qy|apply Qz|apply QA)<;>intro hb<;>try simp only[nr] at hb)
 |simp only[go_sem,↓reduceIte,reduceIte,Qa,Qh,Qb,Qc,Qd,Qe,Qf,Qg,reduceCtorEq, *,-hs,-f2,-hsi,-h,Int.le_refl,Int.toNat_zero]
 |with_reducible refine fun(bn:Bool) hbn=>?_))
   all_goals ((repeat clear hK);(repeat clear hA);(repeat clear hB))
   all_goals first
    | (refine hM.on (r_rules.length-(i+1)) (by omega) (by simp only[go_sem,↓reduceIte,reduceIte,Qa,Qh,Qb,Qc,Qd,Qe,Qf,Qg,reduceCtorEq, *,Jf hlt hl,-hs,-f2,-hsi,-h]) ⟨i+1,rfl,by omega,by clear h hM hs hsi;rw[f2,←JjO hlt];simp_all,?_⟩;simp only[go_sem,↓reduceIte,reduceIte,Qa,Qh,Qb,Qc,Qd,Qe,Qf,Qg,reduceCtorEq, *,Jf hlt hl,-hs,-f2,-hsi,-h];done)
    | (clear h hM hs hsi;simp_all[Ja4];done)
    |trace_state
  ·rw[List.drop_eq_nil_of_le (by omega),Jb2] at f2
   have hr1:=f2
   clear f2 f1 hM
   (repeat' (first
 | (with_reducible first|refine callX.by (Jdb _ _ _ ?_) ?_|refine callX.by (Z8 _ _ ?_ _ _ ?_ ?_) ?_|refine callX.by (Jcf _ _ ?_) ?_|assumption|(refine Qw hK _ ?_;clear hK K)|refine Qw ‹_› _ ?_|refine Qx ‹_› ?_|refine Qi fun K hK=>?_|refine Qj T fun K hK=>?_|refine Ql fun A B hA hB=>?_|refine Qm ?_|refine Qn ?_|refine Qp ?_|refine Qr ?_)
 | ((with_reducible first|apply Qy|apply Qz|apply QA)<;>intro hb<;>try simp only[nr] at hb)
 |simp only[go_sem,↓reduceIte,reduceIte,Qa,Qh,Qb,Qc,Qd,Qe,Qf,Qg,reduceCtorEq, *,-hs,-hr1]
 |with_reducible refine fun(bn:Bool) hbn=>?_))
   refine Qs [1,30,31] (fun m ts'=>∃(i:Nat),m=r_hosts.length-i∧i≤r_hosts.length∧Jb1 [] r_hosts=Jb1 (r_hosts.take i) (r_hosts.drop i)∧ts'.tmp 32=.int .i64 i) r_hosts.length ?_ ?_
   ·refine⟨0,?_⟩
    simp only[go_sem,↓reduceIte,reduceIte,Qa,Qh,Qb,Qc,Qd,Qe,Qf,Qg,reduceCtorEq, *,-hs,-hr1]
   ·rintro m A hM ts' hk ⟨i,hm,f1,f2,s1⟩
    simp only[go_sem,↓reduceIte,reduceIte,Qa,Qh,Qb,Qc,Qd,Qe,Qf,Qg,reduceCtorEq, *] at hk
    by_cases hlt:i<r_hosts.length
    ·rw[List.drop_eq_getElem_cons hlt,Jb1] at f2
     have hti:Jc (r_hosts.take i).length:=by unfold Jc at *;rw[List.length_take];omega
     (repeat' (first
 | (with_reducible first|refine callX.by (Jdb _ _ _ ?_) ?_|refine callX.by (Z8 _ _ ?_ _ _ ?_ ?_) ?_|refine callX.by (Jcf _ _ ?_) ?_|assumption|(refine Qw hK _ ?_;clear hK K)|refine Qw ‹_› _ ?_|refine Qx ‹_› ?_|refine Qi fun K hK=>?_|refine Qj T fun K hK=>?_|refine Ql fun A B hA hB=>?_|refine Qm ?_|refine Qn ?_|refine Qp ?_|refine Qr ?_)
 | ((with_reducible first|apply Qy|apply Qz|apply QA)<;>intro hb<;>try simp only[nr] at hb)
 |simp only[go_sem,↓reduceIte,reduceIte,Qa,Qh,Qb,Qc,Qd,Qe,Qf,Qg,reduceCtorEq, *,-hs,-f2,-hr1,Int.le_refl,Int.toNat_zero]
 |with_reducible refine fun(bn:Bool) hbn=>?_))
     all_goals ((repeat clear hK);(repeat clear hA);(repeat clear hB))
     all_goals first
      | (refine hM.on (r_hosts.length-(i+1)) (by omega) (by simp only[go_sem,↓reduceIte,reduceIte,Qa,Qh,Qb,Qc,Qd,Qe,Qf,Qg,reduceCtorEq, *,Jf hlt hh,-hs,-f2,-hr1]) ⟨i+1,rfl,by omega,by clear hM hs;rw[f2,←JjO hlt];simp_all,?_⟩;simp only[go_sem,↓reduceIte,reduceIte,Qa,Qh,Qb,Qc,Qd,Qe,Qf,Qg,reduceCtorEq, *,Jf hlt hh,-hs,-f2,-hr1];done)
      | (clear hM hs;simp_all[Ja4];done)
      |trace_state
    ·rw[List.drop_eq_nil_of_le (by omega),Jb1] at f2
     (repeat' (first
 | (with_reducible first|refine callX.by (Jdb _ _ _ ?_) ?_|refine callX.by (Z8 _ _ ?_ _ _ ?_ ?_) ?_|refine callX.by (Jcf _ _ ?_) ?_|assumption|(refine Qw hK _ ?_;clear hK K)|refine Qw ‹_› _ ?_|refine Qx ‹_› ?_|refine Qi fun K hK=>?_|refine Qj T fun K hK=>?_|refine Ql fun A B hA hB=>?_|refine Qm ?_|refine Qn ?_|refine Qp ?_|refine Qr ?_)
 | ((with_reducible first|apply Qy|apply Qz|apply QA)<;>intro hb<;>try simp only[nr] at hb)
 |simp only[go_sem,↓reduceIte,reduceIte,Qa,Qh,Qb,Qc,Qd,Qe,Qf,Qg,reduceCtorEq, *,-hs,-f2,-hr1]
 |with_reducible refine fun(bn:Bool) hbn=>?_))
     all_goals ((repeat clear hK);(repeat clear hA);(repeat clear hB))
     all_goals (clear hM hs;simp_all[Ja4])
def Vi(r:Res):Int:=if YP r.kind 3=false then 4 else if VG r.name=false then 5 else if YM r=false then 3 else if Ja3 r=false then 2 else if JaP r=false then 5 else if Ja4 r=false then 2 else 0
theorem Vu(r_kind:Int)(r_name:List UInt8)(r_ver:Int)(r_port:Int)(r_to:List UInt8)(r_rules:List Rule)(r_hosts:List Int)(hl:Jc r_rules.length)(hh:Jc r_hosts.length)(hs:∀x∈r_rules,Yp x):CallR Tryz.prog 93 [.agg [.int .i64 r_kind,.str r_name,.int .i64 r_ver,.int .i64 r_port,.str r_to,.slice false (Ja r_rules),.slice false (Ja r_hosts)]] (.val (.int .i64 (Vi (⟨r_kind,r_name,r_ver,r_port,r_to,r_rules,r_hosts⟩:Res)))):=by
 refine QD (T:=T) Tryz.call93 Tryz.func93 rfl Tryz.ntmps93 (congrArg Array.toList Tryz.results93) (by decide) fun ts hn h0=>?_
 (repeat' (first
 | (with_reducible first|refine callX.by (Ja9 _ _) ?_|refine callX.by (JbJ _) ?_|refine callX.by (Jn1 _ _ _ _ _ _ _ ?_ ?_ ?_) ?_|refine callX.by (JnP _ _ _ _ _ _ _) ?_|refine callX.by (Jmp _ _ _ _ _ _ _ ?_ ?_) ?_|refine callX.by (JnW _ _ _ _ _ _ _ ?_ ?_ ?_) ?_|assumption|(refine Qw hK _ ?_;clear hK K)|refine Qw ‹_› _ ?_|refine Qx ‹_› ?_|refine Qi fun K hK=>?_|refine Qj T fun K hK=>?_|refine Ql fun A B hA hB=>?_|refine Qm ?_|refine Qn ?_|refine Qr ?_)
 | ((with_reducible first|apply Qy|apply Qz|apply QA)<;>intro hb<;>try simp only[nr] at hb)
 |simp only[go_sem,↓reduceIte,reduceIte,Qa,Qh,Qb,Qc,Qd,Qe,Qf,Qg,reduceCtorEq, *,-hs]
 |with_reducible refine fun(bn:Bool) hbn=>?_))
 all_goals ((repeat clear hK);(repeat clear hA);(repeat clear hB))
 all_goals first|assumption|(clear hs;simp_all[Vi])
@[go_sem] def Wd4:List (List Nat×List Nat):=[([48],[50,52,53,54,55,56,57]),([49],[50,53,54,55,56,57]),([50],[48,49,53,54,55,56,57]),([51],[53,54,55,56,57]),([52],[48,53,54,55,56,57]),([53],[48,49,50,51,52,55,57]),([54],[48,49,50,51,52,55]),([55],[48,49,50,51,52,53,54]),([56],[48,49,50,51,52]),([57],[48,49,50,51,52,53])]
@[go_sem] def Wd5:List (List Nat×List Nat):=[([17],[18,21,22,23,24]),([18],[17,21,22,23,24]),([19],[21,22,23,24]),([20],[21,22,23,24]),([21],[17,18,19,20,22]),([22],[17,18,19,20,21]),([23],[17,18,19,20]),([24],[17,18,19,20])]
def Jbg(a b:Res):Bool:=decide (a.kind=b.kind∧a.name=b.name∧a.port=b.port∧a.to'=b.to'∧a.rules'=b.rules'∧a.hosts=b.hosts)
set_option maxHeartbeats 4000000 in
theorem Jkb(a_kind:Int)(a_name:List UInt8)(a_ver:Int)(a_port:Int)(a_to:List UInt8)(a_rules:List Rule)(a_hosts:List Int)(b_kind:Int)(b_name:List UInt8)(b_ver:Int)(b_port:Int)(b_to:List UInt8)(b_rules:List Rule)(b_hosts:List Int)(hh:Jc a_hosts.length)(hl:Jc a_rules.length)(hs:∀x∈a_rules,Yp x):CallR Tryz.prog 90 [.agg [.int .i64 a_kind,.str a_name,.int .i64 a_ver,.int .i64 a_port,.str a_to,.slice false (Ja a_rules),.slice false (Ja a_hosts)],.agg [.int .i64 b_kind,.str b_name,.int .i64 b_ver,.int .i64 b_port,.str b_to,.slice false (Ja b_rules),.slice false (Ja b_hosts)]] (.val (.bool (Jbg (⟨a_kind,a_name,a_ver,a_port,a_to,a_rules,a_hosts⟩:Res) (⟨b_kind,b_name,b_ver,b_port,b_to,b_rules,b_hosts⟩:Res)))):=by
 refine CallR.go2 (T:=T) Tryz.call90 Tryz.func90 rfl Tryz.ntmps90 (congrArg Array.toList Tryz.results90) (by decide) fun ts hn h0 h1=>?_
 by_cases hll:a_hosts.length=b_hosts.length
 ·(repeat' (first
 | (with_reducible first|refine callX.by (Jem _ _ ?_ ?_) ?_|assumption|(refine Qw hK _ ?_;clear hK K)|refine Qw ‹_› _ ?_|refine Qx ‹_› ?_|refine Qi fun K hK=>?_|refine Qj T fun K hK=>?_|refine Qk (id:=6) T mixed Wd4 (by kernel_rfl) fun K hK=>?_|refine Ql fun A B hA hB=>?_|refine Qm ?_|refine Qn ?_|refine Qp ?_|refine Qr ?_)
 | ((with_reducible first|apply Qy|apply Qz|apply QA)<;>intro hb<;>try simp only[nr] at hb)
 |simp only[go_sem,↓reduceIte,reduceIte,Qa,Qh,Qb,Qc,Qd,Qe,Qf,Qg,reduceCtorEq, *]
 |with_reducible refine fun(bn:Bool) hbn=>?_))
  iterate 4 (focus(all_goals ((repeat clear hK);(repeat clear hA);(repeat clear hB));clear hs;grind [Jbg]))
  refine Qs [2,3] (fun m ts'=>∃(i:Nat),m=a_hosts.length-i∧i≤a_hosts.length∧a_hosts.take i=b_hosts.take i∧ts'.tmp 5=.int .i64 i) a_hosts.length ?_ ?_
  ·refine⟨0,?_⟩
   simp only[go_sem,↓reduceIte,reduceIte,Qa,Qh,Qb,Qc,Qd,Qe,Qf,Qg,reduceCtorEq, *]
  ·rintro m A hM ts' hk ⟨i,hm,f1,f2,s1⟩
   simp only[go_sem,↓reduceIte,reduceIte,Qa,Qh,Qb,Qc,Qd,Qe,Qf,Qg,reduceCtorEq, *] at hk
   by_cases hlt:i<a_hosts.length
   ·have hlu:i<b_hosts.length:=by omega
    have hne:=Zs hlt hlu
    (repeat' (first
 | (with_reducible first|refine callX.by (Jem _ _ ?_ ?_) ?_|assumption|(refine Qw hK _ ?_;clear hK K)|refine Qw ‹_› _ ?_|refine Qx ‹_› ?_|refine Qi fun K hK=>?_|refine Qj T fun K hK=>?_|refine Qk (id:=6) T mixed Wd4 (by kernel_rfl) fun K hK=>?_|refine Ql fun A B hA hB=>?_|refine Qm ?_|refine Qn ?_|refine Qp ?_|refine Qr ?_)
 | ((with_reducible first|apply Qy|apply Qz|apply QA)<;>intro hb<;>try simp only[nr] at hb)
 |simp only[go_sem,↓reduceIte,reduceIte,Qa,Qh,Qb,Qc,Qd,Qe,Qf,Qg,reduceCtorEq, *]
 |with_reducible refine fun(bn:Bool) hbn=>?_))
    all_goals ((repeat clear hK);(repeat clear hA);(repeat clear hB))
    all_goals first
     | (refine hM.on (a_hosts.length-(i+1)) (by omega) (by simp only[go_sem,↓reduceIte,reduceIte,Qa,Qh,Qb,Qc,Qd,Qe,Qf,Qg,reduceCtorEq, *,Jf hlt hh]) ⟨i+1,rfl,by omega,by clear hM hs;apply Zr f2 hlt hlu;grind,?_⟩;simp only[go_sem,↓reduceIte,reduceIte,Qa,Qh,Qb,Qc,Qd,Qe,Qf,Qg,reduceCtorEq, *,Jf hlt hh];done)
     | (clear hM hs;grind [Jbg])
   ·have:=Zq f2 hlt hll
    (repeat' (first
 | (with_reducible first|refine callX.by (Jem _ _ ?_ ?_) ?_|assumption|(refine Qw hK _ ?_;clear hK K)|refine Qw ‹_› _ ?_|refine Qx ‹_› ?_|refine Qi fun K hK=>?_|refine Qj T fun K hK=>?_|refine Qk (id:=6) T mixed Wd4 (by kernel_rfl) fun K hK=>?_|refine Ql fun A B hA hB=>?_|refine Qm ?_|refine Qn ?_|refine Qp ?_|refine Qr ?_)
 | ((with_reducible first|apply Qy|apply Qz|apply QA)<;>intro hb<;>try simp only[nr] at hb)
 |simp only[go_sem,↓reduceIte,reduceIte,Qa,Qh,Qb,Qc,Qd,Qe,Qf,Qg,reduceCtorEq, *]
 |with_reducible refine fun(bn:Bool) hbn=>?_))
    all_goals ((repeat clear hK);(repeat clear hA);(repeat clear hB))
    all_goals (clear hM hs;grind [Jbg])
 ·have:¬a_hosts=b_hosts:=by rintro rfl;exact hll rfl
  (repeat' (first
 | (with_reducible first|refine callX.by (Jem _ _ ?_ ?_) ?_|assumption|(refine Qw hK _ ?_;clear hK K)|refine Qw ‹_› _ ?_|refine Qx ‹_› ?_|refine Qi fun K hK=>?_|refine Qj T fun K hK=>?_|refine Qk (id:=6) T mixed Wd4 (by kernel_rfl) fun K hK=>?_|refine Ql fun A B hA hB=>?_|refine Qm ?_|refine Qn ?_|refine Qp ?_|refine Qr ?_)
 | ((with_reducible first|apply Qy|apply Qz|apply QA)<;>intro hb<;>try simp only[nr] at hb)
 |simp only[go_sem,↓reduceIte,reduceIte,Qa,Qh,Qb,Qc,Qd,Qe,Qf,Qg,reduceCtorEq, *]
 |with_reducible refine fun(bn:Bool) hbn=>?_))
  all_goals ((repeat clear hK);(repeat clear hA);(repeat clear hB))
  all_goals (clear hs;grind [Jbg])
theorem Jer(a_kind:Int)(a_name:List UInt8)(a_ver:Int)(a_port:Int)(a_to:List UInt8)(a_rules:List Rule)(a_hosts:List Int)(b_kind:Int)(b_name:List UInt8)(b_ver:Int)(b_port:Int)(b_to:List UInt8)(b_rules:List Rule)(b_hosts:List Int)(hh:Jc a_hosts.length)(hl:Jc a_rules.length)(hs:∀x∈a_rules,Yp x):CallR Tryz.prog 57 [.agg [.int .i64 a_kind,.str a_name,.int .i64 a_ver,.int .i64 a_port,.str a_to,.slice false (Ja a_rules),.slice false (Ja a_hosts)],.agg [.int .i64 b_kind,.str b_name,.int .i64 b_ver,.int .i64 b_port,.str b_to,.slice false (Ja b_rules),.slice false (Ja b_hosts)]] (.val (.bool (decide ((⟨a_kind,a_name,a_ver,a_port,a_to,a_rules,a_hosts⟩:Res)=(⟨b_kind,b_name,b_ver,b_port,b_to,b_rules,b_hosts⟩:Res))))):=by
 refine CallR.go2 (T:=T) Tryz.call57 Tryz.func57 rfl Tryz.ntmps57 (congrArg Array.toList Tryz.results57) (by decide) fun ts hn h0 h1=>?_
 (repeat' (first
 | (with_reducible first|refine callX.by (Jkb _ _ _ _ _ _ _ _ _ _ _ _ _ _ ?_ ?_ ?_) ?_|assumption|(refine Qw hK _ ?_;clear hK K)|refine Qw ‹_› _ ?_|refine Qx ‹_› ?_|refine Qi fun K hK=>?_|refine Qj T fun K hK=>?_|refine Ql fun A B hA hB=>?_|refine Qn ?_|refine Qr ?_)
 | ((with_reducible first|apply Qy|apply Qz|apply QA)<;>intro hb<;>try simp only[nr] at hb)
 |simp only[go_sem,↓reduceIte,reduceIte,Qa,Qh,Qb,Qc,Qd,Qe,Qf,Qg,reduceCtorEq, *]
 |with_reducible refine fun(bn:Bool) hbn=>?_))
 all_goals ((repeat clear hK);(repeat clear hA);(repeat clear hB))
 all_goals (clear hs;grind [Jbg])
theorem Y3(xs ys:List Res)(hl:Jc xs.length)(hs:∀x∈xs,Jv x):CallR Tryz.prog 20 [.slice false (Ja xs),.slice false (Ja ys)] (.val (.bool (decide (xs=ys)))):=by
 refine CallR.go2 (T:=T) Tryz.call20 Tryz.func20 rfl Tryz.ntmps20 (congrArg Array.toList Tryz.results20) (by decide) fun ts hn h0 h1=>?_
 by_cases hll:xs.length=ys.length
 ·(repeat' (first
 | (with_reducible first|refine callX.by (Jer _ _ _ _ _ _ _ _ _ _ _ _ _ _ ?_ ?_ ?_) ?_|assumption|(refine Qw hK _ ?_;clear hK K)|refine Qw ‹_› _ ?_|refine Qx ‹_› ?_|refine Qi fun K hK=>?_|refine Qj T fun K hK=>?_|refine Qk (id:=6) T mixed Wd5 (by kernel_rfl) fun K hK=>?_|refine Ql fun A B hA hB=>?_|refine Qm ?_|refine Qn ?_|refine Qp ?_|refine Qr ?_)
 | ((with_reducible first|apply Qy|apply Qz|apply QA)<;>intro hb<;>try simp only[nr] at hb)
 |simp only[go_sem,↓reduceIte,reduceIte,Qa,Qh,Qb,Qc,Qd,Qe,Qf,Qg,reduceCtorEq, *]
 |with_reducible refine fun(bn:Bool) hbn=>?_))
  refine Qs [0,1] (fun m ts'=>∃(i:Nat),m=xs.length-i∧i≤xs.length∧xs.take i=ys.take i∧ts'.tmp 5=.int .i64 i) xs.length ?_ ?_
  ·refine⟨0,?_⟩
   simp only[go_sem,↓reduceIte,reduceIte,Qa,Qh,Qb,Qc,Qd,Qe,Qf,Qg,reduceCtorEq, *]
  ·rintro m A hM ts' hk ⟨i,hm,f1,f2,s1⟩
   simp only[go_sem,↓reduceIte,reduceIte,Qa,Qh,Qb,Qc,Qd,Qe,Qf,Qg,reduceCtorEq, *] at hk
   by_cases hlt:i<xs.length
   ·have hlu:i<ys.length:=by omega
    have hne:=Zs hlt hlu
    obtain⟨hs1,hs2,hs3,hs4,hs5⟩:=hs xs[i] (QC hlt)
    (repeat' (first
 | (with_reducible first|refine callX.by (Jer _ _ _ _ _ _ _ _ _ _ _ _ _ _ ?_ ?_ ?_) ?_|assumption|(refine Qw hK _ ?_;clear hK K)|refine Qw ‹_› _ ?_|refine Qx ‹_› ?_|refine Qi fun K hK=>?_|refine Qj T fun K hK=>?_|refine Qk (id:=6) T mixed Wd5 (by kernel_rfl) fun K hK=>?_|refine Ql fun A B hA hB=>?_|refine Qm ?_|refine Qn ?_|refine Qp ?_|refine Qr ?_)
 | ((with_reducible first|apply Qy|apply Qz|apply QA)<;>intro hb<;>try simp only[nr] at hb)
 |simp only[go_sem,↓reduceIte,reduceIte,Qa,Qh,Qb,Qc,Qd,Qe,Qf,Qg,reduceCtorEq, *]
 |with_reducible refine fun(bn:Bool) hbn=>?_))
    all_goals ((repeat clear hK);(repeat clear hA);(repeat clear hB))
    all_goals clear hs hs4
    all_goals first
     | (refine hM.on (xs.length-(i+1)) (by omega) (by simp only[go_sem,↓reduceIte,reduceIte,Qa,Qh,Qb,Qc,Qd,Qe,Qf,Qg,reduceCtorEq, *,Jf hlt hl]) ⟨i+1,rfl,by omega,by clear hM;apply Zr f2 hlt hlu;grind,?_⟩;simp only[go_sem,↓reduceIte,reduceIte,Qa,Qh,Qb,Qc,Qd,Qe,Qf,Qg,reduceCtorEq, *,Jf hlt hl];done)
     | (clear hM;grind)
   ·have:=Zq f2 hlt hll
    (repeat' (first
 | (with_reducible first|refine callX.by (Jer _ _ _ _ _ _ _ _ _ _ _ _ _ _ ?_ ?_ ?_) ?_|assumption|(refine Qw hK _ ?_;clear hK K)|refine Qw ‹_› _ ?_|refine Qx ‹_› ?_|refine Qi fun K hK=>?_|refine Qj T fun K hK=>?_|refine Qk (id:=6) T mixed Wd5 (by kernel_rfl) fun K hK=>?_|refine Ql fun A B hA hB=>?_|refine Qm ?_|refine Qn ?_|refine Qp ?_|refine Qr ?_)
 | ((with_reducible first|apply Qy|apply Qz|apply QA)<;>intro hb<;>try simp only[nr] at hb)
 |simp only[go_sem,↓reduceIte,reduceIte,Qa,Qh,Qb,Qc,Qd,Qe,Qf,Qg,reduceCtorEq, *]
 |with_reducible refine fun(bn:Bool) hbn=>?_))
    all_goals ((repeat clear hK);(repeat clear hA);(repeat clear hB))
    all_goals (clear hM hs;grind)
 ·have:¬xs=ys:=by rintro rfl;exact hll rfl
  (repeat' (first
 | (with_reducible first|refine callX.by (Jer _ _ _ _ _ _ _ _ _ _ _ _ _ _ ?_ ?_ ?_) ?_|assumption|(refine Qw hK _ ?_;clear hK K)|refine Qw ‹_› _ ?_|refine Qx ‹_› ?_|refine Qi fun K hK=>?_|refine Qj T fun K hK=>?_|refine Qk (id:=6) T mixed Wd5 (by kernel_rfl) fun K hK=>?_|refine Ql fun A B hA hB=>?_|refine Qm ?_|refine Qn ?_|refine Qp ?_|refine Qr ?_)
 | ((with_reducible first|apply Qy|apply Qz|apply QA)<;>intro hb<;>try simp only[nr] at hb)
 |simp only[go_sem,↓reduceIte,reduceIte,Qa,Qh,Qb,Qc,Qd,Qe,Qf,Qg,reduceCtorEq, *]
 |with_reducible refine fun(bn:Bool) hbn=>?_))
  all_goals ((repeat clear hK);(repeat clear hA);(repeat clear hB))
  all_goals (clear hs;grind)
def VP(xs:List Res):Bool:=xs.all Jbo && decide (xs.length≤80)
theorem Zz(xs:List Res)(hl:Jc xs.length)(hs:∀x∈xs,Jv x):CallR Tryz.prog 27 [.slice false (Ja xs)] (.val (.bool (VP xs))):=by
 refine QD (T:=T) Tryz.call27 Tryz.func27 rfl Tryz.ntmps27 (congrArg Array.toList Tryz.results27) (by decide) fun ts hn h0=>?_
 (repeat' (first
 | (with_reducible first|refine callX.by (Je1 _ _ _ _ _ _ _ ?_) ?_|assumption|(refine Qw hK _ ?_;clear hK K)|refine Qw ‹_› _ ?_|refine Qx ‹_› ?_|refine Qi fun K hK=>?_|refine Qj T fun K hK=>?_|refine Ql fun A B hA hB=>?_|refine Qm ?_|refine Qn ?_|refine Qp ?_|refine Qr ?_)
 | ((with_reducible first|apply Qy|apply Qz|apply QA)<;>intro hb<;>try simp only[nr] at hb)
 |simp only[go_sem,↓reduceIte,reduceIte,Qa,Qh,Qb,Qc,Qd,Qe,Qf,Qg,reduceCtorEq, *]
 |with_reducible refine fun(bn:Bool) hbn=>?_))
 refine Qs [0] (fun m ts'=>∃(i:Nat),m=xs.length-i∧i≤xs.length∧xs.all Jbo=(xs.drop i).all Jbo∧ts'.tmp 3=.int .i64 i) xs.length ?_ ?_
 ·refine⟨0,?_⟩
  simp only[go_sem,↓reduceIte,reduceIte,Qa,Qh,Qb,Qc,Qd,Qe,Qf,Qg,reduceCtorEq, *]
 ·rintro m A hM ts' hk ⟨i,hm,f1,f2,s1⟩
  simp only[go_sem,↓reduceIte,reduceIte,Qa,Qh,Qb,Qc,Qd,Qe,Qf,Qg,reduceCtorEq, *] at hk
  by_cases hlt:i<xs.length
  ·rw[List.drop_eq_getElem_cons hlt,List.all_cons] at f2
   obtain⟨hs1,hs2,hs3,hs4,hs5⟩:=hs xs[i] (QC hlt)
   (repeat' (first
 | (with_reducible first|refine callX.by (Je1 _ _ _ _ _ _ _ ?_) ?_|assumption|(refine Qw hK _ ?_;clear hK K)|refine Qw ‹_› _ ?_|refine Qx ‹_› ?_|refine Qi fun K hK=>?_|refine Qj T fun K hK=>?_|refine Ql fun A B hA hB=>?_|refine Qm ?_|refine Qn ?_|refine Qp ?_|refine Qr ?_)
 | ((with_reducible first|apply Qy|apply Qz|apply QA)<;>intro hb<;>try simp only[nr] at hb)
 |simp only[go_sem,↓reduceIte,reduceIte,Qa,Qh,Qb,Qc,Qd,Qe,Qf,Qg,reduceCtorEq, *]
 |with_reducible refine fun(bn:Bool) hbn=>?_))
   all_goals ((repeat clear hK);(repeat clear hA);(repeat clear hB))
   all_goals clear hs hs4
   all_goals first
    | (refine hM.on (xs.length-(i+1)) (by omega) (by simp only[go_sem,↓reduceIte,reduceIte,Qa,Qh,Qb,Qc,Qd,Qe,Qf,Qg,reduceCtorEq, *,Jf hlt hl,-f2]) ⟨i+1,rfl,by omega,by clear hM;grind,?_⟩;simp only[go_sem,↓reduceIte,reduceIte,Qa,Qh,Qb,Qc,Qd,Qe,Qf,Qg,reduceCtorEq, *,Jf hlt hl,-f2];done)
    | (clear hM;grind [VP])
  ·rw[List.drop_eq_nil_of_le (by omega),List.all_nil] at f2
   (repeat' (first
 | (with_reducible first|refine callX.by (Je1 _ _ _ _ _ _ _ ?_) ?_|assumption|(refine Qw hK _ ?_;clear hK K)|refine Qw ‹_› _ ?_|refine Qx ‹_› ?_|refine Qi fun K hK=>?_|refine Qj T fun K hK=>?_|refine Ql fun A B hA hB=>?_|refine Qm ?_|refine Qn ?_|refine Qp ?_|refine Qr ?_)
 | ((with_reducible first|apply Qy|apply Qz|apply QA)<;>intro hb<;>try simp only[nr] at hb)
 |simp only[go_sem,↓reduceIte,reduceIte,Qa,Qh,Qb,Qc,Qd,Qe,Qf,Qg,reduceCtorEq, *]
 |with_reducible refine fun(bn:Bool) hbn=>?_))
   all_goals ((repeat clear hK);(repeat clear hA);(repeat clear hB))
   all_goals (clear hM hs;grind [VP])
def ZI(p:Pins):Pins:=if JcQ p then p else ⟨0,[]⟩
def Jel(p:Pins)(l:List Res):Pins×Int×Int :=
 let q:=ZI p
 if q.next'=2147483647 then (q,0,14) else
  let s:=q.snaps.filter fun x=>decide (0<x.pins)
  if 1000≤s.length then (q,0,8) else
   (⟨IntKind.i64.wrap (q.next'+1),s++[⟨IntKind.i64.wrap (q.next'+1),0,l⟩]⟩,IntKind.i64.wrap (q.next'+1),0)
theorem Jja(n1 n2:Int)(xs ys:List Snap)(hl:Jc xs.length)(hs:∀x∈xs,Yq x):CallR Tryz.prog 48 [.agg [.int .i64 n1,.slice false (Ja xs)],.agg [.int .i64 n2,.slice false (Ja ys)]] (.val (.bool (decide (n1=n2∧xs=ys)))):=by
 refine CallR.go2 (T:=T) Tryz.call48 Tryz.func48 rfl Tryz.ntmps48 (congrArg Array.toList Tryz.results48) (by decide) fun ts hn h0 h1=>?_
 by_cases hll:xs.length=ys.length
 ·(repeat' (first
 | (with_reducible first|refine callX.by (Y3 _ _ ?_ ?_) ?_|assumption|(refine Qw hK _ ?_;clear hK K)|refine Qw ‹_› _ ?_|refine Qx ‹_› ?_|refine Qi fun K hK=>?_|refine Qj T fun K hK=>?_|refine Ql fun A B hA hB=>?_|refine Qm ?_|refine Qn ?_|refine Qp ?_|refine Qr ?_)
 | ((with_reducible first|apply Qy|apply Qz|apply QA)<;>intro hb<;>try simp only[nr] at hb)
 |simp only[go_sem,↓reduceIte,reduceIte,Qa,Qh,Qb,Qc,Qd,Qe,Qf,Qg,reduceCtorEq, *]
 |with_reducible refine fun(bn:Bool) hbn=>?_))
  ·all_goals ((repeat clear hK);(repeat clear hA);(repeat clear hB))
   clear hs;grind
  refine Qs [2,3] (fun m ts'=>∃(i:Nat),m=xs.length-i∧i≤xs.length∧xs.take i=ys.take i∧ts'.tmp 5=.int .i64 i) xs.length ?_ ?_
  ·refine⟨0,?_⟩
   simp only[go_sem,↓reduceIte,reduceIte,Qa,Qh,Qb,Qc,Qd,Qe,Qf,Qg,reduceCtorEq, *]
  ·rintro m A hM ts' hk ⟨i,hm,f1,f2,s1⟩
   simp only[go_sem,↓reduceIte,reduceIte,Qa,Qh,Qb,Qc,Qd,Qe,Qf,Qg,reduceCtorEq, *] at hk
   by_cases hlt:i<xs.length
   ·have hlu:i<ys.length:=by omega
    have hne:=Zs hlt hlu
    rw[Jhh] at hne
    obtain⟨hs1,hs2⟩:=hs xs[i] (QC hlt)
    (repeat' (first
 | (with_reducible first|refine callX.by (Y3 _ _ ?_ ?_) ?_|assumption|(refine Qw hK _ ?_;clear hK K)|refine Qw ‹_› _ ?_|refine Qx ‹_› ?_|refine Qi fun K hK=>?_|refine Qj T fun K hK=>?_|refine Ql fun A B hA hB=>?_|refine Qm ?_|refine Qn ?_|refine Qp ?_|refine Qr ?_)
 | ((with_reducible first|apply Qy|apply Qz|apply QA)<;>intro hb<;>try simp only[nr] at hb)
 |simp only[go_sem,↓reduceIte,reduceIte,Qa,Qh,Qb,Qc,Qd,Qe,Qf,Qg,reduceCtorEq, *]
 |with_reducible refine fun(bn:Bool) hbn=>?_))
    all_goals ((repeat clear hK);(repeat clear hA);(repeat clear hB))
    all_goals clear hs hs2
    all_goals first
     | (refine hM.on (xs.length-(i+1)) (by omega) (by simp only[go_sem,↓reduceIte,reduceIte,Qa,Qh,Qb,Qc,Qd,Qe,Qf,Qg,reduceCtorEq, *,Jf hlt hl]) ⟨i+1,rfl,by omega,by clear hM;apply Zr f2 hlt hlu;rw[Jhh];grind,?_⟩;simp only[go_sem,↓reduceIte,reduceIte,Qa,Qh,Qb,Qc,Qd,Qe,Qf,Qg,reduceCtorEq, *,Jf hlt hl];done)
     | (clear hM;grind)
   ·have:=Zq f2 hlt hll
    (repeat' (first
 | (with_reducible first|refine callX.by (Y3 _ _ ?_ ?_) ?_|assumption|(refine Qw hK _ ?_;clear hK K)|refine Qw ‹_› _ ?_|refine Qx ‹_› ?_|refine Qi fun K hK=>?_|refine Qj T fun K hK=>?_|refine Ql fun A B hA hB=>?_|refine Qm ?_|refine Qn ?_|refine Qp ?_|refine Qr ?_)
 | ((with_reducible first|apply Qy|apply Qz|apply QA)<;>intro hb<;>try simp only[nr] at hb)
 |simp only[go_sem,↓reduceIte,reduceIte,Qa,Qh,Qb,Qc,Qd,Qe,Qf,Qg,reduceCtorEq, *]
 |with_reducible refine fun(bn:Bool) hbn=>?_))
    all_goals ((repeat clear hK);(repeat clear hA);(repeat clear hB))
    all_goals (clear hM hs;grind)
 ·have:¬xs=ys:=by rintro rfl;exact hll rfl
  (repeat' (first
 | (with_reducible first|refine callX.by (Y3 _ _ ?_ ?_) ?_|assumption|(refine Qw hK _ ?_;clear hK K)|refine Qw ‹_› _ ?_|refine Qx ‹_› ?_|refine Qi fun K hK=>?_|refine Qj T fun K hK=>?_|refine Ql fun A B hA hB=>?_|refine Qm ?_|refine Qn ?_|refine Qp ?_|refine Qr ?_)
 | ((with_reducible first|apply Qy|apply Qz|apply QA)<;>intro hb<;>try simp only[nr] at hb)
 |simp only[go_sem,↓reduceIte,reduceIte,Qa,Qh,Qb,Qc,Qd,Qe,Qf,Qg,reduceCtorEq, *]
 |with_reducible refine fun(bn:Bool) hbn=>?_))
  all_goals ((repeat clear hK);(repeat clear hA);(repeat clear hB))
  all_goals (clear hs;grind)
def JaG(p:Pins):Bool:=p.snaps.all (fun s=>VP s.l) && decide (p.snaps.length≤20)
theorem Jhl(next:Int)(xs:List Snap)(hl:Jc xs.length)(hs:∀x∈xs,Yq x):CallR Tryz.prog 28 [.agg [.int .i64 next,.slice false (Ja xs)]] (.val (.bool (JaG ⟨next,xs⟩))):=by
 refine QD (T:=T) Tryz.call28 Tryz.func28 rfl Tryz.ntmps28 (congrArg Array.toList Tryz.results28) (by decide) fun ts hn h0=>?_
 (repeat' (first
 | (with_reducible first|refine callX.by (Zz _ ?_ ?_) ?_|assumption|(refine Qw hK _ ?_;clear hK K)|refine Qw ‹_› _ ?_|refine Qx ‹_› ?_|refine Qi fun K hK=>?_|refine Qj T fun K hK=>?_|refine Ql fun A B hA hB=>?_|refine Qm ?_|refine Qn ?_|refine Qp ?_|refine Qr ?_)
 | ((with_reducible first|apply Qy|apply Qz|apply QA)<;>intro hb<;>try simp only[nr] at hb)
 |simp only[go_sem,↓reduceIte,reduceIte,Qa,Qh,Qb,Qc,Qd,Qe,Qf,Qg,reduceCtorEq, *]
 |with_reducible refine fun(bn:Bool) hbn=>?_))
 refine Qs [1] (fun m ts'=>∃(i:Nat),m=xs.length-i∧i≤xs.length∧xs.all (fun s=>VP s.l)=(xs.drop i).all (fun s=>VP s.l)∧ts'.tmp 3=.int .i64 i) xs.length ?_ ?_
 ·refine⟨0,?_⟩
  simp only[go_sem,↓reduceIte,reduceIte,Qa,Qh,Qb,Qc,Qd,Qe,Qf,Qg,reduceCtorEq, *]
 ·rintro m A hM ts' hk ⟨i,hm,f1,f2,s1⟩
  simp only[go_sem,↓reduceIte,reduceIte,Qa,Qh,Qb,Qc,Qd,Qe,Qf,Qg,reduceCtorEq, *] at hk
  by_cases hlt:i<xs.length
  ·rw[List.drop_eq_getElem_cons hlt,List.all_cons] at f2
   obtain⟨hs1,hs2⟩:=hs xs[i] (QC hlt)
   (repeat' (first
 | (with_reducible first|refine callX.by (Zz _ ?_ ?_) ?_|assumption|(refine Qw hK _ ?_;clear hK K)|refine Qw ‹_› _ ?_|refine Qx ‹_› ?_|refine Qi fun K hK=>?_|refine Qj T fun K hK=>?_|refine Ql fun A B hA hB=>?_|refine Qm ?_|refine Qn ?_|refine Qp ?_|refine Qr ?_)
 | ((with_reducible first|apply Qy|apply Qz|apply QA)<;>intro hb<;>try simp only[nr] at hb)
 |simp only[go_sem,↓reduceIte,reduceIte,Qa,Qh,Qb,Qc,Qd,Qe,Qf,Qg,reduceCtorEq, *]
 |with_reducible refine fun(bn:Bool) hbn=>?_))
   all_goals ((repeat clear hK);(repeat clear hA);(repeat clear hB))
   all_goals clear hs hs2
   all_goals first
    | (refine hM.on (xs.length-(i+1)) (by omega) (by simp only[go_sem,↓reduceIte,reduceIte,Qa,Qh,Qb,Qc,Qd,Qe,Qf,Qg,reduceCtorEq, *,Jf hlt hl,-f2]) ⟨i+1,rfl,by omega,by clear hM;grind,?_⟩;simp only[go_sem,↓reduceIte,reduceIte,Qa,Qh,Qb,Qc,Qd,Qe,Qf,Qg,reduceCtorEq, *,Jf hlt hl,-f2];done)
    | (clear hM;grind [JaG])
  ·rw[List.drop_eq_nil_of_le (by omega),List.all_nil] at f2
   (repeat' (first
 | (with_reducible first|refine callX.by (Zz _ ?_ ?_) ?_|assumption|(refine Qw hK _ ?_;clear hK K)|refine Qw ‹_› _ ?_|refine Qx ‹_› ?_|refine Qi fun K hK=>?_|refine Qj T fun K hK=>?_|refine Ql fun A B hA hB=>?_|refine Qm ?_|refine Qn ?_|refine Qp ?_|refine Qr ?_)
 | ((with_reducible first|apply Qy|apply Qz|apply QA)<;>intro hb<;>try simp only[nr] at hb)
 |simp only[go_sem,↓reduceIte,reduceIte,Qa,Qh,Qb,Qc,Qd,Qe,Qf,Qg,reduceCtorEq, *]
 |with_reducible refine fun(bn:Bool) hbn=>?_))
   all_goals ((repeat clear hK);(repeat clear hA);(repeat clear hB))
   all_goals (clear hM hs;grind [JaG])
theorem JgN:∀a b:List UInt8,Lib.compareBytes b a=- Lib.compareBytes a b
 | [],[]=>rfl
 | [],_ :: _=>rfl
 |_ :: _,[]=>rfl
 |x :: a,y :: b=>by
  have h:=JgN a b
  have hxy:¬(x<y∧y<x):=fun h=>by simp only[UInt8.lt_iff_toNat_lt] at h;omega
  simp only[Lib.compareBytes]
  by_cases h1:x<y<;>by_cases h2:y<x<;>simp[h1,h2,h]
  exact absurd ⟨h1,h2⟩ hxy
theorem JgP:∀a b:List UInt8,Lib.compareBytes a b=0→a=b
 | [],[]=>fun _=>rfl
 | [],_ :: _=>fun h=>by simp[Lib.compareBytes] at h
 |_ :: _,[]=>fun h=>by simp[Lib.compareBytes] at h
 |x :: a,y :: b=>fun h=>by
  simp only[Lib.compareBytes] at h
  by_cases h1:x<y
  ·simp[h1] at h
  ·by_cases h2:y<x
   ·simp[h1,h2] at h
   ·have e:x=y:=by
     apply UInt8.toNat_inj.1
     simp only[UInt8.lt_iff_toNat_lt] at h1 h2;omega
    rw[if_neg h1,if_neg h2] at h
    rw[e,JgP a b h]
theorem JgO:∀a b c:List UInt8,Lib.compareBytes a b<0→Lib.compareBytes b c<0→Lib.compareBytes a c<0
 | [],[],_,h,_=>by simp[Lib.compareBytes] at h
 | [],_ :: _,[],_,h=>by simp[Lib.compareBytes] at h
 | [],_ :: _,_ :: _,_,_=>by simp[Lib.compareBytes]
 |_ :: _,[],_,h,_=>by simp[Lib.compareBytes] at h
 |_ :: _,_ :: _,[],_,h=>by simp[Lib.compareBytes] at h
 |x :: a,y :: b,z :: c,h,k=>by
  simp only[Lib.compareBytes,UInt8.lt_iff_toNat_lt] at h k ⊢
  by_cases h1:x.toNat<y.toNat
  ·by_cases k1:y.toNat<z.toNat
   ·rw[if_pos (by omega)];omega
   ·rw[if_neg k1] at k
    by_cases k2:z.toNat<y.toNat
    ·rw[if_pos k2] at k;omega
    ·rw[if_pos (by omega)];omega
  ·rw[if_neg h1] at h
   by_cases h2:y.toNat<x.toNat
   ·rw[if_pos h2] at h;omega
   ·rw[if_neg h2] at h
    by_cases k1:y.toNat<z.toNat
    ·rw[if_pos (by omega)];omega
    ·rw[if_neg k1] at k
     by_cases k2:z.toNat<y.toNat
     ·rw[if_pos k2] at k;omega
     ·rw[if_neg k2] at k
      rw[if_neg (by omega),if_neg (by omega)]
      exact JgO a b c h k
theorem JdT(a b:Key):JI a b=if a.kind<b.kind then -1 else if b.kind<a.kind then 1 else Lib.compareBytes a.name b.name:=by
 unfold JI Jat
 generalize Lib.compareBytes a.name b.name=c
 simp only[ior,Jcr]
 by_cases h1:a.kind<b.kind
 ·simp[h1]
 ·by_cases h2:b.kind<a.kind
  ·simp[h1,h2]
  ·by_cases h3:c=0
   ·simp[h1,h2,h3]
   ·simp[h1,h2,h3]
theorem Jbz(a b:Key):JI b a=- JI a b:=by
 have h:=JgN a.name b.name
 rw[JdT,JdT,h]
 by_cases h1:a.kind<b.kind
 ·rw[if_neg (by omega),if_pos h1,if_pos h1];rfl
 ·by_cases h2:b.kind<a.kind
  ·rw[if_pos h2,if_neg h1,if_pos h2]
  ·rw[if_neg h2,if_neg h1,if_neg h1,if_neg h2]
theorem JdU(a b:Key)(h:JI a b=0):a=b:=by
 obtain⟨k1,n1⟩:=a;obtain⟨k2,n2⟩:=b
 rw[JdT] at h
 simp only at h
 by_cases h1:k1<k2
 ·rw[if_pos h1] at h;omega
 ·by_cases h2:k2<k1
  ·rw[if_neg h1,if_pos h2] at h;omega
  ·rw[if_neg h1,if_neg h2] at h
   have e:k1=k2:=by omega
   rw[e,JgP _ _ h]
theorem JlU(a b:Key):JI a b<0↔a.kind<b.kind∨(a.kind=b.kind∧Lib.compareBytes a.name b.name<0):=by
 rw[JdT]
 by_cases h1:a.kind<b.kind
 ·rw[if_pos h1];omega
 ·by_cases h2:b.kind<a.kind
  ·rw[if_neg h1,if_pos h2];omega
  ·rw[if_neg h1,if_neg h2];omega
theorem Jcu(a b c:Key)(h:JI a b<0)(k:JI b c<0):JI a c<0:=by
 rw[JlU] at h k ⊢
 rcases h with h|⟨h,h'⟩<;>rcases k with k|⟨k,k'⟩
 ·exact .inl (by omega)
 ·exact .inl (by omega)
 ·exact .inl (by omega)
 ·exact .inr ⟨by omega,JgO _ _ _ h' k'⟩
theorem JhY(a:Key):¬JI a a<0:=fun h=>by have:=Jbz a a;omega
def JJ(xs:List Key):List Key:=xs.mergeSort fun x y=>!decide (JI y x<0)
theorem Jaf(xs:List Key):(JJ xs).length=xs.length:=by simp[JJ]
def Vb:List Key→List Key
 |x :: y :: r=>if y=x then Vb (y :: r) else y :: Vb (y :: r)
 |_=>[]
def VY(xs:List Key):List Key:=xs.take 1++Vb xs
def Va(l:List Snap):List Key:=l.flatMap fun s=>s.l.map Jj
def J6(p:Pins):List Key:=VY (JJ (Va (Jy p).snaps))
theorem JhH(s:Snap)(l:List Snap):Va (s :: l)=s.l.map Jj++Va l:=rfl
end Go.Proofs.YtihahfhagobnoaaGreatDoor.Lg
