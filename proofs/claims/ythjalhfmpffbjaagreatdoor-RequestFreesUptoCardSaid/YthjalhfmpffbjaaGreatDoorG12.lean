/- Parts of the proof, one behind the other. -/
import Derived.Test.YthjalhfmpffbjaaGreatDoorG11
namespace Go.Proofs.YthjalhfmpffbjaaGreatDoor.Lg
set_option maxRecDepth 100000
set_option linter.unusedVariables false
set_option linter.unusedSimpArgs false
open Go
open Nat renaming reduceEqDiff → Qa, reduceLT → Qb, reduceLeDiff → Qc, reduceAdd → Qd, reduceMul → Qe, reduceSub → Qf, reduceBEq → Qg
open String renaming reduceEq → Qh
open SpecC renaming seqW → Qi, regW → Qj, drawW → Qk, condW → Ql, block → Qm, skip → Qn, exit → Qp, ret → Qr, loopF → Qs
open NxK renaming out → Qw
open Nx renaming out → Qx
open condK renaming split → Qy
open gK renaming split_t → Qz, split_f → QA
open List renaming getElem_mem → QC
open CallR renaming go1 → QD
theorem JjT(a b c d e f g h:Bool):CallR Tryz.prog 225 [.agg [.bool a,.bool b,.bool c,.bool d],.agg [.bool e,.bool f,.bool g,.bool h]] (.val (.agg [.bool (a && e),.bool (b && f),.bool (c && g),.bool (d && h)])):=by
 cases a<;>cases b<;>cases c<;>cases d
 all_goals
  refine CallR.go2 (T:=T) Tryz.call225 Tryz.func225 rfl Tryz.ntmps225 (congrArg Array.toList Tryz.results225) (by decide) fun ts hn h0 h1=>?_
  (repeat' (first
 | (with_reducible first|assumption|(refine Qw hK _ ?_;clear hK K)|refine Qw ‹_› _ ?_|refine Qx ‹_› ?_|refine Qi fun K hK=>?_|refine Qj T fun K hK=>?_|refine Ql fun A B hA hB=>?_|refine Qn ?_|refine Qr ?_)
 | ((with_reducible first|apply Qy|apply Qz|apply QA)<;>intro hb<;>try simp only[nr] at hb)
 |simp only[go_sem,↓reduceIte,reduceIte,Qa,Qh,Qb,Qc,Qd,Qe,Qf,Qg,reduceCtorEq, *]
 |with_reducible refine fun(bn:Bool) hbn=>?_))
theorem bx1(a b:Bool):decide ((!a && b)=!a)=(a || b):=by cases a<;>cases b<;>rfl
theorem bx2(p b:Bool):decide ((p && b)=p)=(!p || b):=by cases p<;>cases b<;>rfl
theorem bx3(n:Nat):(!decide ((0:Int)<(n:Int)))=decide (n=0):=by
 rw[Bool.eq_iff_iff];simp only[Bool.not_eq_true',decide_eq_false_iff_not,decide_eq_true_eq];omega
def Jf4(r:Res):Bool:=(decide (r.port=0) || decide (r.kind=0)) && ((decide (r.to'=[]) || (decide (r.kind=0) || decide (r.kind=2))) && ((decide (r.rules'.length=0) || decide (r.kind=1)) && (decide (r.hosts.length=0) || decide (r.kind=3))))
theorem Jn2(r_kind:Int)(r_name:List UInt8)(r_ver:Int)(r_port:Int)(r_to:List UInt8)(r_rules:List Rule)(r_hosts:List Int):CallR Tryz.prog 195 [.agg [.int .i64 r_kind,.str r_name,.int .i64 r_ver,.int .i64 r_port,.str r_to,.slice false (Ja r_rules),.slice false (Ja r_hosts)]] (.val (.bool (Jf4 (⟨r_kind,r_name,r_ver,r_port,r_to,r_rules,r_hosts⟩:Res)))):=by
 refine QD (T:=T) Tryz.call195 Tryz.func195 rfl Tryz.ntmps195 (congrArg Array.toList Tryz.results195) (by decide) fun ts hn h0=>?_
 (repeat' (first
 | (with_reducible first|refine callX.by (Jh1 _) ?_|refine callX.by (JjT _ _ _ _ _ _ _ _) ?_|assumption|(refine Qw hK _ ?_;clear hK K)|refine Qw ‹_› _ ?_|refine Qx ‹_› ?_|refine Qi fun K hK=>?_|refine Qj T fun K hK=>?_|refine Qk (id:=2) T mixed [([19],[20,21,22,24]),([20],[19,23,24]),([21],[19,24]),([22],[19,24]),([23],[20,24]),([24],[19,20,21,22,23])] (by kernel_rfl) fun K hK=>?_|refine Ql fun A B hA hB=>?_|refine Qn ?_|refine Qr ?_)
 | ((with_reducible first|apply Qy|apply Qz|apply QA)<;>intro hb<;>try simp only[nr] at hb)
 |simp only[go_sem,↓reduceIte,reduceIte,Qa,Qh,Qb,Qc,Qd,Qe,Qf,Qg,reduceCtorEq, *]
 |with_reducible refine fun(bn:Bool) hbn=>?_))
 all_goals ((repeat clear hK);(repeat clear hA);(repeat clear hB))
 all_goals simp only[bx1,bx2,bx3,Jf4,Bool.not_not]
def Ja2(x:Rule):Bool:=decide (x.split.length≤4) && !(x.split.any fun w=>!Za w.w 100)
def Y4(r:Res):Bool:=Za r.ver 2147483647 && (Za r.port 65535 && (decide (r.rules'.length≤8) && (decide (r.hosts.length≤8) && (r.hosts.all (fun h=>Za h 2147483647) && r.rules'.all Ja2))))
set_option maxHeartbeats 4000000 in
theorem Joc(r_kind:Int)(r_name:List UInt8)(r_ver:Int)(r_port:Int)(r_to:List UInt8)(r_rules:List Rule)(r_hosts:List Int)(hl:Jc r_rules.length)(hh:Jc r_hosts.length)(hs:∀x∈r_rules,VF x):CallR Tryz.prog 194 [.agg [.int .i64 r_kind,.str r_name,.int .i64 r_ver,.int .i64 r_port,.str r_to,.slice false (Ja r_rules),.slice false (Ja r_hosts)]] (.val (.bool (Y4 (⟨r_kind,r_name,r_ver,r_port,r_to,r_rules,r_hosts⟩:Res)))):=by
 refine QD (T:=T) Tryz.call194 Tryz.func194 rfl Tryz.ntmps194 (congrArg Array.toList Tryz.results194) (by decide) fun ts hn h0=>?_
 (repeat' (first
 | (with_reducible first|refine callX.by (Ja5 _ _) ?_|refine callX.by (Ze _ _ ?_ _ _ ?_ ?_) ?_|refine callX.by (JbR _ _) ?_|assumption|(refine Qw hK _ ?_;clear hK K)|refine Qw ‹_› _ ?_|refine Qx ‹_› ?_|refine Qi fun K hK=>?_|refine Qj T fun K hK=>?_|refine Ql fun A B hA hB=>?_|refine Qm ?_|refine Qn ?_|refine Qp ?_|refine Qr ?_)
 | ((with_reducible first|apply Qy|apply Qz|apply QA)<;>intro hb<;>try simp only[nr] at hb)
 |simp only[go_sem,↓reduceIte,reduceIte,Qa,Qh,Qb,Qc,Qd,Qe,Qf,Qg,reduceCtorEq, *,-hs]
 |with_reducible refine fun(bn:Bool) hbn=>?_))
 iterate 4 (focus(all_goals ((repeat clear hK);(repeat clear hA);(repeat clear hB));clear hs;simp_all[Y4];try omega))
 refine Qs [1,30,31] (fun m ts'=>∃(i:Nat),m=r_hosts.length-i∧i≤r_hosts.length∧r_hosts.all (fun h=>Za h 2147483647)=(r_hosts.drop i).all (fun h=>Za h 2147483647)∧ts'.tmp 32=.int .i64 i) r_hosts.length ?_ ?_
 ·refine⟨0,?_⟩
  simp only[go_sem,↓reduceIte,reduceIte,Qa,Qh,Qb,Qc,Qd,Qe,Qf,Qg,reduceCtorEq, *,-hs]
 ·rintro m A hM ts' hk ⟨i,hm,f1,f2,s1⟩
  simp only[go_sem,↓reduceIte,reduceIte,Qa,Qh,Qb,Qc,Qd,Qe,Qf,Qg,reduceCtorEq, *] at hk
  by_cases hlt:i<r_hosts.length
  ·rw[List.drop_eq_getElem_cons hlt,List.all_cons] at f2
   (repeat' (first
 | (with_reducible first|refine callX.by (Ja5 _ _) ?_|refine callX.by (Ze _ _ ?_ _ _ ?_ ?_) ?_|refine callX.by (JbR _ _) ?_|assumption|(refine Qw hK _ ?_;clear hK K)|refine Qw ‹_› _ ?_|refine Qx ‹_› ?_|refine Qi fun K hK=>?_|refine Qj T fun K hK=>?_|refine Ql fun A B hA hB=>?_|refine Qm ?_|refine Qn ?_|refine Qp ?_|refine Qr ?_)
 | ((with_reducible first|apply Qy|apply Qz|apply QA)<;>intro hb<;>try simp only[nr] at hb)
 |simp only[go_sem,↓reduceIte,reduceIte,Qa,Qh,Qb,Qc,Qd,Qe,Qf,Qg,reduceCtorEq, *,-hs,-f2]
 |with_reducible refine fun(bn:Bool) hbn=>?_))
   all_goals ((repeat clear hK);(repeat clear hA);(repeat clear hB))
   ·clear hM hs;simp_all[Y4]
    intro hall
    obtain⟨x,hx,e⟩:=f2
    rw[hall x hx] at e;cases e
   ·(refine hM.on (r_hosts.length-(i+1)) (by omega) (by simp only[go_sem,↓reduceIte,reduceIte,Qa,Qh,Qb,Qc,Qd,Qe,Qf,Qg,reduceCtorEq, *,Ji hlt hh,-hs,-f2]) ⟨i+1,rfl,by omega,by rw[f2,hb];simp,?_⟩;simp only[go_sem,↓reduceIte,reduceIte,Qa,Qh,Qb,Qc,Qd,Qe,Qf,Qg,reduceCtorEq, *,Ji hlt hh,-hs,-f2];done)
  ·rw[List.drop_eq_nil_of_le (by omega),List.all_nil] at f2
   have hhost:=f2
   clear f2 f1 hM
   (repeat' (first
 | (with_reducible first|refine callX.by (Ja5 _ _) ?_|refine callX.by (Ze _ _ ?_ _ _ ?_ ?_) ?_|refine callX.by (JbR _ _) ?_|assumption|(refine Qw hK _ ?_;clear hK K)|refine Qw ‹_› _ ?_|refine Qx ‹_› ?_|refine Qi fun K hK=>?_|refine Qj T fun K hK=>?_|refine Ql fun A B hA hB=>?_|refine Qm ?_|refine Qn ?_|refine Qp ?_|refine Qr ?_)
 | ((with_reducible first|apply Qy|apply Qz|apply QA)<;>intro hb<;>try simp only[nr] at hb)
 |simp only[go_sem,↓reduceIte,reduceIte,Qa,Qh,Qb,Qc,Qd,Qe,Qf,Qg,reduceCtorEq, *,-hs,-hhost]
 |with_reducible refine fun(bn:Bool) hbn=>?_))
   refine Qs [41,42] (fun m ts'=>∃(i:Nat),m=r_rules.length-i∧i≤r_rules.length∧r_rules.all Ja2=(r_rules.drop i).all Ja2∧ts'.tmp 43=.int .i64 i) r_rules.length ?_ ?_
   ·refine⟨0,?_⟩
    simp only[go_sem,↓reduceIte,reduceIte,Qa,Qh,Qb,Qc,Qd,Qe,Qf,Qg,reduceCtorEq, *,-hs,-hhost]
   ·rintro m A hM ts' hk ⟨i,hm,f1,f2,s1⟩
    simp only[go_sem,↓reduceIte,reduceIte,Qa,Qh,Qb,Qc,Qd,Qe,Qf,Qg,reduceCtorEq, *] at hk
    by_cases hlt:i<r_rules.length
    ·rw[List.drop_eq_getElem_cons hlt,List.all_cons] at f2
     have hsi:=hs _ (QC hlt)
     have h:=Ze 224 [] Caps.nil (fun w=>!Za w.w 100) r_rules[i].split (fun w _=>JbR w.cluster w.w) hsi.2.2.1
     (repeat' (first
 | (with_reducible first|refine callX.by (h) ?_|refine callX.by (Ja5 _ _) ?_|refine callX.by (Ze _ _ ?_ _ _ ?_ ?_) ?_|refine callX.by (JbR _ _) ?_|assumption|(refine Qw hK _ ?_;clear hK K)|refine Qw ‹_› _ ?_|refine Qx ‹_› ?_|refine Qi fun K hK=>?_|refine Qj T fun K hK=>?_|refine Ql fun A B hA hB=>?_|refine Qm ?_|refine Qn ?_|refine Qp ?_|refine Qr ?_)
 | ((with_reducible first|apply Qy|apply Qz|apply QA)<;>intro hb<;>try simp only[nr] at hb)
 |simp only[go_sem,↓reduceIte,reduceIte,Qa,Qh,Qb,Qc,Qd,Qe,Qf,Qg,reduceCtorEq, *,-hs,-hhost,-f2,-hsi,-h]
 |with_reducible refine fun(bn:Bool) hbn=>?_))
     all_goals ((repeat clear hK);(repeat clear hA);(repeat clear hB))
     all_goals first
      | (refine hM.on (r_rules.length-(i+1)) (by omega) (by simp only[go_sem,↓reduceIte,reduceIte,Qa,Qh,Qb,Qc,Qd,Qe,Qf,Qg,reduceCtorEq, *,Ji hlt hl,-hs,-hhost,-f2,-hsi,-h]) ⟨i+1,rfl,by omega,by clear h hM hs hsi;rw[f2];simp_all[Ja2],?_⟩;simp only[go_sem,↓reduceIte,reduceIte,Qa,Qh,Qb,Qc,Qd,Qe,Qf,Qg,reduceCtorEq, *,Ji hlt hl,-hs,-hhost,-f2,-hsi,-h];done)
      | (clear h hM hs hsi;simp_all[Y4,Ja2];done)
      | (clear h hM hs hsi;simp_all[Y4,Ja2];intros;omega)
      |trace_state
    ·rw[List.drop_eq_nil_of_le (by omega),List.all_nil] at f2
     (repeat' (first
 | (with_reducible first|refine callX.by (Ja5 _ _) ?_|refine callX.by (Ze _ _ ?_ _ _ ?_ ?_) ?_|refine callX.by (JbR _ _) ?_|assumption|(refine Qw hK _ ?_;clear hK K)|refine Qw ‹_› _ ?_|refine Qx ‹_› ?_|refine Qi fun K hK=>?_|refine Qj T fun K hK=>?_|refine Ql fun A B hA hB=>?_|refine Qm ?_|refine Qn ?_|refine Qp ?_|refine Qr ?_)
 | ((with_reducible first|apply Qy|apply Qz|apply QA)<;>intro hb<;>try simp only[nr] at hb)
 |simp only[go_sem,↓reduceIte,reduceIte,Qa,Qh,Qb,Qc,Qd,Qe,Qf,Qg,reduceCtorEq, *,-hs,-hhost,-f2]
 |with_reducible refine fun(bn:Bool) hbn=>?_))
     all_goals ((repeat clear hK);(repeat clear hA);(repeat clear hB))
     all_goals (clear hM hs;simp_all[Y4];try omega)
theorem JlE(xs:List Int)(v:Int)(hl:Jc xs.length):CallR Tryz.prog 93 [.slice false (Ja xs),.int .i64 v] (.val (.int .i64 (JE (fun y=>decide (v=y)) xs 0))):=by
 refine CallR.go2 (T:=T) Tryz.call93 Tryz.func93 rfl Tryz.ntmps93 (congrArg Array.toList Tryz.results93) (by decide) fun ts hn h0 h1=>?_
 (repeat' (first
 | (with_reducible first|assumption|(refine Qw hK _ ?_;clear hK K)|refine Qw ‹_› _ ?_|refine Qx ‹_› ?_|refine Qi fun K hK=>?_|refine Qj T fun K hK=>?_|refine Ql fun A B hA hB=>?_|refine Qm ?_|refine Qn ?_|refine Qp ?_|refine Qr ?_)
 | ((with_reducible first|apply Qy|apply Qz|apply QA)<;>intro hb<;>try simp only[nr] at hb)
 |simp only[go_sem,↓reduceIte,reduceIte,Qa,Qh,Qb,Qc,Qd,Qe,Qf,Qg,reduceCtorEq, *]
 |with_reducible refine fun(bn:Bool) hbn=>?_))
 refine Qs [0,1,7] (fun m ts'=>∃(i:Nat),m=xs.length-i∧i≤xs.length∧JE (fun y=>decide (v=y)) xs 0=JE (fun y=>decide (v=y)) (xs.drop i) i∧ts'.tmp 8=.int .i64 i) xs.length ?_ ?_
 ·refine⟨0,?_⟩
  simp only[go_sem,↓reduceIte,reduceIte,Qa,Qh,Qb,Qc,Qd,Qe,Qf,Qg,reduceCtorEq, *]
 ·rintro m A hM ts' hk ⟨i,hm,f1,f2,s1⟩
  simp only[go_sem,↓reduceIte,reduceIte,Qa,Qh,Qb,Qc,Qd,Qe,Qf,Qg,reduceCtorEq, *] at hk
  by_cases hlt:i<xs.length
  ·rw[List.drop_eq_getElem_cons hlt,JE] at f2
   (repeat' (first
 | (with_reducible first|assumption|(refine Qw hK _ ?_;clear hK K)|refine Qw ‹_› _ ?_|refine Qx ‹_› ?_|refine Qi fun K hK=>?_|refine Qj T fun K hK=>?_|refine Ql fun A B hA hB=>?_|refine Qm ?_|refine Qn ?_|refine Qp ?_|refine Qr ?_)
 | ((with_reducible first|apply Qy|apply Qz|apply QA)<;>intro hb<;>try simp only[nr] at hb)
 |simp only[go_sem,↓reduceIte,reduceIte,Qa,Qh,Qb,Qc,Qd,Qe,Qf,Qg,reduceCtorEq, *]
 |with_reducible refine fun(bn:Bool) hbn=>?_))
   all_goals ((repeat clear hK);(repeat clear hA);(repeat clear hB))
   rw[if_neg (by simpa using hb)] at f2
   (refine hM.on (xs.length-(i+1)) (by omega) (by simp only[go_sem,↓reduceIte,reduceIte,Qa,Qh,Qb,Qc,Qd,Qe,Qf,Qg,reduceCtorEq, *,Ji hlt hl,-f2]) ⟨i+1,rfl,by omega,f2,?_⟩;simp only[go_sem,↓reduceIte,reduceIte,Qa,Qh,Qb,Qc,Qd,Qe,Qf,Qg,reduceCtorEq, *,Ji hlt hl,-f2];done)
  ·rw[List.drop_eq_nil_of_le (by omega),JE] at f2
   (repeat' (first
 | (with_reducible first|assumption|(refine Qw hK _ ?_;clear hK K)|refine Qw ‹_› _ ?_|refine Qx ‹_› ?_|refine Qi fun K hK=>?_|refine Qj T fun K hK=>?_|refine Ql fun A B hA hB=>?_|refine Qm ?_|refine Qn ?_|refine Qp ?_|refine Qr ?_)
 | ((with_reducible first|apply Qy|apply Qz|apply QA)<;>intro hb<;>try simp only[nr] at hb)
 |simp only[go_sem,↓reduceIte,reduceIte,Qa,Qh,Qb,Qc,Qd,Qe,Qf,Qg,reduceCtorEq, *]
 |with_reducible refine fun(bn:Bool) hbn=>?_))
theorem Jb2(xs:List Int)(v:Int)(hl:Jc xs.length):CallR Tryz.prog 62 [.slice false (Ja xs),.int .i64 v] (.val (.bool (xs.any fun y=>decide (v=y)))):=by
 have ha:=JaJ (fun y=>decide (v=y)) xs
 refine CallR.go2 (T:=T) Tryz.call62 Tryz.func62 rfl Tryz.ntmps62 (congrArg Array.toList Tryz.results62) (by decide) fun ts hn h0 h1=>?_
 (repeat' (first
 | (with_reducible first|refine callX.by (JlE _ _ ?_) ?_|assumption|(refine Qw hK _ ?_;clear hK K)|refine Qw ‹_› _ ?_|refine Qx ‹_› ?_|refine Qi fun K hK=>?_|refine Qj T fun K hK=>?_|refine Ql fun A B hA hB=>?_|refine Qn ?_|refine Qr ?_)
 | ((with_reducible first|apply Qy|apply Qz|apply QA)<;>intro hb<;>try simp only[nr] at hb)
 |simp only[go_sem,↓reduceIte,reduceIte,Qa,Qh,Qb,Qc,Qd,Qe,Qf,Qg,reduceCtorEq, *]
 |with_reducible refine fun(bn:Bool) hbn=>?_))
theorem Jn4(h p:List UInt8)(sp:List Weight)(y_host:List UInt8)(y_pfx:List UInt8)(y_split:List Weight):CallR Tryz.prog 230 [.agg [.str y_host,.str y_pfx,.slice false (Ja y_split)],.ro [.str h,.str p,.slice false (Ja sp)]] (.val (.bool (decide (h=y_host) && decide (p=y_pfx)))):=by
 refine CallR.go2 (T:=T) Tryz.call230 Tryz.func230 rfl Tryz.ntmps230 (congrArg Array.toList Tryz.results230) (by decide) fun ts hn h0 h1=>?_
 (repeat' (first
 | (with_reducible first|assumption|(refine Qw hK _ ?_;clear hK K)|refine Qw ‹_› _ ?_|refine Qx ‹_› ?_|refine Qi fun K hK=>?_|refine Qj T fun K hK=>?_|refine Ql fun A B hA hB=>?_|refine Qn ?_|refine Qr ?_)
 | ((with_reducible first|apply Qy|apply Qz|apply QA)<;>intro hb<;>try simp only[nr] at hb)
 |simp only[go_sem,↓reduceIte,reduceIte,Qa,Qh,Qb,Qc,Qd,Qe,Qf,Qg,reduceCtorEq, *]
 |with_reducible refine fun(bn:Bool) hbn=>?_))
 all_goals ((repeat clear hK);(repeat clear hA);(repeat clear hB))
 all_goals simp_all
def Jg8(x y:Rule):Bool:=decide (x.host=y.host) && decide (x.pfx=y.pfx)
def JbT:List Rule→List Rule→Bool
 |_,[]=>true
 |p,x :: r=>JjF x && (!(p.any (Jg8 x)) && JbT (p++[x]) r)
def JbS:List Int→List Int→Bool
 |_,[]=>true
 |p,h :: r=>!(p.any fun y=>decide (h=y)) && JbS (p++[h]) r
def JcO(r:Res):Bool:=JbT [] r.rules' && JbS [] r.hosts
theorem Jjw{α:Type}{l:List α}{i:Nat}(h:i<l.length):l.take i++[l[i]]=l.take (i+1):=(List.take_succ_eq_append_getElem h).symm
theorem Jkz(h p:List UInt8)(sp:List Weight):Caps [.ro [.str h,.str p,.slice false (Ja sp)]]:=⟨by simp only[go_sem,Bool.and_self],by simp only[go_sem]⟩
set_option maxHeartbeats 4000000 in
theorem Jn5(r_kind:Int)(r_name:List UInt8)(r_ver:Int)(r_port:Int)(r_to:List UInt8)(r_rules:List Rule)(r_hosts:List Int)(hl:Jc r_rules.length)(hh:Jc r_hosts.length)(hs:∀x∈r_rules,VF x):CallR Tryz.prog 197 [.agg [.int .i64 r_kind,.str r_name,.int .i64 r_ver,.int .i64 r_port,.str r_to,.slice false (Ja r_rules),.slice false (Ja r_hosts)]] (.val (.bool (JcO (⟨r_kind,r_name,r_ver,r_port,r_to,r_rules,r_hosts⟩:Res)))):=by
 refine QD (T:=T) Tryz.call197 Tryz.func197 rfl Tryz.ntmps197 (congrArg Array.toList Tryz.results197) (by decide) fun ts hn h0=>?_
 (repeat' (first
 | (with_reducible first|refine callX.by (JcX _ _ _ ?_) ?_|refine callX.by (Z2 _ _ ?_ _ _ ?_ ?_) ?_|refine callX.by (Jb2 _ _ ?_) ?_|assumption|(refine Qw hK _ ?_;clear hK K)|refine Qw ‹_› _ ?_|refine Qx ‹_› ?_|refine Qi fun K hK=>?_|refine Qj T fun K hK=>?_|refine Ql fun A B hA hB=>?_|refine Qm ?_|refine Qn ?_|refine Qp ?_|refine Qr ?_)
 | ((with_reducible first|apply Qy|apply Qz|apply QA)<;>intro hb<;>try simp only[nr] at hb)
 |simp only[go_sem,↓reduceIte,reduceIte,Qa,Qh,Qb,Qc,Qd,Qe,Qf,Qg,reduceCtorEq, *,-hs]
 |with_reducible refine fun(bn:Bool) hbn=>?_))
 refine Qs [1,9,10] (fun m ts'=>∃(i:Nat),m=r_rules.length-i∧i≤r_rules.length∧JbT [] r_rules=JbT (r_rules.take i) (r_rules.drop i)∧ts'.tmp 11=.int .i64 i) r_rules.length ?_ ?_
 ·refine⟨0,?_⟩
  simp only[go_sem,↓reduceIte,reduceIte,Qa,Qh,Qb,Qc,Qd,Qe,Qf,Qg,reduceCtorEq, *,-hs]
 ·rintro m A hM ts' hk ⟨i,hm,f1,f2,s1⟩
  simp only[go_sem,↓reduceIte,reduceIte,Qa,Qh,Qb,Qc,Qd,Qe,Qf,Qg,reduceCtorEq, *] at hk
  by_cases hlt:i<r_rules.length
  ·rw[List.drop_eq_getElem_cons hlt,JbT] at f2
   have hsi:=hs _ (QC hlt)
   have hsl:=hsi.2.2.1
   have hti:Jc (r_rules.take i).length:=by unfold Jc at *;rw[List.length_take];omega
   have h:=Z2 230 [.ro [.str r_rules[i].host,.str r_rules[i].pfx,.slice false (Ja r_rules[i].split)]] (Jkz _ _ _) (Jg8 r_rules[i]) (r_rules.take i) (fun y _=>Jn4 _ _ _ y.host y.pfx y.split) hti
   (repeat' (first
 | (with_reducible first|refine callX.by (h) ?_|refine callX.by (JcX _ _ _ ?_) ?_|refine callX.by (Z2 _ _ ?_ _ _ ?_ ?_) ?_|refine callX.by (Jb2 _ _ ?_) ?_|assumption|(refine Qw hK _ ?_;clear hK K)|refine Qw ‹_› _ ?_|refine Qx ‹_› ?_|refine Qi fun K hK=>?_|refine Qj T fun K hK=>?_|refine Ql fun A B hA hB=>?_|refine Qm ?_|refine Qn ?_|refine Qp ?_|refine Qr ?_)
 | ((with_reducible first|apply Qy|apply Qz|apply QA)<;>intro hb<;>try simp only[nr] at hb)
 |simp only[go_sem,↓reduceIte,reduceIte,Qa,Qh,Qb,Qc,Qd,Qe,Qf,Qg,reduceCtorEq, *,-hs,-f2,-hsi,-h,Int.le_refl,Int.toNat_zero]
 |with_reducible refine fun(bn:Bool) hbn=>?_))
   all_goals ((repeat clear hK);(repeat clear hA);(repeat clear hB))
   all_goals first
    | (refine hM.on (r_rules.length-(i+1)) (by omega) (by simp only[go_sem,↓reduceIte,reduceIte,Qa,Qh,Qb,Qc,Qd,Qe,Qf,Qg,reduceCtorEq, *,Ji hlt hl,-hs,-f2,-hsi,-h]) ⟨i+1,rfl,by omega,by clear h hM hs hsi;rw[f2,←Jjw hlt];simp_all,?_⟩;simp only[go_sem,↓reduceIte,reduceIte,Qa,Qh,Qb,Qc,Qd,Qe,Qf,Qg,reduceCtorEq, *,Ji hlt hl,-hs,-f2,-hsi,-h];done)
    | (clear h hM hs hsi;simp_all[JcO];done)
    |trace_state
  ·rw[List.drop_eq_nil_of_le (by omega),JbT] at f2
   have hr1:=f2
   clear f2 f1 hM
   (repeat' (first
 | (with_reducible first|refine callX.by (JcX _ _ _ ?_) ?_|refine callX.by (Z2 _ _ ?_ _ _ ?_ ?_) ?_|refine callX.by (Jb2 _ _ ?_) ?_|assumption|(refine Qw hK _ ?_;clear hK K)|refine Qw ‹_› _ ?_|refine Qx ‹_› ?_|refine Qi fun K hK=>?_|refine Qj T fun K hK=>?_|refine Ql fun A B hA hB=>?_|refine Qm ?_|refine Qn ?_|refine Qp ?_|refine Qr ?_)
 | ((with_reducible first|apply Qy|apply Qz|apply QA)<;>intro hb<;>try simp only[nr] at hb)
 |simp only[go_sem,↓reduceIte,reduceIte,Qa,Qh,Qb,Qc,Qd,Qe,Qf,Qg,reduceCtorEq, *,-hs,-hr1]
 |with_reducible refine fun(bn:Bool) hbn=>?_))
   refine Qs [1,30,31] (fun m ts'=>∃(i:Nat),m=r_hosts.length-i∧i≤r_hosts.length∧JbS [] r_hosts=JbS (r_hosts.take i) (r_hosts.drop i)∧ts'.tmp 32=.int .i64 i) r_hosts.length ?_ ?_
   ·refine⟨0,?_⟩
    simp only[go_sem,↓reduceIte,reduceIte,Qa,Qh,Qb,Qc,Qd,Qe,Qf,Qg,reduceCtorEq, *,-hs,-hr1]
   ·rintro m A hM ts' hk ⟨i,hm,f1,f2,s1⟩
    simp only[go_sem,↓reduceIte,reduceIte,Qa,Qh,Qb,Qc,Qd,Qe,Qf,Qg,reduceCtorEq, *] at hk
    by_cases hlt:i<r_hosts.length
    ·rw[List.drop_eq_getElem_cons hlt,JbS] at f2
     have hti:Jc (r_hosts.take i).length:=by unfold Jc at *;rw[List.length_take];omega
     (repeat' (first
 | (with_reducible first|refine callX.by (JcX _ _ _ ?_) ?_|refine callX.by (Z2 _ _ ?_ _ _ ?_ ?_) ?_|refine callX.by (Jb2 _ _ ?_) ?_|assumption|(refine Qw hK _ ?_;clear hK K)|refine Qw ‹_› _ ?_|refine Qx ‹_› ?_|refine Qi fun K hK=>?_|refine Qj T fun K hK=>?_|refine Ql fun A B hA hB=>?_|refine Qm ?_|refine Qn ?_|refine Qp ?_|refine Qr ?_)
 | ((with_reducible first|apply Qy|apply Qz|apply QA)<;>intro hb<;>try simp only[nr] at hb)
 |simp only[go_sem,↓reduceIte,reduceIte,Qa,Qh,Qb,Qc,Qd,Qe,Qf,Qg,reduceCtorEq, *,-hs,-f2,-hr1,Int.le_refl,Int.toNat_zero]
 |with_reducible refine fun(bn:Bool) hbn=>?_))
     all_goals ((repeat clear hK);(repeat clear hA);(repeat clear hB))
     all_goals first
      | (refine hM.on (r_hosts.length-(i+1)) (by omega) (by simp only[go_sem,↓reduceIte,reduceIte,Qa,Qh,Qb,Qc,Qd,Qe,Qf,Qg,reduceCtorEq, *,Ji hlt hh,-hs,-f2,-hr1]) ⟨i+1,rfl,by omega,by clear hM hs;rw[f2,←Jjw hlt];simp_all,?_⟩;simp only[go_sem,↓reduceIte,reduceIte,Qa,Qh,Qb,Qc,Qd,Qe,Qf,Qg,reduceCtorEq, *,Ji hlt hh,-hs,-f2,-hr1];done)
      | (clear hM hs;simp_all[JcO];done)
      |trace_state
    ·rw[List.drop_eq_nil_of_le (by omega),JbS] at f2
     (repeat' (first
 | (with_reducible first|refine callX.by (JcX _ _ _ ?_) ?_|refine callX.by (Z2 _ _ ?_ _ _ ?_ ?_) ?_|refine callX.by (Jb2 _ _ ?_) ?_|assumption|(refine Qw hK _ ?_;clear hK K)|refine Qw ‹_› _ ?_|refine Qx ‹_› ?_|refine Qi fun K hK=>?_|refine Qj T fun K hK=>?_|refine Ql fun A B hA hB=>?_|refine Qm ?_|refine Qn ?_|refine Qp ?_|refine Qr ?_)
 | ((with_reducible first|apply Qy|apply Qz|apply QA)<;>intro hb<;>try simp only[nr] at hb)
 |simp only[go_sem,↓reduceIte,reduceIte,Qa,Qh,Qb,Qc,Qd,Qe,Qf,Qg,reduceCtorEq, *,-hs,-f2,-hr1]
 |with_reducible refine fun(bn:Bool) hbn=>?_))
     all_goals ((repeat clear hK);(repeat clear hA);(repeat clear hB))
     all_goals (clear hM hs;simp_all[JcO])
def Yb(r:Res):Int:=if Za r.kind 3=false then 4 else if Yg r.name=false then 5 else if Y4 r=false then 3 else if Jf4 r=false then 2 else if Jfi r=false then 5 else if JcO r=false then 2 else 0
theorem Vn(r_kind:Int)(r_name:List UInt8)(r_ver:Int)(r_port:Int)(r_to:List UInt8)(r_rules:List Rule)(r_hosts:List Int)(hl:Jc r_rules.length)(hh:Jc r_hosts.length)(hs:∀x∈r_rules,VF x):CallR Tryz.prog 157 [.agg [.int .i64 r_kind,.str r_name,.int .i64 r_ver,.int .i64 r_port,.str r_to,.slice false (Ja r_rules),.slice false (Ja r_hosts)]] (.val (.int .i64 (Yb (⟨r_kind,r_name,r_ver,r_port,r_to,r_rules,r_hosts⟩:Res)))):=by
 refine QD (T:=T) Tryz.call157 Tryz.func157 rfl Tryz.ntmps157 (congrArg Array.toList Tryz.results157) (by decide) fun ts hn h0=>?_
 (repeat' (first
 | (with_reducible first|refine callX.by (Ja5 _ _) ?_|refine callX.by (JbD _) ?_|refine callX.by (Joc _ _ _ _ _ _ _ ?_ ?_ ?_) ?_|refine callX.by (Jn2 _ _ _ _ _ _ _) ?_|refine callX.by (Jmp _ _ _ _ _ _ _ ?_ ?_) ?_|refine callX.by (Jn5 _ _ _ _ _ _ _ ?_ ?_ ?_) ?_|assumption|(refine Qw hK _ ?_;clear hK K)|refine Qw ‹_› _ ?_|refine Qx ‹_› ?_|refine Qi fun K hK=>?_|refine Qj T fun K hK=>?_|refine Ql fun A B hA hB=>?_|refine Qm ?_|refine Qn ?_|refine Qr ?_)
 | ((with_reducible first|apply Qy|apply Qz|apply QA)<;>intro hb<;>try simp only[nr] at hb)
 |simp only[go_sem,↓reduceIte,reduceIte,Qa,Qh,Qb,Qc,Qd,Qe,Qf,Qg,reduceCtorEq, *,-hs]
 |with_reducible refine fun(bn:Bool) hbn=>?_))
 all_goals ((repeat clear hK);(repeat clear hA);(repeat clear hB))
 all_goals first|assumption|(clear hs;simp_all[Yb])
@[go_sem] def Wd5:List (List Nat×List Nat):=[([48],[50,52,53,54,55,56,57]),([49],[50,53,54,55,56,57]),([50],[48,49,53,54,55,56,57]),([51],[53,54,55,56,57]),([52],[48,53,54,55,56,57]),([53],[48,49,50,51,52,55,57]),([54],[48,49,50,51,52,55]),([55],[48,49,50,51,52,53,54]),([56],[48,49,50,51,52]),([57],[48,49,50,51,52,53])]
@[go_sem] def Wd6:List (List Nat×List Nat):=[([17],[18,21,22,23,24]),([18],[17,21,22,23,24]),([19],[21,22,23,24]),([20],[21,22,23,24]),([21],[17,18,19,20,22]),([22],[17,18,19,20,21]),([23],[17,18,19,20]),([24],[17,18,19,20])]
def Jbe(a b:Res):Bool:=decide (a.kind=b.kind∧a.name=b.name∧a.port=b.port∧a.to'=b.to'∧a.rules'=b.rules'∧a.hosts=b.hosts)
set_option maxHeartbeats 4000000 in
theorem JjQ(a_kind:Int)(a_name:List UInt8)(a_ver:Int)(a_port:Int)(a_to:List UInt8)(a_rules:List Rule)(a_hosts:List Int)(b_kind:Int)(b_name:List UInt8)(b_ver:Int)(b_port:Int)(b_to:List UInt8)(b_rules:List Rule)(b_hosts:List Int)(hh:Jc a_hosts.length)(hl:Jc a_rules.length)(hs:∀x∈a_rules,VF x):CallR Tryz.prog 87 [.agg [.int .i64 a_kind,.str a_name,.int .i64 a_ver,.int .i64 a_port,.str a_to,.slice false (Ja a_rules),.slice false (Ja a_hosts)],.agg [.int .i64 b_kind,.str b_name,.int .i64 b_ver,.int .i64 b_port,.str b_to,.slice false (Ja b_rules),.slice false (Ja b_hosts)]] (.val (.bool (Jbe (⟨a_kind,a_name,a_ver,a_port,a_to,a_rules,a_hosts⟩:Res) (⟨b_kind,b_name,b_ver,b_port,b_to,b_rules,b_hosts⟩:Res)))):=by
 refine CallR.go2 (T:=T) Tryz.call87 Tryz.func87 rfl Tryz.ntmps87 (congrArg Array.toList Tryz.results87) (by decide) fun ts hn h0 h1=>?_
 by_cases hll:a_hosts.length=b_hosts.length
 ·(repeat' (first
 | (with_reducible first|refine callX.by (Jeb _ _ ?_ ?_) ?_|assumption|(refine Qw hK _ ?_;clear hK K)|refine Qw ‹_› _ ?_|refine Qx ‹_› ?_|refine Qi fun K hK=>?_|refine Qj T fun K hK=>?_|refine Qk (id:=6) T mixed Wd5 (by kernel_rfl) fun K hK=>?_|refine Ql fun A B hA hB=>?_|refine Qm ?_|refine Qn ?_|refine Qp ?_|refine Qr ?_)
 | ((with_reducible first|apply Qy|apply Qz|apply QA)<;>intro hb<;>try simp only[nr] at hb)
 |simp only[go_sem,↓reduceIte,reduceIte,Qa,Qh,Qb,Qc,Qd,Qe,Qf,Qg,reduceCtorEq, *]
 |with_reducible refine fun(bn:Bool) hbn=>?_))
  iterate 4 (focus(all_goals ((repeat clear hK);(repeat clear hA);(repeat clear hB));clear hs;grind [Jbe]))
  refine Qs [2,3] (fun m ts'=>∃(i:Nat),m=a_hosts.length-i∧i≤a_hosts.length∧a_hosts.take i=b_hosts.take i∧ts'.tmp 5=.int .i64 i) a_hosts.length ?_ ?_
  ·refine⟨0,?_⟩
   simp only[go_sem,↓reduceIte,reduceIte,Qa,Qh,Qb,Qc,Qd,Qe,Qf,Qg,reduceCtorEq, *]
  ·rintro m A hM ts' hk ⟨i,hm,f1,f2,s1⟩
   simp only[go_sem,↓reduceIte,reduceIte,Qa,Qh,Qb,Qc,Qd,Qe,Qf,Qg,reduceCtorEq, *] at hk
   by_cases hlt:i<a_hosts.length
   ·have hlu:i<b_hosts.length:=by omega
    have hne:=Y8 hlt hlu
    (repeat' (first
 | (with_reducible first|refine callX.by (Jeb _ _ ?_ ?_) ?_|assumption|(refine Qw hK _ ?_;clear hK K)|refine Qw ‹_› _ ?_|refine Qx ‹_› ?_|refine Qi fun K hK=>?_|refine Qj T fun K hK=>?_|refine Qk (id:=6) T mixed Wd5 (by kernel_rfl) fun K hK=>?_|refine Ql fun A B hA hB=>?_|refine Qm ?_|refine Qn ?_|refine Qp ?_|refine Qr ?_)
 | ((with_reducible first|apply Qy|apply Qz|apply QA)<;>intro hb<;>try simp only[nr] at hb)
 |simp only[go_sem,↓reduceIte,reduceIte,Qa,Qh,Qb,Qc,Qd,Qe,Qf,Qg,reduceCtorEq, *]
 |with_reducible refine fun(bn:Bool) hbn=>?_))
    all_goals ((repeat clear hK);(repeat clear hA);(repeat clear hB))
    all_goals first
     | (refine hM.on (a_hosts.length-(i+1)) (by omega) (by simp only[go_sem,↓reduceIte,reduceIte,Qa,Qh,Qb,Qc,Qd,Qe,Qf,Qg,reduceCtorEq, *,Ji hlt hh]) ⟨i+1,rfl,by omega,by clear hM hs;apply Y7 f2 hlt hlu;grind,?_⟩;simp only[go_sem,↓reduceIte,reduceIte,Qa,Qh,Qb,Qc,Qd,Qe,Qf,Qg,reduceCtorEq, *,Ji hlt hh];done)
     | (clear hM hs;grind [Jbe])
   ·have:=Y6 f2 hlt hll
    (repeat' (first
 | (with_reducible first|refine callX.by (Jeb _ _ ?_ ?_) ?_|assumption|(refine Qw hK _ ?_;clear hK K)|refine Qw ‹_› _ ?_|refine Qx ‹_› ?_|refine Qi fun K hK=>?_|refine Qj T fun K hK=>?_|refine Qk (id:=6) T mixed Wd5 (by kernel_rfl) fun K hK=>?_|refine Ql fun A B hA hB=>?_|refine Qm ?_|refine Qn ?_|refine Qp ?_|refine Qr ?_)
 | ((with_reducible first|apply Qy|apply Qz|apply QA)<;>intro hb<;>try simp only[nr] at hb)
 |simp only[go_sem,↓reduceIte,reduceIte,Qa,Qh,Qb,Qc,Qd,Qe,Qf,Qg,reduceCtorEq, *]
 |with_reducible refine fun(bn:Bool) hbn=>?_))
    all_goals ((repeat clear hK);(repeat clear hA);(repeat clear hB))
    all_goals (clear hM hs;grind [Jbe])
 ·have:¬a_hosts=b_hosts:=by rintro rfl;exact hll rfl
  (repeat' (first
 | (with_reducible first|refine callX.by (Jeb _ _ ?_ ?_) ?_|assumption|(refine Qw hK _ ?_;clear hK K)|refine Qw ‹_› _ ?_|refine Qx ‹_› ?_|refine Qi fun K hK=>?_|refine Qj T fun K hK=>?_|refine Qk (id:=6) T mixed Wd5 (by kernel_rfl) fun K hK=>?_|refine Ql fun A B hA hB=>?_|refine Qm ?_|refine Qn ?_|refine Qp ?_|refine Qr ?_)
 | ((with_reducible first|apply Qy|apply Qz|apply QA)<;>intro hb<;>try simp only[nr] at hb)
 |simp only[go_sem,↓reduceIte,reduceIte,Qa,Qh,Qb,Qc,Qd,Qe,Qf,Qg,reduceCtorEq, *]
 |with_reducible refine fun(bn:Bool) hbn=>?_))
  all_goals ((repeat clear hK);(repeat clear hA);(repeat clear hB))
  all_goals (clear hs;grind [Jbe])
theorem Jeh(a_kind:Int)(a_name:List UInt8)(a_ver:Int)(a_port:Int)(a_to:List UInt8)(a_rules:List Rule)(a_hosts:List Int)(b_kind:Int)(b_name:List UInt8)(b_ver:Int)(b_port:Int)(b_to:List UInt8)(b_rules:List Rule)(b_hosts:List Int)(hh:Jc a_hosts.length)(hl:Jc a_rules.length)(hs:∀x∈a_rules,VF x):CallR Tryz.prog 56 [.agg [.int .i64 a_kind,.str a_name,.int .i64 a_ver,.int .i64 a_port,.str a_to,.slice false (Ja a_rules),.slice false (Ja a_hosts)],.agg [.int .i64 b_kind,.str b_name,.int .i64 b_ver,.int .i64 b_port,.str b_to,.slice false (Ja b_rules),.slice false (Ja b_hosts)]] (.val (.bool (decide ((⟨a_kind,a_name,a_ver,a_port,a_to,a_rules,a_hosts⟩:Res)=(⟨b_kind,b_name,b_ver,b_port,b_to,b_rules,b_hosts⟩:Res))))):=by
 refine CallR.go2 (T:=T) Tryz.call56 Tryz.func56 rfl Tryz.ntmps56 (congrArg Array.toList Tryz.results56) (by decide) fun ts hn h0 h1=>?_
 (repeat' (first
 | (with_reducible first|refine callX.by (JjQ _ _ _ _ _ _ _ _ _ _ _ _ _ _ ?_ ?_ ?_) ?_|assumption|(refine Qw hK _ ?_;clear hK K)|refine Qw ‹_› _ ?_|refine Qx ‹_› ?_|refine Qi fun K hK=>?_|refine Qj T fun K hK=>?_|refine Ql fun A B hA hB=>?_|refine Qn ?_|refine Qr ?_)
 | ((with_reducible first|apply Qy|apply Qz|apply QA)<;>intro hb<;>try simp only[nr] at hb)
 |simp only[go_sem,↓reduceIte,reduceIte,Qa,Qh,Qb,Qc,Qd,Qe,Qf,Qg,reduceCtorEq, *]
 |with_reducible refine fun(bn:Bool) hbn=>?_))
 all_goals ((repeat clear hK);(repeat clear hA);(repeat clear hB))
 all_goals (clear hs;grind [Jbe])
theorem YB(xs ys:List Res)(hl:Jc xs.length)(hs:∀x∈xs,JD x):CallR Tryz.prog 23 [.slice false (Ja xs),.slice false (Ja ys)] (.val (.bool (decide (xs=ys)))):=by
 refine CallR.go2 (T:=T) Tryz.call23 Tryz.func23 rfl Tryz.ntmps23 (congrArg Array.toList Tryz.results23) (by decide) fun ts hn h0 h1=>?_
 by_cases hll:xs.length=ys.length
 ·(repeat' (first
 | (with_reducible first|refine callX.by (Jeh _ _ _ _ _ _ _ _ _ _ _ _ _ _ ?_ ?_ ?_) ?_|assumption|(refine Qw hK _ ?_;clear hK K)|refine Qw ‹_› _ ?_|refine Qx ‹_› ?_|refine Qi fun K hK=>?_|refine Qj T fun K hK=>?_|refine Qk (id:=6) T mixed Wd6 (by kernel_rfl) fun K hK=>?_|refine Ql fun A B hA hB=>?_|refine Qm ?_|refine Qn ?_|refine Qp ?_|refine Qr ?_)
 | ((with_reducible first|apply Qy|apply Qz|apply QA)<;>intro hb<;>try simp only[nr] at hb)
 |simp only[go_sem,↓reduceIte,reduceIte,Qa,Qh,Qb,Qc,Qd,Qe,Qf,Qg,reduceCtorEq, *]
 |with_reducible refine fun(bn:Bool) hbn=>?_))
  refine Qs [0,1] (fun m ts'=>∃(i:Nat),m=xs.length-i∧i≤xs.length∧xs.take i=ys.take i∧ts'.tmp 5=.int .i64 i) xs.length ?_ ?_
  ·refine⟨0,?_⟩
   simp only[go_sem,↓reduceIte,reduceIte,Qa,Qh,Qb,Qc,Qd,Qe,Qf,Qg,reduceCtorEq, *]
  ·rintro m A hM ts' hk ⟨i,hm,f1,f2,s1⟩
   simp only[go_sem,↓reduceIte,reduceIte,Qa,Qh,Qb,Qc,Qd,Qe,Qf,Qg,reduceCtorEq, *] at hk
   by_cases hlt:i<xs.length
   ·have hlu:i<ys.length:=by omega
    have hne:=Y8 hlt hlu
    obtain⟨hs1,hs2,hs3,hs4,hs5⟩:=hs xs[i] (QC hlt)
    (repeat' (first
 | (with_reducible first|refine callX.by (Jeh _ _ _ _ _ _ _ _ _ _ _ _ _ _ ?_ ?_ ?_) ?_|assumption|(refine Qw hK _ ?_;clear hK K)|refine Qw ‹_› _ ?_|refine Qx ‹_› ?_|refine Qi fun K hK=>?_|refine Qj T fun K hK=>?_|refine Qk (id:=6) T mixed Wd6 (by kernel_rfl) fun K hK=>?_|refine Ql fun A B hA hB=>?_|refine Qm ?_|refine Qn ?_|refine Qp ?_|refine Qr ?_)
 | ((with_reducible first|apply Qy|apply Qz|apply QA)<;>intro hb<;>try simp only[nr] at hb)
 |simp only[go_sem,↓reduceIte,reduceIte,Qa,Qh,Qb,Qc,Qd,Qe,Qf,Qg,reduceCtorEq, *]
 |with_reducible refine fun(bn:Bool) hbn=>?_))
    all_goals ((repeat clear hK);(repeat clear hA);(repeat clear hB))
    all_goals clear hs hs4
    all_goals first
     | (refine hM.on (xs.length-(i+1)) (by omega) (by simp only[go_sem,↓reduceIte,reduceIte,Qa,Qh,Qb,Qc,Qd,Qe,Qf,Qg,reduceCtorEq, *,Ji hlt hl]) ⟨i+1,rfl,by omega,by clear hM;apply Y7 f2 hlt hlu;grind,?_⟩;simp only[go_sem,↓reduceIte,reduceIte,Qa,Qh,Qb,Qc,Qd,Qe,Qf,Qg,reduceCtorEq, *,Ji hlt hl];done)
     | (clear hM;grind)
   ·have:=Y6 f2 hlt hll
    (repeat' (first
 | (with_reducible first|refine callX.by (Jeh _ _ _ _ _ _ _ _ _ _ _ _ _ _ ?_ ?_ ?_) ?_|assumption|(refine Qw hK _ ?_;clear hK K)|refine Qw ‹_› _ ?_|refine Qx ‹_› ?_|refine Qi fun K hK=>?_|refine Qj T fun K hK=>?_|refine Qk (id:=6) T mixed Wd6 (by kernel_rfl) fun K hK=>?_|refine Ql fun A B hA hB=>?_|refine Qm ?_|refine Qn ?_|refine Qp ?_|refine Qr ?_)
 | ((with_reducible first|apply Qy|apply Qz|apply QA)<;>intro hb<;>try simp only[nr] at hb)
 |simp only[go_sem,↓reduceIte,reduceIte,Qa,Qh,Qb,Qc,Qd,Qe,Qf,Qg,reduceCtorEq, *]
 |with_reducible refine fun(bn:Bool) hbn=>?_))
    all_goals ((repeat clear hK);(repeat clear hA);(repeat clear hB))
    all_goals (clear hM hs;grind)
 ·have:¬xs=ys:=by rintro rfl;exact hll rfl
  (repeat' (first
 | (with_reducible first|refine callX.by (Jeh _ _ _ _ _ _ _ _ _ _ _ _ _ _ ?_ ?_ ?_) ?_|assumption|(refine Qw hK _ ?_;clear hK K)|refine Qw ‹_› _ ?_|refine Qx ‹_› ?_|refine Qi fun K hK=>?_|refine Qj T fun K hK=>?_|refine Qk (id:=6) T mixed Wd6 (by kernel_rfl) fun K hK=>?_|refine Ql fun A B hA hB=>?_|refine Qm ?_|refine Qn ?_|refine Qp ?_|refine Qr ?_)
 | ((with_reducible first|apply Qy|apply Qz|apply QA)<;>intro hb<;>try simp only[nr] at hb)
 |simp only[go_sem,↓reduceIte,reduceIte,Qa,Qh,Qb,Qc,Qd,Qe,Qf,Qg,reduceCtorEq, *]
 |with_reducible refine fun(bn:Bool) hbn=>?_))
  all_goals ((repeat clear hK);(repeat clear hA);(repeat clear hB))
  all_goals (clear hs;grind)
def Yu(xs:List Res):Bool:=xs.all Jbo && decide (xs.length≤80)
theorem Jb6(xs:List Res)(hl:Jc xs.length)(hs:∀x∈xs,JD x):CallR Tryz.prog 63 [.slice false (Ja xs)] (.val (.bool (Yu xs))):=by
 refine QD (T:=T) Tryz.call63 Tryz.func63 rfl Tryz.ntmps63 (congrArg Array.toList Tryz.results63) (by decide) fun ts hn h0=>?_
 (repeat' (first
 | (with_reducible first|refine callX.by (JeZ _ _ _ _ _ _ _ ?_) ?_|assumption|(refine Qw hK _ ?_;clear hK K)|refine Qw ‹_› _ ?_|refine Qx ‹_› ?_|refine Qi fun K hK=>?_|refine Qj T fun K hK=>?_|refine Ql fun A B hA hB=>?_|refine Qm ?_|refine Qn ?_|refine Qp ?_|refine Qr ?_)
 | ((with_reducible first|apply Qy|apply Qz|apply QA)<;>intro hb<;>try simp only[nr] at hb)
 |simp only[go_sem,↓reduceIte,reduceIte,Qa,Qh,Qb,Qc,Qd,Qe,Qf,Qg,reduceCtorEq, *]
 |with_reducible refine fun(bn:Bool) hbn=>?_))
 refine Qs [0] (fun m ts'=>∃(i:Nat),m=xs.length-i∧i≤xs.length∧xs.all Jbo=(xs.drop i).all Jbo∧ts'.tmp 3=.int .i64 i) xs.length ?_ ?_
 ·refine⟨0,?_⟩
  simp only[go_sem,↓reduceIte,reduceIte,Qa,Qh,Qb,Qc,Qd,Qe,Qf,Qg,reduceCtorEq, *]
 ·rintro m A hM ts' hk ⟨i,hm,f1,f2,s1⟩
  simp only[go_sem,↓reduceIte,reduceIte,Qa,Qh,Qb,Qc,Qd,Qe,Qf,Qg,reduceCtorEq, *] at hk
  by_cases hlt:i<xs.length
  ·rw[List.drop_eq_getElem_cons hlt,List.all_cons] at f2
   obtain⟨hs1,hs2,hs3,hs4,hs5⟩:=hs xs[i] (QC hlt)
   (repeat' (first
 | (with_reducible first|refine callX.by (JeZ _ _ _ _ _ _ _ ?_) ?_|assumption|(refine Qw hK _ ?_;clear hK K)|refine Qw ‹_› _ ?_|refine Qx ‹_› ?_|refine Qi fun K hK=>?_|refine Qj T fun K hK=>?_|refine Ql fun A B hA hB=>?_|refine Qm ?_|refine Qn ?_|refine Qp ?_|refine Qr ?_)
 | ((with_reducible first|apply Qy|apply Qz|apply QA)<;>intro hb<;>try simp only[nr] at hb)
 |simp only[go_sem,↓reduceIte,reduceIte,Qa,Qh,Qb,Qc,Qd,Qe,Qf,Qg,reduceCtorEq, *]
 |with_reducible refine fun(bn:Bool) hbn=>?_))
   all_goals ((repeat clear hK);(repeat clear hA);(repeat clear hB))
   all_goals clear hs hs4
   all_goals first
    | (refine hM.on (xs.length-(i+1)) (by omega) (by simp only[go_sem,↓reduceIte,reduceIte,Qa,Qh,Qb,Qc,Qd,Qe,Qf,Qg,reduceCtorEq, *,Ji hlt hl,-f2]) ⟨i+1,rfl,by omega,by clear hM;grind,?_⟩;simp only[go_sem,↓reduceIte,reduceIte,Qa,Qh,Qb,Qc,Qd,Qe,Qf,Qg,reduceCtorEq, *,Ji hlt hl,-f2];done)
    | (clear hM;grind [Yu])
  ·rw[List.drop_eq_nil_of_le (by omega),List.all_nil] at f2
   (repeat' (first
 | (with_reducible first|refine callX.by (JeZ _ _ _ _ _ _ _ ?_) ?_|assumption|(refine Qw hK _ ?_;clear hK K)|refine Qw ‹_› _ ?_|refine Qx ‹_› ?_|refine Qi fun K hK=>?_|refine Qj T fun K hK=>?_|refine Ql fun A B hA hB=>?_|refine Qm ?_|refine Qn ?_|refine Qp ?_|refine Qr ?_)
 | ((with_reducible first|apply Qy|apply Qz|apply QA)<;>intro hb<;>try simp only[nr] at hb)
 |simp only[go_sem,↓reduceIte,reduceIte,Qa,Qh,Qb,Qc,Qd,Qe,Qf,Qg,reduceCtorEq, *]
 |with_reducible refine fun(bn:Bool) hbn=>?_))
   all_goals ((repeat clear hK);(repeat clear hA);(repeat clear hB))
   all_goals (clear hM hs;grind [Yu])
def Vu(p:Pins):Pins:=if JbM p then p else ⟨0,[]⟩
def Y3(p:Pins)(i:Nat)(s:Snap):Pins:=⟨p.next',p.snaps.take i++(if 0<s.pins∨i+1=p.snaps.length then [s] else [])++p.snaps.drop (i+1)⟩
def JaV(p:Pins)(id:Int):List Res×Bool :=
 match (Vu p).snaps.find? fun x=>decide (x.id=id) with
 |none=>([],false)
 |some s=>(s.l,true)
def Jd9(p:Pins):Pins×Int×Int :=
 let q:=Vu p
 match q.snaps.getLast? with
 |none=>(q,0,10)
 |some s=>if s.pins=10000 then (q,0,14) else (Y3 q (q.snaps.length-1) ⟨s.id,IntKind.i64.wrap (s.pins+1),s.l⟩,s.id,0)
def JaS(q:Pins)(id:Int):List Snap→Nat→Pins×Int
 | [],_=>(q,10)
 |s :: r,i=>if s.id=id then (if s.pins=0 then (q,15) else (Y3 q i ⟨s.id,IntKind.i64.wrap (s.pins-1),s.l⟩,0)) else JaS q id r (i+1)
def Jea(p:Pins)(id:Int):Pins×Int:=JaS (Vu p) id (Vu p).snaps 0
theorem JnB(n1 n2:Int)(xs ys:List Snap)(hl:Jc xs.length)(hs:∀x∈xs,VR x):CallR Tryz.prog 52 [.agg [.int .i64 n1,.slice false (Ja xs)],.agg [.int .i64 n2,.slice false (Ja ys)]] (.val (.bool (decide (n1=n2∧xs=ys)))):=by
 refine CallR.go2 (T:=T) Tryz.call52 Tryz.func52 rfl Tryz.ntmps52 (congrArg Array.toList Tryz.results52) (by decide) fun ts hn h0 h1=>?_
 by_cases hll:xs.length=ys.length
 ·(repeat' (first
 | (with_reducible first|refine callX.by (YB _ _ ?_ ?_) ?_|assumption|(refine Qw hK _ ?_;clear hK K)|refine Qw ‹_› _ ?_|refine Qx ‹_› ?_|refine Qi fun K hK=>?_|refine Qj T fun K hK=>?_|refine Ql fun A B hA hB=>?_|refine Qm ?_|refine Qn ?_|refine Qp ?_|refine Qr ?_)
 | ((with_reducible first|apply Qy|apply Qz|apply QA)<;>intro hb<;>try simp only[nr] at hb)
 |simp only[go_sem,↓reduceIte,reduceIte,Qa,Qh,Qb,Qc,Qd,Qe,Qf,Qg,reduceCtorEq, *]
 |with_reducible refine fun(bn:Bool) hbn=>?_))
  ·all_goals ((repeat clear hK);(repeat clear hA);(repeat clear hB))
   clear hs;grind
  refine Qs [2,3] (fun m ts'=>∃(i:Nat),m=xs.length-i∧i≤xs.length∧xs.take i=ys.take i∧ts'.tmp 5=.int .i64 i) xs.length ?_ ?_
  ·refine⟨0,?_⟩
   simp only[go_sem,↓reduceIte,reduceIte,Qa,Qh,Qb,Qc,Qd,Qe,Qf,Qg,reduceCtorEq, *]
  ·rintro m A hM ts' hk ⟨i,hm,f1,f2,s1⟩
   simp only[go_sem,↓reduceIte,reduceIte,Qa,Qh,Qb,Qc,Qd,Qe,Qf,Qg,reduceCtorEq, *] at hk
   by_cases hlt:i<xs.length
   ·have hlu:i<ys.length:=by omega
    have hne:=Y8 hlt hlu
    rw[Jhd] at hne
    obtain⟨hs1,hs2⟩:=hs xs[i] (QC hlt)
    (repeat' (first
 | (with_reducible first|refine callX.by (YB _ _ ?_ ?_) ?_|assumption|(refine Qw hK _ ?_;clear hK K)|refine Qw ‹_› _ ?_|refine Qx ‹_› ?_|refine Qi fun K hK=>?_|refine Qj T fun K hK=>?_|refine Ql fun A B hA hB=>?_|refine Qm ?_|refine Qn ?_|refine Qp ?_|refine Qr ?_)
 | ((with_reducible first|apply Qy|apply Qz|apply QA)<;>intro hb<;>try simp only[nr] at hb)
 |simp only[go_sem,↓reduceIte,reduceIte,Qa,Qh,Qb,Qc,Qd,Qe,Qf,Qg,reduceCtorEq, *]
 |with_reducible refine fun(bn:Bool) hbn=>?_))
    all_goals ((repeat clear hK);(repeat clear hA);(repeat clear hB))
    all_goals clear hs hs2
    all_goals first
     | (refine hM.on (xs.length-(i+1)) (by omega) (by simp only[go_sem,↓reduceIte,reduceIte,Qa,Qh,Qb,Qc,Qd,Qe,Qf,Qg,reduceCtorEq, *,Ji hlt hl]) ⟨i+1,rfl,by omega,by clear hM;apply Y7 f2 hlt hlu;rw[Jhd];grind,?_⟩;simp only[go_sem,↓reduceIte,reduceIte,Qa,Qh,Qb,Qc,Qd,Qe,Qf,Qg,reduceCtorEq, *,Ji hlt hl];done)
     | (clear hM;grind)
   ·have:=Y6 f2 hlt hll
    (repeat' (first
 | (with_reducible first|refine callX.by (YB _ _ ?_ ?_) ?_|assumption|(refine Qw hK _ ?_;clear hK K)|refine Qw ‹_› _ ?_|refine Qx ‹_› ?_|refine Qi fun K hK=>?_|refine Qj T fun K hK=>?_|refine Ql fun A B hA hB=>?_|refine Qm ?_|refine Qn ?_|refine Qp ?_|refine Qr ?_)
 | ((with_reducible first|apply Qy|apply Qz|apply QA)<;>intro hb<;>try simp only[nr] at hb)
 |simp only[go_sem,↓reduceIte,reduceIte,Qa,Qh,Qb,Qc,Qd,Qe,Qf,Qg,reduceCtorEq, *]
 |with_reducible refine fun(bn:Bool) hbn=>?_))
    all_goals ((repeat clear hK);(repeat clear hA);(repeat clear hB))
    all_goals (clear hM hs;grind)
 ·have:¬xs=ys:=by rintro rfl;exact hll rfl
  (repeat' (first
 | (with_reducible first|refine callX.by (YB _ _ ?_ ?_) ?_|assumption|(refine Qw hK _ ?_;clear hK K)|refine Qw ‹_› _ ?_|refine Qx ‹_› ?_|refine Qi fun K hK=>?_|refine Qj T fun K hK=>?_|refine Ql fun A B hA hB=>?_|refine Qm ?_|refine Qn ?_|refine Qp ?_|refine Qr ?_)
 | ((with_reducible first|apply Qy|apply Qz|apply QA)<;>intro hb<;>try simp only[nr] at hb)
 |simp only[go_sem,↓reduceIte,reduceIte,Qa,Qh,Qb,Qc,Qd,Qe,Qf,Qg,reduceCtorEq, *]
 |with_reducible refine fun(bn:Bool) hbn=>?_))
  all_goals ((repeat clear hK);(repeat clear hA);(repeat clear hB))
  all_goals (clear hs;grind)
def JaF(p:Pins):Bool:=p.snaps.all (fun s=>Yu s.l) && decide (p.snaps.length≤20)
theorem Jk1(next:Int)(xs:List Snap)(hl:Jc xs.length)(hs:∀x∈xs,VR x):CallR Tryz.prog 72 [.agg [.int .i64 next,.slice false (Ja xs)]] (.val (.bool (JaF ⟨next,xs⟩))):=by
 refine QD (T:=T) Tryz.call72 Tryz.func72 rfl Tryz.ntmps72 (congrArg Array.toList Tryz.results72) (by decide) fun ts hn h0=>?_
 (repeat' (first
 | (with_reducible first|refine callX.by (Jb6 _ ?_ ?_) ?_|assumption|(refine Qw hK _ ?_;clear hK K)|refine Qw ‹_› _ ?_|refine Qx ‹_› ?_|refine Qi fun K hK=>?_|refine Qj T fun K hK=>?_|refine Ql fun A B hA hB=>?_|refine Qm ?_|refine Qn ?_|refine Qp ?_|refine Qr ?_)
 | ((with_reducible first|apply Qy|apply Qz|apply QA)<;>intro hb<;>try simp only[nr] at hb)
 |simp only[go_sem,↓reduceIte,reduceIte,Qa,Qh,Qb,Qc,Qd,Qe,Qf,Qg,reduceCtorEq, *]
 |with_reducible refine fun(bn:Bool) hbn=>?_))
 refine Qs [1] (fun m ts'=>∃(i:Nat),m=xs.length-i∧i≤xs.length∧xs.all (fun s=>Yu s.l)=(xs.drop i).all (fun s=>Yu s.l)∧ts'.tmp 3=.int .i64 i) xs.length ?_ ?_
 ·refine⟨0,?_⟩
  simp only[go_sem,↓reduceIte,reduceIte,Qa,Qh,Qb,Qc,Qd,Qe,Qf,Qg,reduceCtorEq, *]
 ·rintro m A hM ts' hk ⟨i,hm,f1,f2,s1⟩
  simp only[go_sem,↓reduceIte,reduceIte,Qa,Qh,Qb,Qc,Qd,Qe,Qf,Qg,reduceCtorEq, *] at hk
  by_cases hlt:i<xs.length
  ·rw[List.drop_eq_getElem_cons hlt,List.all_cons] at f2
   obtain⟨hs1,hs2⟩:=hs xs[i] (QC hlt)
   (repeat' (first
 | (with_reducible first|refine callX.by (Jb6 _ ?_ ?_) ?_|assumption|(refine Qw hK _ ?_;clear hK K)|refine Qw ‹_› _ ?_|refine Qx ‹_› ?_|refine Qi fun K hK=>?_|refine Qj T fun K hK=>?_|refine Ql fun A B hA hB=>?_|refine Qm ?_|refine Qn ?_|refine Qp ?_|refine Qr ?_)
 | ((with_reducible first|apply Qy|apply Qz|apply QA)<;>intro hb<;>try simp only[nr] at hb)
 |simp only[go_sem,↓reduceIte,reduceIte,Qa,Qh,Qb,Qc,Qd,Qe,Qf,Qg,reduceCtorEq, *]
 |with_reducible refine fun(bn:Bool) hbn=>?_))
   all_goals ((repeat clear hK);(repeat clear hA);(repeat clear hB))
   all_goals clear hs hs2
   all_goals first
    | (refine hM.on (xs.length-(i+1)) (by omega) (by simp only[go_sem,↓reduceIte,reduceIte,Qa,Qh,Qb,Qc,Qd,Qe,Qf,Qg,reduceCtorEq, *,Ji hlt hl,-f2]) ⟨i+1,rfl,by omega,by clear hM;grind,?_⟩;simp only[go_sem,↓reduceIte,reduceIte,Qa,Qh,Qb,Qc,Qd,Qe,Qf,Qg,reduceCtorEq, *,Ji hlt hl,-f2];done)
    | (clear hM;grind [JaF])
  ·rw[List.drop_eq_nil_of_le (by omega),List.all_nil] at f2
   (repeat' (first
 | (with_reducible first|refine callX.by (Jb6 _ ?_ ?_) ?_|assumption|(refine Qw hK _ ?_;clear hK K)|refine Qw ‹_› _ ?_|refine Qx ‹_› ?_|refine Qi fun K hK=>?_|refine Qj T fun K hK=>?_|refine Ql fun A B hA hB=>?_|refine Qm ?_|refine Qn ?_|refine Qp ?_|refine Qr ?_)
 | ((with_reducible first|apply Qy|apply Qz|apply QA)<;>intro hb<;>try simp only[nr] at hb)
 |simp only[go_sem,↓reduceIte,reduceIte,Qa,Qh,Qb,Qc,Qd,Qe,Qf,Qg,reduceCtorEq, *]
 |with_reducible refine fun(bn:Bool) hbn=>?_))
   all_goals ((repeat clear hK);(repeat clear hA);(repeat clear hB))
   all_goals (clear hM hs;grind [JaF])
end Go.Proofs.YthjalhfmpffbjaaGreatDoor.Lg
