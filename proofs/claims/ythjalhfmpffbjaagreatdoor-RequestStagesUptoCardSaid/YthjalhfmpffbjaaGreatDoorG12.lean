/- Parts of the proof, one behind the other. -/
import Derived.Test.YthjalhfmpffbjaaGreatDoorG11
namespace Go.Proofs.YthjalhfmpffbjaaGreatDoor.Lg
set_option maxRecDepth 100000
set_option linter.unusedVariables false
set_option linter.unusedSimpArgs false
open Go
open Nat renaming reduceEqDiff → Qa, reduceLT → Qb, reduceLeDiff → Qc, reduceAdd → Qd, reduceMul → Qe, reduceSub → Qf, reduceBEq → Qg
open String renaming reduceEq → Qh
open SpecC renaming seqW → Qi, regW → Qj, drawW → Qk, condW → Ql, block → Qm, skip → Qn, exit → Qp, ret → Qr, loopF → Qs
open NxK renaming out → Qw
open Nx renaming out → Qx
open condK renaming split → Qy
open gK renaming split_t → Qz, split_f → QA
open List renaming getElem_mem → QC
open CallR renaming go1 → QD
theorem Jjv(a b c d e f g h:Bool):CallR Tryz.prog 225 [.agg [.bool a,.bool b,.bool c,.bool d],.agg [.bool e,.bool f,.bool g,.bool h]] (.val (.agg [.bool (a && e),.bool (b && f),.bool (c && g),.bool (d && h)])):=by
 cases a<;>cases b<;>cases c<;>cases d
 all_goals
  refine CallR.go2 (T:=T) Tryz.call225 Tryz.func225 rfl Tryz.ntmps225 (congrArg Array.toList Tryz.results225) (by decide) fun ts hn h0 h1=>?_
  (repeat' (first
 | (with_reducible first|assumption|(refine Qw hK _ ?_;clear hK K)|refine Qw ‹_› _ ?_|refine Qx ‹_› ?_|refine Qi fun K hK=>?_|refine Qj T fun K hK=>?_|refine Ql fun A B hA hB=>?_|refine Qn ?_|refine Qr ?_)
 | ((with_reducible first|apply Qy|apply Qz|apply QA)<;>intro hb<;>try simp only[nr] at hb)
 |simp only[go_sem,↓reduceIte,reduceIte,Qa,Qh,Qb,Qc,Qd,Qe,Qf,Qg,reduceCtorEq, *]
 |with_reducible refine fun(bn:Bool) hbn=>?_))
theorem bx1(a b:Bool):decide ((!a && b)=!a)=(a || b):=by cases a<;>cases b<;>rfl
theorem bx2(p b:Bool):decide ((p && b)=p)=(!p || b):=by cases p<;>cases b<;>rfl
theorem bx3(n:Nat):(!decide ((0:Int)<(n:Int)))=decide (n=0):=by
 rw[Bool.eq_iff_iff];simp only[Bool.not_eq_true',decide_eq_false_iff_not,decide_eq_true_eq];omega
def JfN(r:Res):Bool:=(decide (r.port=0) || decide (r.kind=0)) && ((decide (r.to'=[]) || (decide (r.kind=0) || decide (r.kind=2))) && ((decide (r.rules'.length=0) || decide (r.kind=1)) && (decide (r.hosts.length=0) || decide (r.kind=3))))
theorem JnF(r_kind:Int)(r_name:List UInt8)(r_ver:Int)(r_port:Int)(r_to:List UInt8)(r_rules:List Rule)(r_hosts:List Int):CallR Tryz.prog 195 [.agg [.int .i64 r_kind,.str r_name,.int .i64 r_ver,.int .i64 r_port,.str r_to,.slice false (Ja r_rules),.slice false (Ja r_hosts)]] (.val (.bool (JfN (⟨r_kind,r_name,r_ver,r_port,r_to,r_rules,r_hosts⟩:Res)))):=by
 refine QD (T:=T) Tryz.call195 Tryz.func195 rfl Tryz.ntmps195 (congrArg Array.toList Tryz.results195) (by decide) fun ts hn h0=>?_
 (repeat' (first
 | (with_reducible first|refine callX.by (JhG _) ?_|refine callX.by (Jjv _ _ _ _ _ _ _ _) ?_|assumption|(refine Qw hK _ ?_;clear hK K)|refine Qw ‹_› _ ?_|refine Qx ‹_› ?_|refine Qi fun K hK=>?_|refine Qj T fun K hK=>?_|refine Qk (id:=2) T mixed [([19],[20,21,22,24]),([20],[19,23,24]),([21],[19,24]),([22],[19,24]),([23],[20,24]),([24],[19,20,21,22,23])] (by kernel_rfl) fun K hK=>?_|refine Ql fun A B hA hB=>?_|refine Qn ?_|refine Qr ?_)
 | ((with_reducible first|apply Qy|apply Qz|apply QA)<;>intro hb<;>try simp only[nr] at hb)
 |simp only[go_sem,↓reduceIte,reduceIte,Qa,Qh,Qb,Qc,Qd,Qe,Qf,Qg,reduceCtorEq, *]
 |with_reducible refine fun(bn:Bool) hbn=>?_))
 all_goals ((repeat clear hK);(repeat clear hA);(repeat clear hB))
 all_goals simp only[bx1,bx2,bx3,JfN,Bool.not_not]
def JaZ(x:Rule):Bool:=decide (x.split.length≤4) && !(x.split.any fun w=>!Zb w.w 100)
def Y5(r:Res):Bool:=Zb r.ver 2147483647 && (Zb r.port 65535 && (decide (r.rules'.length≤8) && (decide (r.hosts.length≤8) && (r.hosts.all (fun h=>Zb h 2147483647) && r.rules'.all JaZ))))
set_option maxHeartbeats 4000000 in
theorem JnO(r_kind:Int)(r_name:List UInt8)(r_ver:Int)(r_port:Int)(r_to:List UInt8)(r_rules:List Rule)(r_hosts:List Int)(hl:Jc r_rules.length)(hh:Jc r_hosts.length)(hs:∀x∈r_rules,VC x):CallR Tryz.prog 194 [.agg [.int .i64 r_kind,.str r_name,.int .i64 r_ver,.int .i64 r_port,.str r_to,.slice false (Ja r_rules),.slice false (Ja r_hosts)]] (.val (.bool (Y5 (⟨r_kind,r_name,r_ver,r_port,r_to,r_rules,r_hosts⟩:Res)))):=by
 refine QD (T:=T) Tryz.call194 Tryz.func194 rfl Tryz.ntmps194 (congrArg Array.toList Tryz.results194) (by decide) fun ts hn h0=>?_
 (repeat' (first
 | (with_reducible first|refine callX.by (Ja2 _ _) ?_|refine callX.by (Zf _ _ ?_ _ _ ?_ ?_) ?_|refine callX.by (JbQ _ _) ?_|assumption|(refine Qw hK _ ?_;clear hK K)|refine Qw ‹_› _ ?_|refine Qx ‹_› ?_|refine Qi fun K hK=>?_|refine Qj T fun K hK=>?_|refine Ql fun A B hA hB=>?_|refine Qm ?_|refine Qn ?_|refine Qp ?_|refine Qr ?_)
 | ((with_reducible first|apply Qy|apply Qz|apply QA)<;>intro hb<;>try simp only[nr] at hb)
 |simp only[go_sem,↓reduceIte,reduceIte,Qa,Qh,Qb,Qc,Qd,Qe,Qf,Qg,reduceCtorEq, *,-hs]
 |with_reducible refine fun(bn:Bool) hbn=>?_))
 iterate 4 (focus(all_goals ((repeat clear hK);(repeat clear hA);(repeat clear hB));clear hs;simp_all[Y5];try omega))
 refine Qs [1,30,31] (fun m ts'=>∃(i:Nat),m=r_hosts.length-i∧i≤r_hosts.length∧r_hosts.all (fun h=>Zb h 2147483647)=(r_hosts.drop i).all (fun h=>Zb h 2147483647)∧ts'.tmp 32=.int .i64 i) r_hosts.length ?_ ?_
 ·refine⟨0,?_⟩
  simp only[go_sem,↓reduceIte,reduceIte,Qa,Qh,Qb,Qc,Qd,Qe,Qf,Qg,reduceCtorEq, *,-hs]
 ·rintro m A hM ts' hk ⟨i,hm,f1,f2,s1⟩
  simp only[go_sem,↓reduceIte,reduceIte,Qa,Qh,Qb,Qc,Qd,Qe,Qf,Qg,reduceCtorEq, *] at hk
  by_cases hlt:i<r_hosts.length
  ·rw[List.drop_eq_getElem_cons hlt,List.all_cons] at f2
   (repeat' (first
 | (with_reducible first|refine callX.by (Ja2 _ _) ?_|refine callX.by (Zf _ _ ?_ _ _ ?_ ?_) ?_|refine callX.by (JbQ _ _) ?_|assumption|(refine Qw hK _ ?_;clear hK K)|refine Qw ‹_› _ ?_|refine Qx ‹_› ?_|refine Qi fun K hK=>?_|refine Qj T fun K hK=>?_|refine Ql fun A B hA hB=>?_|refine Qm ?_|refine Qn ?_|refine Qp ?_|refine Qr ?_)
 | ((with_reducible first|apply Qy|apply Qz|apply QA)<;>intro hb<;>try simp only[nr] at hb)
 |simp only[go_sem,↓reduceIte,reduceIte,Qa,Qh,Qb,Qc,Qd,Qe,Qf,Qg,reduceCtorEq, *,-hs,-f2]
 |with_reducible refine fun(bn:Bool) hbn=>?_))
   all_goals ((repeat clear hK);(repeat clear hA);(repeat clear hB))
   ·clear hM hs;simp_all[Y5]
    intro hall
    obtain⟨x,hx,e⟩:=f2
    rw[hall x hx] at e;cases e
   ·(refine hM.on (r_hosts.length-(i+1)) (by omega) (by simp only[go_sem,↓reduceIte,reduceIte,Qa,Qh,Qb,Qc,Qd,Qe,Qf,Qg,reduceCtorEq, *,Ji hlt hh,-hs,-f2]) ⟨i+1,rfl,by omega,by rw[f2,hb];simp,?_⟩;simp only[go_sem,↓reduceIte,reduceIte,Qa,Qh,Qb,Qc,Qd,Qe,Qf,Qg,reduceCtorEq, *,Ji hlt hh,-hs,-f2];done)
  ·rw[List.drop_eq_nil_of_le (by omega),List.all_nil] at f2
   have hhost:=f2
   clear f2 f1 hM
   (repeat' (first
 | (with_reducible first|refine callX.by (Ja2 _ _) ?_|refine callX.by (Zf _ _ ?_ _ _ ?_ ?_) ?_|refine callX.by (JbQ _ _) ?_|assumption|(refine Qw hK _ ?_;clear hK K)|refine Qw ‹_› _ ?_|refine Qx ‹_› ?_|refine Qi fun K hK=>?_|refine Qj T fun K hK=>?_|refine Ql fun A B hA hB=>?_|refine Qm ?_|refine Qn ?_|refine Qp ?_|refine Qr ?_)
 | ((with_reducible first|apply Qy|apply Qz|apply QA)<;>intro hb<;>try simp only[nr] at hb)
 |simp only[go_sem,↓reduceIte,reduceIte,Qa,Qh,Qb,Qc,Qd,Qe,Qf,Qg,reduceCtorEq, *,-hs,-hhost]
 |with_reducible refine fun(bn:Bool) hbn=>?_))
   refine Qs [41,42] (fun m ts'=>∃(i:Nat),m=r_rules.length-i∧i≤r_rules.length∧r_rules.all JaZ=(r_rules.drop i).all JaZ∧ts'.tmp 43=.int .i64 i) r_rules.length ?_ ?_
   ·refine⟨0,?_⟩
    simp only[go_sem,↓reduceIte,reduceIte,Qa,Qh,Qb,Qc,Qd,Qe,Qf,Qg,reduceCtorEq, *,-hs,-hhost]
   ·rintro m A hM ts' hk ⟨i,hm,f1,f2,s1⟩
    simp only[go_sem,↓reduceIte,reduceIte,Qa,Qh,Qb,Qc,Qd,Qe,Qf,Qg,reduceCtorEq, *] at hk
    by_cases hlt:i<r_rules.length
    ·rw[List.drop_eq_getElem_cons hlt,List.all_cons] at f2
     have hsi:=hs _ (QC hlt)
     have h:=Zf 224 [] Caps.nil (fun w=>!Zb w.w 100) r_rules[i].split (fun w _=>JbQ w.cluster w.w) hsi.2.2.1
     (repeat' (first
 | (with_reducible first|refine callX.by (h) ?_|refine callX.by (Ja2 _ _) ?_|refine callX.by (Zf _ _ ?_ _ _ ?_ ?_) ?_|refine callX.by (JbQ _ _) ?_|assumption|(refine Qw hK _ ?_;clear hK K)|refine Qw ‹_› _ ?_|refine Qx ‹_› ?_|refine Qi fun K hK=>?_|refine Qj T fun K hK=>?_|refine Ql fun A B hA hB=>?_|refine Qm ?_|refine Qn ?_|refine Qp ?_|refine Qr ?_)
 | ((with_reducible first|apply Qy|apply Qz|apply QA)<;>intro hb<;>try simp only[nr] at hb)
 |simp only[go_sem,↓reduceIte,reduceIte,Qa,Qh,Qb,Qc,Qd,Qe,Qf,Qg,reduceCtorEq, *,-hs,-hhost,-f2,-hsi,-h]
 |with_reducible refine fun(bn:Bool) hbn=>?_))
     all_goals ((repeat clear hK);(repeat clear hA);(repeat clear hB))
     all_goals first
      | (refine hM.on (r_rules.length-(i+1)) (by omega) (by simp only[go_sem,↓reduceIte,reduceIte,Qa,Qh,Qb,Qc,Qd,Qe,Qf,Qg,reduceCtorEq, *,Ji hlt hl,-hs,-hhost,-f2,-hsi,-h]) ⟨i+1,rfl,by omega,by clear h hM hs hsi;rw[f2];simp_all[JaZ],?_⟩;simp only[go_sem,↓reduceIte,reduceIte,Qa,Qh,Qb,Qc,Qd,Qe,Qf,Qg,reduceCtorEq, *,Ji hlt hl,-hs,-hhost,-f2,-hsi,-h];done)
      | (clear h hM hs hsi;simp_all[Y5,JaZ];done)
      | (clear h hM hs hsi;simp_all[Y5,JaZ];intros;omega)
      |trace_state
    ·rw[List.drop_eq_nil_of_le (by omega),List.all_nil] at f2
     (repeat' (first
 | (with_reducible first|refine callX.by (Ja2 _ _) ?_|refine callX.by (Zf _ _ ?_ _ _ ?_ ?_) ?_|refine callX.by (JbQ _ _) ?_|assumption|(refine Qw hK _ ?_;clear hK K)|refine Qw ‹_› _ ?_|refine Qx ‹_› ?_|refine Qi fun K hK=>?_|refine Qj T fun K hK=>?_|refine Ql fun A B hA hB=>?_|refine Qm ?_|refine Qn ?_|refine Qp ?_|refine Qr ?_)
 | ((with_reducible first|apply Qy|apply Qz|apply QA)<;>intro hb<;>try simp only[nr] at hb)
 |simp only[go_sem,↓reduceIte,reduceIte,Qa,Qh,Qb,Qc,Qd,Qe,Qf,Qg,reduceCtorEq, *,-hs,-hhost,-f2]
 |with_reducible refine fun(bn:Bool) hbn=>?_))
     all_goals ((repeat clear hK);(repeat clear hA);(repeat clear hB))
     all_goals (clear hM hs;simp_all[Y5];try omega)
theorem Jli(xs:List Int)(v:Int)(hl:Jc xs.length):CallR Tryz.prog 93 [.slice false (Ja xs),.int .i64 v] (.val (.int .i64 (JE (fun y=>decide (v=y)) xs 0))):=by
 refine CallR.go2 (T:=T) Tryz.call93 Tryz.func93 rfl Tryz.ntmps93 (congrArg Array.toList Tryz.results93) (by decide) fun ts hn h0 h1=>?_
 (repeat' (first
 | (with_reducible first|assumption|(refine Qw hK _ ?_;clear hK K)|refine Qw ‹_› _ ?_|refine Qx ‹_› ?_|refine Qi fun K hK=>?_|refine Qj T fun K hK=>?_|refine Ql fun A B hA hB=>?_|refine Qm ?_|refine Qn ?_|refine Qp ?_|refine Qr ?_)
 | ((with_reducible first|apply Qy|apply Qz|apply QA)<;>intro hb<;>try simp only[nr] at hb)
 |simp only[go_sem,↓reduceIte,reduceIte,Qa,Qh,Qb,Qc,Qd,Qe,Qf,Qg,reduceCtorEq, *]
 |with_reducible refine fun(bn:Bool) hbn=>?_))
 refine Qs [0,1,7] (fun m ts'=>∃(i:Nat),m=xs.length-i∧i≤xs.length∧JE (fun y=>decide (v=y)) xs 0=JE (fun y=>decide (v=y)) (xs.drop i) i∧ts'.tmp 8=.int .i64 i) xs.length ?_ ?_
 ·refine⟨0,?_⟩
  simp only[go_sem,↓reduceIte,reduceIte,Qa,Qh,Qb,Qc,Qd,Qe,Qf,Qg,reduceCtorEq, *]
 ·rintro m A hM ts' hk ⟨i,hm,f1,f2,s1⟩
  simp only[go_sem,↓reduceIte,reduceIte,Qa,Qh,Qb,Qc,Qd,Qe,Qf,Qg,reduceCtorEq, *] at hk
  by_cases hlt:i<xs.length
  ·rw[List.drop_eq_getElem_cons hlt,JE] at f2
   (repeat' (first
 | (with_reducible first|assumption|(refine Qw hK _ ?_;clear hK K)|refine Qw ‹_› _ ?_|refine Qx ‹_› ?_|refine Qi fun K hK=>?_|refine Qj T fun K hK=>?_|refine Ql fun A B hA hB=>?_|refine Qm ?_|refine Qn ?_|refine Qp ?_|refine Qr ?_)
 | ((with_reducible first|apply Qy|apply Qz|apply QA)<;>intro hb<;>try simp only[nr] at hb)
 |simp only[go_sem,↓reduceIte,reduceIte,Qa,Qh,Qb,Qc,Qd,Qe,Qf,Qg,reduceCtorEq, *]
 |with_reducible refine fun(bn:Bool) hbn=>?_))
   all_goals ((repeat clear hK);(repeat clear hA);(repeat clear hB))
   rw[if_neg (by simpa using hb)] at f2
   (refine hM.on (xs.length-(i+1)) (by omega) (by simp only[go_sem,↓reduceIte,reduceIte,Qa,Qh,Qb,Qc,Qd,Qe,Qf,Qg,reduceCtorEq, *,Ji hlt hl,-f2]) ⟨i+1,rfl,by omega,f2,?_⟩;simp only[go_sem,↓reduceIte,reduceIte,Qa,Qh,Qb,Qc,Qd,Qe,Qf,Qg,reduceCtorEq, *,Ji hlt hl,-f2];done)
  ·rw[List.drop_eq_nil_of_le (by omega),JE] at f2
   (repeat' (first
 | (with_reducible first|assumption|(refine Qw hK _ ?_;clear hK K)|refine Qw ‹_› _ ?_|refine Qx ‹_› ?_|refine Qi fun K hK=>?_|refine Qj T fun K hK=>?_|refine Ql fun A B hA hB=>?_|refine Qm ?_|refine Qn ?_|refine Qp ?_|refine Qr ?_)
 | ((with_reducible first|apply Qy|apply Qz|apply QA)<;>intro hb<;>try simp only[nr] at hb)
 |simp only[go_sem,↓reduceIte,reduceIte,Qa,Qh,Qb,Qc,Qd,Qe,Qf,Qg,reduceCtorEq, *]
 |with_reducible refine fun(bn:Bool) hbn=>?_))
theorem Jb2(xs:List Int)(v:Int)(hl:Jc xs.length):CallR Tryz.prog 62 [.slice false (Ja xs),.int .i64 v] (.val (.bool (xs.any fun y=>decide (v=y)))):=by
 have ha:=JaL (fun y=>decide (v=y)) xs
 refine CallR.go2 (T:=T) Tryz.call62 Tryz.func62 rfl Tryz.ntmps62 (congrArg Array.toList Tryz.results62) (by decide) fun ts hn h0 h1=>?_
 (repeat' (first
 | (with_reducible first|refine callX.by (Jli _ _ ?_) ?_|assumption|(refine Qw hK _ ?_;clear hK K)|refine Qw ‹_› _ ?_|refine Qx ‹_› ?_|refine Qi fun K hK=>?_|refine Qj T fun K hK=>?_|refine Ql fun A B hA hB=>?_|refine Qn ?_|refine Qr ?_)
 | ((with_reducible first|apply Qy|apply Qz|apply QA)<;>intro hb<;>try simp only[nr] at hb)
 |simp only[go_sem,↓reduceIte,reduceIte,Qa,Qh,Qb,Qc,Qd,Qe,Qf,Qg,reduceCtorEq, *]
 |with_reducible refine fun(bn:Bool) hbn=>?_))
theorem JnG(h p:List UInt8)(sp:List Weight)(y_host:List UInt8)(y_pfx:List UInt8)(y_split:List Weight):CallR Tryz.prog 230 [.agg [.str y_host,.str y_pfx,.slice false (Ja y_split)],.ro [.str h,.str p,.slice false (Ja sp)]] (.val (.bool (decide (h=y_host) && decide (p=y_pfx)))):=by
 refine CallR.go2 (T:=T) Tryz.call230 Tryz.func230 rfl Tryz.ntmps230 (congrArg Array.toList Tryz.results230) (by decide) fun ts hn h0 h1=>?_
 (repeat' (first
 | (with_reducible first|assumption|(refine Qw hK _ ?_;clear hK K)|refine Qw ‹_› _ ?_|refine Qx ‹_› ?_|refine Qi fun K hK=>?_|refine Qj T fun K hK=>?_|refine Ql fun A B hA hB=>?_|refine Qn ?_|refine Qr ?_)
 | ((with_reducible first|apply Qy|apply Qz|apply QA)<;>intro hb<;>try simp only[nr] at hb)
 |simp only[go_sem,↓reduceIte,reduceIte,Qa,Qh,Qb,Qc,Qd,Qe,Qf,Qg,reduceCtorEq, *]
 |with_reducible refine fun(bn:Bool) hbn=>?_))
 all_goals ((repeat clear hK);(repeat clear hA);(repeat clear hB))
 all_goals simp_all
def JgQ(x y:Rule):Bool:=decide (x.host=y.host) && decide (x.pfx=y.pfx)
def JbS:List Rule→List Rule→Bool
 |_,[]=>true
 |p,x :: r=>Jjh x && (!(p.any (JgQ x)) && JbS (p++[x]) r)
def JbR:List Int→List Int→Bool
 |_,[]=>true
 |p,h :: r=>!(p.any fun y=>decide (h=y)) && JbR (p++[h]) r
def JcO(r:Res):Bool:=JbS [] r.rules' && JbR [] r.hosts
theorem Ji8{α:Type}{l:List α}{i:Nat}(h:i<l.length):l.take i++[l[i]]=l.take (i+1):=(List.take_succ_eq_append_getElem h).symm
theorem Jkc(h p:List UInt8)(sp:List Weight):Caps [.ro [.str h,.str p,.slice false (Ja sp)]]:=⟨by simp only[go_sem,Bool.and_self],by simp only[go_sem]⟩
set_option maxHeartbeats 4000000 in
theorem JnH(r_kind:Int)(r_name:List UInt8)(r_ver:Int)(r_port:Int)(r_to:List UInt8)(r_rules:List Rule)(r_hosts:List Int)(hl:Jc r_rules.length)(hh:Jc r_hosts.length)(hs:∀x∈r_rules,VC x):CallR Tryz.prog 197 [.agg [.int .i64 r_kind,.str r_name,.int .i64 r_ver,.int .i64 r_port,.str r_to,.slice false (Ja r_rules),.slice false (Ja r_hosts)]] (.val (.bool (JcO (⟨r_kind,r_name,r_ver,r_port,r_to,r_rules,r_hosts⟩:Res)))):=by
 refine QD (T:=T) Tryz.call197 Tryz.func197 rfl Tryz.ntmps197 (congrArg Array.toList Tryz.results197) (by decide) fun ts hn h0=>?_
 (repeat' (first
 | (with_reducible first|refine callX.by (JcX _ _ _ ?_) ?_|refine callX.by (Z3 _ _ ?_ _ _ ?_ ?_) ?_|refine callX.by (Jb2 _ _ ?_) ?_|assumption|(refine Qw hK _ ?_;clear hK K)|refine Qw ‹_› _ ?_|refine Qx ‹_› ?_|refine Qi fun K hK=>?_|refine Qj T fun K hK=>?_|refine Ql fun A B hA hB=>?_|refine Qm ?_|refine Qn ?_|refine Qp ?_|refine Qr ?_)
 | ((with_reducible first|apply Qy|apply Qz|apply QA)<;>intro hb<;>try simp only[nr] at hb)
 |simp only[go_sem,↓reduceIte,reduceIte,Qa,Qh,Qb,Qc,Qd,Qe,Qf,Qg,reduceCtorEq, *,-hs]
 |with_reducible refine fun(bn:Bool) hbn=>?_))
 refine Qs [1,9,10] (fun m ts'=>∃(i:Nat),m=r_rules.length-i∧i≤r_rules.length∧JbS [] r_rules=JbS (r_rules.take i) (r_rules.drop i)∧ts'.tmp 11=.int .i64 i) r_rules.length ?_ ?_
 ·refine⟨0,?_⟩
  simp only[go_sem,↓reduceIte,reduceIte,Qa,Qh,Qb,Qc,Qd,Qe,Qf,Qg,reduceCtorEq, *,-hs]
 ·rintro m A hM ts' hk ⟨i,hm,f1,f2,s1⟩
  simp only[go_sem,↓reduceIte,reduceIte,Qa,Qh,Qb,Qc,Qd,Qe,Qf,Qg,reduceCtorEq, *] at hk
  by_cases hlt:i<r_rules.length
  ·rw[List.drop_eq_getElem_cons hlt,JbS] at f2
   have hsi:=hs _ (QC hlt)
   have hsl:=hsi.2.2.1
   have hti:Jc (r_rules.take i).length:=by unfold Jc at *;rw[List.length_take];omega
   have h:=Z3 230 [.ro [.str r_rules[i].host,.str r_rules[i].pfx,.slice false (Ja r_rules[i].split)]] (Jkc _ _ _) (JgQ r_rules[i]) (r_rules.take i) (fun y _=>JnG _ _ _ y.host y.pfx y.split) hti
   (repeat' (first
 | (with_reducible first|refine callX.by (h) ?_|refine callX.by (JcX _ _ _ ?_) ?_|refine callX.by (Z3 _ _ ?_ _ _ ?_ ?_) ?_|refine callX.by (Jb2 _ _ ?_) ?_|assumption|(refine Qw hK _ ?_;clear hK K)|refine Qw ‹_› _ ?_|refine Qx ‹_› ?_|refine Qi fun K hK=>?_|refine Qj T fun K hK=>?_|refine Ql fun A B hA hB=>?_|refine Qm ?_|refine Qn ?_|refine Qp ?_|refine Qr ?_)
 | ((with_reducible first|apply Qy|apply Qz|apply QA)<;>intro hb<;>try simp only[nr] at hb)
 |simp only[go_sem,↓reduceIte,reduceIte,Qa,Qh,Qb,Qc,Qd,Qe,Qf,Qg,reduceCtorEq, *,-hs,-f2,-hsi,-h,Int.le_refl,Int.toNat_zero]
 |with_reducible refine fun(bn:Bool) hbn=>?_))
   all_goals ((repeat clear hK);(repeat clear hA);(repeat clear hB))
   all_goals first
    | (refine hM.on (r_rules.length-(i+1)) (by omega) (by simp only[go_sem,↓reduceIte,reduceIte,Qa,Qh,Qb,Qc,Qd,Qe,Qf,Qg,reduceCtorEq, *,Ji hlt hl,-hs,-f2,-hsi,-h]) ⟨i+1,rfl,by omega,by clear h hM hs hsi;rw[f2,←Ji8 hlt];simp_all,?_⟩;simp only[go_sem,↓reduceIte,reduceIte,Qa,Qh,Qb,Qc,Qd,Qe,Qf,Qg,reduceCtorEq, *,Ji hlt hl,-hs,-f2,-hsi,-h];done)
    | (clear h hM hs hsi;simp_all[JcO];done)
    |trace_state
  ·rw[List.drop_eq_nil_of_le (by omega),JbS] at f2
   have hr1:=f2
   clear f2 f1 hM
   (repeat' (first
 | (with_reducible first|refine callX.by (JcX _ _ _ ?_) ?_|refine callX.by (Z3 _ _ ?_ _ _ ?_ ?_) ?_|refine callX.by (Jb2 _ _ ?_) ?_|assumption|(refine Qw hK _ ?_;clear hK K)|refine Qw ‹_› _ ?_|refine Qx ‹_› ?_|refine Qi fun K hK=>?_|refine Qj T fun K hK=>?_|refine Ql fun A B hA hB=>?_|refine Qm ?_|refine Qn ?_|refine Qp ?_|refine Qr ?_)
 | ((with_reducible first|apply Qy|apply Qz|apply QA)<;>intro hb<;>try simp only[nr] at hb)
 |simp only[go_sem,↓reduceIte,reduceIte,Qa,Qh,Qb,Qc,Qd,Qe,Qf,Qg,reduceCtorEq, *,-hs,-hr1]
 |with_reducible refine fun(bn:Bool) hbn=>?_))
   refine Qs [1,30,31] (fun m ts'=>∃(i:Nat),m=r_hosts.length-i∧i≤r_hosts.length∧JbR [] r_hosts=JbR (r_hosts.take i) (r_hosts.drop i)∧ts'.tmp 32=.int .i64 i) r_hosts.length ?_ ?_
   ·refine⟨0,?_⟩
    simp only[go_sem,↓reduceIte,reduceIte,Qa,Qh,Qb,Qc,Qd,Qe,Qf,Qg,reduceCtorEq, *,-hs,-hr1]
   ·rintro m A hM ts' hk ⟨i,hm,f1,f2,s1⟩
    simp only[go_sem,↓reduceIte,reduceIte,Qa,Qh,Qb,Qc,Qd,Qe,Qf,Qg,reduceCtorEq, *] at hk
    by_cases hlt:i<r_hosts.length
    ·rw[List.drop_eq_getElem_cons hlt,JbR] at f2
     have hti:Jc (r_hosts.take i).length:=by unfold Jc at *;rw[List.length_take];omega
     (repeat' (first
 | (with_reducible first|refine callX.by (JcX _ _ _ ?_) ?_|refine callX.by (Z3 _ _ ?_ _ _ ?_ ?_) ?_|refine callX.by (Jb2 _ _ ?_) ?_|assumption|(refine Qw hK _ ?_;clear hK K)|refine Qw ‹_› _ ?_|refine Qx ‹_› ?_|refine Qi fun K hK=>?_|refine Qj T fun K hK=>?_|refine Ql fun A B hA hB=>?_|refine Qm ?_|refine Qn ?_|refine Qp ?_|refine Qr ?_)
 | ((with_reducible first|apply Qy|apply Qz|apply QA)<;>intro hb<;>try simp only[nr] at hb)
 |simp only[go_sem,↓reduceIte,reduceIte,Qa,Qh,Qb,Qc,Qd,Qe,Qf,Qg,reduceCtorEq, *,-hs,-f2,-hr1,Int.le_refl,Int.toNat_zero]
 |with_reducible refine fun(bn:Bool) hbn=>?_))
     all_goals ((repeat clear hK);(repeat clear hA);(repeat clear hB))
     all_goals first
      | (refine hM.on (r_hosts.length-(i+1)) (by omega) (by simp only[go_sem,↓reduceIte,reduceIte,Qa,Qh,Qb,Qc,Qd,Qe,Qf,Qg,reduceCtorEq, *,Ji hlt hh,-hs,-f2,-hr1]) ⟨i+1,rfl,by omega,by clear hM hs;rw[f2,←Ji8 hlt];simp_all,?_⟩;simp only[go_sem,↓reduceIte,reduceIte,Qa,Qh,Qb,Qc,Qd,Qe,Qf,Qg,reduceCtorEq, *,Ji hlt hh,-hs,-f2,-hr1];done)
      | (clear hM hs;simp_all[JcO];done)
      |trace_state
    ·rw[List.drop_eq_nil_of_le (by omega),JbR] at f2
     (repeat' (first
 | (with_reducible first|refine callX.by (JcX _ _ _ ?_) ?_|refine callX.by (Z3 _ _ ?_ _ _ ?_ ?_) ?_|refine callX.by (Jb2 _ _ ?_) ?_|assumption|(refine Qw hK _ ?_;clear hK K)|refine Qw ‹_› _ ?_|refine Qx ‹_› ?_|refine Qi fun K hK=>?_|refine Qj T fun K hK=>?_|refine Ql fun A B hA hB=>?_|refine Qm ?_|refine Qn ?_|refine Qp ?_|refine Qr ?_)
 | ((with_reducible first|apply Qy|apply Qz|apply QA)<;>intro hb<;>try simp only[nr] at hb)
 |simp only[go_sem,↓reduceIte,reduceIte,Qa,Qh,Qb,Qc,Qd,Qe,Qf,Qg,reduceCtorEq, *,-hs,-f2,-hr1]
 |with_reducible refine fun(bn:Bool) hbn=>?_))
     all_goals ((repeat clear hK);(repeat clear hA);(repeat clear hB))
     all_goals (clear hM hs;simp_all[JcO])
def Yb(r:Res):Int:=if Zb r.kind 3=false then 4 else if Yg r.name=false then 5 else if Y5 r=false then 3 else if JfN r=false then 2 else if Je7 r=false then 5 else if JcO r=false then 2 else 0
theorem Vn(r_kind:Int)(r_name:List UInt8)(r_ver:Int)(r_port:Int)(r_to:List UInt8)(r_rules:List Rule)(r_hosts:List Int)(hl:Jc r_rules.length)(hh:Jc r_hosts.length)(hs:∀x∈r_rules,VC x):CallR Tryz.prog 157 [.agg [.int .i64 r_kind,.str r_name,.int .i64 r_ver,.int .i64 r_port,.str r_to,.slice false (Ja r_rules),.slice false (Ja r_hosts)]] (.val (.int .i64 (Yb (⟨r_kind,r_name,r_ver,r_port,r_to,r_rules,r_hosts⟩:Res)))):=by
 refine QD (T:=T) Tryz.call157 Tryz.func157 rfl Tryz.ntmps157 (congrArg Array.toList Tryz.results157) (by decide) fun ts hn h0=>?_
 (repeat' (first
 | (with_reducible first|refine callX.by (Ja2 _ _) ?_|refine callX.by (JbA _) ?_|refine callX.by (JnO _ _ _ _ _ _ _ ?_ ?_ ?_) ?_|refine callX.by (JnF _ _ _ _ _ _ _) ?_|refine callX.by (Jl3 _ _ _ _ _ _ _ ?_ ?_) ?_|refine callX.by (JnH _ _ _ _ _ _ _ ?_ ?_ ?_) ?_|assumption|(refine Qw hK _ ?_;clear hK K)|refine Qw ‹_› _ ?_|refine Qx ‹_› ?_|refine Qi fun K hK=>?_|refine Qj T fun K hK=>?_|refine Ql fun A B hA hB=>?_|refine Qm ?_|refine Qn ?_|refine Qr ?_)
 | ((with_reducible first|apply Qy|apply Qz|apply QA)<;>intro hb<;>try simp only[nr] at hb)
 |simp only[go_sem,↓reduceIte,reduceIte,Qa,Qh,Qb,Qc,Qd,Qe,Qf,Qg,reduceCtorEq, *,-hs]
 |with_reducible refine fun(bn:Bool) hbn=>?_))
 all_goals ((repeat clear hK);(repeat clear hA);(repeat clear hB))
 all_goals first|assumption|(clear hs;simp_all[Yb])
@[go_sem] def Wd5:List (List Nat×List Nat):=[([48],[50,52,53,54,55,56,57]),([49],[50,53,54,55,56,57]),([50],[48,49,53,54,55,56,57]),([51],[53,54,55,56,57]),([52],[48,53,54,55,56,57]),([53],[48,49,50,51,52,55,57]),([54],[48,49,50,51,52,55]),([55],[48,49,50,51,52,53,54]),([56],[48,49,50,51,52]),([57],[48,49,50,51,52,53])]
@[go_sem] def Wd6:List (List Nat×List Nat):=[([17],[18,21,22,23,24]),([18],[17,21,22,23,24]),([19],[21,22,23,24]),([20],[21,22,23,24]),([21],[17,18,19,20,22]),([22],[17,18,19,20,21]),([23],[17,18,19,20]),([24],[17,18,19,20])]
def Jba(a b:Res):Bool:=decide (a.kind=b.kind∧a.name=b.name∧a.port=b.port∧a.to'=b.to'∧a.rules'=b.rules'∧a.hosts=b.hosts)
set_option maxHeartbeats 4000000 in
theorem Jjs(a_kind:Int)(a_name:List UInt8)(a_ver:Int)(a_port:Int)(a_to:List UInt8)(a_rules:List Rule)(a_hosts:List Int)(b_kind:Int)(b_name:List UInt8)(b_ver:Int)(b_port:Int)(b_to:List UInt8)(b_rules:List Rule)(b_hosts:List Int)(hh:Jc a_hosts.length)(hl:Jc a_rules.length)(hs:∀x∈a_rules,VC x):CallR Tryz.prog 87 [.agg [.int .i64 a_kind,.str a_name,.int .i64 a_ver,.int .i64 a_port,.str a_to,.slice false (Ja a_rules),.slice false (Ja a_hosts)],.agg [.int .i64 b_kind,.str b_name,.int .i64 b_ver,.int .i64 b_port,.str b_to,.slice false (Ja b_rules),.slice false (Ja b_hosts)]] (.val (.bool (Jba (⟨a_kind,a_name,a_ver,a_port,a_to,a_rules,a_hosts⟩:Res) (⟨b_kind,b_name,b_ver,b_port,b_to,b_rules,b_hosts⟩:Res)))):=by
 refine CallR.go2 (T:=T) Tryz.call87 Tryz.func87 rfl Tryz.ntmps87 (congrArg Array.toList Tryz.results87) (by decide) fun ts hn h0 h1=>?_
 by_cases hll:a_hosts.length=b_hosts.length
 ·(repeat' (first
 | (with_reducible first|refine callX.by (Jd7 _ _ ?_ ?_) ?_|assumption|(refine Qw hK _ ?_;clear hK K)|refine Qw ‹_› _ ?_|refine Qx ‹_› ?_|refine Qi fun K hK=>?_|refine Qj T fun K hK=>?_|refine Qk (id:=6) T mixed Wd5 (by kernel_rfl) fun K hK=>?_|refine Ql fun A B hA hB=>?_|refine Qm ?_|refine Qn ?_|refine Qp ?_|refine Qr ?_)
 | ((with_reducible first|apply Qy|apply Qz|apply QA)<;>intro hb<;>try simp only[nr] at hb)
 |simp only[go_sem,↓reduceIte,reduceIte,Qa,Qh,Qb,Qc,Qd,Qe,Qf,Qg,reduceCtorEq, *]
 |with_reducible refine fun(bn:Bool) hbn=>?_))
  iterate 4 (focus(all_goals ((repeat clear hK);(repeat clear hA);(repeat clear hB));clear hs;grind [Jba]))
  refine Qs [2,3] (fun m ts'=>∃(i:Nat),m=a_hosts.length-i∧i≤a_hosts.length∧a_hosts.take i=b_hosts.take i∧ts'.tmp 5=.int .i64 i) a_hosts.length ?_ ?_
  ·refine⟨0,?_⟩
   simp only[go_sem,↓reduceIte,reduceIte,Qa,Qh,Qb,Qc,Qd,Qe,Qf,Qg,reduceCtorEq, *]
  ·rintro m A hM ts' hk ⟨i,hm,f1,f2,s1⟩
   simp only[go_sem,↓reduceIte,reduceIte,Qa,Qh,Qb,Qc,Qd,Qe,Qf,Qg,reduceCtorEq, *] at hk
   by_cases hlt:i<a_hosts.length
   ·have hlu:i<b_hosts.length:=by omega
    have hne:=Y9 hlt hlu
    (repeat' (first
 | (with_reducible first|refine callX.by (Jd7 _ _ ?_ ?_) ?_|assumption|(refine Qw hK _ ?_;clear hK K)|refine Qw ‹_› _ ?_|refine Qx ‹_› ?_|refine Qi fun K hK=>?_|refine Qj T fun K hK=>?_|refine Qk (id:=6) T mixed Wd5 (by kernel_rfl) fun K hK=>?_|refine Ql fun A B hA hB=>?_|refine Qm ?_|refine Qn ?_|refine Qp ?_|refine Qr ?_)
 | ((with_reducible first|apply Qy|apply Qz|apply QA)<;>intro hb<;>try simp only[nr] at hb)
 |simp only[go_sem,↓reduceIte,reduceIte,Qa,Qh,Qb,Qc,Qd,Qe,Qf,Qg,reduceCtorEq, *]
 |with_reducible refine fun(bn:Bool) hbn=>?_))
    all_goals ((repeat clear hK);(repeat clear hA);(repeat clear hB))
    all_goals first
     | (refine hM.on (a_hosts.length-(i+1)) (by omega) (by simp only[go_sem,↓reduceIte,reduceIte,Qa,Qh,Qb,Qc,Qd,Qe,Qf,Qg,reduceCtorEq, *,Ji hlt hh]) ⟨i+1,rfl,by omega,by clear hM hs;apply Y8 f2 hlt hlu;grind,?_⟩;simp only[go_sem,↓reduceIte,reduceIte,Qa,Qh,Qb,Qc,Qd,Qe,Qf,Qg,reduceCtorEq, *,Ji hlt hh];done)
     | (clear hM hs;grind [Jba])
   ·have:=Y7 f2 hlt hll
    (repeat' (first
 | (with_reducible first|refine callX.by (Jd7 _ _ ?_ ?_) ?_|assumption|(refine Qw hK _ ?_;clear hK K)|refine Qw ‹_› _ ?_|refine Qx ‹_› ?_|refine Qi fun K hK=>?_|refine Qj T fun K hK=>?_|refine Qk (id:=6) T mixed Wd5 (by kernel_rfl) fun K hK=>?_|refine Ql fun A B hA hB=>?_|refine Qm ?_|refine Qn ?_|refine Qp ?_|refine Qr ?_)
 | ((with_reducible first|apply Qy|apply Qz|apply QA)<;>intro hb<;>try simp only[nr] at hb)
 |simp only[go_sem,↓reduceIte,reduceIte,Qa,Qh,Qb,Qc,Qd,Qe,Qf,Qg,reduceCtorEq, *]
 |with_reducible refine fun(bn:Bool) hbn=>?_))
    all_goals ((repeat clear hK);(repeat clear hA);(repeat clear hB))
    all_goals (clear hM hs;grind [Jba])
 ·have:¬a_hosts=b_hosts:=by rintro rfl;exact hll rfl
  (repeat' (first
 | (with_reducible first|refine callX.by (Jd7 _ _ ?_ ?_) ?_|assumption|(refine Qw hK _ ?_;clear hK K)|refine Qw ‹_› _ ?_|refine Qx ‹_› ?_|refine Qi fun K hK=>?_|refine Qj T fun K hK=>?_|refine Qk (id:=6) T mixed Wd5 (by kernel_rfl) fun K hK=>?_|refine Ql fun A B hA hB=>?_|refine Qm ?_|refine Qn ?_|refine Qp ?_|refine Qr ?_)
 | ((with_reducible first|apply Qy|apply Qz|apply QA)<;>intro hb<;>try simp only[nr] at hb)
 |simp only[go_sem,↓reduceIte,reduceIte,Qa,Qh,Qb,Qc,Qd,Qe,Qf,Qg,reduceCtorEq, *]
 |with_reducible refine fun(bn:Bool) hbn=>?_))
  all_goals ((repeat clear hK);(repeat clear hA);(repeat clear hB))
  all_goals (clear hs;grind [Jba])
theorem Jec(a_kind:Int)(a_name:List UInt8)(a_ver:Int)(a_port:Int)(a_to:List UInt8)(a_rules:List Rule)(a_hosts:List Int)(b_kind:Int)(b_name:List UInt8)(b_ver:Int)(b_port:Int)(b_to:List UInt8)(b_rules:List Rule)(b_hosts:List Int)(hh:Jc a_hosts.length)(hl:Jc a_rules.length)(hs:∀x∈a_rules,VC x):CallR Tryz.prog 56 [.agg [.int .i64 a_kind,.str a_name,.int .i64 a_ver,.int .i64 a_port,.str a_to,.slice false (Ja a_rules),.slice false (Ja a_hosts)],.agg [.int .i64 b_kind,.str b_name,.int .i64 b_ver,.int .i64 b_port,.str b_to,.slice false (Ja b_rules),.slice false (Ja b_hosts)]] (.val (.bool (decide ((⟨a_kind,a_name,a_ver,a_port,a_to,a_rules,a_hosts⟩:Res)=(⟨b_kind,b_name,b_ver,b_port,b_to,b_rules,b_hosts⟩:Res))))):=by
 refine CallR.go2 (T:=T) Tryz.call56 Tryz.func56 rfl Tryz.ntmps56 (congrArg Array.toList Tryz.results56) (by decide) fun ts hn h0 h1=>?_
 (repeat' (first
 | (with_reducible first|refine callX.by (Jjs _ _ _ _ _ _ _ _ _ _ _ _ _ _ ?_ ?_ ?_) ?_|assumption|(refine Qw hK _ ?_;clear hK K)|refine Qw ‹_› _ ?_|refine Qx ‹_› ?_|refine Qi fun K hK=>?_|refine Qj T fun K hK=>?_|refine Ql fun A B hA hB=>?_|refine Qn ?_|refine Qr ?_)
 | ((with_reducible first|apply Qy|apply Qz|apply QA)<;>intro hb<;>try simp only[nr] at hb)
 |simp only[go_sem,↓reduceIte,reduceIte,Qa,Qh,Qb,Qc,Qd,Qe,Qf,Qg,reduceCtorEq, *]
 |with_reducible refine fun(bn:Bool) hbn=>?_))
 all_goals ((repeat clear hK);(repeat clear hA);(repeat clear hB))
 all_goals (clear hs;grind [Jba])
theorem YO(xs ys:List Res)(hl:Jc xs.length)(hs:∀x∈xs,JD x):CallR Tryz.prog 23 [.slice false (Ja xs),.slice false (Ja ys)] (.val (.bool (decide (xs=ys)))):=by
 refine CallR.go2 (T:=T) Tryz.call23 Tryz.func23 rfl Tryz.ntmps23 (congrArg Array.toList Tryz.results23) (by decide) fun ts hn h0 h1=>?_
 by_cases hll:xs.length=ys.length
 ·(repeat' (first
 | (with_reducible first|refine callX.by (Jec _ _ _ _ _ _ _ _ _ _ _ _ _ _ ?_ ?_ ?_) ?_|assumption|(refine Qw hK _ ?_;clear hK K)|refine Qw ‹_› _ ?_|refine Qx ‹_› ?_|refine Qi fun K hK=>?_|refine Qj T fun K hK=>?_|refine Qk (id:=6) T mixed Wd6 (by kernel_rfl) fun K hK=>?_|refine Ql fun A B hA hB=>?_|refine Qm ?_|refine Qn ?_|refine Qp ?_|refine Qr ?_)
 | ((with_reducible first|apply Qy|apply Qz|apply QA)<;>intro hb<;>try simp only[nr] at hb)
 |simp only[go_sem,↓reduceIte,reduceIte,Qa,Qh,Qb,Qc,Qd,Qe,Qf,Qg,reduceCtorEq, *]
 |with_reducible refine fun(bn:Bool) hbn=>?_))
  refine Qs [0,1] (fun m ts'=>∃(i:Nat),m=xs.length-i∧i≤xs.length∧xs.take i=ys.take i∧ts'.tmp 5=.int .i64 i) xs.length ?_ ?_
  ·refine⟨0,?_⟩
   simp only[go_sem,↓reduceIte,reduceIte,Qa,Qh,Qb,Qc,Qd,Qe,Qf,Qg,reduceCtorEq, *]
  ·rintro m A hM ts' hk ⟨i,hm,f1,f2,s1⟩
   simp only[go_sem,↓reduceIte,reduceIte,Qa,Qh,Qb,Qc,Qd,Qe,Qf,Qg,reduceCtorEq, *] at hk
   by_cases hlt:i<xs.length
   ·have hlu:i<ys.length:=by omega
    have hne:=Y9 hlt hlu
    obtain⟨hs1,hs2,hs3,hs4,hs5⟩:=hs xs[i] (QC hlt)
    (repeat' (first
 | (with_reducible first|refine callX.by (Jec _ _ _ _ _ _ _ _ _ _ _ _ _ _ ?_ ?_ ?_) ?_|assumption|(refine Qw hK _ ?_;clear hK K)|refine Qw ‹_› _ ?_|refine Qx ‹_› ?_|refine Qi fun K hK=>?_|refine Qj T fun K hK=>?_|refine Qk (id:=6) T mixed Wd6 (by kernel_rfl) fun K hK=>?_|refine Ql fun A B hA hB=>?_|refine Qm ?_|refine Qn ?_|refine Qp ?_|refine Qr ?_)
 | ((with_reducible first|apply Qy|apply Qz|apply QA)<;>intro hb<;>try simp only[nr] at hb)
 |simp only[go_sem,↓reduceIte,reduceIte,Qa,Qh,Qb,Qc,Qd,Qe,Qf,Qg,reduceCtorEq, *]
 |with_reducible refine fun(bn:Bool) hbn=>?_))
    all_goals ((repeat clear hK);(repeat clear hA);(repeat clear hB))
    all_goals clear hs hs4
    all_goals first
     | (refine hM.on (xs.length-(i+1)) (by omega) (by simp only[go_sem,↓reduceIte,reduceIte,Qa,Qh,Qb,Qc,Qd,Qe,Qf,Qg,reduceCtorEq, *,Ji hlt hl]) ⟨i+1,rfl,by omega,by clear hM;apply Y8 f2 hlt hlu;grind,?_⟩;simp only[go_sem,↓reduceIte,reduceIte,Qa,Qh,Qb,Qc,Qd,Qe,Qf,Qg,reduceCtorEq, *,Ji hlt hl];done)
     | (clear hM;grind)
   ·have:=Y7 f2 hlt hll
    (repeat' (first
 | (with_reducible first|refine callX.by (Jec _ _ _ _ _ _ _ _ _ _ _ _ _ _ ?_ ?_ ?_) ?_|assumption|(refine Qw hK _ ?_;clear hK K)|refine Qw ‹_› _ ?_|refine Qx ‹_› ?_|refine Qi fun K hK=>?_|refine Qj T fun K hK=>?_|refine Qk (id:=6) T mixed Wd6 (by kernel_rfl) fun K hK=>?_|refine Ql fun A B hA hB=>?_|refine Qm ?_|refine Qn ?_|refine Qp ?_|refine Qr ?_)
 | ((with_reducible first|apply Qy|apply Qz|apply QA)<;>intro hb<;>try simp only[nr] at hb)
 |simp only[go_sem,↓reduceIte,reduceIte,Qa,Qh,Qb,Qc,Qd,Qe,Qf,Qg,reduceCtorEq, *]
 |with_reducible refine fun(bn:Bool) hbn=>?_))
    all_goals ((repeat clear hK);(repeat clear hA);(repeat clear hB))
    all_goals (clear hM hs;grind)
 ·have:¬xs=ys:=by rintro rfl;exact hll rfl
  (repeat' (first
 | (with_reducible first|refine callX.by (Jec _ _ _ _ _ _ _ _ _ _ _ _ _ _ ?_ ?_ ?_) ?_|assumption|(refine Qw hK _ ?_;clear hK K)|refine Qw ‹_› _ ?_|refine Qx ‹_› ?_|refine Qi fun K hK=>?_|refine Qj T fun K hK=>?_|refine Qk (id:=6) T mixed Wd6 (by kernel_rfl) fun K hK=>?_|refine Ql fun A B hA hB=>?_|refine Qm ?_|refine Qn ?_|refine Qp ?_|refine Qr ?_)
 | ((with_reducible first|apply Qy|apply Qz|apply QA)<;>intro hb<;>try simp only[nr] at hb)
 |simp only[go_sem,↓reduceIte,reduceIte,Qa,Qh,Qb,Qc,Qd,Qe,Qf,Qg,reduceCtorEq, *]
 |with_reducible refine fun(bn:Bool) hbn=>?_))
  all_goals ((repeat clear hK);(repeat clear hA);(repeat clear hB))
  all_goals (clear hs;grind)
def Yv(xs:List Res):Bool:=xs.all Jbl && decide (xs.length≤80)
theorem Jb6(xs:List Res)(hl:Jc xs.length)(hs:∀x∈xs,JD x):CallR Tryz.prog 63 [.slice false (Ja xs)] (.val (.bool (Yv xs))):=by
 refine QD (T:=T) Tryz.call63 Tryz.func63 rfl Tryz.ntmps63 (congrArg Array.toList Tryz.results63) (by decide) fun ts hn h0=>?_
 (repeat' (first
 | (with_reducible first|refine callX.by (JeP _ _ _ _ _ _ _ ?_) ?_|assumption|(refine Qw hK _ ?_;clear hK K)|refine Qw ‹_› _ ?_|refine Qx ‹_› ?_|refine Qi fun K hK=>?_|refine Qj T fun K hK=>?_|refine Ql fun A B hA hB=>?_|refine Qm ?_|refine Qn ?_|refine Qp ?_|refine Qr ?_)
 | ((with_reducible first|apply Qy|apply Qz|apply QA)<;>intro hb<;>try simp only[nr] at hb)
 |simp only[go_sem,↓reduceIte,reduceIte,Qa,Qh,Qb,Qc,Qd,Qe,Qf,Qg,reduceCtorEq, *]
 |with_reducible refine fun(bn:Bool) hbn=>?_))
 refine Qs [0] (fun m ts'=>∃(i:Nat),m=xs.length-i∧i≤xs.length∧xs.all Jbl=(xs.drop i).all Jbl∧ts'.tmp 3=.int .i64 i) xs.length ?_ ?_
 ·refine⟨0,?_⟩
  simp only[go_sem,↓reduceIte,reduceIte,Qa,Qh,Qb,Qc,Qd,Qe,Qf,Qg,reduceCtorEq, *]
 ·rintro m A hM ts' hk ⟨i,hm,f1,f2,s1⟩
  simp only[go_sem,↓reduceIte,reduceIte,Qa,Qh,Qb,Qc,Qd,Qe,Qf,Qg,reduceCtorEq, *] at hk
  by_cases hlt:i<xs.length
  ·rw[List.drop_eq_getElem_cons hlt,List.all_cons] at f2
   obtain⟨hs1,hs2,hs3,hs4,hs5⟩:=hs xs[i] (QC hlt)
   (repeat' (first
 | (with_reducible first|refine callX.by (JeP _ _ _ _ _ _ _ ?_) ?_|assumption|(refine Qw hK _ ?_;clear hK K)|refine Qw ‹_› _ ?_|refine Qx ‹_› ?_|refine Qi fun K hK=>?_|refine Qj T fun K hK=>?_|refine Ql fun A B hA hB=>?_|refine Qm ?_|refine Qn ?_|refine Qp ?_|refine Qr ?_)
 | ((with_reducible first|apply Qy|apply Qz|apply QA)<;>intro hb<;>try simp only[nr] at hb)
 |simp only[go_sem,↓reduceIte,reduceIte,Qa,Qh,Qb,Qc,Qd,Qe,Qf,Qg,reduceCtorEq, *]
 |with_reducible refine fun(bn:Bool) hbn=>?_))
   all_goals ((repeat clear hK);(repeat clear hA);(repeat clear hB))
   all_goals clear hs hs4
   all_goals first
    | (refine hM.on (xs.length-(i+1)) (by omega) (by simp only[go_sem,↓reduceIte,reduceIte,Qa,Qh,Qb,Qc,Qd,Qe,Qf,Qg,reduceCtorEq, *,Ji hlt hl,-f2]) ⟨i+1,rfl,by omega,by clear hM;grind,?_⟩;simp only[go_sem,↓reduceIte,reduceIte,Qa,Qh,Qb,Qc,Qd,Qe,Qf,Qg,reduceCtorEq, *,Ji hlt hl,-f2];done)
    | (clear hM;grind [Yv])
  ·rw[List.drop_eq_nil_of_le (by omega),List.all_nil] at f2
   (repeat' (first
 | (with_reducible first|refine callX.by (JeP _ _ _ _ _ _ _ ?_) ?_|assumption|(refine Qw hK _ ?_;clear hK K)|refine Qw ‹_› _ ?_|refine Qx ‹_› ?_|refine Qi fun K hK=>?_|refine Qj T fun K hK=>?_|refine Ql fun A B hA hB=>?_|refine Qm ?_|refine Qn ?_|refine Qp ?_|refine Qr ?_)
 | ((with_reducible first|apply Qy|apply Qz|apply QA)<;>intro hb<;>try simp only[nr] at hb)
 |simp only[go_sem,↓reduceIte,reduceIte,Qa,Qh,Qb,Qc,Qd,Qe,Qf,Qg,reduceCtorEq, *]
 |with_reducible refine fun(bn:Bool) hbn=>?_))
   all_goals ((repeat clear hK);(repeat clear hA);(repeat clear hB))
   all_goals (clear hM hs;grind [Yv])
def Jao(p:Pins):Pins:=if JdZ p then p else ⟨0,[]⟩
def JcG(p:Pins)(id:Int):List Res×Bool :=
 match (Jao p).snaps.find? fun x=>decide (x.id=id) with
 |none=>([],false)
 |some s=>(s.l,true)
theorem Jnd(n1 n2:Int)(xs ys:List Snap)(hl:Jc xs.length)(hs:∀x∈xs,V1 x):CallR Tryz.prog 52 [.agg [.int .i64 n1,.slice false (Ja xs)],.agg [.int .i64 n2,.slice false (Ja ys)]] (.val (.bool (decide (n1=n2∧xs=ys)))):=by
 refine CallR.go2 (T:=T) Tryz.call52 Tryz.func52 rfl Tryz.ntmps52 (congrArg Array.toList Tryz.results52) (by decide) fun ts hn h0 h1=>?_
 by_cases hll:xs.length=ys.length
 ·(repeat' (first
 | (with_reducible first|refine callX.by (YO _ _ ?_ ?_) ?_|assumption|(refine Qw hK _ ?_;clear hK K)|refine Qw ‹_› _ ?_|refine Qx ‹_› ?_|refine Qi fun K hK=>?_|refine Qj T fun K hK=>?_|refine Ql fun A B hA hB=>?_|refine Qm ?_|refine Qn ?_|refine Qp ?_|refine Qr ?_)
 | ((with_reducible first|apply Qy|apply Qz|apply QA)<;>intro hb<;>try simp only[nr] at hb)
 |simp only[go_sem,↓reduceIte,reduceIte,Qa,Qh,Qb,Qc,Qd,Qe,Qf,Qg,reduceCtorEq, *]
 |with_reducible refine fun(bn:Bool) hbn=>?_))
  ·all_goals ((repeat clear hK);(repeat clear hA);(repeat clear hB))
   clear hs;grind
  refine Qs [2,3] (fun m ts'=>∃(i:Nat),m=xs.length-i∧i≤xs.length∧xs.take i=ys.take i∧ts'.tmp 5=.int .i64 i) xs.length ?_ ?_
  ·refine⟨0,?_⟩
   simp only[go_sem,↓reduceIte,reduceIte,Qa,Qh,Qb,Qc,Qd,Qe,Qf,Qg,reduceCtorEq, *]
  ·rintro m A hM ts' hk ⟨i,hm,f1,f2,s1⟩
   simp only[go_sem,↓reduceIte,reduceIte,Qa,Qh,Qb,Qc,Qd,Qe,Qf,Qg,reduceCtorEq, *] at hk
   by_cases hlt:i<xs.length
   ·have hlu:i<ys.length:=by omega
    have hne:=Y9 hlt hlu
    rw[JgV] at hne
    obtain⟨hs1,hs2⟩:=hs xs[i] (QC hlt)
    (repeat' (first
 | (with_reducible first|refine callX.by (YO _ _ ?_ ?_) ?_|assumption|(refine Qw hK _ ?_;clear hK K)|refine Qw ‹_› _ ?_|refine Qx ‹_› ?_|refine Qi fun K hK=>?_|refine Qj T fun K hK=>?_|refine Ql fun A B hA hB=>?_|refine Qm ?_|refine Qn ?_|refine Qp ?_|refine Qr ?_)
 | ((with_reducible first|apply Qy|apply Qz|apply QA)<;>intro hb<;>try simp only[nr] at hb)
 |simp only[go_sem,↓reduceIte,reduceIte,Qa,Qh,Qb,Qc,Qd,Qe,Qf,Qg,reduceCtorEq, *]
 |with_reducible refine fun(bn:Bool) hbn=>?_))
    all_goals ((repeat clear hK);(repeat clear hA);(repeat clear hB))
    all_goals clear hs hs2
    all_goals first
     | (refine hM.on (xs.length-(i+1)) (by omega) (by simp only[go_sem,↓reduceIte,reduceIte,Qa,Qh,Qb,Qc,Qd,Qe,Qf,Qg,reduceCtorEq, *,Ji hlt hl]) ⟨i+1,rfl,by omega,by clear hM;apply Y8 f2 hlt hlu;rw[JgV];grind,?_⟩;simp only[go_sem,↓reduceIte,reduceIte,Qa,Qh,Qb,Qc,Qd,Qe,Qf,Qg,reduceCtorEq, *,Ji hlt hl];done)
     | (clear hM;grind)
   ·have:=Y7 f2 hlt hll
    (repeat' (first
 | (with_reducible first|refine callX.by (YO _ _ ?_ ?_) ?_|assumption|(refine Qw hK _ ?_;clear hK K)|refine Qw ‹_› _ ?_|refine Qx ‹_› ?_|refine Qi fun K hK=>?_|refine Qj T fun K hK=>?_|refine Ql fun A B hA hB=>?_|refine Qm ?_|refine Qn ?_|refine Qp ?_|refine Qr ?_)
 | ((with_reducible first|apply Qy|apply Qz|apply QA)<;>intro hb<;>try simp only[nr] at hb)
 |simp only[go_sem,↓reduceIte,reduceIte,Qa,Qh,Qb,Qc,Qd,Qe,Qf,Qg,reduceCtorEq, *]
 |with_reducible refine fun(bn:Bool) hbn=>?_))
    all_goals ((repeat clear hK);(repeat clear hA);(repeat clear hB))
    all_goals (clear hM hs;grind)
 ·have:¬xs=ys:=by rintro rfl;exact hll rfl
  (repeat' (first
 | (with_reducible first|refine callX.by (YO _ _ ?_ ?_) ?_|assumption|(refine Qw hK _ ?_;clear hK K)|refine Qw ‹_› _ ?_|refine Qx ‹_› ?_|refine Qi fun K hK=>?_|refine Qj T fun K hK=>?_|refine Ql fun A B hA hB=>?_|refine Qm ?_|refine Qn ?_|refine Qp ?_|refine Qr ?_)
 | ((with_reducible first|apply Qy|apply Qz|apply QA)<;>intro hb<;>try simp only[nr] at hb)
 |simp only[go_sem,↓reduceIte,reduceIte,Qa,Qh,Qb,Qc,Qd,Qe,Qf,Qg,reduceCtorEq, *]
 |with_reducible refine fun(bn:Bool) hbn=>?_))
  all_goals ((repeat clear hK);(repeat clear hA);(repeat clear hB))
  all_goals (clear hs;grind)
def JaH(p:Pins):Bool:=p.snaps.all (fun s=>Yv s.l) && decide (p.snaps.length≤20)
theorem JkG(next:Int)(xs:List Snap)(hl:Jc xs.length)(hs:∀x∈xs,V1 x):CallR Tryz.prog 72 [.agg [.int .i64 next,.slice false (Ja xs)]] (.val (.bool (JaH ⟨next,xs⟩))):=by
 refine QD (T:=T) Tryz.call72 Tryz.func72 rfl Tryz.ntmps72 (congrArg Array.toList Tryz.results72) (by decide) fun ts hn h0=>?_
 (repeat' (first
 | (with_reducible first|refine callX.by (Jb6 _ ?_ ?_) ?_|assumption|(refine Qw hK _ ?_;clear hK K)|refine Qw ‹_› _ ?_|refine Qx ‹_› ?_|refine Qi fun K hK=>?_|refine Qj T fun K hK=>?_|refine Ql fun A B hA hB=>?_|refine Qm ?_|refine Qn ?_|refine Qp ?_|refine Qr ?_)
 | ((with_reducible first|apply Qy|apply Qz|apply QA)<;>intro hb<;>try simp only[nr] at hb)
 |simp only[go_sem,↓reduceIte,reduceIte,Qa,Qh,Qb,Qc,Qd,Qe,Qf,Qg,reduceCtorEq, *]
 |with_reducible refine fun(bn:Bool) hbn=>?_))
 refine Qs [1] (fun m ts'=>∃(i:Nat),m=xs.length-i∧i≤xs.length∧xs.all (fun s=>Yv s.l)=(xs.drop i).all (fun s=>Yv s.l)∧ts'.tmp 3=.int .i64 i) xs.length ?_ ?_
 ·refine⟨0,?_⟩
  simp only[go_sem,↓reduceIte,reduceIte,Qa,Qh,Qb,Qc,Qd,Qe,Qf,Qg,reduceCtorEq, *]
 ·rintro m A hM ts' hk ⟨i,hm,f1,f2,s1⟩
  simp only[go_sem,↓reduceIte,reduceIte,Qa,Qh,Qb,Qc,Qd,Qe,Qf,Qg,reduceCtorEq, *] at hk
  by_cases hlt:i<xs.length
  ·rw[List.drop_eq_getElem_cons hlt,List.all_cons] at f2
   obtain⟨hs1,hs2⟩:=hs xs[i] (QC hlt)
   (repeat' (first
 | (with_reducible first|refine callX.by (Jb6 _ ?_ ?_) ?_|assumption|(refine Qw hK _ ?_;clear hK K)|refine Qw ‹_› _ ?_|refine Qx ‹_› ?_|refine Qi fun K hK=>?_|refine Qj T fun K hK=>?_|refine Ql fun A B hA hB=>?_|refine Qm ?_|refine Qn ?_|refine Qp ?_|refine Qr ?_)
 | ((with_reducible first|apply Qy|apply Qz|apply QA)<;>intro hb<;>try simp only[nr] at hb)
 |simp only[go_sem,↓reduceIte,reduceIte,Qa,Qh,Qb,Qc,Qd,Qe,Qf,Qg,reduceCtorEq, *]
 |with_reducible refine fun(bn:Bool) hbn=>?_))
   all_goals ((repeat clear hK);(repeat clear hA);(repeat clear hB))
   all_goals clear hs hs2
   all_goals first
    | (refine hM.on (xs.length-(i+1)) (by omega) (by simp only[go_sem,↓reduceIte,reduceIte,Qa,Qh,Qb,Qc,Qd,Qe,Qf,Qg,reduceCtorEq, *,Ji hlt hl,-f2]) ⟨i+1,rfl,by omega,by clear hM;grind,?_⟩;simp only[go_sem,↓reduceIte,reduceIte,Qa,Qh,Qb,Qc,Qd,Qe,Qf,Qg,reduceCtorEq, *,Ji hlt hl,-f2];done)
    | (clear hM;grind [JaH])
  ·rw[List.drop_eq_nil_of_le (by omega),List.all_nil] at f2
   (repeat' (first
 | (with_reducible first|refine callX.by (Jb6 _ ?_ ?_) ?_|assumption|(refine Qw hK _ ?_;clear hK K)|refine Qw ‹_› _ ?_|refine Qx ‹_› ?_|refine Qi fun K hK=>?_|refine Qj T fun K hK=>?_|refine Ql fun A B hA hB=>?_|refine Qm ?_|refine Qn ?_|refine Qp ?_|refine Qr ?_)
 | ((with_reducible first|apply Qy|apply Qz|apply QA)<;>intro hb<;>try simp only[nr] at hb)
 |simp only[go_sem,↓reduceIte,reduceIte,Qa,Qh,Qb,Qc,Qd,Qe,Qf,Qg,reduceCtorEq, *]
 |with_reducible refine fun(bn:Bool) hbn=>?_))
   all_goals ((repeat clear hK);(repeat clear hA);(repeat clear hB))
   all_goals (clear hM hs;grind [JaH])
theorem Jgy:∀a b:List UInt8,Lib.compareBytes b a=- Lib.compareBytes a b
 | [],[]=>rfl
 | [],_ :: _=>rfl
 |_ :: _,[]=>rfl
 |x :: a,y :: b=>by
  have h:=Jgy a b
  have hxy:¬(x<y∧y<x):=fun h=>by simp only[UInt8.lt_iff_toNat_lt] at h;omega
  simp only[Lib.compareBytes]
  by_cases h1:x<y<;>by_cases h2:y<x<;>simp[h1,h2,h]
  exact absurd ⟨h1,h2⟩ hxy
theorem JgA:∀a b:List UInt8,Lib.compareBytes a b=0→a=b
 | [],[]=>fun _=>rfl
 | [],_ :: _=>fun h=>by simp[Lib.compareBytes] at h
 |_ :: _,[]=>fun h=>by simp[Lib.compareBytes] at h
 |x :: a,y :: b=>fun h=>by
  simp only[Lib.compareBytes] at h
  by_cases h1:x<y
  ·simp[h1] at h
  ·by_cases h2:y<x
   ·simp[h1,h2] at h
   ·have e:x=y:=by
     apply UInt8.toNat_inj.1
     simp only[UInt8.lt_iff_toNat_lt] at h1 h2;omega
    rw[if_neg h1,if_neg h2] at h
    rw[e,JgA a b h]
theorem Jgz:∀a b c:List UInt8,Lib.compareBytes a b<0→Lib.compareBytes b c<0→Lib.compareBytes a c<0
 | [],[],_,h,_=>by simp[Lib.compareBytes] at h
 | [],_ :: _,[],_,h=>by simp[Lib.compareBytes] at h
 | [],_ :: _,_ :: _,_,_=>by simp[Lib.compareBytes]
 |_ :: _,[],_,h,_=>by simp[Lib.compareBytes] at h
 |_ :: _,_ :: _,[],_,h=>by simp[Lib.compareBytes] at h
 |x :: a,y :: b,z :: c,h,k=>by
  simp only[Lib.compareBytes,UInt8.lt_iff_toNat_lt] at h k ⊢
  by_cases h1:x.toNat<y.toNat
  ·by_cases k1:y.toNat<z.toNat
   ·rw[if_pos (by omega)];omega
   ·rw[if_neg k1] at k
    by_cases k2:z.toNat<y.toNat
    ·rw[if_pos k2] at k;omega
    ·rw[if_pos (by omega)];omega
  ·rw[if_neg h1] at h
   by_cases h2:y.toNat<x.toNat
   ·rw[if_pos h2] at h;omega
   ·rw[if_neg h2] at h
    by_cases k1:y.toNat<z.toNat
    ·rw[if_pos (by omega)];omega
    ·rw[if_neg k1] at k
     by_cases k2:z.toNat<y.toNat
     ·rw[if_pos k2] at k;omega
     ·rw[if_neg k2] at k
      rw[if_neg (by omega),if_neg (by omega)]
      exact Jgz a b c h k
theorem JdB(a b:Key):JR a b=if a.kind<b.kind then -1 else if b.kind<a.kind then 1 else Lib.compareBytes a.name b.name:=by
 unfold JR Jar
 generalize Lib.compareBytes a.name b.name=c
 simp only[ior,Z7]
 by_cases h1:a.kind<b.kind
 ·simp[h1]
 ·by_cases h2:b.kind<a.kind
  ·simp[h1,h2]
  ·by_cases h3:c=0
   ·simp[h1,h2,h3]
   ·simp[h1,h2,h3]
theorem Jbr(a b:Key):JR b a=- JR a b:=by
 have h:=Jgy a.name b.name
 rw[JdB,JdB,h]
 by_cases h1:a.kind<b.kind
 ·rw[if_neg (by omega),if_pos h1,if_pos h1];rfl
 ·by_cases h2:b.kind<a.kind
  ·rw[if_pos h2,if_neg h1,if_pos h2]
  ·rw[if_neg h2,if_neg h1,if_neg h1,if_neg h2]
theorem JdC(a b:Key)(h:JR a b=0):a=b:=by
 obtain⟨k1,n1⟩:=a;obtain⟨k2,n2⟩:=b
 rw[JdB] at h
 simp only at h
 by_cases h1:k1<k2
 ·rw[if_pos h1] at h;omega
 ·by_cases h2:k2<k1
  ·rw[if_neg h1,if_pos h2] at h;omega
  ·rw[if_neg h1,if_neg h2] at h
   have e:k1=k2:=by omega
   rw[e,JgA _ _ h]
theorem Jlu(a b:Key):JR a b<0↔a.kind<b.kind∨(a.kind=b.kind∧Lib.compareBytes a.name b.name<0):=by
 rw[JdB]
 by_cases h1:a.kind<b.kind
 ·rw[if_pos h1];omega
 ·by_cases h2:b.kind<a.kind
  ·rw[if_neg h1,if_pos h2];omega
  ·rw[if_neg h1,if_neg h2];omega
theorem Jcf(a b c:Key)(h:JR a b<0)(k:JR b c<0):JR a c<0:=by
 rw[Jlu] at h k ⊢
 rcases h with h|⟨h,h'⟩<;>rcases k with k|⟨k,k'⟩
 ·exact .inl (by omega)
 ·exact .inl (by omega)
 ·exact .inl (by omega)
 ·exact .inr ⟨by omega,Jgz _ _ _ h' k'⟩
theorem Jhz(a:Key):¬JR a a<0:=fun h=>by have:=Jbr a a;omega
def JH(xs:List Key):List Key:=xs.mergeSort fun x y=>!decide (JR y x<0)
theorem Jaa(xs:List Key):(JH xs).length=xs.length:=by simp[JH]
def J6:List Key→List Key
 |x :: y :: r=>if y=x then J6 (y :: r) else y :: J6 (y :: r)
 |_=>[]
def VQ(xs:List Key):List Key:=xs.take 1++J6 xs
def J5(l:List Snap):List Key:=l.flatMap fun s=>s.l.map Jp
def J8(p:Pins):List Key:=VQ (JH (J5 (Jq p).snaps))
theorem Jhf(s:Snap)(l:List Snap):J5 (s :: l)=s.l.map Jp++J5 l:=rfl
end Go.Proofs.YthjalhfmpffbjaaGreatDoor.Lg
