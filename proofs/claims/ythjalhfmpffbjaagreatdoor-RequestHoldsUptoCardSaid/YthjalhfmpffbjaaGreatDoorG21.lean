/- Parts of the proof, one behind the other. -/
import Derived.Test.YthjalhfmpffbjaaGreatDoorG20
set_option linter.unusedVariables false
set_option linter.unusedSimpArgs false
set_option maxRecDepth 100000
set_option maxHeartbeats 64000000
namespace Go.Proofs.YthjalhfmpffbjaaGreatDoor.Lg
open Go
open Tryz
open Nat renaming reduceEqDiff → Qa, reduceLT → Qb, reduceLeDiff → Qc, reduceAdd → Qd, reduceMul → Qe, reduceSub → Qf, reduceBEq → Qg
open String renaming reduceEq → Qh
open SpecC renaming seqW → Qi, regW → Qj, condW → Ql, block → Qm, skip → Qn, exit → Qp, ret → Qr
open NxK renaming out → Qw
open Nx renaming out → Qx
open condK renaming split → Qy
open gK renaming split_t → Qz, split_f → QA
def JdE:Rule:=⟨[],[],[]⟩
def Jaj(p:Rule→Bool)(x:Rule):Option Rule→Bool
 |none=>p x
 |some y=>p x && JbO x y
def Zg(p:Rule→Bool):List Rule→Option Rule→Option Rule
 | [],o=>o
 |x :: l,o=>Zg p l (if Jaj p x o=true then some x else o)
def YN:Option Rule→List AV
 |none=>[.str [],.str [],.slice true []]
 |some x=>[.str x.host,.str x.pfx,.slice false (Ja x.split)]
theorem Jna(fn:FuncId)(caps:List AV)(hc:Caps caps)(p:Rule→Bool)(xs:List Rule)(hp:∀x∈xs,CallR prog fn (.agg [.str x.host,.str x.pfx,.slice false (Ja x.split)] :: caps) (.val (.bool (p x))))(hl:Jc xs.length) :
  CallR prog 124 [.slice false (Ja xs),.clo (.func fn) [] caps,.clo (.func 128) [] []] (.val (.tup [Dat.av ((Zg p xs none).getD JdE),.bool (Zg p xs none).isSome])):=by
 have hca:=hc.args
 have hcp:=hc.pure
 have hcn:=hc.nrm
 refine Vs call124 func124 rfl ntmps124 results124 fun ts hn h0 h1 h2=>?_
 (repeat' (first
 | (with_reducible first|assumption|(refine Qw hK _ ?_;clear hK K)|refine Qw ‹_› _ ?_|refine Qx ‹_› ?_|refine Qi fun K hK=>?_|refine Qj T fun K hK=>?_|refine Ql fun A B hA hB=>?_|refine Qm ?_|refine Qn ?_|refine Qp ?_|refine Qr ?_)
 |(with_reducible first|apply Qy|apply Qz|apply QA)<;>intro hb<;>try simp only[nr] at hb
 |simp only[go_sem,↓reduceIte,Qa,Qh,Qb,Qc,Qd,Qe,Qf,Qg,reduceCtorEq, *,-hp]
 |intro(bn:Bool) hbn))
 refine SpecC.loopF [1,2,6,12,13] (fun m ts'=>∃(i:Nat),∃(g:Nat),∃(o:Option Rule),m=xs.length-i∧i≤xs.length∧Zg p xs none=Zg p (xs.drop i) o∧ts'.tmp 9=.bool o.isSome∧ts'.tmp 8=.ref 8 g 0∧ts'.gen 8=g∧ts'.obj 8=.box (YN o)∧ts'.tmp 14=.int .i64 i) xs.length ?_ ?_
 ·refine⟨0,ts.gen 8+1,none,rfl,Nat.zero_le _,rfl,?_⟩
  simp only[go_sem,↓reduceIte,Qa,Qh,Qb,Qc,Qd,Qe,Qf,Qg,reduceCtorEq, *,-hp,YN,Option.isSome_none]
 ·rintro m A hM ts' hk ⟨i,g,o,hm,f1,f2,s1,s2,s3,s4,s5⟩
  simp only[go_sem,↓reduceIte,Qa,Qh,Qb,Qc,Qd,Qe,Qf,Qg,reduceCtorEq, *] at hk
  by_cases hlt:i<xs.length
  ·rw[List.drop_eq_getElem_cons hlt,Zg] at f2
   have hpi:=hp _ (List.getElem_mem hlt)
   cases hpx:p xs[i] with
   |false =>
    have hw:Jaj p xs[i] o=false:=by cases o<;>simp[Jaj,hpx]
    rw[hw,if_neg (by decide)] at f2
    rw[hpx] at hpi
    (repeat' (first
 | (with_reducible first|refine callX.by (hpi) ?_|assumption|(refine Qw hK _ ?_;clear hK K)|refine Qw ‹_› _ ?_|refine Qx ‹_› ?_|refine Qi fun K hK=>?_|refine Qj T fun K hK=>?_|refine Ql fun A B hA hB=>?_|refine Qm ?_|refine Qn ?_|refine Qp ?_|refine Qr ?_)
 |(with_reducible first|apply Qy|apply Qz|apply QA)<;>intro hb<;>try simp only[nr] at hb
 |simp only[go_sem,↓reduceIte,Qa,Qh,Qb,Qc,Qd,Qe,Qf,Qg,reduceCtorEq, *,-hp,-hpi,-f2]
 |intro(bn:Bool) hbn))
    all_goals ((repeat clear hK);(repeat clear hA);(repeat clear hB))
    (refine hM.on (xs.length-(i+1)) (by omega) (by simp only[go_sem,↓reduceIte,Qa,Qh,Qb,Qc,Qd,Qe,Qf,Qg,reduceCtorEq, *,Jg hlt hl,-f2,-hp,-hpi]) ⟨i+1,g,o,rfl,by omega,f2,?_⟩;simp only[go_sem,↓reduceIte,Qa,Qh,Qb,Qc,Qd,Qe,Qf,Qg,reduceCtorEq, *,Jg hlt hl,-f2,-hp,-hpi];done)
   |true =>
    rw[hpx] at hpi
    cases o with
    |none =>
     have hw:Jaj p xs[i] none=true:=by simp[Jaj,hpx]
     rw[hw,if_pos rfl] at f2
     (repeat' (first
 | (with_reducible first|refine callX.by (hpi) ?_|assumption|(refine Qw hK _ ?_;clear hK K)|refine Qw ‹_› _ ?_|refine Qx ‹_› ?_|refine Qi fun K hK=>?_|refine Qj T fun K hK=>?_|refine Ql fun A B hA hB=>?_|refine Qm ?_|refine Qn ?_|refine Qp ?_|refine Qr ?_)
 |(with_reducible first|apply Qy|apply Qz|apply QA)<;>intro hb<;>try simp only[nr] at hb
 |simp only[go_sem,↓reduceIte,Qa,Qh,Qb,Qc,Qd,Qe,Qf,Qg,reduceCtorEq, *,-hp,-hpi,-f2,Option.isSome_none,YN]
 |intro(bn:Bool) hbn))
     all_goals ((repeat clear hK);(repeat clear hA);(repeat clear hB))
     (refine hM.on (xs.length-(i+1)) (by omega) (by simp only[go_sem,↓reduceIte,Qa,Qh,Qb,Qc,Qd,Qe,Qf,Qg,reduceCtorEq, *,Jg hlt hl,-f2,-hp,-hpi,YN,Option.isSome_some]) ⟨i+1,g,some xs[i],rfl,by omega,f2,?_⟩;simp only[go_sem,↓reduceIte,Qa,Qh,Qb,Qc,Qd,Qe,Qf,Qg,reduceCtorEq, *,Jg hlt hl,-f2,-hp,-hpi,YN,Option.isSome_some];done)
    |some y =>
     have hb0:=Jm6 xs[i].host xs[i].pfx xs[i].split y.host y.pfx y.split
     cases hby:JbO xs[i] y with
     |true =>
      have hw:Jaj p xs[i] (some y)=true:=by simp[Jaj,hpx,hby]
      rw[hw,if_pos rfl] at f2
      rw[show JbO ⟨xs[i].host,xs[i].pfx,xs[i].split⟩ ⟨y.host,y.pfx,y.split⟩=true from hby] at hb0
      (repeat' (first
 | (with_reducible first|refine callX.by (hpi) ?_|refine callX.by (hb0) ?_|assumption|(refine Qw hK _ ?_;clear hK K)|refine Qw ‹_› _ ?_|refine Qx ‹_› ?_|refine Qi fun K hK=>?_|refine Qj T fun K hK=>?_|refine Ql fun A B hA hB=>?_|refine Qm ?_|refine Qn ?_|refine Qp ?_|refine Qr ?_)
 |(with_reducible first|apply Qy|apply Qz|apply QA)<;>intro hb<;>try simp only[nr] at hb
 |simp only[go_sem,↓reduceIte,Qa,Qh,Qb,Qc,Qd,Qe,Qf,Qg,reduceCtorEq, *,-hp,-hpi,-hb0,-f2,Option.isSome_some,YN]
 |intro(bn:Bool) hbn))
      all_goals ((repeat clear hK);(repeat clear hA);(repeat clear hB))
      (refine hM.on (xs.length-(i+1)) (by omega) (by simp only[go_sem,↓reduceIte,Qa,Qh,Qb,Qc,Qd,Qe,Qf,Qg,reduceCtorEq, *,Jg hlt hl,-f2,-hp,-hpi,-hb0,YN,Option.isSome_some]) ⟨i+1,g,some xs[i],rfl,by omega,f2,?_⟩;simp only[go_sem,↓reduceIte,Qa,Qh,Qb,Qc,Qd,Qe,Qf,Qg,reduceCtorEq, *,Jg hlt hl,-f2,-hp,-hpi,-hb0,YN,Option.isSome_some];done)
     |false =>
      have hw:Jaj p xs[i] (some y)=false:=by simp[Jaj,hpx,hby]
      rw[hw,if_neg (by decide)] at f2
      rw[show JbO ⟨xs[i].host,xs[i].pfx,xs[i].split⟩ ⟨y.host,y.pfx,y.split⟩=false from hby] at hb0
      (repeat' (first
 | (with_reducible first|refine callX.by (hpi) ?_|refine callX.by (hb0) ?_|assumption|(refine Qw hK _ ?_;clear hK K)|refine Qw ‹_› _ ?_|refine Qx ‹_› ?_|refine Qi fun K hK=>?_|refine Qj T fun K hK=>?_|refine Ql fun A B hA hB=>?_|refine Qm ?_|refine Qn ?_|refine Qp ?_|refine Qr ?_)
 |(with_reducible first|apply Qy|apply Qz|apply QA)<;>intro hb<;>try simp only[nr] at hb
 |simp only[go_sem,↓reduceIte,Qa,Qh,Qb,Qc,Qd,Qe,Qf,Qg,reduceCtorEq, *,-hp,-hpi,-hb0,-f2,Option.isSome_some,YN]
 |intro(bn:Bool) hbn))
      all_goals ((repeat clear hK);(repeat clear hA);(repeat clear hB))
      (refine hM.on (xs.length-(i+1)) (by omega) (by simp only[go_sem,↓reduceIte,Qa,Qh,Qb,Qc,Qd,Qe,Qf,Qg,reduceCtorEq, *,Jg hlt hl,-f2,-hp,-hpi,-hb0,YN,Option.isSome_some]) ⟨i+1,g,some y,rfl,by omega,f2,?_⟩;simp only[go_sem,↓reduceIte,Qa,Qh,Qb,Qc,Qd,Qe,Qf,Qg,reduceCtorEq, *,Jg hlt hl,-f2,-hp,-hpi,-hb0,YN,Option.isSome_some];done)
  ·rw[List.drop_eq_nil_of_le (by omega),Zg] at f2
   rw[f2]
   cases o with
   |none=>(repeat' (first
 | (with_reducible first|assumption|(refine Qw hK _ ?_;clear hK K)|refine Qw ‹_› _ ?_|refine Qx ‹_› ?_|refine Qi fun K hK=>?_|refine Qj T fun K hK=>?_|refine Ql fun A B hA hB=>?_|refine Qm ?_|refine Qn ?_|refine Qp ?_|refine Qr ?_)
 |(with_reducible first|apply Qy|apply Qz|apply QA)<;>intro hb<;>try simp only[nr] at hb
 |simp only[go_sem,↓reduceIte,Qa,Qh,Qb,Qc,Qd,Qe,Qf,Qg,reduceCtorEq, *,-hp,YN,Option.isSome_none,Option.getD_none,JdE,Vp]
 |intro(bn:Bool) hbn))
   |some y=>(repeat' (first
 | (with_reducible first|assumption|(refine Qw hK _ ?_;clear hK K)|refine Qw ‹_› _ ?_|refine Qx ‹_› ?_|refine Qi fun K hK=>?_|refine Qj T fun K hK=>?_|refine Ql fun A B hA hB=>?_|refine Qm ?_|refine Qn ?_|refine Qp ?_|refine Qr ?_)
 |(with_reducible first|apply Qy|apply Qz|apply QA)<;>intro hb<;>try simp only[nr] at hb
 |simp only[go_sem,↓reduceIte,Qa,Qh,Qb,Qc,Qd,Qe,Qf,Qg,reduceCtorEq, *,-hp,YN,Option.isSome_some,Option.getD_some]
 |intro(bn:Bool) hbn))
def Jc6(h pa:List UInt8)(r:Rule):Bool:=JfZ r.host h && Jg0 r.pfx pa
theorem JoS(r_host r_pfx:List UInt8)(LU:List Weight)(h pa:List UInt8)(hr:VR (⟨r_host,r_pfx,LU⟩:Rule))(hh:Jc h.length):CallR prog 125 [.agg [.str r_host,.str r_pfx,.slice false (Ja LU)],.ro [.str h],.ro [.str pa]] (.val (.bool (Jc6 h pa (⟨r_host,r_pfx,LU⟩:Rule)))):=by
 have h1:Jc r_host.length:=hr.1
 have h2:Jc r_pfx.length:=hr.2.1
 clear hr
 refine Vs call125 func125 rfl ntmps125 results125 fun ts hn h0 h1 h2=>?_
 (repeat' (first
 | (with_reducible first|refine callX.by (JoR _ _ ?_ ?_) ?_|refine callX.by (Jrp _ _ ?_) ?_|assumption|(refine Qw hK _ ?_;clear hK K)|refine Qw ‹_› _ ?_|refine Qx ‹_› ?_|refine Qi fun K hK=>?_|refine Qj T fun K hK=>?_|refine Ql fun A B hA hB=>?_|refine Qn ?_|refine Qr ?_)
 |(with_reducible first|apply Qy|apply Qz|apply QA)<;>intro hb<;>try simp only[nr] at hb
 |simp only[go_sem,↓reduceIte,Qa,Qh,Qb,Qc,Qd,Qe,Qf,Qg,reduceCtorEq, *]
 |intro(bn:Bool) hbn))
 all_goals ((repeat clear hK);(repeat clear hA);(repeat clear hB))
 all_goals simp_all[Jc6]
theorem Jnn(a b:List UInt8):Caps [.ro [.str a],.ro [.str b]]:=⟨by simp only[go_sem,Bool.and_self],by simp only[go_sem]⟩
def Z8(l:List Rule)(h pa:List UInt8):Option Rule:=Zg (Jc6 h pa) l none
theorem Jpv(xs:List Rule)(h pa:List UInt8)(hl:Jc xs.length)(hs:∀x∈xs,VR x)(hh:Jc h.length):CallR prog 84 [.slice false (Ja xs),.str h,.str pa] (.val (.tup [Dat.av ((Z8 xs h pa).getD JdE),.bool (Z8 xs h pa).isSome])):=by
 have hb:=Jna 125 [.ro [.str h],.ro [.str pa]] (Jnn h pa) (Jc6 h pa) xs (fun x hx=>JoS x.host x.pfx x.split h pa (hs x hx) hh) hl
 rw[show Zg (Jc6 h pa) xs none=Z8 xs h pa from rfl] at hb
 refine Vs call84 func84 rfl ntmps84 results84 fun ts hn h0 h1 h2=>?_
 (repeat' (first
 | (with_reducible first|refine callX.by (hb) ?_|assumption|(refine Qw hK _ ?_;clear hK K)|refine Qw ‹_› _ ?_|refine Qx ‹_› ?_|refine Qi fun K hK=>?_|refine Qj T fun K hK=>?_|refine Ql fun A B hA hB=>?_|refine Qn ?_|refine Qr ?_)
 |(with_reducible first|apply Qy|apply Qz|apply QA)<;>intro hb<;>try simp only[nr] at hb
 |simp only[go_sem,↓reduceIte,Qa,Qh,Qb,Qc,Qd,Qe,Qf,Qg,reduceCtorEq, *,-hb,-hs]
 |intro(bn:Bool) hbn))
theorem JoK(Ln:Int)(Lp:List UInt8)(Lx Lq:Int)(LA:List UInt8)(r_rules:List Rule)(r_hosts:List Int)(k:Int):CallR prog 89 [.agg [.int .i64 Ln,.str Lp,.int .i64 Lx,.int .i64 Lq,.str LA,.slice false (Ja r_rules),.slice false (Ja r_hosts)],.ro [.int .i64 k]] (.val (.bool (decide (Ln=0) && decide (Lq=k)))):=by
 refine Jn call89 func89 rfl ntmps89 results89 fun ts hn h0 h1=>?_
 (repeat' (first
 | (with_reducible first|assumption|(refine Qw hK _ ?_;clear hK K)|refine Qw ‹_› _ ?_|refine Qx ‹_› ?_|refine Qi fun K hK=>?_|refine Qj T fun K hK=>?_|refine Ql fun A B hA hB=>?_|refine Qn ?_|refine Qr ?_)
 |(with_reducible first|apply Qy|apply Qz|apply QA)<;>intro hb<;>try simp only[nr] at hb
 |simp only[go_sem,↓reduceIte,Qa,Qh,Qb,Qc,Qd,Qe,Qf,Qg,reduceCtorEq, *]
 |intro(bn:Bool) hbn))
 all_goals simp_all
def JaE(l:List Res)(k:Int):Option Res:=l.find? fun r=>decide (r.kind=0) && decide (r.port=k)
theorem JoM(xs:List Res)(k:Int)(hl:Jc xs.length):CallR prog 57 [.slice false (Ja xs),.int .i64 k] (.val (.tup [Dat.av ((JaE xs k).getD VH),.bool (JaE xs k).isSome])):=by
 have hi:=Jbg 89 [.ro [.int .i64 k]] (Jhz k) (fun r=>decide (r.kind=0) && decide (r.port=k)) xs (fun x _=>JoK x.kind x.name x.ver x.port x.to' x.rules' x.hosts k) hl
 have hng:(-1:Int)<0:=by decide
 rcases JiF (fun r:Res=>decide (r.kind=0) && decide (r.port=k)) xs with ⟨e1,e2⟩|⟨j,hj,e1,e2⟩
 ·rw[e1] at hi
  have e3:JaE xs k=none:=e2
  rw[e3]
  refine Jn call57 func57 rfl ntmps57 results57 fun ts hn h0 h1=>?_
  (repeat' (first
 | (with_reducible first|refine callX.by (hi) ?_|assumption|(refine Qw hK _ ?_;clear hK K)|refine Qw ‹_› _ ?_|refine Qx ‹_› ?_|refine Qi fun K hK=>?_|refine Qj T fun K hK=>?_|refine Ql fun A B hA hB=>?_|refine Qn ?_|refine Qr ?_)
 |(with_reducible first|apply Qy|apply Qz|apply QA)<;>intro hb<;>try simp only[nr] at hb
 |simp only[go_sem,↓reduceIte,Qa,Qh,Qb,Qc,Qd,Qe,Qf,Qg,reduceCtorEq, *,-hi,Option.getD_none,Option.isSome_none,VH,Vp]
 |intro(bn:Bool) hbn))
 ·rw[e1] at hi
  have e3:JaE xs k=some xs[j]:=e2
  rw[e3]
  have hj0:¬(j:Int)<0:=by omega
  refine Jn call57 func57 rfl ntmps57 results57 fun ts hn h0 h1=>?_
  (repeat' (first
 | (with_reducible first|refine callX.by (hi) ?_|assumption|(refine Qw hK _ ?_;clear hK K)|refine Qw ‹_› _ ?_|refine Qx ‹_› ?_|refine Qi fun K hK=>?_|refine Qj T fun K hK=>?_|refine Ql fun A B hA hB=>?_|refine Qn ?_|refine Qr ?_)
 |(with_reducible first|apply Qy|apply Qz|apply QA)<;>intro hb<;>try simp only[nr] at hb
 |simp only[go_sem,↓reduceIte,Qa,Qh,Qb,Qc,Qd,Qe,Qf,Qg,reduceCtorEq, *,-hi,Option.getD_some,Option.isSome_some]
 |intro(bn:Bool) hbn))
def JaP(l:List Res)(to':List UInt8)(h pa:List UInt8):Option Rule:=match JY l ⟨1,to'⟩ with
 |none=>none
 |some r=>Z8 r.rules' h pa
def JbT(l:List Res)(c:List UInt8):List Int×Bool:=match JY l ⟨2,c⟩ with
 |none=>([],false)
 |some r=>match JY l ⟨3,r.to'⟩ with
  |none=>([],false)
  |some e=>(e.hosts,true)
theorem Jhv(p:Rule→Bool):∀(xs:List Rule) (o:Option Rule) (r:Rule),Zg p xs o=some r→r∈xs∨o=some r
 | [],o,r,h=>.inr h
 |x :: l,o,r,h=>by
  rw[Zg] at h
  rcases Jhv p l _ r h with h1|h1
  ·exact .inl (by simp[h1])
  ·split at h1
   ·cases h1;exact .inl (by simp)
   ·exact .inr h1
theorem Jpw{xs:List Rule}{h pa:List UInt8}{r:Rule}(e:Z8 xs h pa=some r):r∈xs:=by
 rcases Jhv _ _ _ _ e with h1|h1
 ·exact h1
 ·cases h1
def JdS(l:List Res)(a:Ask):Answer:=match JaE l a.port with
 |none=>⟨1,[],0⟩
 |some x=>match JaP l x.to' a.host a.path with
  |none=>⟨2,[],0⟩
  |some r=>match YV r.split a.first with
   |none=>⟨0,[],0⟩
   |some c=>match Yw (JbT l c).1 a.other with
    |none=>⟨0,[],0⟩
    |some h=>⟨3,c,h⟩
theorem JiM:∀l:List Key,(Vd l).length≤l.length-1
 | []=>by simp[Vd]
 | [a]=>by simp[Vd]
 |a :: b :: l=>by
  have:=JiM (b :: l)
  unfold Vd
  split<;>simp only[List.length_cons] at *<;>omega
theorem Jrb{l:List Res}{k:Key}{r:Res}(h:JY l k=some r):r∈l∧Jo r=k:=by
 unfold JY at h
 exact⟨List.mem_of_find?_eq_some h,by simpa using List.find?_some h⟩
end Go.Proofs.YthjalhfmpffbjaaGreatDoor.Lg
namespace Go.Proofs.YthjalhfmpffbjaaGreatDoor.Lg
open Go
open Tryz
section
variable {l:List Res} (hc:Conf l) (hv:Zy l=0)
include hc
include hv
end
end Go.Proofs.YthjalhfmpffbjaaGreatDoor.Lg
namespace Go.Proofs.YthjalhfmpffbjaaGreatDoor.Lg
open Go
open Tryz
open Nat renaming reduceEqDiff → Qa, reduceLT → Qb, reduceLeDiff → Qc, reduceAdd → Qd, reduceMul → Qe, reduceSub → Qf, reduceBEq → Qg
open String renaming reduceEq → Qh
open SpecC renaming seqW → Qi, regW → Qj, drawW → Qk, condW → Ql, block → Qm, skip → Qn, exit → Qp, ret → Qr
open NxK renaming out → Qw
open Nx renaming out → Qx
open condK renaming split → Qy
open gK renaming split_t → Qz, split_f → QA
theorem JrD:Jy VH:=by simp[Jy,VH,Jc]
theorem Jrc{l:List Res}(hs:∀r∈l,Jy r)(k:Key):Jy ((JY l k).getD VH):=by
 cases h:JY l k with
 |none=>exact JrD
 |some x=>exact hs x (Jrb h).1
theorem JiZ{cap:Int}{l:List Res}:J8 cap l=0↔Vb l=0∧(l.length:Int)≤cap∧Zy l=0:=by
 unfold J8
 by_cases h1:Vb l=0
 ·by_cases h2:(l.length:Int)≤cap
  ·simp[h1,h2]
  ·simp[h1,h2]
 ·simp[h1]
theorem saneC_iff{c:Cache}:Yd c=true↔c.cap=VT c.cap∧Vb c.l=0∧(c.l.length:Int)≤c.cap∧Zy c.l=0:=by
 unfold Yd
 simp only[Bool.and_eq_true,decide_eq_true_eq,JiZ]
theorem Jrn{l:List Res}(h:Vb l=0):l.length≤64:=by
 unfold Vb at h
 split at h
 ·cases h
 ·omega
theorem JmU{c:Cache}(h:Yd c=true)(adds:List Res)(gone:List Key) :
  J7 c adds gone=if J8 c.cap (YG c.l adds gone)=0 then (⟨c.cap,YG c.l adds gone⟩,0) else (c,J8 c.cap (YG c.l adds gone)):=by
 have hof:Vx c=c:=by unfold Vx;rw[if_pos h]
 unfold J7
 rw[hof]
theorem Jhn{c:Cache}(h:Yd c=true)(adds:List Res)(gone:List Key):Yd (J7 c adds gone).1=true:=by
 rw[JmU h]
 split
 ·rename_i hm
  rw[JiZ] at hm
  rw[saneC_iff] at h ⊢
  exact⟨h.1,hm⟩
 ·exact h
theorem Jnd(n:Int):0≤VT n∧VT n≤64:=by unfold VT;omega
theorem Jnc(n:Int):VT (VT n)=VT n:=by unfold VT;omega
theorem Ji6(n:Int):Yd ⟨VT n,[]⟩=true:=by
 rw[saneC_iff]
 have h1:Vb []=0:=by decide
 have h2:Zy []=0:=by decide
 exact⟨(Jnc n).symm,h1,by simp[(Jnd n).1],h2⟩
structure CInv(n:Int)(c:Cache):Prop where
 sane:Yd c=true
 cap:c.cap=VT n
 sm:∀r∈c.l,Jy r
theorem JmT(c:Cache)(adds:List Res)(gone:List Key):(J7 c adds gone).1.l.length≤c.l.length+adds.length:=by
 have h1:=Je0 c
 have h2:=Jju (Vx c).l adds gone
 unfold J7
 simp only
 split
 ·simp only;omega
 ·simp only;omega
theorem Jho{c:Cache}{adds:List Res}{gone:List Key}{x:Res}(h:x∈(J7 c adds gone).1.l):x∈c.l∨x∈adds:=by
 unfold J7 at h
 simp only at h
 split at h
 ·exact(Jjv h).imp Jdq id
 ·exact .inl (Jdq h)
@[go_sem] def Jfr:List (List Nat×List Nat):=[([31],[33,34]),([32],[33,34]),([33],[31,32,6]),([34],[31,32,6]),([6],[33,34])]
def Je8(c:Cache)(ready:Bool)(shown:List Res)(ch:Bool):List AV :=
 if VP c=shown then [.int .i64 c.cap,.slice false (Ja c.l),.bool ready,.slice false (Ja shown),.bool ch] else [.int .i64 c.cap,.slice false (Ja c.l),.bool true,.slice false (Ja (VP c)),.bool true]
theorem JqL(c:Cache):(VP c).length≤c.l.length:=Nat.le_trans (Jgt _) (Je0 c)
theorem JqM{c:Cache}{r:Res}(h:r∈VP c):r∈c.l:=Jdq ((JjJ _).subset h)
theorem Jq9(cap0:Int)(l0:List Res)(ready:Bool)(shown:List Res)(ch:Bool)(Lz:Int)(c_l:List Res)(hl:c_l.length≤65536)(hs:∀r∈c_l,Jy r) :
  CallI prog 135 [.int .i64 cap0,.slice false (Ja l0),.bool ready,.slice false (Ja shown),.bool ch] [.agg [.int .i64 Lz,.slice false (Ja c_l)]] (.tup []) (Je8 (⟨Lz,c_l⟩:Cache) ready shown ch):=by
 have w1:=(Jkh Lz c_l hl hs).frz
 have hsl:=JqL (⟨Lz,c_l⟩:Cache)
 have w2:=JgZ (VP (⟨Lz,c_l⟩:Cache)) shown (by simp only at hsl;unfold Jc;omega) fun x hx=>hs x (JqM hx)
 unfold Je8
 generalize VP (⟨Lz,c_l⟩:Cache)=s at *
 clear hs hl hsl
 by_cases he:s=shown
 ·rw[decide_eq_true he] at w2
  rw[if_pos he]
  refine CallI.go1 call135 func135 rfl ntmps135 T (congrArg Array.toList results135) (by decide) fun ts hn h0 hg0 ho0 h1=>?_
  (repeat' (first
 | (with_reducible first|refine callX.by (w1) ?_|refine callX.by (w2) ?_|assumption|(refine Qw hK _ ?_;clear hK K)|refine Qw ‹_› _ ?_|refine Qx ‹_› ?_|refine Qi fun K hK=>?_|refine Qj T fun K hK=>?_|refine Ql fun A B hA hB=>?_|refine Qn ?_|refine Qr ?_)
 |(with_reducible first|apply Qy|apply Qz|apply QA)<;>intro hb<;>try simp only[nr] at hb
 |simp only[go_sem,↓reduceIte,Qa,Qh,Qb,Qc,Qd,Qe,Qf,Qg,reduceCtorEq, *,-w1,-w2,-he]
 |intro(bn:Bool) hbn))
  all_goals trace_state
 ·rw[decide_eq_false he] at w2
  rw[if_neg he]
  refine CallI.go1 call135 func135 rfl ntmps135 T (congrArg Array.toList results135) (by decide) fun ts hn h0 hg0 ho0 h1=>?_
  (repeat' (first
 | (with_reducible first|refine callX.by (w1) ?_|refine callX.by (w2) ?_|assumption|(refine Qw hK _ ?_;clear hK K)|refine Qw ‹_› _ ?_|refine Qx ‹_› ?_|refine Qi fun K hK=>?_|refine Qj T fun K hK=>?_|refine Ql fun A B hA hB=>?_|refine Qn ?_|refine Qr ?_)
 |(with_reducible first|apply Qy|apply Qz|apply QA)<;>intro hb<;>try simp only[nr] at hb
 |simp only[go_sem,↓reduceIte,Qa,Qh,Qb,Qc,Qd,Qe,Qf,Qg,reduceCtorEq, *,-w1,-w2,-he]
 |intro(bn:Bool) hbn))
  all_goals trace_state
def JX(w:Warm)(adds:List Res)(gone:List Key):Warm×Bool×Int :=
 let m:=Yy w
 let a:=J7 m.c adds gone
 if a.2=0 then (if VP a.1=m.shown then (⟨a.1,m.ready,m.shown⟩,false,0) else (⟨a.1,true,VP a.1⟩,true,0)) else (m,false,a.2)
theorem Jqy(w:Warm):(Yy w).c.l.length≤w.c.l.length:=by unfold Yy;split<;>simp
theorem Jqz{w:Warm}{r:Res}(h:r∈(Yy w).c.l):r∈w.c.l:=by unfold Yy at h;split at h<;>simp_all
theorem Jq4(Lv:Int)(w_c_l:List Res)(Lw:Bool)(w_shown adds:List Res)(gone:List Key)(hl:w_c_l.length+adds.length≤65536)(hs:∀r∈w_c_l,Jy r)(hl2:Jc w_shown.length)(hs2:∀r∈w_shown,Jy r)(hg:Jc gone.length)(ha:∀r∈adds,Jy r) :
  CallR prog 97 [.agg [.int .i64 Lv,.slice false (Ja w_c_l),.bool Lw,.slice false (Ja w_shown)],.slice false (Ja adds),.slice false (Ja gone)]
   (.val (.tup [.agg [.int .i64 (JX (⟨⟨Lv,w_c_l⟩,Lw,w_shown⟩:Warm) adds gone).1.c.cap,.slice false (Ja (JX (⟨⟨Lv,w_c_l⟩,Lw,w_shown⟩:Warm) adds gone).1.c.l),.bool (JX (⟨⟨Lv,w_c_l⟩,Lw,w_shown⟩:Warm) adds gone).1.ready,.slice false (Ja (JX (⟨⟨Lv,w_c_l⟩,Lw,w_shown⟩:Warm) adds gone).1.shown)],.bool (JX (⟨⟨Lv,w_c_l⟩,Lw,w_shown⟩:Warm) adds gone).2.1,.int .i64 (JX (⟨⟨Lv,w_c_l⟩,Lw,w_shown⟩:Warm) adds gone).2.2])):=by
 have w1:=Jqx Lv w_c_l Lw w_shown (by omega) hs hl2 hs2
 have hml:=Jqy (⟨⟨Lv,w_c_l⟩,Lw,w_shown⟩:Warm)
 have hms:∀r∈(Yy (⟨⟨Lv,w_c_l⟩,Lw,w_shown⟩:Warm)).c.l,Jy r:=fun r hr=>hs r (Jqz hr)
 unfold JX
 generalize Yy (⟨⟨Lv,w_c_l⟩,Lw,w_shown⟩:Warm)=m at *
 simp only at hml ⊢
 have w2:=JmR m.c.cap m.c.l adds gone (by omega) hg hms ha
 have w2:CallR prog 134 [.agg [.int .i64 m.c.cap,.slice false (Ja m.c.l)],.slice false (Ja adds),.slice false (Ja gone)] (.val (.tup [.agg [.int .i64 (J7 m.c adds gone).1.cap,.slice false (Ja (J7 m.c adds gone).1.l)],.int .i64 (J7 m.c adds gone).2])):=w2
 have hal:=JmT m.c adds gone
 have hac:∀r∈(J7 m.c adds gone).1.l,Jy r:=fun r hr=>(Jho hr).elim (hms r) (ha r)
 generalize (J7 m.c adds gone).2=e at *
 generalize (J7 m.c adds gone).1=d at *
 have w3:=Jq9 m.c.cap m.c.l m.ready m.shown false d.cap d.l (by omega) hac
 have w3:CallI prog 135 [.int .i64 m.c.cap,.slice false (Ja m.c.l),.bool m.ready,.slice false (Ja m.shown),.bool false] [.agg [.int .i64 d.cap,.slice false (Ja d.l)]] (.tup []) (Je8 d m.ready m.shown false):=w3
 unfold Je8 at w3
 clear hs hs2 ha hms hac hal hml hl hl2 hg
 by_cases he:e=0
 ·subst he
  simp only[if_true]
  by_cases hsh:VP d=m.shown
  ·rw[if_pos hsh] at w3 ⊢
   simp only
   refine Vs call97 func97 rfl ntmps97 results97 fun ts hn h0 h1 h2=>?_
   (repeat' (first
 | (with_reducible first|refine callX.by (w1) ?_|refine callX.by (w2) ?_)
 | (with_reducible refine callX.io ?_ ?_ ?_ (w3);(focus(simp only[go_sem,↓reduceIte,Qa,Qh,Qb,Qc,Qd,Qe,Qf,Qg,reduceCtorEq, *,-w1,-w2,-w3,-hsh];first|done|rfl));(focus(simp only[go_sem,↓reduceIte,Qa,Qh,Qb,Qc,Qd,Qe,Qf,Qg,reduceCtorEq, *,-w1,-w2,-w3,-hsh];first|done|rfl)))
 | (with_reducible first|assumption|(refine Qw hK _ ?_;clear hK K)|refine Qw ‹_› _ ?_|refine Qx ‹_› ?_|refine Qi fun K hK=>?_|refine Qj T fun K hK=>?_|refine Qk (id:=6) T mixed Jfr (by kernel_rfl) fun K hK=>?_|refine Ql fun A B hA hB=>?_|refine Qn ?_|refine Qr ?_)
 |(with_reducible first|apply Qy|apply Qz|apply QA)<;>intro hb<;>try simp only[nr] at hb
 |simp only[go_sem,↓reduceIte,Qa,Qh,Qb,Qc,Qd,Qe,Qf,Qg,reduceCtorEq, *,-w1,-w2,-w3,-hsh]
 |intro(bn:Bool) hbn))
   all_goals trace_state
  ·rw[if_neg hsh] at w3 ⊢
   simp only
   refine Vs call97 func97 rfl ntmps97 results97 fun ts hn h0 h1 h2=>?_
   (repeat' (first
 | (with_reducible first|refine callX.by (w1) ?_|refine callX.by (w2) ?_)
 | (with_reducible refine callX.io ?_ ?_ ?_ (w3);(focus(simp only[go_sem,↓reduceIte,Qa,Qh,Qb,Qc,Qd,Qe,Qf,Qg,reduceCtorEq, *,-w1,-w2,-w3,-hsh];first|done|rfl));(focus(simp only[go_sem,↓reduceIte,Qa,Qh,Qb,Qc,Qd,Qe,Qf,Qg,reduceCtorEq, *,-w1,-w2,-w3,-hsh];first|done|rfl)))
 | (with_reducible first|assumption|(refine Qw hK _ ?_;clear hK K)|refine Qw ‹_› _ ?_|refine Qx ‹_› ?_|refine Qi fun K hK=>?_|refine Qj T fun K hK=>?_|refine Qk (id:=6) T mixed Jfr (by kernel_rfl) fun K hK=>?_|refine Ql fun A B hA hB=>?_|refine Qn ?_|refine Qr ?_)
 |(with_reducible first|apply Qy|apply Qz|apply QA)<;>intro hb<;>try simp only[nr] at hb
 |simp only[go_sem,↓reduceIte,Qa,Qh,Qb,Qc,Qd,Qe,Qf,Qg,reduceCtorEq, *,-w1,-w2,-w3,-hsh]
 |intro(bn:Bool) hbn))
   all_goals trace_state
 ·rw[if_neg he]
  simp only
  clear w3
  refine Vs call97 func97 rfl ntmps97 results97 fun ts hn h0 h1 h2=>?_
  (repeat' (first
 | (with_reducible first|refine callX.by (w1) ?_|refine callX.by (w2) ?_|assumption|(refine Qw hK _ ?_;clear hK K)|refine Qw ‹_› _ ?_|refine Qx ‹_› ?_|refine Qi fun K hK=>?_|refine Qj T fun K hK=>?_|refine Qk (id:=6) T mixed Jfr (by kernel_rfl) fun K hK=>?_|refine Ql fun A B hA hB=>?_|refine Qn ?_|refine Qr ?_)
 |(with_reducible first|apply Qy|apply Qz|apply QA)<;>intro hb<;>try simp only[nr] at hb
 |simp only[go_sem,↓reduceIte,Qa,Qh,Qb,Qc,Qd,Qe,Qf,Qg,reduceCtorEq, *,-w1,-w2]
 |intro(bn:Bool) hbn))
  all_goals trace_state
theorem saneW_iff{w:Warm}:VF w=true↔Yd w.c=true∧w.shown=VP w.c∧(w.ready=true∨w.shown=[]):=by
 unfold VF
 simp only[Bool.and_eq_true,Bool.or_eq_true,decide_eq_true_eq,and_assoc]
theorem Jki{c:Cache}(h:Yd c=true):VP c=Yc c.l:=by unfold VP Vx;rw[if_pos h]
theorem Je6{w:Warm}(h:VF w=true)(adds:List Res)(gone:List Key) :
  JX w adds gone=if(J7 w.c adds gone).2=0 then (if VP (J7 w.c adds gone).1=w.shown then (⟨(J7 w.c adds gone).1,w.ready,w.shown⟩,false,0) else (⟨(J7 w.c adds gone).1,true,VP (J7 w.c adds gone).1⟩,true,0)) else (w,false,(J7 w.c adds gone).2):=by
 have hof:Yy w=w:=by unfold Yy;rw[if_pos h]
 unfold JX
 rw[hof]
theorem Jks{w:Warm}(h:VF w=true)(adds:List Res)(gone:List Key):VF (JX w adds gone).1=true:=by
 rw[Je6 h]
 have hw:=saneW_iff.1 h
 split
 ·split
  ·rename_i hs
   exact saneW_iff.2 ⟨Jhn hw.1 adds gone,hs.symm,hw.2.2⟩
  ·exact saneW_iff.2 ⟨Jhn hw.1 adds gone,rfl,.inl rfl⟩
 ·exact h
theorem Jq8{w:Warm}(h:VF w=true)(adds:List Res)(gone:List Key):(JX w adds gone).2.1=!decide (w.shown=(JX w adds gone).1.shown):=by
 rw[Je6 h]
 split
 ·split
  ·simp
  ·rename_i hs
   simp[Ne.symm hs]
 ·simp
theorem Jq6{w:Warm}(h:VF w=true){adds:List Res}{gone:List Key}{x:Res}(hx:x∈(JX w adds gone).1.c.l):x∈w.c.l∨x∈adds:=by
 rw[Je6 h] at hx
 split at hx
 ·split at hx<;>exact Jho hx
 ·exact .inl hx
theorem Jq7{w:Warm}(h:VF w=true)(adds:List Res)(gone:List Key):(JX w adds gone).1.ready=(w.ready || (JX w adds gone).2.1):=by
 rw[Je6 h]
 split
 ·split<;>simp
 ·simp
theorem Jka{w:Warm}(h:VF w=true):w.c.l.length≤64:=Jrn (saneC_iff.1 (saneW_iff.1 h).1).2.1
theorem Jkb{w:Warm}(h:VF w=true):w.shown=Yc w.c.l:=by
 have hw:=saneW_iff.1 h
 rw[hw.2.1,Jki hw.1]
theorem JqD{w:Warm}(h:VF w=true):w.shown.length≤64:=by
 rw[Jkb h]
 exact Nat.le_trans (Jgt _) (Jka h)
theorem JqE{w:Warm}(h:VF w=true){x:Res}(hx:x∈w.shown):x∈w.c.l:=by
 rw[Jkb h] at hx
 exact(JjJ _).subset hx
theorem Jpa(n:Int):VF ⟨⟨VT n,[]⟩,false,[]⟩=true:=by
 refine saneW_iff.2 ⟨Ji6 n,?_,.inr rfl⟩
 rw[Jki (Ji6 n)]
 show[]=Yc []
 decide
theorem JaI(next:Int)(xs:List Snap)(hl:Jc xs.length)(hs:∀x∈xs,Yp x)(ht:Jc (JZ xs).length):CallR prog 80 [.agg [.int .i64 next,.slice false (Ja xs)]] (.own 2 (Ja (JV ⟨next,xs⟩))):=by
 have hl2:Jc (Jq ⟨next,xs⟩).snaps.length:=Jco hl
 have hs2:∀x∈(Jq ⟨next,xs⟩).snaps,Jc x.l.length:=by
  unfold Jq;split
  ·exact fun x hx=>(hs x hx).1
  ·simp
 have ht2:Jc (JZ (Jq ⟨next,xs⟩).snaps).length:=by
  unfold Jq;split
  ·exact ht
  ·simp[JZ,Jc]
 have ht3:Jc (JM (JZ (Jq ⟨next,xs⟩).snaps)).length:=by rw[JaB];exact ht2
 refine Jl call80 func80 rfl ntmps80 results80 fun ts hn h0=>?_
 (repeat' (first
 | (with_reducible first|refine callX.by (ZO _ _ ?_) ?_|refine callX.by (JgX _ ?_) ?_)
 | (with_reducible refine callX.ar ?_ ?_ (ZS ?_ ?_);(focus(simp only[go_sem,↓reduceIte,Qa,Qh,Qb,Qc,Qd,Qe,Qf,Qg,reduceCtorEq, *];first|done|rfl)))
 |with_reducible refine callX.by (Vv _ _ _ _) ?_
 | (with_reducible refine callX.mv ?_ ?_ ?_ (ZF ?_ ?_);(focus(simp only[go_sem,↓reduceIte,Qa,Qh,Qb,Qc,Qd,Qe,Qf,Qg,reduceCtorEq, *];first|done|rfl));(focus(simp only[go_sem,↓reduceIte,Qa,Qh,Qb,Qc,Qd,Qe,Qf,Qg,reduceCtorEq, *];first|done|rfl)))
 | (with_reducible first|assumption|(refine Qw hK _ ?_;clear hK K)|refine Qw ‹_› _ ?_|refine Qx ‹_› ?_|refine Qi fun K hK=>?_|refine Qj T fun K hK=>?_|refine Ql fun A B hA hB=>?_|refine Qm ?_|refine Qn ?_|refine Qp ?_|refine Qr ?_)
 |(with_reducible first|apply Qy|apply Qz|apply QA)<;>intro hb<;>try simp only[nr] at hb
 |simp only[go_sem,↓reduceIte,Qa,Qh,Qb,Qc,Qd,Qe,Qf,Qg,reduceCtorEq, *]
 |intro(bn:Bool) hbn))
 refine SpecC.ent (Ent.virt 3 2 (by simp only[go_sem,↓reduceIte,Qa,Qh,Qb,Qc,Qd,Qe,Qf,Qg,reduceCtorEq, *]) (by decide)) ?_
 refine SpecC.loopF [8,9] (fun m ts'=>∃(i:Nat),∃(g:Nat),∃(ys:List Key),m=(Jq ⟨next,xs⟩).snaps.length-i∧i≤(Jq ⟨next,xs⟩).snaps.length∧JZ (Jq ⟨next,xs⟩).snaps=ys++JZ ((Jq ⟨next,xs⟩).snaps.drop i)∧ts'.tmp 3=.os 3 g ys.length∧ts'.gen 3=g∧ts'.obj 3=.arr 2 (Ja ys)∧ts'.tmp 10=.int .i64 i) (Jq ⟨next,xs⟩).snaps.length ?_ ?_
 ·refine⟨0,ts.gen 3+1,[],rfl,Nat.zero_le _,rfl,?_⟩
  simp only[go_sem,↓reduceIte,Qa,Qh,Qb,Qc,Qd,Qe,Qf,Qg,reduceCtorEq, *,Vp]
 ·rintro m A hM ts' hk ⟨i,g,ys,hm,f1,f2,s1,s2,s3,s4⟩
  simp only[go_sem,↓reduceIte,Qa,Qh,Qb,Qc,Qd,Qe,Qf,Qg,reduceCtorEq, *] at hk
  by_cases hlt:i<(Jq ⟨next,xs⟩).snaps.length
  ·rw[List.drop_eq_getElem_cons hlt,Jiz] at f2
   have hsi:=hs2 _ (List.getElem_mem hlt)
   have hlen:=congrArg List.length f2
   rw[List.length_append,List.length_append,List.length_map] at hlen
   have hr1:Vt (ys.length+(Jq ⟨next,xs⟩).snaps[i].l.length) 24:=Jbw (by unfold Jc at ht2;omega) (by decide)
   have htk:((Jq ⟨next,xs⟩).snaps[i].l.map Jo).take (Jq ⟨next,xs⟩).snaps[i].l.length=(Jq ⟨next,xs⟩).snaps[i].l.map Jo:=List.take_of_length_le (by simp)
   (repeat' (first
 | (with_reducible first|refine callX.by (ZO _ _ ?_) ?_|refine callX.by (JgX _ ?_) ?_)
 | (with_reducible refine callX.ar ?_ ?_ (ZS ?_ ?_);(focus(simp only[go_sem,↓reduceIte,Qa,Qh,Qb,Qc,Qd,Qe,Qf,Qg,reduceCtorEq, *,List.length_map,-hlen,-f2];first|done|rfl)))
 |with_reducible refine callX.by (Vv _ _ _ _) ?_
 | (with_reducible refine callX.mv ?_ ?_ ?_ (ZF ?_ ?_);(focus(simp only[go_sem,↓reduceIte,Qa,Qh,Qb,Qc,Qd,Qe,Qf,Qg,reduceCtorEq, *,List.length_map,-hlen,-f2];first|done|rfl));(focus(simp only[go_sem,↓reduceIte,Qa,Qh,Qb,Qc,Qd,Qe,Qf,Qg,reduceCtorEq, *,List.length_map,-hlen,-f2];first|done|rfl)))
 | (with_reducible first|assumption|(refine Qw hK _ ?_;clear hK K)|refine Qw ‹_› _ ?_|refine Qx ‹_› ?_|refine Qi fun K hK=>?_|refine Qj T fun K hK=>?_|refine Ql fun A B hA hB=>?_|refine Qm ?_|refine Qn ?_|refine Qp ?_|refine Qr ?_)
 |(with_reducible first|apply Qy|apply Qz|apply QA)<;>intro hb<;>try simp only[nr] at hb
 |simp only[go_sem,↓reduceIte,Qa,Qh,Qb,Qc,Qd,Qe,Qf,Qg,reduceCtorEq, *,List.length_map,-hlen,-f2]
 |intro(bn:Bool) hbn))
   all_goals ((repeat clear hK);(repeat clear hA);(repeat clear hB))
   (refine hM.onE ((Jq ⟨next,xs⟩).snaps.length-(i+1)) (Ent.ren 3 18 ?_ ?_) ?_ ?_ ?_;(focus(simp only[go_sem,↓reduceIte,Qa,Qh,Qb,Qc,Qd,Qe,Qf,Qg,reduceCtorEq, *,Jg hlt hl2,List.length_map,List.length_append,-hlen,-f2];first|done|rfl));(focus(simp only[go_sem,↓reduceIte,Qa,Qh,Qb,Qc,Qd,Qe,Qf,Qg,reduceCtorEq, *,Jg hlt hl2,List.length_map,List.length_append,-hlen,-f2];first|done|rfl));omega;(focus(simp only[go_sem,↓reduceIte,Qa,Qh,Qb,Qc,Qd,Qe,Qf,Qg,reduceCtorEq, *,Jg hlt hl2,List.length_map,List.length_append,-hlen,-f2];done));refine⟨i+1,g+1,ys++(Jq ⟨next,xs⟩).snaps[i].l.map Jo,rfl,by omega,by rw[f2,List.append_assoc],?_⟩;simp only[go_sem,↓reduceIte,Qa,Qh,Qb,Qc,Qd,Qe,Qf,Qg,reduceCtorEq, *,Jg hlt hl2,List.length_map,List.length_append,-hlen,-f2];done)
  ·rw[List.drop_eq_nil_of_le (by omega)] at f2
   have e:ys=JZ (Jq ⟨next,xs⟩).snaps:=by rw[f2];simp[JZ]
   subst e
   clear f2
   have hk1:=JaB (JZ (Jq ⟨next,xs⟩).snaps)
   have htk:(JM (JZ (Jq ⟨next,xs⟩).snaps)).take (JZ (Jq ⟨next,xs⟩).snaps).length=JM (JZ (Jq ⟨next,xs⟩).snaps):=List.take_of_length_le (by omega)
   (repeat' (first
 | (with_reducible first|refine callX.by (ZO _ _ ?_) ?_|refine callX.by (JgX _ ?_) ?_)
 | (with_reducible refine callX.ar ?_ ?_ (ZS ?_ ?_);(focus(simp only[go_sem,↓reduceIte,Qa,Qh,Qb,Qc,Qd,Qe,Qf,Qg,reduceCtorEq, *,Nat.le_refl];first|done|rfl)))
 |with_reducible refine callX.by (Vv _ _ _ _) ?_
 | (with_reducible refine callX.mv ?_ ?_ ?_ (ZF ?_ ?_);(focus(simp only[go_sem,↓reduceIte,Qa,Qh,Qb,Qc,Qd,Qe,Qf,Qg,reduceCtorEq, *,Nat.le_refl];first|done|rfl));(focus(simp only[go_sem,↓reduceIte,Qa,Qh,Qb,Qc,Qd,Qe,Qf,Qg,reduceCtorEq, *,Nat.le_refl];first|done|rfl)))
 | (with_reducible first|assumption|(refine Qw hK _ ?_;clear hK K)|refine Qw ‹_› _ ?_|refine Qx ‹_› ?_|refine Qi fun K hK=>?_|refine Qj T fun K hK=>?_|refine Ql fun A B hA hB=>?_|refine Qm ?_|refine Qn ?_|refine Qp ?_|refine Qr ?_)
 |(with_reducible first|apply Qy|apply Qz|apply QA)<;>intro hb<;>try simp only[nr] at hb
 |simp only[go_sem,↓reduceIte,Qa,Qh,Qb,Qc,Qd,Qe,Qf,Qg,reduceCtorEq, *,Nat.le_refl]
 |intro(bn:Bool) hbn))
   all_goals ((repeat clear hK);(repeat clear hA);(repeat clear hB))
   all_goals rfl
end Go.Proofs.YthjalhfmpffbjaaGreatDoor.Lg
