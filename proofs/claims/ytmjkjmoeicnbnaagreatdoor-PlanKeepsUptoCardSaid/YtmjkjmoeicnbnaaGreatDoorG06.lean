/- Parts of the proof, one behind the other. -/
import Derived.Lib.Bytealg
import Derived.Test.YtmjkjmoeicnbnaaGreatDoorG05
namespace Go.Proofs.YtmjkjmoeicnbnaaGreatDoor.Lg
set_option maxRecDepth 100000
set_option linter.unusedVariables false
set_option linter.unusedSimpArgs false
open Go
open Nat renaming reduceEqDiff → Qa, reduceLT → Qb, reduceLeDiff → Qc, reduceAdd → Qd, reduceMul → Qe, reduceSub → Qf, reduceBEq → Qg
open String renaming reduceEq → Qh
open SpecC renaming seqW → Qi, regW → Qj, condW → Ql, block → Qm, skip → Qn, exit → Qp, ret → Qr, loopF → Qs
open NxK renaming out → Qw
open Nx renaming out → Qx
open condK renaming split → Qy
open gK renaming split_t → Qz, split_f → QA
open CallR renaming go1 → QD
theorem rkey_c (kind ver port:Int) (name to:List UInt8) (rs:List Rule) (hs:List Int):CallR Tryz.prog 63 [.agg [.int .i64 kind,.str name,.int .i64 ver,.int .i64 port,.str to,.slice false (avs rs),.slice false (avs hs)]] (.val (.agg [.int .i64 kind,.str name])):=by
 refine QD (T:=T) Tryz.call63 Tryz.func63 rfl Tryz.ntmps63 (congrArg Array.toList Tryz.results63) (by decide) fun ts hn h0=>?_
 (repeat' (first
 | (with_reducible first|assumption|(refine Qw hK _ ?_; clear hK K)|refine Qw ‹_› _ ?_|refine Qx ‹_› ?_|refine Qi fun K hK=>?_|refine Qj T fun K hK=>?_|refine Ql fun A B hA hB=>?_|refine Qn ?_|refine Qr ?_)
 | ((with_reducible first|apply Qy|apply Qz|apply QA)<;>intro hb<;>try simp only [nr] at hb)
 | simp only [go_sem,↓reduceIte,reduceIte,Qa,Qh,Qb,Qc,Qd,Qe,Qf,Qg,reduceCtorEq, *]
 | with_reducible refine fun (bn:Bool) hbn=>?_))
def keyOf (r:Res):Key:=⟨r.kind,r.name⟩
theorem tkeys_c (xs:List Res) (hl:Small xs.length):CallR Tryz.prog 90 [.slice false (avs xs)] (.own 2 (avs (xs.map keyOf))):=by
 refine QD (T:=T) Tryz.call90 Tryz.func90 rfl Tryz.ntmps90 (congrArg Array.toList Tryz.results90) (by decide) fun ts hn h0=>?_
 (repeat' (first
 | (with_reducible first|refine callX.by (rkey_c _ _ _ _ _ _ _) ?_|assumption|(refine Qw hK _ ?_; clear hK K)|refine Qw ‹_› _ ?_|refine Qx ‹_› ?_|refine Qi fun K hK=>?_|refine Qj T fun K hK=>?_|refine Ql fun A B hA hB=>?_|refine Qm ?_|refine Qn ?_|refine Qp ?_|refine Qr ?_)
 | ((with_reducible first|apply Qy|apply Qz|apply QA)<;>intro hb<;>try simp only [nr] at hb)
 | simp only [go_sem,↓reduceIte,reduceIte,Qa,Qh,Qb,Qc,Qd,Qe,Qf,Qg,reduceCtorEq, *]
 | with_reducible refine fun (bn:Bool) hbn=>?_))
 refine SpecC.virt 3 16 2 (by decide) (by simp only [go_sem,↓reduceIte,reduceIte,Qa,Qh,Qb,Qc,Qd,Qe,Qf,Qg,reduceCtorEq, *]) ?_
 refine Qs [6,7] (fun m ts'=>∃ (i:Nat),∃ (g:Nat),m=xs.length - i∧i≤xs.length∧ts'.tmp 3=.os 16 g i∧ts'.gen 16=g∧ts'.obj 16=.arr 2 (avs ((xs.take i).map keyOf))∧ts'.tmp 8=.int .i64 i) xs.length ?_ ?_
 ·refine ⟨0,ts.gen 16+1,?_⟩
  simp only [go_sem,↓reduceIte,reduceIte,Qa,Qh,Qb,Qc,Qd,Qe,Qf,Qg,reduceCtorEq, *,List.map_nil,avs_nil]
 ·rintro m A hM ts' hk ⟨i,g,hm,f1,s1,s2,s3,s4⟩
  simp only [go_sem,↓reduceIte,reduceIte,Qa,Qh,Qb,Qc,Qd,Qe,Qf,Qg,reduceCtorEq, *] at hk
  have hlen:(avs ((xs.take i).map keyOf)).length=i:=by simp [avs,f1]
  have hr:Room (i+1) 24:=room_small (by unfold Small at hl; omega) (by decide)
  have htk:(avs ((xs.take i).map keyOf)).take i=avs ((xs.take i).map keyOf):=List.take_of_length_le (by omega)
  (repeat' (first
 | (with_reducible first|refine callX.by (rkey_c _ _ _ _ _ _ _) ?_|assumption|(refine Qw hK _ ?_; clear hK K)|refine Qw ‹_› _ ?_|refine Qx ‹_› ?_|refine Qi fun K hK=>?_|refine Qj T fun K hK=>?_|refine Ql fun A B hA hB=>?_|refine Qm ?_|refine Qn ?_|refine Qp ?_|refine Qr ?_)
 | ((with_reducible first|apply Qy|apply Qz|apply QA)<;>intro hb<;>try simp only [nr] at hb)
 | simp only [go_sem,↓reduceIte,reduceIte,Qa,Qh,Qb,Qc,Qd,Qe,Qf,Qg,reduceCtorEq, *]
 | with_reducible refine fun (bn:Bool) hbn=>?_))
  all_goals ((repeat clear hK); (repeat clear hA); (repeat clear hB))
  ·have e:xs.take (i+1)=xs.take i++[xs[i]]:=by rw [List.take_add_one,List.getElem?_eq_getElem hb]; rfl
   (refine hM.on (xs.length - (i+1)) (by omega) (by simp only [go_sem,↓reduceIte,reduceIte,Qa,Qh,Qb,Qc,Qd,Qe,Qf,Qg,reduceCtorEq, *,w64_nat hb hl,e,List.map_append,keyOf]) ⟨i+1,ts'.gen 16+1,rfl,by omega,?_⟩; simp only [go_sem,↓reduceIte,reduceIte,Qa,Qh,Qb,Qc,Qd,Qe,Qf,Qg,reduceCtorEq, *,w64_nat hb hl,e,List.map_append,keyOf]; done)
  ·have hi2:i=xs.length:=by omega
   subst hi2
   simp [avs]
theorem isNaN_c (n:Int):CallR Tryz.prog 173 [.int .i64 n] (.val (.bool false)):=by
 refine QD (T:=T) Tryz.call173 Tryz.func173 rfl Tryz.ntmps173 (congrArg Array.toList Tryz.results173) (by decide) fun ts hn h0=>?_
 (repeat' (first
 | (with_reducible first|assumption|(refine Qw hK _ ?_; clear hK K)|refine Qw ‹_› _ ?_|refine Qx ‹_› ?_|refine Qi fun K hK=>?_|refine Qj T fun K hK=>?_|refine Ql fun A B hA hB=>?_|refine Qn ?_|refine Qr ?_)
 | ((with_reducible first|apply Qy|apply Qz|apply QA)<;>intro hb<;>try simp only [nr] at hb)
 | simp only [go_sem,↓reduceIte,reduceIte,Qa,Qh,Qb,Qc,Qd,Qe,Qf,Qg,reduceCtorEq, *]
 | with_reducible refine fun (bn:Bool) hbn=>?_))
def icmp (a b:Int):Int:=if a < b then -1 else if b < a then 1 else 0
theorem icmp_c (a b:Int):CallR Tryz.prog 131 [.int .i64 a,.int .i64 b] (.val (.int .i64 (icmp a b))):=by
 refine CallR.go2 (T:=T) Tryz.call131 Tryz.func131 rfl Tryz.ntmps131 (congrArg Array.toList Tryz.results131) (by decide) fun ts hn h0 h1=>?_
 (repeat' (first
 | (with_reducible first|refine callX.by (isNaN_c _) ?_|assumption|(refine Qw hK _ ?_; clear hK K)|refine Qw ‹_› _ ?_|refine Qx ‹_› ?_|refine Qi fun K hK=>?_|refine Qj T fun K hK=>?_|refine Ql fun A B hA hB=>?_|refine Qn ?_|refine Qr ?_)
 | ((with_reducible first|apply Qy|apply Qz|apply QA)<;>intro hb<;>try simp only [nr] at hb)
 | simp only [go_sem,↓reduceIte,reduceIte,Qa,Qh,Qb,Qc,Qd,Qe,Qf,Qg,reduceCtorEq, *]
 | with_reducible refine fun (bn:Bool) hbn=>?_))
 all_goals simp [icmp, *]
def scmp (a b:List UInt8):Int:=Lib.compareBytes a b
set_option maxRecDepth 100000 in
theorem cmpstring_c (a b:List UInt8):CallR Tryz.prog 227 [.str a,.str b] (.val (.int .i64 (scmp a b))):=by
 refine CallP.extn rfl fun vals w c hs hv=>?_
 have h0:=hv 0
 have h1:=hv 1
 obtain ⟨s,e0,hs0⟩:=rep_str h0
 obtain ⟨t,e1,hs1⟩:=rep_str h1
 have hvals:vals=#[.string s,.string t]:=by
  apply Array.ext
  ·simpa using hs
  ·intro i h1 h2
   have hi:i < 2:=by rw [hs] at h1; simpa using h1
   match i,hi with
   | 0,_=>rw [Array.getD_eq_getD_getElem?,Array.getElem?_eq_getElem h1] at e0; simpa using e0
   | 1,_=>rw [Array.getD_eq_getD_getElem?,Array.getElem?_eq_getElem h1] at e1; simpa using e1
 refine ⟨_,?_,.int _ _⟩
 rw [hvals,run_callFunc_extern Tryz.func227 (by kernel_rfl) (by kernel_rfl) (by kernel_rfl) (e:=Extern.BytealgCompare.compare) (by kernel_rfl),Lib.run_compareString]
 simp only [Result.andThen,scmp,hs0,hs1]
theorem cmpString_c (a b:List UInt8):CallR Tryz.prog 211 [.str a,.str b] (.val (.int .i64 (scmp a b))):=by
 refine CallR.go2 (T:=T) Tryz.call211 Tryz.func211 rfl Tryz.ntmps211 (congrArg Array.toList Tryz.results211) (by decide) fun ts hn h0 h1=>?_
 (repeat' (first
 | (with_reducible first|refine callX.by (cmpstring_c _ _) ?_|assumption|(refine Qw hK _ ?_; clear hK K)|refine Qw ‹_› _ ?_|refine Qx ‹_› ?_|refine Qi fun K hK=>?_|refine Qj T fun K hK=>?_|refine Ql fun A B hA hB=>?_|refine Qn ?_|refine Qr ?_)
 | ((with_reducible first|apply Qy|apply Qz|apply QA)<;>intro hb<;>try simp only [nr] at hb)
 | simp only [go_sem,↓reduceIte,reduceIte,Qa,Qh,Qb,Qc,Qd,Qe,Qf,Qg,reduceCtorEq, *]
 | with_reducible refine fun (bn:Bool) hbn=>?_))
theorem sCompare_c (a b:List UInt8):CallR Tryz.prog 174 [.str a,.str b] (.val (.int .i64 (scmp a b))):=by
 refine CallR.go2 (T:=T) Tryz.call174 Tryz.func174 rfl Tryz.ntmps174 (congrArg Array.toList Tryz.results174) (by decide) fun ts hn h0 h1=>?_
 (repeat' (first
 | (with_reducible first|refine callX.by (cmpString_c _ _) ?_|assumption|(refine Qw hK _ ?_; clear hK K)|refine Qw ‹_› _ ?_|refine Qx ‹_› ?_|refine Qi fun K hK=>?_|refine Qj T fun K hK=>?_|refine Ql fun A B hA hB=>?_|refine Qn ?_|refine Qr ?_)
 | ((with_reducible first|apply Qy|apply Qz|apply QA)<;>intro hb<;>try simp only [nr] at hb)
 | simp only [go_sem,↓reduceIte,reduceIte,Qa,Qh,Qb,Qc,Qd,Qe,Qf,Qg,reduceCtorEq, *]
 | with_reducible refine fun (bn:Bool) hbn=>?_))
theorem nCmp_c (a b:List UInt8):CallR Tryz.prog 132 [.str a,.str b] (.val (.int .i64 (scmp a b))):=by
 refine CallR.go2 (T:=T) Tryz.call132 Tryz.func132 rfl Tryz.ntmps132 (congrArg Array.toList Tryz.results132) (by decide) fun ts hn h0 h1=>?_
 (repeat' (first
 | (with_reducible first|refine callX.by (sCompare_c _ _) ?_|assumption|(refine Qw hK _ ?_; clear hK K)|refine Qw ‹_› _ ?_|refine Qx ‹_› ?_|refine Qi fun K hK=>?_|refine Qj T fun K hK=>?_|refine Ql fun A B hA hB=>?_|refine Qn ?_|refine Qr ?_)
 | ((with_reducible first|apply Qy|apply Qz|apply QA)<;>intro hb<;>try simp only [nr] at hb)
 | simp only [go_sem,↓reduceIte,reduceIte,Qa,Qh,Qb,Qc,Qd,Qe,Qf,Qg,reduceCtorEq, *]
 | with_reducible refine fun (bn:Bool) hbn=>?_))
def ior:List Int→Int
 | []=>0
 | x :: r=>if x=0 then ior r else x
theorem ior_c (xs:List Int) (hl:Small xs.length):CallR Tryz.prog 130 [.slice false (avs xs)] (.val (.int .i64 (ior xs))):=by
 refine QD (T:=T) Tryz.call130 Tryz.func130 rfl Tryz.ntmps130 (congrArg Array.toList Tryz.results130) (by decide) fun ts hn h0=>?_
 (repeat' (first
 | (with_reducible first|assumption|(refine Qw hK _ ?_; clear hK K)|refine Qw ‹_› _ ?_|refine Qx ‹_› ?_|refine Qi fun K hK=>?_|refine Qj T fun K hK=>?_|refine Ql fun A B hA hB=>?_|refine Qm ?_|refine Qn ?_|refine Qp ?_|refine Qr ?_)
 | ((with_reducible first|apply Qy|apply Qz|apply QA)<;>intro hb<;>try simp only [nr] at hb)
 | simp only [go_sem,↓reduceIte,reduceIte,Qa,Qh,Qb,Qc,Qd,Qe,Qf,Qg,reduceCtorEq, *]
 | with_reducible refine fun (bn:Bool) hbn=>?_))
 refine Qs [3,6,7] (fun m ts'=>∃ (i:Nat),m=xs.length - i∧i≤xs.length∧ior xs=ior (xs.drop i)∧ts'.tmp 8=.int .i64 i) xs.length ?_ ?_
 ·refine ⟨0,?_⟩
  simp only [go_sem,↓reduceIte,reduceIte,Qa,Qh,Qb,Qc,Qd,Qe,Qf,Qg,reduceCtorEq, *]
 ·rintro m A hM ts' hk ⟨i,hm,f1,f2,s1⟩
  simp only [go_sem,↓reduceIte,reduceIte,Qa,Qh,Qb,Qc,Qd,Qe,Qf,Qg,reduceCtorEq, *] at hk
  by_cases hlt:i < xs.length
  ·rw [List.drop_eq_getElem_cons hlt,ior] at f2
   (repeat' (first
 | (with_reducible first|assumption|(refine Qw hK _ ?_; clear hK K)|refine Qw ‹_› _ ?_|refine Qx ‹_› ?_|refine Qi fun K hK=>?_|refine Qj T fun K hK=>?_|refine Ql fun A B hA hB=>?_|refine Qm ?_|refine Qn ?_|refine Qp ?_|refine Qr ?_)
 | ((with_reducible first|apply Qy|apply Qz|apply QA)<;>intro hb<;>try simp only [nr] at hb)
 | simp only [go_sem,↓reduceIte,reduceIte,Qa,Qh,Qb,Qc,Qd,Qe,Qf,Qg,reduceCtorEq, *]
 | with_reducible refine fun (bn:Bool) hbn=>?_))
   all_goals ((repeat clear hK); (repeat clear hA); (repeat clear hB))
   ·simp [of_decide_eq_false hb]
   ·rw [if_pos (of_decide_eq_true hb)] at f2
    (refine hM.on (xs.length - (i+1)) (by omega) (by simp only [go_sem,↓reduceIte,reduceIte,Qa,Qh,Qb,Qc,Qd,Qe,Qf,Qg,reduceCtorEq, *,w64_nat hlt hl,-f2]) ⟨i+1,rfl,by omega,f2,?_⟩; simp only [go_sem,↓reduceIte,reduceIte,Qa,Qh,Qb,Qc,Qd,Qe,Qf,Qg,reduceCtorEq, *,w64_nat hlt hl,-f2]; done)
  ·rw [List.drop_eq_nil_of_le (by omega),ior] at f2
   (repeat' (first
 | (with_reducible first|assumption|(refine Qw hK _ ?_; clear hK K)|refine Qw ‹_› _ ?_|refine Qx ‹_› ?_|refine Qi fun K hK=>?_|refine Qj T fun K hK=>?_|refine Ql fun A B hA hB=>?_|refine Qm ?_|refine Qn ?_|refine Qp ?_|refine Qr ?_)
 | ((with_reducible first|apply Qy|apply Qz|apply QA)<;>intro hb<;>try simp only [nr] at hb)
 | simp only [go_sem,↓reduceIte,reduceIte,Qa,Qh,Qb,Qc,Qd,Qe,Qf,Qg,reduceCtorEq, *]
 | with_reducible refine fun (bn:Bool) hbn=>?_))
def kcmp (a b:Key):Int:=ior [icmp a.kind b.kind,scmp a.name b.name]
theorem kcmp_c (k1 k2:Int) (n1 n2:List UInt8):CallR Tryz.prog 73 [.agg [.int .i64 k1,.str n1],.agg [.int .i64 k2,.str n2]] (.val (.int .i64 (kcmp ⟨k1,n1⟩ ⟨k2,n2⟩))):=by
 have hor:=ior_c [icmp k1 k2,scmp n1 n2] (by simp [Small])
 simp only [avs,List.map_cons,List.map_nil,av_int] at hor
 refine CallR.go2 (T:=T) Tryz.call73 Tryz.func73 rfl Tryz.ntmps73 (congrArg Array.toList Tryz.results73) (by decide) fun ts hn h0 h1=>?_
 (repeat' (first
 | (with_reducible first|refine callX.by (hor) ?_|refine callX.by (icmp_c _ _) ?_|refine callX.by (nCmp_c _ _) ?_|refine callX.by (ior_c _ ?_) ?_|assumption|(refine Qw hK _ ?_; clear hK K)|refine Qw ‹_› _ ?_|refine Qx ‹_› ?_|refine Qi fun K hK=>?_|refine Qj T fun K hK=>?_|refine SpecC.drawW (id:=1) T mixed [([5],[7,8,10,11,12,13]),([6],[7,8,10,11,12,13]),([7],[5,6,10,11,12,13]),([8],[5,6,10,11,12,13]),([9],[10,11,12,13]),([10],[5,6,7,8,9,12,13]),([11],[5,6,7,8,9,12,13]),([12],[5,6,7,8,9,10,11]),([13],[5,6,7,8,9,10,11])] (by kernel_rfl) fun K hK=>?_|refine Ql fun A B hA hB=>?_|refine Qn ?_|refine Qr ?_)
 | ((with_reducible first|apply Qy|apply Qz|apply QA)<;>intro hb<;>try simp only [nr] at hb)
 | simp only [go_sem,↓reduceIte,reduceIte,Qa,Qh,Qb,Qc,Qd,Qe,Qf,Qg,reduceCtorEq, *]
 | with_reducible refine fun (bn:Bool) hbn=>?_))
 all_goals rfl
structure BInv (E1:Env) (l:Nat) (c0:AV) (i:Int) (a:Go.Act) (w:World):Prop where
 ex:∃ ts G,Rel E1 ts G a w∧ts.n=19∧ts.tmp 1=c0∧ts.tmp 3=.int .i64 i∧ts.tmp 0=.clo (.yield l) [] []∧∀ d,ts.obj d=.dead
theorem evB {E:Env} {ts:TS} {G:Ghost} {a:Go.Act} {w:World} (hr:Rel E ts G a w) {t:Nat} {b:Bool} (h:ts.tmp t=.bool b):a.eval (.tmp t)=.bool b:=by
 have:=hr.ev (.tmp t)
 rw [show ts.ev (.tmp t)=.bool b from h] at this
 generalize a.eval (.tmp t)=v at *
 cases this
 rfl
theorem wpOpIn_at {P:Program} {ops:Array Oper} {F:Fence} {n i:Nat} {o:Oper} {K:Go.Act→World→Prop} {Q:Exit→Go.Act→World→Prop} {a:Go.Act} {w:World} (ho:ops[i]?=some o) (hg:o.guard=none) (h:o.wpIn F n P a w K Q):wpOpIn F n P ops Q i K a w:=by
 unfold wpOpIn
 rw [ho]
 dsimp only
 rw [if_pos (by simp [Region.wanted,hg])]
 exact h
theorem back_iter (xs:List Res) (hl:Small xs.length):IterOk Tryz.prog 201 (.ro [.slice false (avs xs)]) xs.length
  (fun k=>[.int .i64 ((xs.length:Int) - 1 - k),(avs xs).getD (xs.length - 1 - k) .any]):=by
 intro E1 G1 W l cv J hE hFX hrel hJs hY hJ0
 refine callsIn_of_wp Tryz.func201 rfl trivial ?_ rfl
 have hob:∀ d,(argTS [Arg.v (.clo (.yield l) [] []),Arg.v (.ro [.slice false (avs xs)])] 19).obj d=.dead:=fun d=>by
  match d with
  | 0=>rfl
  | 1=>rfl
  | d+2=>simp [argTS]
 have hr0:=argTS_rel (n:=19) (by simp) hrel
 rw [Tryz.ntmps201]
 refine wpIn_seq ?_
 refine wpIn_mono (SpecK.framed (S:=[0]) (Q:=fun ts'=>ts'.n=19∧ts'.tmp 1=.ro [.slice false (avs xs)]∧ts'.tmp 3=.int .i64 ((xs.length:Int) - 1)∧ts'.tmp 0=.clo (.yield l) [] []∧∀ d,ts'.obj d=.dead) ?_ wide_wide _ hr0) ?_
 ·refine SpecK.regW T (by kernel_rfl) fun K hK=>?_
  have hw:IntKind.i64.wrap ((xs.length:Int) - 1)=(xs.length:Int) - 1:=IntWalk.i64_in _ (by unfold Small at hl; omega)
  have h1:(argTS [Arg.v (.clo (.yield l) [] []),Arg.v (.ro [.slice false (avs xs)])] 19).tmp 1=.ro [.slice false (avs xs)]:=rfl
  have h0:(argTS [Arg.v (.clo (.yield l) [] []),Arg.v (.ro [.slice false (avs xs)])] 19).tmp 0=.clo (.yield l) [] []:=rfl
  have hn:(argTS [Arg.v (.clo (.yield l) [] []),Arg.v (.ro [.slice false (avs xs)])] 19).n=19:=rfl
  generalize argTS [Arg.v (.clo (.yield l) [] []),Arg.v (.ro [.slice false (avs xs)])] 19=t0 at *
  simp only [go_sem,↓reduceIte,reduceIte,Qa,Qh,Qb,Qc,Qd,Qe,Qf,Qg,reduceCtorEq, *]
  refine hK.out _ ⟨?_,?_,?_,?_,?_⟩
  all_goals simp only [go_sem,↓reduceIte,reduceIte,Qa,Qh,Qb,Qc,Qd,Qe,Qf,Qg,reduceCtorEq, *]
 ·rintro ex a1 W1 ⟨rfl,hk1,ts1,G2,⟨q1,q2,q3,q5,q4⟩,hr1,hb1,ho1⟩
  have hbF:Bel (fun _=>False) W W1:=hb1.into fun b _ ⟨d,hd,_⟩=>hd.1 (by rw [hob]; rfl)
  refine wpIn_block ?_
  refine wpIn_loop_rounds (xs.length+1) ?_
  refine (?_:∀ (i k:Nat) (a:Go.Act) (W:World),k+i=xs.length→BInv E1 l (.ro [.slice false (avs xs)]) ((i:Int) - 1) a W→J k W→Code.roundsIn Fence.wide 2 _ _ _ (i+1) a W) xs.length 0 a1 W1 (by omega) ⟨⟨ts1,G2,hr1,q1,q2,q3,q5,q4⟩⟩ (hJs _ _ _ hJ0 hbF)
  ·intro i
   induction i with
   | zero =>
    rintro k a W hki ⟨ts,G,hr,f1,f2,f3,f5,f4⟩ hJ
    rw [roundsIn_succ]
    refine wpIn_seq ?_
    refine wpIn_seq ?_
    refine wpIn_mono (SpecK.framed (S:=[0]) (Q:=fun ts'=>ts'.n=19∧ts'.tmp 8=.bool false∧∀ d,ts'.obj d=.dead) ?_ wide_wide _ hr) ?_
    ·refine SpecK.regW T (by kernel_rfl) fun K hK=>?_
     simp only [go_sem,↓reduceIte,reduceIte,Qa,Qh,Qb,Qc,Qd,Qe,Qf,Qg,reduceCtorEq, *]
     refine hK.out _ ⟨?_,?_,?_⟩
     all_goals simp only [go_sem,↓reduceIte,reduceIte,Qa,Qh,Qb,Qc,Qd,Qe,Qf,Qg,reduceCtorEq, *]
     all_goals decide
    ·rintro ex a2 W2 ⟨rfl,hk2,ts2,G3,⟨p1,p2,p3⟩,hr2,hb2,ho2⟩
     have hb2F:Bel (fun _=>False) W W2:=hb2.into fun b _ ⟨d,hd,_⟩=>hd.1 (by rw [f4]; rfl)
     refine wpIn_cond_false (evB hr2 p2) ?_
     refine wpIn_exit ?_
     simp only [Exit.then,Exit.inBlock]
     have hJn:J xs.length W2:=by have:=hJs _ _ _ hJ hb2F; rwa [show k=xs.length by omega] at this
     rw [if_pos trivial]
     refine bodyPost_end (results_none Tryz.results201 _ _ _) hr2.defers ?_
     exact ⟨⟨_,rfl⟩,hJn⟩
   | succ i ih =>
    rintro k a W hki ⟨ts,G,hr,f1,f2,f3,f5,f4⟩ hJ
    rw [roundsIn_succ]
    refine wpIn_seq ?_
    refine wpIn_seq ?_
    have hi0:(0:Int)≤(i:Int):=by omega
    have hlt:i < xs.length:=by omega
    rw [show (((i+1:Nat):Int) - 1)=(i:Int) by omega] at f3
    refine wpIn_mono (SpecK.framed (S:=[0]) (Q:=fun ts'=>ts'.n=19∧ts'.tmp 8=.bool true∧ts'.tmp 0=.clo (.yield l) [] []∧ts'.tmp 1=.ro [.slice false (avs xs)]∧ts'.tmp 3=.int .i64 (i:Int)∧∀ d,ts'.obj d=.dead) ?_ wide_wide _ hr) ?_
    ·refine SpecK.regW T (by kernel_rfl) fun K hK=>?_
     simp only [go_sem,↓reduceIte,reduceIte,Qa,Qh,Qb,Qc,Qd,Qe,Qf,Qg,reduceCtorEq, *]
     refine hK.out _ ⟨?_,?_,?_,?_,?_,?_⟩
     all_goals simp only [go_sem,↓reduceIte,reduceIte,Qa,Qh,Qb,Qc,Qd,Qe,Qf,Qg,reduceCtorEq, *]
     all_goals exact decide_eq_true hi0
    ·rintro ex a2 W2 ⟨rfl,hk2,ts2,G3,⟨p1,p2,p6,p3,p4,p5⟩,hr2,hb2,ho2⟩
     have hb2F:Bel (fun _=>False) W W2:=hb2.into fun b _ ⟨d,hd,_⟩=>hd.1 (by rw [f4]; rfl)
     refine wpIn_cond_true (evB hr2 p2) ?_
     refine wpIn_skip ?_
     simp only [Exit.then]
     refine wpIn_seq ?_
     refine wpIn_block ?_
     refine wpIn_seq ?_
     refine wpIn_region ?_
     refine wOps.soundTake (S:=[0]) 6 T wide_wide 2 (by kernel_rfl) (K:=fun ts'=>ts'.n=19∧ts'.tmp 11=.clo (.yield l) [] []∧ts'.tmp 0=.clo (.yield l) [] []∧ts'.tmp 12=.int .i64 (i:Int)∧ts'.tmp 16=(avs xs).getD i .any∧ts'.tmp 1=.ro [.slice false (avs xs)]∧ts'.tmp 3=.int .i64 (i:Int)∧∀ d,ts'.obj d=.dead) (fun K hK=>?_) hr2 ?_
     ·simp only [go_sem,List.take_succ_cons,List.take_zero,↓reduceIte,reduceIte,Qa,Qh,Qb,Qc,Qd,Qe,Qf,Qg,reduceCtorEq, *]
      refine hK.out _ ⟨?_,?_,?_,?_,?_,?_,?_,?_⟩
      all_goals simp only [go_sem,↓reduceIte,reduceIte,Qa,Qh,Qb,Qc,Qd,Qe,Qf,Qg,reduceCtorEq, *]
     ·rintro ts3 G4 a3 W3 ⟨n3,x11,x0,x12,x16,x1,x3,xo⟩ hr3 hk3 hb3
      have hb3F:Bel (fun _=>False) W2 W3:=hb3.into fun b _ ⟨d,hd,_⟩=>hd.1 (by rw [p5]; rfl)
      have hJ3:=hJs _ _ _ (hJs _ _ _ hJ hb2F) hb3F
      show wpOpsIn _ _ _ _ _ [6,7] _ _
      rw [wpOpsIn_cons]
      have hfy:a3.eval (.tmp 11)=.func (.yield l) #[] #[]:=by
       have:=hr3.ev (.tmp 11)
       rw [show ts3.ev (.tmp 11)=.clo (.yield l) [] [] from x11] at this
       generalize a3.eval (.tmp 11)=v at *
       cases this with
       | clo _ f1 c1 _ _ q0 q1 _ _ =>
        rw [show f1=#[] from Array.eq_empty_of_size_eq_zero (by simpa using q0),show c1=#[] from Array.eq_empty_of_size_eq_zero (by simpa using q1)]
      refine wpOpIn_at rfl rfl (wpIn_yield rfl hfy (hY k W3 _ (by omega) hJ3 rfl ?_) ?_)
      ·have hc:∀ {v:Value} {x:AV},Rep (ctxOf E1 G4 ts3 W3) v x→x.pure=true→Rep (ctxOf E1 G1 emptyTS W3) v x:=fun h hp=>Rep.mono_pure (c:=ctxOf E1 G4 ts3 W3) (c':=ctxOf E1 G1 emptyTS W3) (fun b hMb _=>⟨rfl,by
        rintro (hf|⟨d,hd,_⟩)
        ·exact hMb (.inl hf)
        ·exact hd.1 (by simp [ctxOf,emptyTS,argTS,Ob.kind])⟩) h hp
       have e1:=hr3.ev (.tmp 12)
       rw [show ts3.ev (.tmp 12)=.int .i64 (i:Int) from x12] at e1
       have e2:=hr3.ev (.tmp 16)
       rw [show ts3.ev (.tmp 16)=(avs xs).getD i .any from x16] at e2
       have hp2:((avs xs).getD i .any).pure=true:=by rw [avs_get xs i hlt]; exact Dat.pure _
       have hki:xs.length - 1 - k=i:=by omega
       have hkz:(xs.length:Int) - 1 - (k:Int)=(i:Int):=by omega
       intro j
       match j with
       | 0=>simp only [hkz]; exact hc e1 rfl
       | 1=>simp only [hki]; exact hc e2 hp2
       | j+2=>exact .any _
      ·rintro e B ⟨rfl,hJB,hbB⟩
       refine ⟨_,rfl,?_⟩
       have hrB:=(hr3.foreign (C:=E1.F) (fun _ h=>h) hbB (fun b h _=>hFX b h)).put (d:=17) (v:=.bool true) (x:=.bool true) (by rw [n3]; decide) (.bool _)
       refine wOps.soundDrop (S:=[0]) 7 T wide_wide 2 (by kernel_rfl) (K:=fun ts'=>ts'.n=19∧ts'.tmp 18=.bool false∧ts'.tmp 0=.clo (.yield l) [] []∧ts'.tmp 1=.ro [.slice false (avs xs)]∧ts'.tmp 3=.int .i64 (i:Int)∧∀ d,ts'.obj d=.dead) (fun K hK=>?_) hrB ?_
       ·simp only [go_sem,↓reduceIte,reduceIte,Qa,Qh,Qb,Qc,Qd,Qe,Qf,Qg,reduceCtorEq, *]
        refine hK.out _ ⟨?_,?_,?_,?_,?_,?_⟩
        all_goals simp only [go_sem,↓reduceIte,reduceIte,Qa,Qh,Qb,Qc,Qd,Qe,Qf,Qg,reduceCtorEq, *]
       ·rintro ts5 G5 a5 W5 ⟨n5,y18,y0,y1,y3,yo⟩ hr5 hk5 hb5
        have hb5F:Bel (fun _=>False) B W5:=hb5.into fun b _ ⟨d,hd,_⟩=>hd.1 (by show (ts3.obj d).kind=none; rw [xo]; rfl)
        have hJ5:=hJs _ _ _ hJB hb5F
        simp only [Exit.then]
        refine wpIn_cond_false (evB hr5 y18) ?_
        refine wpIn_skip ?_
        simp only [Exit.inBlock,Exit.then]
        refine wpIn_mono (SpecK.framed (S:=[0]) (Q:=fun ts'=>ts'.n=19∧ts'.tmp 1=.ro [.slice false (avs xs)]∧ts'.tmp 3=.int .i64 ((i:Int) - 1)∧ts'.tmp 0=.clo (.yield l) [] []∧∀ d,ts'.obj d=.dead) ?_ wide_wide _ hr5) ?_
        ·refine SpecK.regW T (by kernel_rfl) fun K hK=>?_
         have hw:IntKind.i64.wrap ((i:Int) - 1)=(i:Int) - 1:=IntWalk.i64_in _ (by unfold Small at hl; omega)
         simp only [go_sem,↓reduceIte,reduceIte,Qa,Qh,Qb,Qc,Qd,Qe,Qf,Qg,reduceCtorEq, *]
         refine hK.out _ ⟨?_,?_,?_,?_,?_⟩
         all_goals simp only [go_sem,↓reduceIte,reduceIte,Qa,Qh,Qb,Qc,Qd,Qe,Qf,Qg,reduceCtorEq, *]
        ·rintro ex a6 W6 ⟨rfl,hk6,ts6,G6,⟨z1,z2,z3,z4,z5⟩,hr6,hb6,ho6⟩
         have hb6F:Bel (fun _=>False) W5 W6:=hb6.into fun b _ ⟨d,hd,_⟩=>hd.1 (by rw [yo]; rfl)
         exact ih (k+1) a6 W6 (by omega) ⟨ts6,G6,hr6,z1,z2,z3,z4,z5⟩ (hJs _ _ _ hJ5 hb6F)
theorem back_c (xs:List Res):CallR Tryz.prog 160 [.slice false (avs xs)] (.val (.clo (.func 201) [] [.ro [.slice false (avs xs)]])):=by
 refine QD (T:=T) Tryz.call160 Tryz.func160 rfl Tryz.ntmps160 (congrArg Array.toList Tryz.results160) (by decide) fun ts hn h0=>?_
 (repeat' (first
 | (with_reducible first|assumption|(refine Qw hK _ ?_; clear hK K)|refine Qw ‹_› _ ?_|refine Qx ‹_› ?_|refine Qi fun K hK=>?_|refine Qj T fun K hK=>?_|refine Ql fun A B hA hB=>?_|refine Qn ?_|refine Qr ?_)
 | ((with_reducible first|apply Qy|apply Qz|apply QA)<;>intro hb<;>try simp only [nr] at hb)
 | simp only [go_sem,↓reduceIte,reduceIte,Qa,Qh,Qb,Qc,Qd,Qe,Qf,Qg,reduceCtorEq, *]
 | with_reducible refine fun (bn:Bool) hbn=>?_))
theorem Rep.ref0 {c c':Ctx} {d g o:Nat} {v:Value} (hβ:c'.β=c.β) (hk:c'.kind d≠none→c.kind d≠none) (hg:g=c.gen d) (h:Rep c v (.ref d g o)):Rep c' v (.ref d 0 o):=by
 cases h with
 | ref _ _ _ _ h1 _ h=>exact .ref d 0 o v h1 (Nat.zero_le _) fun _ hk'=>by rw [hβ]; exact h hg (hk hk')
theorem Rep.mref0 {c c':Ctx} {d g:Nat} {v:Value} (hβ:c'.β=c.β) (hk:c'.kind d≠none→c.kind d≠none) (hg:g=c.gen d) (h:Rep c v (.mref d g)):Rep c' v (.mref d 0):=by
 cases h with
 | mref _ _ _ h1 _ h=>exact .mref d 0 v h1 (Nat.zero_le _) fun _ hk'=>by rw [hβ]; exact h hg (hk hk')
theorem pureL_at:∀ {l:List AV},AV.pure.pureL l=true→∀ i,(l.getD i .any).pure=true
 | [],_,i=>by simp [AV.pure]
 | x :: l,h,i=>by
  simp only [AV.pure.pureL,Bool.and_eq_true] at h
  cases i with
  | zero=>simpa using h.1
  | succ i=>simpa using pureL_at h.2 i
def boxTS (n b m:Nat) (S:List Nat) (tmp:Nat→AV) (ks vs:List AV):TS :=
 {n:=n,tmp:=fun t=>if t=b then .ref b 0 0 else if S.contains t then tmp t else .any,gen:=fun _=>0,obj:=fun d=>if d=b then .box [.mref m 0] else if d=m then .mp ks vs else .dead }
theorem Rel.box0 {E:Env} {ts:TS} {G:Ghost} {a:Go.Act} {w:World} (h:Rel E ts G a w) {b m:Nat} (hbm:b≠m) (S:List Nat) (hS:∀ t∈S,(ts.tmp t).pure=true) (h1:ts.tmp b=.ref b (ts.gen b) 0) (h2:ts.obj b=.box [.mref m (ts.gen m)])
  {ks vs:List AV} (h3:ts.obj m=.mp ks vs) (hks:AV.pure.pureL ks=true) (hvs:AV.pure.pureL vs=true) (hnp:∀ j,E.pin j=none):Rel E (boxTS ts.n b m S ts.tmp ks vs) G a w:=by
 let c:=ctxOf E G ts w
 let c':=ctxOf E G (boxTS ts.n b m S ts.tmp ks vs) w
 have hkind:∀ d,c'.kind d≠none→c.kind d≠none∧(d=b∨d=m):=fun d hd=>by
  simp only [c',ctxOf,boxTS] at hd
  simp only [c,ctxOf]
  by_cases e:d=b
  ·subst e; rw [h2]; simp [Ob.kind]
  ·by_cases e2:d=m
   ·subst e2; rw [h3]; simp [Ob.kind]
   ·simp [e,e2,Ob.kind] at hd
 have hlive:∀ d,liveR (boxTS ts.n b m S ts.tmp ks vs) G d→liveR ts G d:=fun d hd=>⟨(hkind d hd.1).1,hd.2⟩
 have hM:∀ x,¬ c.M x→¬ c'.M x:=fun x hx=>by
  rintro (hf|⟨d,hd,he⟩)
  ·exact hx (.inl hf)
  ·exact hx (.inr ⟨d,hlive d hd,he⟩)
 have hpu:∀ {v:Value} {x:AV},Rep c v x→x.pure=true→Rep c' v x:=fun hr hp=>Rep.mono_pure (c:=c) (c':=c') (fun x hx _=>⟨rfl,hM x hx⟩) hr hp
 refine ⟨h.size,h.defers,fun t=>?_,fun d=>?_,fun d d' x y e=>h.sep d d' (hlive d x) (hlive d' y) e,fun d hd=>h.own d (hlive d hd),h.inF,h.bel,fun j x hj=>by rw [hnp] at hj; cases hj⟩
 ·show Rep c' _ (if t=b then .ref b 0 0 else if S.contains t then ts.tmp t else .any)
  split
  ·rename_i e; subst e
   have:=h.tmp t
   rw [h1] at this
   exact this.ref0 (c:=c) rfl (fun hk=>(hkind t hk).1) rfl
  ·split
   ·rename_i hs; exact hpu (h.tmp t) (hS t (List.contains_iff_mem.1 hs))
   ·exact .any _
 ·show ObOk c' d (if d=b then .box [.mref m 0] else if d=m then .mp ks vs else .dead)
  split
  ·rename_i e; subst e
   have:=h.obj d
   rw [h2] at this
   obtain ⟨k0,vs0,T0,hh,hsz,hr⟩:=this
   refine ⟨k0,vs0,T0,hh,by simpa using hsz,fun i=>?_⟩
   match i with
   | 0=>exact Rep.mref0 (c:=c) (g:=ts.gen m) rfl (fun hk=>(hkind m hk).1) rfl (by have:=hr 0; simpa using this)
   | i+1=>simp; exact .any _
  ·split
   ·rename_i e; subst e
    have:=h.obj d
    rw [h3] at this
    obtain ⟨k0,es,cl,hh,hk1,hv1,hr1,hr2,hborn⟩:=this
    exact ⟨k0,es,cl,hh,hk1,hv1,fun i=>hpu (hr1 i) (pureL_at hks i),fun i=>hpu (hr2 i) (pureL_at hvs i),hborn⟩
   ·trivial
end Go.Proofs.YtmjkjmoeicnbnaaGreatDoor.Lg
