/- Parts of the proof, one behind the other. -/
import Derived.Lib.Bytealg
import Derived.Test.YtmjkjmoeicnbnaaGreatDoorG05
namespace Go.Proofs.YtmjkjmoeicnbnaaGreatDoor.Lg
set_option maxRecDepth 100000
set_option linter.unusedVariables false
set_option linter.unusedSimpArgs false
open Go
variable {P:Program}
theorem Rel.later{E:Env}{ts:TS}{G:Ghost}{a:Go.Act}{w w':World}(h:Rel E ts G a w)(hbel:Bel (fun _=>False) w w'):Rel E ts G a w':=by
 have hw:∀i,i<w.heap.size→w'.heap[i]?=w.heap[i]?:=fun i hi=>hbel.block i hi (fun f=>f)
 have hle:(Jb E G ts w).Le (Jb E G ts w') :=
  {blk:=fun b' hMa hc=>⟨hw _ hc,hMa⟩,gen:=fun _=>Nat.le_refl _,kind:=fun e k _ hk'=>⟨hk',rfl,rfl⟩ }
 refine⟨h.size,h.defers,fun t=>(h.tmp t).mono hle,fun d=>ObOk.mono hle rfl rfl (fun h1 h2=>hw _ (h.own d ⟨h1,h2⟩).2.2) (h.obj d),h.sep,fun d hd=>?_,fun b hb=>Nat.lt_of_lt_of_le (h.inF b hb) hbel.size,h.bel.trans ⟨hbel.os,hbel.tape,hbel.output,hbel.size,fun k hk' _=>hw k hk',hbel.drawn⟩,h.pin⟩
 obtain⟨p,q,s⟩:=h.own d hd
 exact⟨p,q,Nat.lt_of_lt_of_le s hbel.size⟩
def Done(f:FuncId)(args:List Arg)(x:Int)(U:(Nat→List AV)→Prop):Prop :=
 if x=0 then CallV Tryz.prog f args (fun r io=>r=.val (.tup [])∧U io) else CallUV Tryz.prog f args (upE x) U
theorem Done.calls{f:FuncId}{args:List Arg}{x:Int}{U:(Nat→List AV)→Prop}(h:Done f args x U)(hf:∀(vals:Array Value) (w:World),(callFunc f vals).run Tryz.prog w=.ok (.enter f vals) w)
  {E:Env} {G:Ghost} {vals:Array Value} {w:World} (hw:E.w0=w) (hrel:Rel E (Jh args args.length) G ⟨vals,[]⟩ w) (hpin:∀j,(∃cs,args[j]?=some (.io cs))↔∃b,E.pin j=some b) :
  Calls Tryz.prog f vals w fun e w'=>(if x=0 then e=.returned (.tuple #[]) else e=.panicked (upE x))∧∃io ts' G' a',U io∧Rel E ts' G' a' w'∧∀j b,E.pin j=some b→ts'.gen j=0∧ts'.obj j=.box (io j)∧AV.pure.pureL (io j)=true:=by
 unfold Done at h
 split at h
 ·have:=h E G vals w hw hrel hpin
  rw[hf] at this
  refine Calls.mono this ?_
  rintro e w' ⟨v,r,io,ts',G',rfl,⟨rfl,hU⟩,hr,hp,hret⟩
  obtain⟨_,ht⟩:=hret
  have hv:=hr.tmp 0
  rw[ht] at hv
  have hv:Rep (Jb E G' ts' w') v (.tup []):=by simpa using hv
  have hv0:v=.tuple #[]:=by
   cases hv with
   |tup cs bs hl h=>rw[show cs=#[] from Array.eq_empty_of_size_eq_zero (by simpa using hl)]
  exact⟨by rw[hv0,if_pos ‹_›],io,ts',G',_,hU,hr,hp⟩
 ·have:=h E G vals w hw hrel hpin
  rw[hf] at this
  refine Calls.mono this ?_
  rintro e w' ⟨io,ts',G',rfl,hU,hr,hp⟩
  exact⟨by rw[if_neg ‹_›],io,ts',G',_,hU,hr,hp⟩
end Go.Proofs.YtmjkjmoeicnbnaaGreatDoor.Lg
namespace Go.Proofs.YtmjkjmoeicnbnaaGreatDoor.Lg
set_option maxRecDepth 100000
set_option linter.unusedVariables false
set_option linter.unusedSimpArgs false
open Go
open Nat renaming reduceEqDiff → Qa, reduceLT → Qb, reduceLeDiff → Qc, reduceAdd → Qd, reduceMul → Qe, reduceSub → Qf, reduceBEq → Qg
open String renaming reduceEq → Qh
open SpecC renaming seqW → Qi, regW → Qj, condW → Ql, block → Qm, skip → Qn, exit → Qp, ret → Qr, loopF → Qs
open NxK renaming out → Qw
open Nx renaming out → Qx
open condK renaming split → Qy
open gK renaming split_t → Qz, split_f → QA
open CallR renaming go1 → QD
theorem J8(kind ver port:Int)(name to:List UInt8)(rs:List Rule)(hs:List Int):CallR Tryz.prog 63 [.agg [.int .i64 kind,.str name,.int .i64 ver,.int .i64 port,.str to,.slice false (Ja rs),.slice false (Ja hs)]] (.val (.agg [.int .i64 kind,.str name])):=by
 refine QD (T:=T) Tryz.call63 Tryz.func63 rfl Tryz.ntmps63 (congrArg Array.toList Tryz.results63) (by decide) fun ts hn h0=>?_
 (repeat' (first
 | (with_reducible first|assumption|(refine Qw hK _ ?_;clear hK K)|refine Qw ‹_› _ ?_|refine Qx ‹_› ?_|refine Qi fun K hK=>?_|refine Qj T fun K hK=>?_|refine Ql fun A B hA hB=>?_|refine Qn ?_|refine Qr ?_)
 | ((with_reducible first|apply Qy|apply Qz|apply QA)<;>intro hb<;>try simp only[nr] at hb)
 |simp only[go_sem,↓reduceIte,reduceIte,Qa,Qh,Qb,Qc,Qd,Qe,Qf,Qg,reduceCtorEq, *]
 |with_reducible refine fun(bn:Bool) hbn=>?_))
def Je(r:Res):Key:=⟨r.kind,r.name⟩
theorem JmX(xs:List Res)(hl:Jc xs.length):CallR Tryz.prog 90 [.slice false (Ja xs)] (.own 2 (Ja (xs.map Je))):=by
 refine QD (T:=T) Tryz.call90 Tryz.func90 rfl Tryz.ntmps90 (congrArg Array.toList Tryz.results90) (by decide) fun ts hn h0=>?_
 (repeat' (first
 | (with_reducible first|refine callX.by (J8 _ _ _ _ _ _ _) ?_|assumption|(refine Qw hK _ ?_;clear hK K)|refine Qw ‹_› _ ?_|refine Qx ‹_› ?_|refine Qi fun K hK=>?_|refine Qj T fun K hK=>?_|refine Ql fun A B hA hB=>?_|refine Qm ?_|refine Qn ?_|refine Qp ?_|refine Qr ?_)
 | ((with_reducible first|apply Qy|apply Qz|apply QA)<;>intro hb<;>try simp only[nr] at hb)
 |simp only[go_sem,↓reduceIte,reduceIte,Qa,Qh,Qb,Qc,Qd,Qe,Qf,Qg,reduceCtorEq, *]
 |with_reducible refine fun(bn:Bool) hbn=>?_))
 refine SpecC.virt 3 16 2 (by decide) (by simp only[go_sem,↓reduceIte,reduceIte,Qa,Qh,Qb,Qc,Qd,Qe,Qf,Qg,reduceCtorEq, *]) ?_
 refine Qs [6,7] (fun m ts'=>∃(i:Nat),∃(g:Nat),m=xs.length-i∧i≤xs.length∧ts'.tmp 3=.os 16 g i∧ts'.gen 16=g∧ts'.obj 16=.arr 2 (Ja ((xs.take i).map Je))∧ts'.tmp 8=.int .i64 i) xs.length ?_ ?_
 ·refine⟨0,ts.gen 16+1,?_⟩
  simp only[go_sem,↓reduceIte,reduceIte,Qa,Qh,Qb,Qc,Qd,Qe,Qf,Qg,reduceCtorEq, *,List.map_nil,Vo]
 ·rintro m A hM ts' hk ⟨i,g,hm,f1,s1,s2,s3,s4⟩
  simp only[go_sem,↓reduceIte,reduceIte,Qa,Qh,Qb,Qc,Qd,Qe,Qf,Qg,reduceCtorEq, *] at hk
  have hlen:(Ja ((xs.take i).map Je)).length=i:=by simp[Ja,f1]
  have hr:JT (i+1) 24:=Vt (by unfold Jc at hl;omega) (by decide)
  have htk:(Ja ((xs.take i).map Je)).take i=Ja ((xs.take i).map Je):=List.take_of_length_le (by omega)
  (repeat' (first
 | (with_reducible first|refine callX.by (J8 _ _ _ _ _ _ _) ?_|assumption|(refine Qw hK _ ?_;clear hK K)|refine Qw ‹_› _ ?_|refine Qx ‹_› ?_|refine Qi fun K hK=>?_|refine Qj T fun K hK=>?_|refine Ql fun A B hA hB=>?_|refine Qm ?_|refine Qn ?_|refine Qp ?_|refine Qr ?_)
 | ((with_reducible first|apply Qy|apply Qz|apply QA)<;>intro hb<;>try simp only[nr] at hb)
 |simp only[go_sem,↓reduceIte,reduceIte,Qa,Qh,Qb,Qc,Qd,Qe,Qf,Qg,reduceCtorEq, *]
 |with_reducible refine fun(bn:Bool) hbn=>?_))
  all_goals ((repeat clear hK);(repeat clear hA);(repeat clear hB))
  ·have e:xs.take (i+1)=xs.take i++[xs[i]]:=by rw[List.take_add_one,List.getElem?_eq_getElem hb];rfl
   (refine hM.on (xs.length-(i+1)) (by omega) (by simp only[go_sem,↓reduceIte,reduceIte,Qa,Qh,Qb,Qc,Qd,Qe,Qf,Qg,reduceCtorEq, *,Jd hb hl,e,List.map_append,Je]) ⟨i+1,ts'.gen 16+1,rfl,by omega,?_⟩;simp only[go_sem,↓reduceIte,reduceIte,Qa,Qh,Qb,Qc,Qd,Qe,Qf,Qg,reduceCtorEq, *,Jd hb hl,e,List.map_append,Je];done)
  ·have hi2:i=xs.length:=by omega
   subst hi2
   simp[Ja]
theorem Jkq(n:Int):CallR Tryz.prog 173 [.int .i64 n] (.val (.bool false)):=by
 refine QD (T:=T) Tryz.call173 Tryz.func173 rfl Tryz.ntmps173 (congrArg Array.toList Tryz.results173) (by decide) fun ts hn h0=>?_
 (repeat' (first
 | (with_reducible first|assumption|(refine Qw hK _ ?_;clear hK K)|refine Qw ‹_› _ ?_|refine Qx ‹_› ?_|refine Qi fun K hK=>?_|refine Qj T fun K hK=>?_|refine Ql fun A B hA hB=>?_|refine Qn ?_|refine Qr ?_)
 | ((with_reducible first|apply Qy|apply Qz|apply QA)<;>intro hb<;>try simp only[nr] at hb)
 |simp only[go_sem,↓reduceIte,reduceIte,Qa,Qh,Qb,Qc,Qd,Qe,Qf,Qg,reduceCtorEq, *]
 |with_reducible refine fun(bn:Bool) hbn=>?_))
def Jcb(a b:Int):Int:=if a<b then -1 else if b<a then 1 else 0
theorem Jka(a b:Int):CallR Tryz.prog 131 [.int .i64 a,.int .i64 b] (.val (.int .i64 (Jcb a b))):=by
 refine CallR.go2 (T:=T) Tryz.call131 Tryz.func131 rfl Tryz.ntmps131 (congrArg Array.toList Tryz.results131) (by decide) fun ts hn h0 h1=>?_
 (repeat' (first
 | (with_reducible first|refine callX.by (Jkq _) ?_|assumption|(refine Qw hK _ ?_;clear hK K)|refine Qw ‹_› _ ?_|refine Qx ‹_› ?_|refine Qi fun K hK=>?_|refine Qj T fun K hK=>?_|refine Ql fun A B hA hB=>?_|refine Qn ?_|refine Qr ?_)
 | ((with_reducible first|apply Qy|apply Qz|apply QA)<;>intro hb<;>try simp only[nr] at hb)
 |simp only[go_sem,↓reduceIte,reduceIte,Qa,Qh,Qb,Qc,Qd,Qe,Qf,Qg,reduceCtorEq, *]
 |with_reducible refine fun(bn:Bool) hbn=>?_))
 all_goals simp[Jcb, *]
theorem JC(kind ver port:Int)(name to:List UInt8)(rs:List Rule)(hs:List Int):CallR Tryz.prog 79 [.agg [.int .i64 kind,.str name,.int .i64 ver,.int .i64 port,.str to,.slice false (Ja rs),.slice false (Ja hs)]] (.val (.agg [.int .i64 kind,.str name])):=by
 refine QD (T:=T) Tryz.call79 Tryz.func79 rfl Tryz.ntmps79 (congrArg Array.toList Tryz.results79) (by decide) fun ts hn h0=>?_
 (repeat' (first
 | (with_reducible first|assumption|(refine Qw hK _ ?_;clear hK K)|refine Qw ‹_› _ ?_|refine Qx ‹_› ?_|refine Qi fun K hK=>?_|refine Qj T fun K hK=>?_|refine Ql fun A B hA hB=>?_|refine Qn ?_|refine Qr ?_)
 | ((with_reducible first|apply Qy|apply Qz|apply QA)<;>intro hb<;>try simp only[nr] at hb)
 |simp only[go_sem,↓reduceIte,reduceIte,Qa,Qh,Qb,Qc,Qd,Qe,Qf,Qg,reduceCtorEq, *]
 |with_reducible refine fun(bn:Bool) hbn=>?_))
def JaH(a b:List UInt8):Int:=Lib.compareBytes a b
set_option maxRecDepth 100000 in
theorem JjA(a b:List UInt8):CallR Tryz.prog 227 [.str a,.str b] (.val (.int .i64 (JaH a b))):=by
 refine CallP.extn rfl fun vals w c hs hv=>?_
 have h0:=hv 0
 have h1:=hv 1
 obtain⟨s,e0,hs0⟩:=V7 h0
 obtain⟨t,e1,hs1⟩:=V7 h1
 have hvals:vals=#[.string s,.string t]:=by
  apply Array.ext
  ·simpa using hs
  ·intro i h1 h2
   have hi:i<2:=by rw[hs] at h1;simpa using h1
   match i,hi with
   |0,_=>rw[Array.getD_eq_getD_getElem?,Array.getElem?_eq_getElem h1] at e0;simpa using e0
   |1,_=>rw[Array.getD_eq_getD_getElem?,Array.getElem?_eq_getElem h1] at e1;simpa using e1
 refine⟨_,?_,.int _ _⟩
 rw[hvals,run_callFunc_extern Tryz.func227 (by kernel_rfl) (by kernel_rfl) (by kernel_rfl) (e:=Extern.BytealgCompare.compare) (by kernel_rfl),Lib.run_compareString]
 simp only[Result.andThen,JaH,hs0,hs1]
theorem Jjz(a b:List UInt8):CallR Tryz.prog 211 [.str a,.str b] (.val (.int .i64 (JaH a b))):=by
 refine CallR.go2 (T:=T) Tryz.call211 Tryz.func211 rfl Tryz.ntmps211 (congrArg Array.toList Tryz.results211) (by decide) fun ts hn h0 h1=>?_
 (repeat' (first
 | (with_reducible first|refine callX.by (JjA _ _) ?_|assumption|(refine Qw hK _ ?_;clear hK K)|refine Qw ‹_› _ ?_|refine Qx ‹_› ?_|refine Qi fun K hK=>?_|refine Qj T fun K hK=>?_|refine Ql fun A B hA hB=>?_|refine Qn ?_|refine Qr ?_)
 | ((with_reducible first|apply Qy|apply Qz|apply QA)<;>intro hb<;>try simp only[nr] at hb)
 |simp only[go_sem,↓reduceIte,reduceIte,Qa,Qh,Qb,Qc,Qd,Qe,Qf,Qg,reduceCtorEq, *]
 |with_reducible refine fun(bn:Bool) hbn=>?_))
theorem Jmp(a b:List UInt8):CallR Tryz.prog 174 [.str a,.str b] (.val (.int .i64 (JaH a b))):=by
 refine CallR.go2 (T:=T) Tryz.call174 Tryz.func174 rfl Tryz.ntmps174 (congrArg Array.toList Tryz.results174) (by decide) fun ts hn h0 h1=>?_
 (repeat' (first
 | (with_reducible first|refine callX.by (Jjz _ _) ?_|assumption|(refine Qw hK _ ?_;clear hK K)|refine Qw ‹_› _ ?_|refine Qx ‹_› ?_|refine Qi fun K hK=>?_|refine Qj T fun K hK=>?_|refine Ql fun A B hA hB=>?_|refine Qn ?_|refine Qr ?_)
 | ((with_reducible first|apply Qy|apply Qz|apply QA)<;>intro hb<;>try simp only[nr] at hb)
 |simp only[go_sem,↓reduceIte,reduceIte,Qa,Qh,Qb,Qc,Qd,Qe,Qf,Qg,reduceCtorEq, *]
 |with_reducible refine fun(bn:Bool) hbn=>?_))
theorem Jk4(a b:List UInt8):CallR Tryz.prog 132 [.str a,.str b] (.val (.int .i64 (JaH a b))):=by
 refine CallR.go2 (T:=T) Tryz.call132 Tryz.func132 rfl Tryz.ntmps132 (congrArg Array.toList Tryz.results132) (by decide) fun ts hn h0 h1=>?_
 (repeat' (first
 | (with_reducible first|refine callX.by (Jmp _ _) ?_|assumption|(refine Qw hK _ ?_;clear hK K)|refine Qw ‹_› _ ?_|refine Qx ‹_› ?_|refine Qi fun K hK=>?_|refine Qj T fun K hK=>?_|refine Ql fun A B hA hB=>?_|refine Qn ?_|refine Qr ?_)
 | ((with_reducible first|apply Qy|apply Qz|apply QA)<;>intro hb<;>try simp only[nr] at hb)
 |simp only[go_sem,↓reduceIte,reduceIte,Qa,Qh,Qb,Qc,Qd,Qe,Qf,Qg,reduceCtorEq, *]
 |with_reducible refine fun(bn:Bool) hbn=>?_))
def ior:List Int→Int
 | []=>0
 |x :: r=>if x=0 then ior r else x
theorem JgH(xs:List Int)(hl:Jc xs.length):CallR Tryz.prog 130 [.slice false (Ja xs)] (.val (.int .i64 (ior xs))):=by
 refine QD (T:=T) Tryz.call130 Tryz.func130 rfl Tryz.ntmps130 (congrArg Array.toList Tryz.results130) (by decide) fun ts hn h0=>?_
 (repeat' (first
 | (with_reducible first|assumption|(refine Qw hK _ ?_;clear hK K)|refine Qw ‹_› _ ?_|refine Qx ‹_› ?_|refine Qi fun K hK=>?_|refine Qj T fun K hK=>?_|refine Ql fun A B hA hB=>?_|refine Qm ?_|refine Qn ?_|refine Qp ?_|refine Qr ?_)
 | ((with_reducible first|apply Qy|apply Qz|apply QA)<;>intro hb<;>try simp only[nr] at hb)
 |simp only[go_sem,↓reduceIte,reduceIte,Qa,Qh,Qb,Qc,Qd,Qe,Qf,Qg,reduceCtorEq, *]
 |with_reducible refine fun(bn:Bool) hbn=>?_))
 refine Qs [3,6,7] (fun m ts'=>∃(i:Nat),m=xs.length-i∧i≤xs.length∧ior xs=ior (xs.drop i)∧ts'.tmp 8=.int .i64 i) xs.length ?_ ?_
 ·refine⟨0,?_⟩
  simp only[go_sem,↓reduceIte,reduceIte,Qa,Qh,Qb,Qc,Qd,Qe,Qf,Qg,reduceCtorEq, *]
 ·rintro m A hM ts' hk ⟨i,hm,f1,f2,s1⟩
  simp only[go_sem,↓reduceIte,reduceIte,Qa,Qh,Qb,Qc,Qd,Qe,Qf,Qg,reduceCtorEq, *] at hk
  by_cases hlt:i<xs.length
  ·rw[List.drop_eq_getElem_cons hlt,ior] at f2
   (repeat' (first
 | (with_reducible first|assumption|(refine Qw hK _ ?_;clear hK K)|refine Qw ‹_› _ ?_|refine Qx ‹_› ?_|refine Qi fun K hK=>?_|refine Qj T fun K hK=>?_|refine Ql fun A B hA hB=>?_|refine Qm ?_|refine Qn ?_|refine Qp ?_|refine Qr ?_)
 | ((with_reducible first|apply Qy|apply Qz|apply QA)<;>intro hb<;>try simp only[nr] at hb)
 |simp only[go_sem,↓reduceIte,reduceIte,Qa,Qh,Qb,Qc,Qd,Qe,Qf,Qg,reduceCtorEq, *]
 |with_reducible refine fun(bn:Bool) hbn=>?_))
   all_goals ((repeat clear hK);(repeat clear hA);(repeat clear hB))
   ·simp[of_decide_eq_false hb]
   ·rw[if_pos (of_decide_eq_true hb)] at f2
    (refine hM.on (xs.length-(i+1)) (by omega) (by simp only[go_sem,↓reduceIte,reduceIte,Qa,Qh,Qb,Qc,Qd,Qe,Qf,Qg,reduceCtorEq, *,Jd hlt hl,-f2]) ⟨i+1,rfl,by omega,f2,?_⟩;simp only[go_sem,↓reduceIte,reduceIte,Qa,Qh,Qb,Qc,Qd,Qe,Qf,Qg,reduceCtorEq, *,Jd hlt hl,-f2];done)
  ·rw[List.drop_eq_nil_of_le (by omega),ior] at f2
   (repeat' (first
 | (with_reducible first|assumption|(refine Qw hK _ ?_;clear hK K)|refine Qw ‹_› _ ?_|refine Qx ‹_› ?_|refine Qi fun K hK=>?_|refine Qj T fun K hK=>?_|refine Ql fun A B hA hB=>?_|refine Qm ?_|refine Qn ?_|refine Qp ?_|refine Qr ?_)
 | ((with_reducible first|apply Qy|apply Qz|apply QA)<;>intro hb<;>try simp only[nr] at hb)
 |simp only[go_sem,↓reduceIte,reduceIte,Qa,Qh,Qb,Qc,Qd,Qe,Qf,Qg,reduceCtorEq, *]
 |with_reducible refine fun(bn:Bool) hbn=>?_))
def Jv(a b:Key):Int:=ior [Jcb a.kind b.kind,JaH a.name b.name]
theorem ZW(k1 k2:Int)(n1 n2:List UInt8):CallR Tryz.prog 73 [.agg [.int .i64 k1,.str n1],.agg [.int .i64 k2,.str n2]] (.val (.int .i64 (Jv ⟨k1,n1⟩ ⟨k2,n2⟩))):=by
 have hor:=JgH [Jcb k1 k2,JaH n1 n2] (by simp[Jc])
 simp only[Ja,List.map_cons,List.map_nil,Jec] at hor
 refine CallR.go2 (T:=T) Tryz.call73 Tryz.func73 rfl Tryz.ntmps73 (congrArg Array.toList Tryz.results73) (by decide) fun ts hn h0 h1=>?_
 (repeat' (first
 | (with_reducible first|refine callX.by (hor) ?_|refine callX.by (Jka _ _) ?_|refine callX.by (Jk4 _ _) ?_|refine callX.by (JgH _ ?_) ?_|assumption|(refine Qw hK _ ?_;clear hK K)|refine Qw ‹_› _ ?_|refine Qx ‹_› ?_|refine Qi fun K hK=>?_|refine Qj T fun K hK=>?_|refine SpecC.drawW (id:=1) T mixed [([5],[7,8,10,11,12,13]),([6],[7,8,10,11,12,13]),([7],[5,6,10,11,12,13]),([8],[5,6,10,11,12,13]),([9],[10,11,12,13]),([10],[5,6,7,8,9,12,13]),([11],[5,6,7,8,9,12,13]),([12],[5,6,7,8,9,10,11]),([13],[5,6,7,8,9,10,11])] (by kernel_rfl) fun K hK=>?_|refine Ql fun A B hA hB=>?_|refine Qn ?_|refine Qr ?_)
 | ((with_reducible first|apply Qy|apply Qz|apply QA)<;>intro hb<;>try simp only[nr] at hb)
 |simp only[go_sem,↓reduceIte,reduceIte,Qa,Qh,Qb,Qc,Qd,Qe,Qf,Qg,reduceCtorEq, *]
 |with_reducible refine fun(bn:Bool) hbn=>?_))
 all_goals rfl
end Go.Proofs.YtmjkjmoeicnbnaaGreatDoor.Lg
