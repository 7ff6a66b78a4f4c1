/- Parts of the proof, one behind the other. -/
import Derived.Lib.Bytealg
import Derived.Test.YthjalhfmpffbjaaGreatDoorG05
namespace Go.Proofs.YthjalhfmpffbjaaGreatDoor.Lg
set_option maxRecDepth 100000
set_option linter.unusedVariables false
set_option linter.unusedSimpArgs false
open Go
variable {P:Program}
theorem Rel.later{E:Env}{ts:TS}{G:Ghost}{a:Go.Act}{w w':World}(h:Rel E ts G a w)(hbel:Bel (fun _=>False) w w'):Rel E ts G a w':=by
 have hw:∀i,i<w.heap.size→w'.heap[i]?=w.heap[i]?:=fun i hi=>hbel.block i hi (fun f=>f)
 have hle:(Jb E G ts w).Le (Jb E G ts w') :=
  {blk:=fun b' hMa hc=>⟨hw _ hc,hMa⟩,gen:=fun _=>Nat.le_refl _,kind:=fun e k _ hk'=>⟨hk',rfl,rfl⟩ }
 refine⟨h.size,h.defers,fun t=>(h.tmp t).mono hle,fun d=>ObOk.mono hle rfl rfl (fun h1 h2=>hw _ (h.own d ⟨h1,h2⟩).2.2) (h.obj d),h.sep,fun d hd=>?_,fun b hb=>Nat.lt_of_lt_of_le (h.inF b hb) hbel.size,h.bel.trans ⟨hbel.os,hbel.tape,hbel.output,hbel.size,fun k hk' _=>hw k hk',hbel.drawn⟩,h.pin⟩
 obtain⟨p,q,s⟩:=h.own d hd
 exact⟨p,q,Nat.lt_of_lt_of_le s hbel.size⟩
def Done(f:FuncId)(args:List Arg)(x:Int)(U:(Nat→List AV)→Prop):Prop :=
 if x=0 then CallV Tryz.prog f args (fun r io=>r=.val (.tup [])∧U io) else CallUV Tryz.prog f args (Zu x) U
theorem Done.calls{f:FuncId}{args:List Arg}{x:Int}{U:(Nat→List AV)→Prop}(h:Done f args x U)(hf:∀(vals:Array Value) (w:World),(callFunc f vals).run Tryz.prog w=.ok (.enter f vals) w)
  {E:Env} {G:Ghost} {vals:Array Value} {w:World} (hw:E.w0=w) (hrel:Rel E (Jj args args.length) G ⟨vals,[]⟩ w) (hpin:∀j,(∃cs,args[j]?=some (.io cs))↔∃b,E.pin j=some b) :
  Calls Tryz.prog f vals w fun e w'=>(if x=0 then e=.returned (.tuple #[]) else e=.panicked (Zu x))∧∃io ts' G' a',U io∧Rel E ts' G' a' w'∧∀j b,E.pin j=some b→ts'.gen j=0∧ts'.obj j=.box (io j)∧AV.pure.pureL (io j)=true:=by
 unfold Done at h
 split at h
 ·have:=h E G vals w hw hrel hpin
  rw[hf] at this
  refine Calls.mono this ?_
  rintro e w' ⟨v,r,io,ts',G',rfl,⟨rfl,hU⟩,hr,hp,hret⟩
  obtain⟨_,ht⟩:=hret
  have hv:=hr.tmp 0
  rw[ht] at hv
  have hv:Rep (Jb E G' ts' w') v (.tup []):=by simpa using hv
  have hv0:v=.tuple #[]:=by
   cases hv with
   |tup cs bs hl h=>rw[show cs=#[] from Array.eq_empty_of_size_eq_zero (by simpa using hl)]
  exact⟨by rw[hv0,if_pos ‹_›],io,ts',G',_,hU,hr,hp⟩
 ·have:=h E G vals w hw hrel hpin
  rw[hf] at this
  refine Calls.mono this ?_
  rintro e w' ⟨io,ts',G',rfl,hU,hr,hp⟩
  exact⟨by rw[if_neg ‹_›],io,ts',G',_,hU,hr,hp⟩
theorem JeM(w:World):Bel (fun _=>False) w (Zh w):=(Bel.refl _ _).alloc _
theorem Jkw(w:World):(Zh w).heap[w.heap.size]?=some (.cells #[.int .i64 0] 31 (0,0)):=heap_alloc_new w _
theorem Jkx(w:World):(Zh w).heap.size=w.heap.size+1:=by simp[Zh]
theorem Jky{w w':World}(h:w'.heap[w.heap.size]?=some (.cells #[.int .i64 0] 31 (0,0))):w'.cell? (Zg w)=some (.int .i64 0)∧w'.frozen? (Zg w)=false:=by
 constructor
 ·simp[World.cell?,Zg,h]
 ·simp[World.frozen?,Zg,h]
theorem Jnz(w:World)(p:Addr)(v:Value)(i:Nat)(h:i≠p.block):(w.setCell p v).heap[i]?=w.heap[i]?:=by
 simp[World.setCell,Array.getElem?_modify,Ne.symm h]
theorem JnA(w:World)(p:Addr)(v:Value):(w.setCell p v).heap.size=w.heap.size:=by simp[World.setCell]
theorem Jkg(g:FuncId)(caps:List AV)(x:Int)(hg:∀(vals:Array Value) (w:World),(callFunc g vals).run Tryz.prog w=.ok (.enter g vals) w)(hd:Done g (caps.map Arg.v) x (fun _=>True))(hp:AV.pure.pureL caps=true) :
  CallR Tryz.prog 103 [.clo (.func g) [] caps] (.val (.int .i64 x)):=by
 intro E G vals w hw hrel hpin
 rw[Tryz.call103]
 dsimp only
 have hs:vals.size=1:=hrel.size
 have h0:=hrel.tmp 0
 have h0:Rep (Jb E G (Jj (List.map Arg.v [AV.clo (.func g) [] caps]) 1) w) (vals.getD 0 undef) (.clo (.func g) [] caps):=h0
 obtain⟨c1,hfv,hc1,hc1r⟩:∃c1:Array Value,vals.getD 0 undef=.func (.func g) #[] c1∧c1.size=caps.length∧∀i,Rep (Jb E G (Jj (List.map Arg.v [AV.clo (.func g) [] caps]) 1) w) (c1.getD i undef) (caps.getD i .any):=by
  generalize vals.getD 0 undef=q at h0
  cases h0 with
  |clo _ f1 c1 _ _ p0 p1 p2 p3 =>
   have:f1=#[]:=Array.eq_empty_of_size_eq_zero (by simpa using p0)
   subst this
   exact⟨c1,rfl,p1,p3⟩
 have hvals:vals=#[.func (.func g) #[] c1]:=by
  apply Array.ext
  ·simp[hs]
  ·intro i h1 h2
   have hi:i=0:=by simp at h2;omega
   subst hi
   have:vals.getD 0 undef=vals[0]:=by simp[hs]
   rw[←this,hfv];rfl
 subst hvals
 have hrl:=hrel.later (JeM w)
 let E2:Env:={ w0:=Zh w,X:=fun _=>False,F:=E.F,pin:=fun _=>none }
 have hobj:∀d,(Jj (caps.map Arg.v) (caps.map Arg.v).length).obj d=.dead:=fun d=>by
  simp only[Jj,List.getElem?_map]
  cases caps[d]?<;>rfl
 have hdead:∀d,¬Jh (Jj (caps.map Arg.v) (caps.map Arg.v).length) G d:=fun d hl=>hl.1 (by rw[hobj];rfl)
 have hM:∀b,(Jb E2 G (Jj (caps.map Arg.v) (caps.map Arg.v).length) (Zh w)).M b→(Jb E G (Jj (List.map Arg.v [AV.clo (.func g) [] caps]) 1) w).M b:=fun b hb=>by
  rcases hb with hF|⟨d,hl,_⟩
  ·exact .inl hF
  ·exact absurd hl (hdead d)
 have hrel2:Rel E2 (Jj (caps.map Arg.v) (caps.map Arg.v).length) G ⟨c1,[]⟩ (Zh w):=by
  refine⟨by simp[Jj,hc1],rfl,fun t=>?_,fun d=>by rw[hobj];trivial,fun d d' h1 _ _=>absurd h1 (hdead d),fun d h1=>absurd h1 (hdead d),fun b hb=>hrl.inF b hb,Bel.refl _ _,fun j b hj _=>by cases hj⟩
  have e:(Jj (caps.map Arg.v) (caps.map Arg.v).length).tmp t=caps.getD t .any:=by
   simp only[Jj,List.getElem?_map,List.getD_eq_getElem?_getD]
   cases caps[t]?<;>rfl
  rw[e]
  refine Rep.mono_pure (c:=Jb E G (Jj (List.map Arg.v [AV.clo (.func g) [] caps]) 1) w) (fun b hb hlt=>⟨(JeM w).block b hlt fun f=>f,fun h=>hb (hM b h)⟩) (hc1r t) (JU caps t hp)
 have hC:=hd.calls hg (E:=E2) rfl hrel2 fun j=>by
  constructor
  ·rintro⟨cs,hcs⟩
   simp only[List.getElem?_map] at hcs
   cases hh:caps[j]?<;>rw[hh] at hcs<;>simp at hcs
  ·rintro⟨b,hb⟩;cases hb
 refine Calls.mono (Jkh g c1 w _ (hg _) hC ?_) ?_
 ·rintro e w' ⟨he,io,ts',G',a',_,hr,_⟩
  have hb:=hr.bel.block w.heap.size (by show _<(Zh w).heap.size;rw[Jkx];omega) (fun f=>f)
  have hb:w'.heap[w.heap.size]?=_:=hb.trans (Jkw w)
  obtain⟨q1,q2⟩:=Jky hb
  refine⟨q1,q2,?_⟩
  split at he
  ·exact .inl he
  ·exact .inr ⟨x,he⟩
 ·rintro e w'' ⟨e1,w1,⟨he,io,ts',G',a',_,hr,_⟩,hcase⟩
  have hbel1:Bel (fun _=>False) (Zh w) w1:=hr.bel
  have key:e=.returned (.int .i64 x)∧w''=w1.setCell (Zg w) (.int .i64 x):=by
   rcases hcase with ⟨h1,h2,h3⟩|⟨y,h1,h2,h3⟩
   ·split at he
    ·rename_i hx;subst hx;exact⟨h2,h3⟩
    ·rw[h1] at he;cases he
   ·split at he
    ·rw[h1] at he;cases he
    ·rw[h1] at he
     have:y=x:=by
      simp only[Ending.panicked.injEq,Zu,List.cons.injEq,PanicEntry.mk.injEq,upV] at he
      simpa using he
     subst this;exact⟨h2,h3⟩
  obtain⟨rfl,rfl⟩:=key
  have hbel:Bel (fun _=>False) w (w1.setCell (Zg w) (.int .i64 x)):=by
   have h1:=(JeM w).trans hbel1
   refine⟨h1.os,h1.tape,h1.output,by rw[JnA];exact h1.size,fun k hk hx=>?_,h1.drawn⟩
   rw[Jnz _ _ _ _ (by show k≠w.heap.size;omega)]
   exact h1.block k hk hx
  let ts1:TS:={ n:=1,tmp:=fun t=>if t=0 then .int .i64 x else .any,gen:=fun _=>0,obj:=fun _=>.dead }
  refine⟨.int .i64 x,.val (.int .i64 x),fun _=>[],ts1,G,rfl,rfl,⟨rfl,rfl,fun t=>?_,fun d=>trivial,fun d d' h1 _ _=>absurd rfl h1.1,fun d h1=>absurd rfl h1.1,fun b hb=>Nat.lt_of_lt_of_le (hrel.inF b hb) hbel.size,?_,fun j b hj _=>?_⟩,fun j b hj=>?_,rfl,by simp[ts1]⟩
  ·show Rep _ _ (if t=0 then AV.int .i64 x else .any)
   split
   ·rename_i ht;subst ht;exact .int _ _
   ·exact .any _
  ·rw[hw]
   exact⟨hbel.os,hbel.tape,hbel.output,hbel.size,fun k hk _=>hbel.block k hk fun f=>f,hbel.drawn⟩
  ·exact absurd ((hpin j).2 ⟨b,hj⟩) (by rintro⟨cs,hcs⟩;cases j<;>simp at hcs)
  ·exact absurd ((hpin j).2 ⟨b,hj⟩) (by rintro⟨cs,hcs⟩;cases j<;>simp at hcs)
end Go.Proofs.YthjalhfmpffbjaaGreatDoor.Lg
namespace Go.Proofs.YthjalhfmpffbjaaGreatDoor.Lg
set_option maxRecDepth 100000
set_option linter.unusedVariables false
set_option linter.unusedSimpArgs false
open Go
open Nat renaming reduceEqDiff → Qa, reduceLT → Qb, reduceLeDiff → Qc, reduceAdd → Qd, reduceMul → Qe, reduceSub → Qf, reduceBEq → Qg
open String renaming reduceEq → Qh
open SpecC renaming seqW → Qi, regW → Qj, drawW → Qk, condW → Ql, block → Qm, skip → Qn, exit → Qp, ret → Qr, loopF → Qs
open NxK renaming out → Qw
open Nx renaming out → Qx
open condK renaming split → Qy
open gK renaming split_t → Qz, split_f → QA
open CallR renaming go1 → QD
theorem JeJ(c:Bool)(xs:List Snap)(hl:Jc xs.length):CallR Tryz.prog 137 [.slice c (Ja xs)] (.own 3 (Ja xs)):=by
 have hr:V0 xs.length 40:=Jd6 (by unfold Jc at hl;omega) (by decide)
 refine QD (T:=T) Tryz.call137 Tryz.func137 rfl Tryz.ntmps137 (congrArg Array.toList Tryz.results137) (by decide) fun ts hn h0=>?_
 (repeat' (first
 | (with_reducible first|assumption|(refine Qw hK _ ?_;clear hK K)|refine Qw ‹_› _ ?_|refine Qx ‹_› ?_|refine Qi fun K hK=>?_|refine Qj T fun K hK=>?_|refine Ql fun A B hA hB=>?_|refine Qn ?_|refine Qr ?_)
 | ((with_reducible first|apply Qy|apply Qz|apply QA)<;>intro hb<;>try simp only[nr] at hb)
 |simp only[go_sem,↓reduceIte,reduceIte,Qa,Qh,Qb,Qc,Qd,Qe,Qf,Qg,reduceCtorEq, *]
 |with_reducible refine fun(bn:Bool) hbn=>?_))
def Jp(r:Res):Key:=⟨r.kind,r.name⟩
theorem JfR(xs:List Res)(hl:Jc xs.length):CallR Tryz.prog 118 [.slice false (Ja xs)] (.own 2 (Ja (xs.map Jp))):=by
 refine QD (T:=T) Tryz.call118 Tryz.func118 rfl Tryz.ntmps118 (congrArg Array.toList Tryz.results118) (by decide) fun ts hn h0=>?_
 (repeat' (first
 | (with_reducible first|refine callX.by (Va _ _ _ _ _ _ _) ?_|assumption|(refine Qw hK _ ?_;clear hK K)|refine Qw ‹_› _ ?_|refine Qx ‹_› ?_|refine Qi fun K hK=>?_|refine Qj T fun K hK=>?_|refine Ql fun A B hA hB=>?_|refine Qm ?_|refine Qn ?_|refine Qp ?_|refine Qr ?_)
 | ((with_reducible first|apply Qy|apply Qz|apply QA)<;>intro hb<;>try simp only[nr] at hb)
 |simp only[go_sem,↓reduceIte,reduceIte,Qa,Qh,Qb,Qc,Qd,Qe,Qf,Qg,reduceCtorEq, *]
 |with_reducible refine fun(bn:Bool) hbn=>?_))
 refine SpecC.virt 3 16 2 (by decide) (by simp only[go_sem,↓reduceIte,reduceIte,Qa,Qh,Qb,Qc,Qd,Qe,Qf,Qg,reduceCtorEq, *]) ?_
 refine Qs [6,7] (fun m ts'=>∃(i:Nat),∃(g:Nat),m=xs.length-i∧i≤xs.length∧ts'.tmp 3=.os 16 g i∧ts'.gen 16=g∧ts'.obj 16=.arr 2 (Ja ((xs.take i).map Jp))∧ts'.tmp 8=.int .i64 i) xs.length ?_ ?_
 ·refine⟨0,ts.gen 16+1,?_⟩
  simp only[go_sem,↓reduceIte,reduceIte,Qa,Qh,Qb,Qc,Qd,Qe,Qf,Qg,reduceCtorEq, *,List.map_nil,Vc]
 ·rintro m A hM ts' hk ⟨i,g,hm,f1,s1,s2,s3,s4⟩
  simp only[go_sem,↓reduceIte,reduceIte,Qa,Qh,Qb,Qc,Qd,Qe,Qf,Qg,reduceCtorEq, *] at hk
  have hlen:(Ja ((xs.take i).map Jp)).length=i:=by simp[Ja,f1]
  have hr:V0 (i+1) 24:=Jd6 (by unfold Jc at hl;omega) (by decide)
  have htk:(Ja ((xs.take i).map Jp)).take i=Ja ((xs.take i).map Jp):=List.take_of_length_le (by omega)
  (repeat' (first
 | (with_reducible first|refine callX.by (Va _ _ _ _ _ _ _) ?_|assumption|(refine Qw hK _ ?_;clear hK K)|refine Qw ‹_› _ ?_|refine Qx ‹_› ?_|refine Qi fun K hK=>?_|refine Qj T fun K hK=>?_|refine Ql fun A B hA hB=>?_|refine Qm ?_|refine Qn ?_|refine Qp ?_|refine Qr ?_)
 | ((with_reducible first|apply Qy|apply Qz|apply QA)<;>intro hb<;>try simp only[nr] at hb)
 |simp only[go_sem,↓reduceIte,reduceIte,Qa,Qh,Qb,Qc,Qd,Qe,Qf,Qg,reduceCtorEq, *]
 |with_reducible refine fun(bn:Bool) hbn=>?_))
  all_goals ((repeat clear hK);(repeat clear hA);(repeat clear hB))
  ·have e:xs.take (i+1)=xs.take i++[xs[i]]:=by rw[List.take_add_one,List.getElem?_eq_getElem hb];rfl
   (refine hM.on (xs.length-(i+1)) (by omega) (by simp only[go_sem,↓reduceIte,reduceIte,Qa,Qh,Qb,Qc,Qd,Qe,Qf,Qg,reduceCtorEq, *,Ji hb hl,e,List.map_append,Jp]) ⟨i+1,ts'.gen 16+1,rfl,by omega,?_⟩;simp only[go_sem,↓reduceIte,reduceIte,Qa,Qh,Qb,Qc,Qd,Qe,Qf,Qg,reduceCtorEq, *,Ji hb hl,e,List.map_append,Jp];done)
  ·have hi2:i=xs.length:=by omega
   subst hi2
   simp[Ja]
def Yh(p:Pins):Pins×Int×Int :=
 let q:=Jq p
 match q.snaps.getLast? with
 |none=>(q,0,10)
 |some s=>if s.pins=10000 then (q,0,14) else (⟨q.next',q.snaps.set (q.snaps.length-1) ⟨s.id,IntKind.i64.wrap (s.pins+1),s.l⟩⟩,s.id,0)
theorem Jmv(next:Int)(xs:List Snap)(hl:Jc xs.length):CallR Tryz.prog 122 [.agg [.int .i64 next,.slice false (Ja xs)]] (.val (.tup [Dat.av (Yh ⟨next,xs⟩).1,.int .i64 (Yh ⟨next,xs⟩).2.1,.int .i64 (Yh ⟨next,xs⟩).2.2])):=by
 have hl2:Jc (Jq ⟨next,xs⟩).snaps.length:=Jcz hl
 have hset:∀(n:Nat) (a b:Int) (l:List Res),(Ja (Jq ⟨next,xs⟩).snaps).set n (.agg [.int .i64 a,.int .i64 b,.slice false (Ja l)])=Ja ((Jq ⟨next,xs⟩).snaps.set n ⟨a,b,l⟩):=fun n a b l=>JW _ n (⟨a,b,l⟩:Snap)
 refine QD (T:=T) Tryz.call122 Tryz.func122 rfl Tryz.ntmps122 (congrArg Array.toList Tryz.results122) (by decide) fun ts hn h0=>?_
 (repeat' (first
 | (with_reducible first|refine callX.by (ZM _ _ ?_) ?_|refine callX.by (Zl _ _ ?_) ?_|refine callX.by (JeJ _ _ ?_) ?_|assumption|(refine Qw hK _ ?_;clear hK K)|refine Qw ‹_› _ ?_|refine Qx ‹_› ?_|refine Qi fun K hK=>?_|refine Qj T fun K hK=>?_|refine Qk (id:=9) T mixed [([36],[37,38,39,40,41,42]),([37],[36,39,41,42,2]),([38],[36,39,42,2]),([39],[36,37,38,42,2]),([40],[36,2]),([41],[36,37,2]),([42],[36,37,38,39,2]),([2],[37,38,39,40,41,42])] (by kernel_rfl) fun K hK=>?_|refine Ql fun A B hA hB=>?_|refine Qm ?_|refine Qn ?_|refine Qr ?_)
 | ((with_reducible first|apply Qy|apply Qz|apply QA)<;>intro hb<;>try simp only[nr] at hb)
 |simp only[go_sem,↓reduceIte,reduceIte,Qa,Qh,Qb,Qc,Qd,Qe,Qf,Qg,reduceCtorEq, *]
 |with_reducible refine fun(bn:Bool) hbn=>?_))
 ·have h0:(Jq ⟨next,xs⟩).snaps=[]:=by simpa using hb
  simp[Yh,h0]
 all_goals
  have h0:(Jq ⟨next,xs⟩).snaps.getLast?=some ((Jq ⟨next,xs⟩).snaps[(Jq ⟨next,xs⟩).snaps.length-1]'(by omega)):=by rw[List.getLast?_eq_getElem?,List.getElem?_eq_getElem]
  simp only[Yh,h0]
 ·rw[if_pos (of_decide_eq_true hb)];simp
 ·rw[if_neg (of_decide_eq_false hb)];simp
theorem Jlt(n:Int):CallR Tryz.prog 208 [.int .i64 n] (.val (.bool false)):=by
 refine QD (T:=T) Tryz.call208 Tryz.func208 rfl Tryz.ntmps208 (congrArg Array.toList Tryz.results208) (by decide) fun ts hn h0=>?_
 (repeat' (first
 | (with_reducible first|assumption|(refine Qw hK _ ?_;clear hK K)|refine Qw ‹_› _ ?_|refine Qx ‹_› ?_|refine Qi fun K hK=>?_|refine Qj T fun K hK=>?_|refine Ql fun A B hA hB=>?_|refine Qn ?_|refine Qr ?_)
 | ((with_reducible first|apply Qy|apply Qz|apply QA)<;>intro hb<;>try simp only[nr] at hb)
 |simp only[go_sem,↓reduceIte,reduceIte,Qa,Qh,Qb,Qc,Qd,Qe,Qf,Qg,reduceCtorEq, *]
 |with_reducible refine fun(bn:Bool) hbn=>?_))
def Z7(a b:Int):Int:=if a<b then -1 else if b<a then 1 else 0
theorem Jhi(a b:Int):CallR Tryz.prog 164 [.int .i64 a,.int .i64 b] (.val (.int .i64 (Z7 a b))):=by
 refine CallR.go2 (T:=T) Tryz.call164 Tryz.func164 rfl Tryz.ntmps164 (congrArg Array.toList Tryz.results164) (by decide) fun ts hn h0 h1=>?_
 (repeat' (first
 | (with_reducible first|refine callX.by (Jlt _) ?_|assumption|(refine Qw hK _ ?_;clear hK K)|refine Qw ‹_› _ ?_|refine Qx ‹_› ?_|refine Qi fun K hK=>?_|refine Qj T fun K hK=>?_|refine Ql fun A B hA hB=>?_|refine Qn ?_|refine Qr ?_)
 | ((with_reducible first|apply Qy|apply Qz|apply QA)<;>intro hb<;>try simp only[nr] at hb)
 |simp only[go_sem,↓reduceIte,reduceIte,Qa,Qh,Qb,Qc,Qd,Qe,Qf,Qg,reduceCtorEq, *]
 |with_reducible refine fun(bn:Bool) hbn=>?_))
 all_goals simp[Z7, *]
def Jar(a b:List UInt8):Int:=Lib.compareBytes a b
set_option maxRecDepth 100000 in
theorem Jko(a b:List UInt8):CallR Tryz.prog 248 [.str a,.str b] (.val (.int .i64 (Jar a b))):=by
 refine CallP.extn rfl fun vals w c hs hv=>?_
 have h0:=hv 0
 have h1:=hv 1
 obtain⟨s,e0,hs0⟩:=V9 h0
 obtain⟨t,e1,hs1⟩:=V9 h1
 have hvals:vals=#[.string s,.string t]:=by
  apply Array.ext
  ·simpa using hs
  ·intro i h1 h2
   have hi:i<2:=by rw[hs] at h1;simpa using h1
   match i,hi with
   |0,_=>rw[Array.getD_eq_getD_getElem?,Array.getElem?_eq_getElem h1] at e0;simpa using e0
   |1,_=>rw[Array.getD_eq_getD_getElem?,Array.getElem?_eq_getElem h1] at e1;simpa using e1
 refine⟨_,?_,.int _ _⟩
 rw[hvals,run_callFunc_extern Tryz.func248 (by kernel_rfl) (by kernel_rfl) (by kernel_rfl) (e:=Extern.BytealgCompare.compare) (by kernel_rfl),Lib.run_compareString]
 simp only[Result.andThen,Jar,hs0,hs1]
theorem Jkn(a b:List UInt8):CallR Tryz.prog 237 [.str a,.str b] (.val (.int .i64 (Jar a b))):=by
 refine CallR.go2 (T:=T) Tryz.call237 Tryz.func237 rfl Tryz.ntmps237 (congrArg Array.toList Tryz.results237) (by decide) fun ts hn h0 h1=>?_
 (repeat' (first
 | (with_reducible first|refine callX.by (Jko _ _) ?_|assumption|(refine Qw hK _ ?_;clear hK K)|refine Qw ‹_› _ ?_|refine Qx ‹_› ?_|refine Qi fun K hK=>?_|refine Qj T fun K hK=>?_|refine Ql fun A B hA hB=>?_|refine Qn ?_|refine Qr ?_)
 | ((with_reducible first|apply Qy|apply Qz|apply QA)<;>intro hb<;>try simp only[nr] at hb)
 |simp only[go_sem,↓reduceIte,reduceIte,Qa,Qh,Qb,Qc,Qd,Qe,Qf,Qg,reduceCtorEq, *]
 |with_reducible refine fun(bn:Bool) hbn=>?_))
theorem Jnp(a b:List UInt8):CallR Tryz.prog 209 [.str a,.str b] (.val (.int .i64 (Jar a b))):=by
 refine CallR.go2 (T:=T) Tryz.call209 Tryz.func209 rfl Tryz.ntmps209 (congrArg Array.toList Tryz.results209) (by decide) fun ts hn h0 h1=>?_
 (repeat' (first
 | (with_reducible first|refine callX.by (Jkn _ _) ?_|assumption|(refine Qw hK _ ?_;clear hK K)|refine Qw ‹_› _ ?_|refine Qx ‹_› ?_|refine Qi fun K hK=>?_|refine Qj T fun K hK=>?_|refine Ql fun A B hA hB=>?_|refine Qn ?_|refine Qr ?_)
 | ((with_reducible first|apply Qy|apply Qz|apply QA)<;>intro hb<;>try simp only[nr] at hb)
 |simp only[go_sem,↓reduceIte,reduceIte,Qa,Qh,Qb,Qc,Qd,Qe,Qf,Qg,reduceCtorEq, *]
 |with_reducible refine fun(bn:Bool) hbn=>?_))
theorem Jl1(a b:List UInt8):CallR Tryz.prog 165 [.str a,.str b] (.val (.int .i64 (Jar a b))):=by
 refine CallR.go2 (T:=T) Tryz.call165 Tryz.func165 rfl Tryz.ntmps165 (congrArg Array.toList Tryz.results165) (by decide) fun ts hn h0 h1=>?_
 (repeat' (first
 | (with_reducible first|refine callX.by (Jnp _ _) ?_|assumption|(refine Qw hK _ ?_;clear hK K)|refine Qw ‹_› _ ?_|refine Qx ‹_› ?_|refine Qi fun K hK=>?_|refine Qj T fun K hK=>?_|refine Ql fun A B hA hB=>?_|refine Qn ?_|refine Qr ?_)
 | ((with_reducible first|apply Qy|apply Qz|apply QA)<;>intro hb<;>try simp only[nr] at hb)
 |simp only[go_sem,↓reduceIte,reduceIte,Qa,Qh,Qb,Qc,Qd,Qe,Qf,Qg,reduceCtorEq, *]
 |with_reducible refine fun(bn:Bool) hbn=>?_))
def ior:List Int→Int
 | []=>0
 |x :: r=>if x=0 then ior r else x
theorem Jht(xs:List Int)(hl:Jc xs.length):CallR Tryz.prog 163 [.slice false (Ja xs)] (.val (.int .i64 (ior xs))):=by
 refine QD (T:=T) Tryz.call163 Tryz.func163 rfl Tryz.ntmps163 (congrArg Array.toList Tryz.results163) (by decide) fun ts hn h0=>?_
 (repeat' (first
 | (with_reducible first|assumption|(refine Qw hK _ ?_;clear hK K)|refine Qw ‹_› _ ?_|refine Qx ‹_› ?_|refine Qi fun K hK=>?_|refine Qj T fun K hK=>?_|refine Ql fun A B hA hB=>?_|refine Qm ?_|refine Qn ?_|refine Qp ?_|refine Qr ?_)
 | ((with_reducible first|apply Qy|apply Qz|apply QA)<;>intro hb<;>try simp only[nr] at hb)
 |simp only[go_sem,↓reduceIte,reduceIte,Qa,Qh,Qb,Qc,Qd,Qe,Qf,Qg,reduceCtorEq, *]
 |with_reducible refine fun(bn:Bool) hbn=>?_))
 refine Qs [3,6,7] (fun m ts'=>∃(i:Nat),m=xs.length-i∧i≤xs.length∧ior xs=ior (xs.drop i)∧ts'.tmp 8=.int .i64 i) xs.length ?_ ?_
 ·refine⟨0,?_⟩
  simp only[go_sem,↓reduceIte,reduceIte,Qa,Qh,Qb,Qc,Qd,Qe,Qf,Qg,reduceCtorEq, *]
 ·rintro m A hM ts' hk ⟨i,hm,f1,f2,s1⟩
  simp only[go_sem,↓reduceIte,reduceIte,Qa,Qh,Qb,Qc,Qd,Qe,Qf,Qg,reduceCtorEq, *] at hk
  by_cases hlt:i<xs.length
  ·rw[List.drop_eq_getElem_cons hlt,ior] at f2
   (repeat' (first
 | (with_reducible first|assumption|(refine Qw hK _ ?_;clear hK K)|refine Qw ‹_› _ ?_|refine Qx ‹_› ?_|refine Qi fun K hK=>?_|refine Qj T fun K hK=>?_|refine Ql fun A B hA hB=>?_|refine Qm ?_|refine Qn ?_|refine Qp ?_|refine Qr ?_)
 | ((with_reducible first|apply Qy|apply Qz|apply QA)<;>intro hb<;>try simp only[nr] at hb)
 |simp only[go_sem,↓reduceIte,reduceIte,Qa,Qh,Qb,Qc,Qd,Qe,Qf,Qg,reduceCtorEq, *]
 |with_reducible refine fun(bn:Bool) hbn=>?_))
   all_goals ((repeat clear hK);(repeat clear hA);(repeat clear hB))
   ·simp[of_decide_eq_false hb]
   ·rw[if_pos (of_decide_eq_true hb)] at f2
    (refine hM.on (xs.length-(i+1)) (by omega) (by simp only[go_sem,↓reduceIte,reduceIte,Qa,Qh,Qb,Qc,Qd,Qe,Qf,Qg,reduceCtorEq, *,Ji hlt hl,-f2]) ⟨i+1,rfl,by omega,f2,?_⟩;simp only[go_sem,↓reduceIte,reduceIte,Qa,Qh,Qb,Qc,Qd,Qe,Qf,Qg,reduceCtorEq, *,Ji hlt hl,-f2];done)
  ·rw[List.drop_eq_nil_of_le (by omega),ior] at f2
   (repeat' (first
 | (with_reducible first|assumption|(refine Qw hK _ ?_;clear hK K)|refine Qw ‹_› _ ?_|refine Qx ‹_› ?_|refine Qi fun K hK=>?_|refine Qj T fun K hK=>?_|refine Ql fun A B hA hB=>?_|refine Qm ?_|refine Qn ?_|refine Qp ?_|refine Qr ?_)
 | ((with_reducible first|apply Qy|apply Qz|apply QA)<;>intro hb<;>try simp only[nr] at hb)
 |simp only[go_sem,↓reduceIte,reduceIte,Qa,Qh,Qb,Qc,Qd,Qe,Qf,Qg,reduceCtorEq, *]
 |with_reducible refine fun(bn:Bool) hbn=>?_))
def JR(a b:Key):Int:=ior [Z7 a.kind b.kind,Jar a.name b.name]
theorem Vq(k1 k2:Int)(n1 n2:List UInt8):CallR Tryz.prog 120 [.agg [.int .i64 k1,.str n1],.agg [.int .i64 k2,.str n2]] (.val (.int .i64 (JR ⟨k1,n1⟩ ⟨k2,n2⟩))):=by
 have hor:=Jht [Z7 k1 k2,Jar n1 n2] (by simp[Jc])
 simp only[Ja,List.map_cons,List.map_nil,JeF] at hor
 refine CallR.go2 (T:=T) Tryz.call120 Tryz.func120 rfl Tryz.ntmps120 (congrArg Array.toList Tryz.results120) (by decide) fun ts hn h0 h1=>?_
 (repeat' (first
 | (with_reducible first|refine callX.by (hor) ?_|refine callX.by (Jhi _ _) ?_|refine callX.by (Jl1 _ _) ?_|refine callX.by (Jht _ ?_) ?_|assumption|(refine Qw hK _ ?_;clear hK K)|refine Qw ‹_› _ ?_|refine Qx ‹_› ?_|refine Qi fun K hK=>?_|refine Qj T fun K hK=>?_|refine Qk (id:=1) T mixed [([5],[7,8,10,11,12,13]),([6],[7,8,10,11,12,13]),([7],[5,6,10,11,12,13]),([8],[5,6,10,11,12,13]),([9],[10,11,12,13]),([10],[5,6,7,8,9,12,13]),([11],[5,6,7,8,9,12,13]),([12],[5,6,7,8,9,10,11]),([13],[5,6,7,8,9,10,11])] (by kernel_rfl) fun K hK=>?_|refine Ql fun A B hA hB=>?_|refine Qn ?_|refine Qr ?_)
 | ((with_reducible first|apply Qy|apply Qz|apply QA)<;>intro hb<;>try simp only[nr] at hb)
 |simp only[go_sem,↓reduceIte,reduceIte,Qa,Qh,Qb,Qc,Qd,Qe,Qf,Qg,reduceCtorEq, *]
 |with_reducible refine fun(bn:Bool) hbn=>?_))
 all_goals rfl
def JaT(next:Int):List Snap→Int→Bool
 | [],_=>true
 |s :: r,last=>!(decide (s.id≤last) || decide (next<s.id) || decide (s.pins<0) || decide (10000<s.pins) || (decide (s.pins=0) && decide (r≠[]))) && JaT next r s.id
def JdZ(p:Pins):Bool:=!(decide (p.next' < 0) || decide (2147483647<p.next') || decide (1000<p.snaps.length)) && JaT p.next' p.snaps 0
end Go.Proofs.YthjalhfmpffbjaaGreatDoor.Lg
