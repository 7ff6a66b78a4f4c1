/- Parts of the proof, one behind the other. -/
import Derived.Test.YtihahfhagobnoaaGreatDoorG24
namespace Go.Proofs.YtihahfhagobnoaaGreatDoor.Lg
set_option maxRecDepth 100000
set_option linter.unusedVariables false
set_option linter.unusedSimpArgs false
open Go
open Nat renaming reduceEqDiff → Qa, reduceLT → Qb, reduceLeDiff → Qc, reduceAdd → Qd, reduceMul → Qe, reduceSub → Qf, reduceBEq → Qg
open String renaming reduceEq → Qh
open SpecC renaming seqW → Qi, regW → Qj, drawW → Qk, condW → Ql, block → Qm, skip → Qn, exit → Qp, ret → Qr, loopF → Qs
open NxK renaming out → Qw
open condK renaming split → Qy
open gK renaming split_t → Qz, split_f → QA
open List renaming getElem_mem → QC
@[go_sem] def Je8:List (List Nat×List Nat):=[([31],[33,34,35,36,37,38,39,40,41,42,43,44,45,46]),([32],[33,34,35,36,37,38,39,40,41,42,43,44,45,46]),([33],[31,32,35,37,38,39,40,41,42,43,44,45,46,47]),([34],[31,32,35,38,39,40,41,42,43,44,45,46,47]),([35],[31,32,33,34,38,39,40,41,42,43,44,45,46,47]),([36],[31,32,39,40,41,42,43,44,45,46,47]),([37],[31,32,33,39,40,41,42,43,44,46,47]),([38],[31,32,33,34,35,39,40,41,42,43,44,47]),([39],[31,32,33,34,35,36,37,38,41,43,44,45,46,47]),([40],[31,32,33,34,35,36,37,38,41,44,45,46,47]),([41],[31,32,33,34,35,36,37,38,39,40,44,45,46,47]),([42],[31,32,33,34,35,36,37,38,45,46,47]),([43],[31,32,33,34,35,36,37,38,39,46,47]),([44],[31,32,33,34,35,36,37,38,39,40,41,47]),([45],[31,32,33,34,35,36,39,40,41,42]),([46],[31,32,33,34,35,36,37,39,40,41,42,43]),([47],[33,34,35,36,37,38,39,40,41,42,43,44])]
set_option maxHeartbeats 8000000 in
theorem Zk(f_type:Int)(f_epoch:Int)(f_kind:Int)(f_nonce:Int)(f_turn:Int)(f_adds:List Res)(f_gone:List Key)(f_err:Int)(f_have:List Mark)(f_held:List Key)(hl:Jc f_have.length):CallR Tryz.prog 13 [.agg [.int .i64 f_type,.int .i64 f_epoch,.int .i64 f_kind,.int .i64 f_nonce,.int .i64 f_turn,.slice false (Ja f_adds),.slice false (Ja f_gone),.int .i64 f_err,.slice false (Ja f_have),.slice false (Ja f_held)]] (.val (.agg [.int .i64 f_type,.int .i64 f_epoch,.int .i64 f_kind,.int .i64 f_nonce,.int .i64 f_turn,.slice false (Ja f_adds),.slice false (Ja f_gone),.int .i64 f_err,.slice false (Ja f_have),.slice false (Ja f_held)])):=by
 refine CallR.go1 (T:=T) Tryz.call13 Tryz.func13 rfl Tryz.ntmps13 (congrArg Array.toList Tryz.results13) (by decide) fun ts hn h0=>?_
 (repeat' (first
 | (with_reducible first|assumption|(refine Qw hK _ ?_;clear hK K)|refine Qw ‹_› _ ?_|refine Nx.out ‹_› ?_|refine Qi fun K hK=>?_|refine Qj T fun K hK=>?_|refine Qk (id:=5) T mixed Je8 (by kernel_rfl) fun K hK=>?_|refine Ql fun A B hA hB=>?_|refine Qm ?_|refine Qn ?_|refine Qp ?_|refine Qr ?_)
 | ((with_reducible first|apply Qy|apply Qz|apply QA)<;>intro hb<;>try simp only[nr] at hb)
 |simp only[go_sem,↓reduceIte,reduceIte,Qa,Qh,Qb,Qc,Qd,Qe,Qf,Qg,reduceCtorEq, *]
 |with_reducible refine fun(bn:Bool) hbn=>?_))
 refine SpecC.ent (Ent.virtB 47 3 8 3 (cs:=[.int .i64 f_type,.int .i64 f_epoch,.int .i64 f_kind,.int .i64 f_nonce,.int .i64 f_turn,.slice false (Ja f_adds),.slice false (Ja f_gone),.int .i64 f_err,.slice true [],.slice false (Ja f_held)]) (by simp only[go_sem,↓reduceIte,reduceIte,Qa,Qh,Qb,Qc,Qd,Qe,Qf,Qg,reduceCtorEq, *,Ob.box?]) (by decide) rfl (by decide)) ?_
 refine Qs [1,2] (fun m ts'=>∃(i:Nat),∃(g:Nat),m=f_have.length-i∧i≤f_have.length∧ts'.tmp 3=.ref 3 (ts.gen 3+1) 0∧ts'.gen 3=ts.gen 3+1∧ts'.obj 3=.box [.int .i64 f_type,.int .i64 f_epoch,.int .i64 f_kind,.int .i64 f_nonce,.int .i64 f_turn,.slice false (Ja f_adds),.slice false (Ja f_gone),.int .i64 f_err,.os 47 g i,.slice false (Ja f_held)]∧ts'.gen 47=g∧ts'.obj 47=.arr 3 (Ja (f_have.take i))∧ts'.tmp 4=.int .i64 i) f_have.length ?_ ?_
 ·refine⟨0,ts.gen 47+1,rfl,Nat.zero_le _,?_⟩
  simp only[go_sem,↓reduceIte,reduceIte,Qa,Qh,Qb,Qc,Qd,Qe,Qf,Qg,reduceCtorEq, *,Yh,List.take_zero,List.set]
 ·rintro m A hM ts' hk ⟨i,g,hm,f1,s1,s2,s3,s4,s5,s6⟩
  simp only[go_sem,↓reduceIte,reduceIte,Qa,Qh,Qb,Qc,Qd,Qe,Qf,Qg,reduceCtorEq, *] at hk
  have hlen:(f_have.take i).length=i:=by rw[List.length_take];omega
  have htk:(f_have.take i).take i=f_have.take i:=by rw[List.take_take,Nat.min_self]
  have hr1:Vl (i+1) 32:=Jbk (by unfold Jc at hl;omega) (by decide)
  by_cases hlt:i<f_have.length
  ·have e:=List.take_succ_eq_append_getElem hlt
   (repeat' (first
 | (with_reducible first|assumption|(refine Qw hK _ ?_;clear hK K)|refine Qw ‹_› _ ?_|refine Nx.out ‹_› ?_|refine Qi fun K hK=>?_|refine Qj T fun K hK=>?_|refine Qk (id:=5) T mixed Je8 (by kernel_rfl) fun K hK=>?_|refine Ql fun A B hA hB=>?_|refine Qm ?_|refine Qn ?_|refine Qp ?_|refine Qr ?_)
 | ((with_reducible first|apply Qy|apply Qz|apply QA)<;>intro hb<;>try simp only[nr] at hb)
 |simp only[go_sem,↓reduceIte,reduceIte,Qa,Qh,Qb,Qc,Qd,Qe,Qf,Qg,reduceCtorEq, *,-e]
 |with_reducible refine fun(bn:Bool) hbn=>?_))
   all_goals ((repeat clear hK);(repeat clear hA);(repeat clear hB))
   (refine hM.on (f_have.length-(i+1)) (by omega) (by simp only[go_sem,↓reduceIte,reduceIte,Qa,Qh,Qb,Qc,Qd,Qe,Qf,Qg,reduceCtorEq, *,Jf hlt hl,e,JeN]) ⟨i+1,ts'.gen 47+1,rfl,by omega,?_⟩;simp only[go_sem,↓reduceIte,reduceIte,Qa,Qh,Qb,Qc,Qd,Qe,Qf,Qg,reduceCtorEq, *,Jf hlt hl,e,JeN];done)
  ·have hi2:i=f_have.length:=by omega
   (repeat' (first
 | (with_reducible first|assumption|(refine Qw hK _ ?_;clear hK K)|refine Qw ‹_› _ ?_|refine Nx.out ‹_› ?_|refine Qi fun K hK=>?_|refine Qj T fun K hK=>?_|refine Qk (id:=5) T mixed Je8 (by kernel_rfl) fun K hK=>?_|refine Ql fun A B hA hB=>?_|refine Qm ?_|refine Qn ?_|refine Qp ?_|refine Qr ?_)
 | ((with_reducible first|apply Qy|apply Qz|apply QA)<;>intro hb<;>try simp only[nr] at hb)
 |simp only[go_sem,↓reduceIte,reduceIte,Qa,Qh,Qb,Qc,Qd,Qe,Qf,Qg,reduceCtorEq, *,Nat.lt_irrefl,List.take_length]
 |with_reducible refine fun(bn:Bool) hbn=>?_))
def JbL(f:Frame):Bool:=(f.have'.all fun m=>decide (m.k.name.length≤100)) && (Ja0 f.adds && decide (f.gone.length≤80) && decide (f.have'.length≤80) && decide (f.held.length≤80))
set_option maxHeartbeats 4000000 in
theorem Zi(f_type:Int)(f_epoch:Int)(f_kind:Int)(f_nonce:Int)(f_turn:Int)(f_adds:List Res)(f_gone:List Key)(f_err:Int)(f_have:List Mark)(f_held:List Key)(h:VG (⟨f_type,f_epoch,f_kind,f_nonce,f_turn,f_adds,f_gone,f_err,f_have,f_held⟩:Frame)):CallR Tryz.prog 9 [.agg [.int .i64 f_type,.int .i64 f_epoch,.int .i64 f_kind,.int .i64 f_nonce,.int .i64 f_turn,.slice false (Ja f_adds),.slice false (Ja f_gone),.int .i64 f_err,.slice false (Ja f_have),.slice false (Ja f_held)]] (.val (.bool (JbL (⟨f_type,f_epoch,f_kind,f_nonce,f_turn,f_adds,f_gone,f_err,f_have,f_held⟩:Frame)))):=by
 have w1:=JdS f_adds h.1 h.2.1
 have hl:=h.2.2.2.2.1
 have hn:=h.2.2.2.2.2.1
 simp only at hl hn
 have e:JbL (⟨f_type,f_epoch,f_kind,f_nonce,f_turn,f_adds,f_gone,f_err,f_have,f_held⟩:Frame)=((f_have.all fun m=>decide (m.k.name.length≤100)) && (Ja0 f_adds && decide (f_gone.length≤80) && decide (f_have.length≤80) && decide (f_held.length≤80))):=rfl
 rw[e]
 clear h e
 generalize Ja0 f_adds=fa at *
 refine CallR.go1 (T:=T) Tryz.call9 Tryz.func9 rfl Tryz.ntmps9 (congrArg Array.toList Tryz.results9) (by decide) fun ts hn h0=>?_
 (repeat' (first
 | (with_reducible first|refine callX.by (w1) ?_|refine callX.by (JdS _ ?_ ?_) ?_|assumption|(refine Qw hK _ ?_;clear hK K)|refine Qw ‹_› _ ?_|refine Nx.out ‹_› ?_|refine Qi fun K hK=>?_|refine Qj T fun K hK=>?_|refine Ql fun A B hA hB=>?_|refine Qm ?_|refine Qn ?_|refine Qp ?_|refine Qr ?_)
 | ((with_reducible first|apply Qy|apply Qz|apply QA)<;>intro hb<;>try simp only[nr] at hb)
 |simp only[go_sem,↓reduceIte,reduceIte,Qa,Qh,Qb,Qc,Qd,Qe,Qf,Qg,reduceCtorEq, *,-w1]
 |with_reducible refine fun(bn:Bool) hbn=>?_))
 refine Qs [1] (fun m ts'=>∃(i:Nat),m=f_have.length-i∧i≤f_have.length∧(f_have.all fun m=>decide (m.k.name.length≤100))=((f_have.drop i).all fun m=>decide (m.k.name.length≤100))∧ts'.tmp 3=.int .i64 i) f_have.length ?_ ?_
 ·refine⟨0,?_⟩
  simp only[go_sem,↓reduceIte,reduceIte,Qa,Qh,Qb,Qc,Qd,Qe,Qf,Qg,reduceCtorEq, *,-w1]
 ·rintro m A hM ts' hk ⟨i,hm,f1,f2,s1⟩
  simp only[go_sem,↓reduceIte,reduceIte,Qa,Qh,Qb,Qc,Qd,Qe,Qf,Qg,reduceCtorEq, *] at hk
  by_cases hlt:i<f_have.length
  ·rw[List.drop_eq_getElem_cons hlt,List.all_cons] at f2
   (repeat' (first
 | (with_reducible first|refine callX.by (w1) ?_|refine callX.by (JdS _ ?_ ?_) ?_|assumption|(refine Qw hK _ ?_;clear hK K)|refine Qw ‹_› _ ?_|refine Nx.out ‹_› ?_|refine Qi fun K hK=>?_|refine Qj T fun K hK=>?_|refine Ql fun A B hA hB=>?_|refine Qm ?_|refine Qn ?_|refine Qp ?_|refine Qr ?_)
 | ((with_reducible first|apply Qy|apply Qz|apply QA)<;>intro hb<;>try simp only[nr] at hb)
 |simp only[go_sem,↓reduceIte,reduceIte,Qa,Qh,Qb,Qc,Qd,Qe,Qf,Qg,reduceCtorEq, *,-f2,-w1]
 |with_reducible refine fun(bn:Bool) hbn=>?_))
   all_goals ((repeat clear hK);(repeat clear hA);(repeat clear hB))
   ·rw[f2,decide_eq_false (by omega)];simp
   ·rw[decide_eq_true (by omega),Bool.true_and] at f2
    (refine hM.on (f_have.length-(i+1)) (by omega) (by simp only[go_sem,↓reduceIte,reduceIte,Qa,Qh,Qb,Qc,Qd,Qe,Qf,Qg,reduceCtorEq, *,Jf hlt hl,-f2,-w1]) ⟨i+1,rfl,by omega,f2,?_⟩;simp only[go_sem,↓reduceIte,reduceIte,Qa,Qh,Qb,Qc,Qd,Qe,Qf,Qg,reduceCtorEq, *,Jf hlt hl,-f2,-w1];done)
  ·rw[List.drop_eq_nil_of_le (by omega),List.all_nil] at f2
   (repeat' (first
 | (with_reducible first|refine callX.by (w1) ?_|refine callX.by (JdS _ ?_ ?_) ?_|assumption|(refine Qw hK _ ?_;clear hK K)|refine Qw ‹_› _ ?_|refine Nx.out ‹_› ?_|refine Qi fun K hK=>?_|refine Qj T fun K hK=>?_|refine Ql fun A B hA hB=>?_|refine Qm ?_|refine Qn ?_|refine Qp ?_|refine Qr ?_)
 | ((with_reducible first|apply Qy|apply Qz|apply QA)<;>intro hb<;>try simp only[nr] at hb)
 |simp only[go_sem,↓reduceIte,reduceIte,Qa,Qh,Qb,Qc,Qd,Qe,Qf,Qg,reduceCtorEq, *,-f2,-w1]
 |with_reducible refine fun(bn:Bool) hbn=>?_))
   all_goals ((repeat clear hK);(repeat clear hA);(repeat clear hB))
   all_goals (rw[f2];simp_all)
theorem Jea(l:List Snap):(∀x∈l.dropLast,0<x.pins)↔∀i,(h:i+1<l.length)→0<l[i].pins:=by
 constructor
 ·intro h i hi
  have h1:i<l.dropLast.length:=by simp;omega
  have:=h _ (QC h1)
  simpa using this
 ·intro h x hx
  obtain⟨i,hi,rfl⟩:=List.getElem_of_mem hx
  simp only[List.length_dropLast] at hi
  simpa using h i (by omega)
theorem JrW{l:List Snap}{q:Snap→Bool}(h:l.Pairwise (fun x y=>x.id<y.id)):(l.filter q).Pairwise (fun x y=>x.id<y.id):=h.sublist List.filter_sublist
theorem JmP(p:Pins)(l:List Res):OkP (JeC p l).1:=by
 have h:=JfS p
 unfold JeC
 simp only
 generalize VO p=q at *
 split
 ·exact h
 ·rename_i h1
  split
  ·exact h
  ·rename_i h2
   have hw:IntKind.i64.wrap (q.next'+1)=q.next'+1:=IntWalk.i64_in _ (by have:=h.lo;have:=h.hi;omega)
   rw[hw]
   have h3:=h.hi;have h4:=h.lo
   refine⟨by simp only;omega,by simp only;omega,by simp only[List.length_append,List.length_cons,List.length_nil];omega,?_,?_,?_⟩
   ·rw[List.pairwise_append]
    refine⟨JrW h.up,by simp,fun x hx y hy=>?_⟩
    simp only[List.mem_singleton] at hy
    subst hy
    have:=h.mem x ((List.mem_filter.1 hx).1)
    simp only;omega
   ·intro x hx
    rcases List.mem_append.1 hx with hx|hx
    ·have:=h.mem x ((List.mem_filter.1 hx).1)
     simp only;omega
    ·simp only[List.mem_singleton] at hx
     subst hx
     simp only;omega
   ·intro x hx
    simp only[List.dropLast_concat] at hx
    simpa using(List.mem_filter.1 hx).2
theorem JnO{q:Pins}{k:Nat}{s:Snap}(hk:k<q.snaps.length)(h:0<s.pins∨k+1=q.snaps.length):Jbo q k s=⟨q.next',q.snaps.set k s⟩:=by
 rw[Jbo,if_pos h,JjS _ _ _ hk]
theorem JnN{q:Pins}{k:Nat}{s:Snap}(h:¬(0<s.pins∨k+1=q.snaps.length)):Jbo q k s=⟨q.next',q.snaps.eraseIdx k⟩:=by
 rw[Jbo,if_neg h,List.eraseIdx_eq_take_drop_succ];simp
theorem JmQ{q:Pins}(h:OkP q){k:Nat}{s:Snap}(hk:k<q.snaps.length)(hid:s.id=q.snaps[k].id)(h0:0≤s.pins)(h1:s.pins≤10000):OkP (Jbo q k s):=by
 have hb:=h.mem _ (QC hk)
 by_cases hc:0<s.pins∨k+1=q.snaps.length
 ·rw[JnO hk hc]
  refine⟨h.lo,h.hi,by simpa using h.len,?_,?_,?_⟩
  ·have h2:(q.snaps.map (·.id)).Pairwise (· < ·):=List.pairwise_map.2 h.up
   suffices h3:((q.snaps.set k s).map (·.id)).Pairwise (· < ·) from List.pairwise_map.1 h3
   rw[List.map_set,hid]
   have:(q.snaps.map (·.id)).set k q.snaps[k].id=q.snaps.map (·.id):=by
    have e:q.snaps[k].id=(q.snaps.map (·.id))[k]'(by simpa using hk):=by simp
    rw[e,List.set_getElem_self]
   rw[this];exact h2
  ·intro x hx
   rcases List.mem_or_eq_of_mem_set hx with hx|rfl
   ·exact h.mem x hx
   ·simp only;omega
  ·rw[Jea]
   have hp:=(Jea _).1 h.pos
   intro i hi
   simp only[List.length_set] at hi
   simp only[List.getElem_set]
   split
   ·omega
   ·exact hp i hi
 ·rw[JnN hc]
  refine⟨h.lo,h.hi,?_,h.up.sublist (List.eraseIdx_sublist _ _),fun x hx=>h.mem x (List.mem_of_mem_eraseIdx hx),?_⟩
  ·have:=h.len
   simp only[List.length_eraseIdx];split<;>omega
  ·rw[Jea]
   have hp:=(Jea _).1 h.pos
   intro i hi
   simp only[List.length_eraseIdx,if_pos hk] at hi
   rw[List.getElem_eraseIdx]
   split
   ·exact hp i (by omega)
   ·exact hp (i+1) (by omega)
theorem Jh2{l:List Snap}{s:Snap}(h:l.getLast?=some s):∃hk:l.length-1<l.length,l[l.length-1]=s:=by
 have hne:0<l.length:=by
  cases l with
  |nil=>simp at h
  |cons=>simp
 refine⟨by omega,?_⟩
 rw[List.getLast?_eq_getElem?,List.getElem?_eq_getElem (by omega)] at h
 exact Option.some.inj h
theorem JmO(p:Pins):OkP (JeB p).1:=by
 have h:=JfS p
 unfold JeB
 simp only
 generalize VO p=q at *
 cases hg:q.snaps.getLast? with
 |none=>exact h
 |some s =>
  obtain⟨hk,rfl⟩:=Jh2 hg
  have hb:=h.mem _ (QC hk)
  simp only
  split
  ·exact h
  ·have hw:IntKind.i64.wrap (q.snaps[q.snaps.length-1].pins+1)=q.snaps[q.snaps.length-1].pins+1:=IntWalk.i64_in _ (by omega)
   exact JmQ h hk rfl (by simp only[hw];omega) (by simp only[hw];omega)
theorem JnD{q:Pins}(h:OkP q){k:Nat}(hk:k<q.snaps.length):Jez q q.snaps[k].id=(q.snaps[k].l,true):=by
 rw[Jez,Jjy h,JhL h.up hk]
theorem OkP.small{p:Pins}(h:OkP p):Jc p.snaps.length:=by have:=h.len;unfold Jc;omega
def Y0(e:Int):Prop:=0≤e∧e≤15∧e≠9
theorem JnV(r:Res):Y0 (Vc r):=by unfold Vc Y0;repeat' split;all_goals omega
theorem JhN:∀l:List Res,Y0 (Yy l)
 | []=>by simp[Yy,Y0]
 |r :: l=>by
  rw[Yy]
  split
  ·exact JhN l
  ·exact JnV r
theorem JoJ(l:List Res):Y0 (JN l):=by
 have:=JhN l
 unfold JN
 repeat' split
 all_goals first|exact this|simp[Y0]
theorem Jmx(c:Int)(l:List Res):Y0 (J0 c l):=by
 have:=JoJ l
 unfold J0 Vq
 repeat' split
 all_goals first|exact this|simp[Y0]
theorem Jkw(c:Cache)(a:List Res)(g:List Key):Y0 (J4 c a g).2:=by
 have:=Jmx (Vo c).cap (Yq (Vo c).l a g)
 unfold J4
 simp only
 split
 ·simp[Y0]
 ·exact this
theorem Jor(w:Warm)(a:List Res)(g:List Key):Y0 (JW w a g).2.2:=by
 have:=Jkw (Yt w).c a g
 unfold JW
 simp only
 repeat' split
 all_goals first|exact this|simp[Y0]
theorem Jf2(p:Pins)(l:List Res):OkP (Vh p l).1:=by rw[Jm9];exact JmP p l
theorem Jm8{p:Pins}{l:List Res}(h:(Vh p l).2.2=0):(JY (Vh p l).1).2=(l,true):=by
 have h0:=Jcg (Jf2 p l)
 unfold JY
 rw[h0]
 unfold Vh at h ⊢
 simp only at h ⊢
 by_cases h1:(Jr p).next'=2147483647
 ·rw[if_pos h1] at h;simp at h
 ·rw[if_neg h1] at h ⊢
  by_cases h2:1000≤((Jr p).snaps.filter fun x=>!decide (x.pins=0)).length
  ·rw[if_pos h2] at h;simp at h
  ·rw[if_neg h2]
   simp
theorem Jfl{e:Four}(h:ZL e=true){k n:Int}(hn:0≤n∧n≤15):ZL (Jbq e k n)=true:=by
 have hn2:=fin_iff.2 hn
 unfold ZL at h ⊢
 simp only[Bool.and_eq_true] at h ⊢
 obtain⟨⟨⟨g0,g1⟩,g2⟩,g3⟩:=h
 unfold Jbq
 repeat' split
 all_goals simp only[hn2,g0,g1,g2,g3,and_self]
theorem Jop{s:Side}(h:Vi s=true)(f:Frame):Vi (Jz s f).1=true:=by
 obtain⟨h1,h2,h3,h4,h5,h6,h7,h8⟩:=saneS_iff.1 h
 have k1:=Jgt h5 f.adds f.gone
 have k2:=Jou h5 f.adds f.gone
 have k3:=Jot h5 f.adds f.gone
 have k4:=Jor s.w f.adds f.gone
 unfold Jz
 generalize JW s.w f.adds f.gone=r at *
 obtain⟨w,ch,why⟩:=r
 simp only at k1 k2 k3 k4 ⊢
 cases ch
 ·simp only[Bool.false_eq_true,↓reduceIte,h7]
  have hs:s.w.shown=w.shown:=by simpa using k2.symm
  rw[Bool.or_false] at k3
  refine saneS_iff.2 ⟨h1,h2,Jfl h3 ⟨k4.1,k4.2.1⟩,h4,k1,h6,h7,?_⟩
  unfold Jaq at h8 ⊢
  simp only[k3,←hs]
  exact h8
 ·simp only[↓reduceIte]
  by_cases he:(Vh s.p w.shown).2.2=0
  ·rw[if_pos he]
   by_cases hr:Y8 (Vh s.p w.shown).1=true
   ·rw[if_pos hr]
    refine saneS_iff.2 ⟨h1,h2,Jfl h3 ⟨k4.1,k4.2.1⟩,h4,k1,(Ji3 _).2 (Jf2 _ _),hr,?_⟩
    have hc:=Jm8 he
    unfold Jaq
    simp only[hc,k3,Bool.or_true]
    simp
   ·rw[if_neg hr]
    exact saneS_iff.2 ⟨h1,h2,Jfl h3 (by omega),h4,h5,h6,h7,h8⟩
  ·rw[if_neg he];exact h
theorem Jmz(i:In)(k n:Int):Yp (VB i k n).1=true:=by
 have h:=JiB i
 have hr:=JfR h
 unfold VB
 by_cases hk4:0≤k∧k<4
 ·rw[if_neg (by simpa using hk4)]
  split
  ·exact h
  ·split
   ·exact h
   ·rename_i h2
    simp only[not_or,Decidable.not_not] at h2
    obtain⟨h2,h3⟩:=h2
    obtain⟨⟨r0,q0⟩,⟨r1,q1⟩,⟨r2,q2⟩,⟨r3,q3⟩,rm,qm⟩:=hr
    simp only[Yp,Bool.and_eq_true,decide_eq_true_eq]
    have hn:0≤n∧n≤(Vt i).max:=by
     unfold Jaa at h2
     refine⟨?_,by omega⟩
     split at h2
     ·omega
     ·split at h2
      ·omega
      ·split at h2<;>omega
    have e1:∀x:Int,0≤x∧x≤(Vt i).max→VM (Vt i).max x=x:=fun x hx=>by unfold VM;omega
    have e2:(Vt i).max=JS (Vt i).max:=by unfold JS;omega
    refine⟨?_,e2⟩
    unfold Jbq
    repeat' split
    all_goals exact⟨e1 _ (by first|exact hn|exact⟨r0,q0⟩),e1 _ (by first|exact hn|exact⟨r1,q1⟩),e1 _ (by first|exact hn|exact⟨r2,q2⟩),e1 _ (by first|exact hn|exact⟨r3,q3⟩)⟩
 ·rw[if_pos (by simpa using hk4)];exact h
theorem Jak{s:Side}(h:Vi s=true):JC s=s:=by unfold JC;rw[if_pos h]
theorem JjN{s:Side}(h:Vi s=true)(h1:s.turn≠2147483647):Vi { s with turn:=s.turn+1 }=true:=by
 obtain⟨g1,g2,g⟩:=saneS_iff.1 h
 exact saneS_iff.2 ⟨g1,⟨by simp only;omega,by simp only;omega⟩,g⟩
theorem JnW{s:Side}(h:Vi s=true){i:In}(h1:Yp i=true):Vi { s with in':=i }=true:=by
 obtain⟨g1,g2,g3,g4,g⟩:=saneS_iff.1 h
 exact saneS_iff.2 ⟨g1,g2,g3,h1,g⟩
theorem Jfx(s:Side)(f:Frame):Vi (JA s f).1=true:=by
 have h:=Jco s
 unfold JA
 generalize JC s=b at *
 simp only
 have k:=Jgr b f
 have k1:=Jop h f
 have k2:=Jmz b.in' f.kind f.nonce
 generalize Jz b f=r at *
 generalize VB b.in' f.kind f.nonce=t at *
 split
 ·split
  ·split
   ·exact h
   ·rename_i h2
    split
    ·exact JjN (s:={ r.1 with in':=t.1 }) (JnW k1 k2) (by simp only;rw[k.1];exact h2)
    ·exact h
  ·split
   ·split
    ·exact h
    ·rename_i h2;exact JjN h h2
   ·exact h
 ·exact h
theorem Jhn(s:Side)(n:Int):Vi (JD s n).1=true:=by
 have h:=Jco s
 unfold JD
 generalize JC s=b at *
 simp only
 split
 ·exact h
 ·rename_i h1
  split
  ·exact h
  ·rename_i h2
   obtain⟨g1,g2,g3,g4,g⟩:=saneS_iff.1 h
   refine saneS_iff.2 ⟨⟨by simp only;omega,by simp only;omega⟩,⟨by simp only;omega,by simp only;omega⟩,(by decide:ZL z4=true),?_,g⟩
   have h4:=JfR g4
   have e1:JS (JS b.in'.max)=JS b.in'.max:=by unfold JS;omega
   have e2:VM (JS b.in'.max) 0=0:=by unfold VM JS;omega
   simp only[Yp,Jgz,JgA,JgB,JgC,e1,e2,decide_true,Bool.and_self]
structure Bd(p:Pins)(n:Nat):Prop where
 len:p.snaps.length≤n
 all:∀x∈p.snaps,x.l.length≤80∧Jdy x
theorem Jh4:∀(l:List Snap),(∀x∈l,x.l.length≤80)→(J2 l).length≤l.length*80
 | [],_=>by simp[J2]
 |x :: l,h=>by
  have:=Jh4 l fun y hy=>h y (by simp[hy])
  have h1:=h x (by simp)
  rw[Jh3,List.length_append,List.length_map,List.length_cons]
  omega
theorem Bd.sz{p:Pins}{n:Nat}(h:Bd p n)(hn:n≤1000000):SzP p:=by
 have h1:=Jh4 p.snaps fun x hx=>(h.all x hx).1
 have h2:=h.len
 exact⟨by unfold Jc;omega,fun x hx=>(h.all x hx).2,by unfold Jc;omega⟩
theorem Bd.sane{p:Pins}{n:Nat}(h:Bd p n):Bd (Jr p) n:=by
 rcases Jf4 p with e|e<;>rw[e]
 ·exact h
 ·exact⟨by simp,by simp⟩
theorem Bd.publish{p:Pins}{n:Nat}(h:Bd p n){l:List Res}(h1:l.length≤80)(h2:∀r∈l,Ju r):Bd (Vh p l).1 (n+1):=by
 have h0:=h.sane
 unfold Vh
 simp only
 generalize Jr p=q at *
 have hf:=List.length_filter_le (fun x:Snap=>!decide (x.pins=0)) q.snaps
 have hl:=h0.len
 split
 ·exact⟨Nat.le_succ_of_le hl,h0.all⟩
 ·split
  ·exact⟨Nat.le_succ_of_le hl,h0.all⟩
  ·refine⟨by simp only[List.length_append,List.length_cons,List.length_nil];omega,fun x hx=>?_⟩
   rcases List.mem_append.1 hx with hx|hx
   ·exact h0.all x (List.mem_filter.1 hx).1
   ·rw[List.mem_singleton] at hx
    subst hx
    exact⟨h1,by unfold Jc;simp only;omega,h2⟩
structure BdS(s:Side)(n:Nat):Prop where
 c:s.w.c.l.length≤80
 w:s.w.shown.length≤80
 sc:∀r∈s.w.c.l,Ju r
 sw:∀r∈s.w.shown,Ju r
 p:Bd s.p n
theorem BdS.sz{s:Side}{n:Nat}(h:BdS s n)(hn:n≤1000000):SzS s:=by
 have h1:=h.c
 have h2:=h.w
 exact⟨by omega,⟨⟨by unfold Jc;omega,h.sc⟩,by unfold Jc;omega,h.sw⟩,h.p.sz hn⟩
theorem BdS.sane{s:Side}{n:Nat}(h:BdS s n):BdS (JC s) n:=by
 unfold JC
 split
 ·exact h
 ·exact⟨by simp[Jk],by simp[Jk],by simp[Jk],by simp[Jk],⟨by simp[Jk],by simp[Jk]⟩⟩
theorem Jgs{w:Warm}(h:Vp w=true){a:List Res}(g:List Key)(h1:∀r∈w.c.l,Ju r)(h2:∀r∈a,Ju r) :
  (JW w a g).1.c.l.length≤80∧(JW w a g).1.shown.length≤80∧(∀r∈(JW w a g).1.c.l,Ju r)∧∀r∈(JW w a g).1.shown,Ju r:=by
 have k:=Jgt h a g
 have k1:=JjO k
 have k2:=JjP k
 have k3:∀r∈(JW w a g).1.c.l,Ju r:=fun r hr=>(Jos h hr).elim (h1 r) (h2 r)
 exact⟨by omega,by omega,k3,fun r hr=>k3 r (JnY k hr)⟩
theorem BdS.step{s:Side}{n:Nat}(h:BdS s n)(hs:Vi s=true){f:Frame}(hf:∀r∈f.adds,Ju r):BdS (Jz s f).1 (n+1):=by
 obtain⟨k1,k2,k3,k4⟩:=Jgs (saneS_iff.1 hs).2.2.2.2.1 f.gone h.sc hf
 have hp:=h.p.publish k2 k4
 have hn:Bd s.p (n+1):=⟨by have:=h.p.len;omega,h.p.all⟩
 unfold Jz
 generalize JW s.w f.adds f.gone=r at *
 obtain⟨w,ch,why⟩:=r
 simp only at k1 k2 k3 k4 hp ⊢
 cases ch<;>simp only[Bool.false_eq_true,↓reduceIte]
 ·split
  ·exact⟨k1,k2,k3,k4,hn⟩
  ·exact⟨h.c,h.w,h.sc,h.sw,hn⟩
 ·split
  ·split
   ·exact⟨k1,k2,k3,k4,hp⟩
   ·exact⟨h.c,h.w,h.sc,h.sw,hn⟩
  ·exact⟨h.c,h.w,h.sc,h.sw,hn⟩
theorem BdS.handle{s:Side}{n:Nat}(h:BdS s n){f:Frame}(hf:∀r∈f.adds,Ju r):BdS (JA s f).1 (n+1):=by
 have hb:=h.sane
 have hr:=hb.step (Jco s) hf
 have hn:BdS (JC s) (n+1):=⟨hb.c,hb.w,hb.sc,hb.sw,by have:=hb.p.len;omega,hb.p.all⟩
 unfold JA
 generalize JC s=b at *
 simp only
 generalize Jz b f=r at *
 repeat' split
 all_goals first|exact hn|exact⟨hr.c,hr.w,hr.sc,hr.sw,hr.p⟩|exact⟨hn.c,hn.w,hn.sc,hn.sw,hn.p⟩
def sA:Side:=⟨1,1,true,⟨z4,9⟩,z4,⟨⟨9,[]⟩,false,[]⟩,⟨0,[]⟩⟩
def sB:Side:=⟨1,2,true,⟨⟨0,0,0,1⟩,9⟩,z4,⟨⟨9,[eR]⟩,false,[]⟩,⟨0,[]⟩⟩
def sC:Side:=⟨1,3,true,⟨⟨0,0,0,1⟩,9⟩,z4,⟨⟨9,[eR]⟩,false,[]⟩,⟨0,[]⟩⟩
def fA:Frame:=⟨1,1,3,1,0,[eR],[],0,[],[]⟩
def aA(t:Int):Frame:=⟨2,1,3,1,t,[],[],0,[],[]⟩
theorem c01:(0:Int)<((1:Nat):Int):=by decide
theorem JmE:Jk 9 9=⟨0,0,false,⟨z4,9⟩,z4,⟨⟨9,[]⟩,false,[]⟩,⟨0,[]⟩⟩:=rfl
theorem Jhi:JD (Jk 9 9) 1=(sA,[⟨0,1,0,0,0,[],[],0,[],[]⟩,⟨3,1,0,0,1,[],[],0,[],[]⟩],0):=by
 unfold JD
 rw[Jak (JfM 9 9),JmE]
 simp[Jd1,Jd8,sA]
 decide
theorem JjJ:Vi sA=true:=by
 have:=Jhn (Jk 9 9) 1
 rwa [Jhi] at this
theorem JnE:Y8 ⟨0,[]⟩=true:=(saneS_iff.1 JjJ).2.2.2.2.2.2.1
theorem Jov:JW ⟨⟨9,[]⟩,false,[]⟩ [eR] []=(⟨⟨9,[eR]⟩,false,[]⟩,false,0):=by
 have h9:Vp ⟨⟨9,[]⟩,false,[]⟩=true:=JiG 9
 rw[Jdn h9]
 simp only[Jkz,JeM JmH,Jhy,if_true]
theorem JhV:Yz fA=0:=by decide
theorem Jon:Jz sA fA=(⟨1,1,true,⟨z4,9⟩,z4,⟨⟨9,[eR]⟩,false,[]⟩,⟨0,[]⟩⟩,0):=by
 unfold Jz
 rw[show JW sA.w fA.adds fA.gone=_ from Jov]
 simp only[Bool.false_eq_true,↓reduceIte]
 rw[if_pos (show Y8 sA.p=true from JnE)]
 rfl
theorem Jfu:JA sA fA=(sB,[aA 2],0):=by
 unfold JA
 rw[Jak JjJ]
 simp only
 rw[if_pos (refusesS_iff.2 ⟨rfl,JhV,rfl,rfl⟩),show VB sA.in' fA.kind fA.nonce=(⟨⟨0,0,0,1⟩,9⟩,0) by decide,Jon]
 simp only[↓reduceIte]
 rw[if_neg (by decide)]
 simp only[JdD,Jd1]
 rfl
theorem JjK:Vi sB=true:=by
 have:=Jfx sA fA
 rwa [Jfu] at this
theorem Jfv:JA sB fA=(sC,[aA 3],9):=by
 unfold JA
 rw[Jak JjK]
 simp only
 rw[if_pos (refusesS_iff.2 ⟨rfl,JhV,rfl,rfl⟩),show VB sB.in' fA.kind fA.nonce=(⟨⟨0,0,0,1⟩,9⟩,9) by decide]
 rw[if_neg (by decide),if_pos rfl,if_neg (by decide)]
 simp only[JdD]
 rw[show Vk sB.p=[] from Jd1]
 rfl
theorem JnP:Vi sC=true:=by
 have:=Jfx sB fA
 rwa [Jfv] at this
theorem bdA:BdS sA 0:=⟨by simp[sA],by simp[sA],by simp[sA],by simp[sA],⟨by simp[sA],by simp[sA]⟩⟩
theorem bdB:BdS sB 1:=by
 have:=bdA.handle (f:=fA) JcG
 rwa [Jfu] at this
theorem bdC:BdS sC 2:=by
 have:=bdB.handle (f:=fA) JcG
 rwa [Jfv] at this
theorem JhE:VG fA:=⟨by simp[Jc,fA],JcG,by simp[Jc,fA],by simp[fA],by simp[Jc,fA],by simp[fA],by simp[Jc,fA],by simp[fA]⟩
theorem Jfy{s:Side}{n:Nat}(h:BdS s n)(hn:n<1000000){f:Frame}(hf:∀r∈f.adds,Ju r)(hl:f.adds.length≤80) :
  (JC s).w.c.l.length+f.adds.length≤65536∧SzP (Vh (JC s).p (JW (JC s).w f.adds f.gone).1.shown).1:=by
 have hb:=h.sane
 have h1:=hb.c
 obtain⟨k1,k2,k3,k4⟩:=Jgs (saneS_iff.1 (Jco s)).2.2.2.2.1 f.gone hb.sc hf
 exact⟨by omega,(hb.p.publish k2 k4).sz (by omega)⟩
set_option maxHeartbeats 4000000 in
theorem Zd:CallR Tryz.prog 7 [] (.val (.bool true)):=by
 have w0:CallR Tryz.prog 21 [.int .i64 9,.int .i64 9] (.val (.agg [.int .i64 (0),.int .i64 (0),.bool (false),.int .i64 (0),.int .i64 (0),.int .i64 (0),.int .i64 (0),.int .i64 (9),.int .i64 (0),.int .i64 (0),.int .i64 (0),.int .i64 (0),.int .i64 (9),.slice false (Ja ([]:List Res)),.bool (false),.slice false (Ja ([]:List Res)),.int .i64 (0),.slice false (Ja ([]:List Snap))])):=Ya 9 9
 have w1:CallR Tryz.prog 17 [.agg [.int .i64 (0),.int .i64 (0),.bool (false),.int .i64 (0),.int .i64 (0),.int .i64 (0),.int .i64 (0),.int .i64 (9),.int .i64 (0),.int .i64 (0),.int .i64 (0),.int .i64 (0),.int .i64 (9),.slice false (Ja ([]:List Res)),.bool (false),.slice false (Ja ([]:List Res)),.int .i64 (0),.slice false (Ja ([]:List Snap))],.int .i64 1] (.val (.tup [.agg [.int .i64 (1),.int .i64 (1),.bool (true),.int .i64 (0),.int .i64 (0),.int .i64 (0),.int .i64 (0),.int .i64 (9),.int .i64 (0),.int .i64 (0),.int .i64 (0),.int .i64 (0),.int .i64 (9),.slice false (Ja ([]:List Res)),.bool (false),.slice false (Ja ([]:List Res)),.int .i64 (0),.slice false (Ja ([]:List Snap))],.slice false [.agg [.int .i64 0,.int .i64 1,.int .i64 0,.int .i64 0,.int .i64 0,.slice false [],.slice false [],.int .i64 0,.slice false [],.slice false []],.agg [.int .i64 3,.int .i64 1,.int .i64 0,.int .i64 0,.int .i64 1,.slice false [],.slice false [],.int .i64 0,.slice false [],.slice false []]],.int .i64 0])):=by
  have hb:BdS (Jk 9 9) 0:=⟨by simp[Jk],by simp[Jk],by simp[Jk],by simp[Jk],⟨by simp[Jk],by simp[Jk]⟩⟩
  have h:=YM (0) (0) (false) (0) (0) (0) (0) (9) (0) (0) (0) (0) (9) ([]:List Res) (false) ([]:List Res) (0) ([]:List Snap) 1 (hb.sz (by decide))
  rw[show(⟨0,0,false,⟨⟨0,0,0,0⟩,9⟩,⟨0,0,0,0⟩,⟨⟨9,[]⟩,false,[]⟩,⟨0,[]⟩⟩:Side)=Jk 9 9 from rfl,Jhi] at h
  exact h
 have w2:CallR Tryz.prog 12 [.agg [.int .i64 (1),.int .i64 (1),.bool (true),.int .i64 (0),.int .i64 (0),.int .i64 (0),.int .i64 (0),.int .i64 (9),.int .i64 (0),.int .i64 (0),.int .i64 (0),.int .i64 (0),.int .i64 (9),.slice false (Ja ([]:List Res)),.bool (false),.slice false (Ja ([]:List Res)),.int .i64 (0),.slice false (Ja ([]:List Snap))],.agg [.int .i64 1,.int .i64 1,.int .i64 3,.int .i64 1,.int .i64 0,.slice false [.agg [.int .i64 3,.str [101],.int .i64 0,.int .i64 0,.str [],.slice false [],.slice false []]],.slice false [],.int .i64 0,.slice false [],.slice false []]] (.val (.tup [.agg [.int .i64 (1),.int .i64 (2),.bool (true),.int .i64 (0),.int .i64 (0),.int .i64 (0),.int .i64 (1),.int .i64 (9),.int .i64 (0),.int .i64 (0),.int .i64 (0),.int .i64 (0),.int .i64 (9),.slice false (Ja ([eR])),.bool (false),.slice false (Ja ([]:List Res)),.int .i64 (0),.slice false (Ja ([]:List Snap))],.slice false [.agg [.int .i64 2,.int .i64 1,.int .i64 3,.int .i64 1,.int .i64 2,.slice false [],.slice false [],.int .i64 0,.slice false [],.slice false []]],.int .i64 0])):=by
  obtain⟨p1,p2⟩:=Jfy bdA (by decide) (f:=fA) JcG (by decide)
  have h:=Jfw (1) (1) (true) (0) (0) (0) (0) (9) (0) (0) (0) (0) (9) ([]:List Res) (false) ([]:List Res) (0) ([]:List Snap) 1 1 3 1 0 [eR] [] 0 [] [] (bdA.sz (by decide)) JhE p1 p2
  rw[show(⟨1,1,true,⟨⟨0,0,0,0⟩,9⟩,⟨0,0,0,0⟩,⟨⟨9,[]⟩,false,[]⟩,⟨0,[]⟩⟩:Side)=sA from rfl,show(⟨1,1,3,1,0,[eR],[],0,[],[]⟩:Frame)=fA from rfl,Jfu] at h
  exact h
 have w3:CallR Tryz.prog 12 [.agg [.int .i64 (1),.int .i64 (2),.bool (true),.int .i64 (0),.int .i64 (0),.int .i64 (0),.int .i64 (1),.int .i64 (9),.int .i64 (0),.int .i64 (0),.int .i64 (0),.int .i64 (0),.int .i64 (9),.slice false (Ja ([eR])),.bool (false),.slice false (Ja ([]:List Res)),.int .i64 (0),.slice false (Ja ([]:List Snap))],.agg [.int .i64 1,.int .i64 1,.int .i64 3,.int .i64 1,.int .i64 0,.slice false [.agg [.int .i64 3,.str [101],.int .i64 0,.int .i64 0,.str [],.slice false [],.slice false []]],.slice false [],.int .i64 0,.slice false [],.slice false []]] (.val (.tup [.agg [.int .i64 (1),.int .i64 (3),.bool (true),.int .i64 (0),.int .i64 (0),.int .i64 (0),.int .i64 (1),.int .i64 (9),.int .i64 (0),.int .i64 (0),.int .i64 (0),.int .i64 (0),.int .i64 (9),.slice false (Ja ([eR])),.bool (false),.slice false (Ja ([]:List Res)),.int .i64 (0),.slice false (Ja ([]:List Snap))],.slice false [.agg [.int .i64 2,.int .i64 1,.int .i64 3,.int .i64 1,.int .i64 3,.slice false [],.slice false [],.int .i64 0,.slice false [],.slice false []]],.int .i64 9])):=by
  obtain⟨p1,p2⟩:=Jfy bdB (by decide) (f:=fA) JcG (by decide)
  have h:=Jfw (1) (2) (true) (0) (0) (0) (1) (9) (0) (0) (0) (0) (9) ([eR]) (false) ([]:List Res) (0) ([]:List Snap) 1 1 3 1 0 [eR] [] 0 [] [] (bdB.sz (by decide)) JhE p1 p2
  rw[show(⟨1,2,true,⟨⟨0,0,0,1⟩,9⟩,⟨0,0,0,0⟩,⟨⟨9,[eR]⟩,false,[]⟩,⟨0,[]⟩⟩:Side)=sB from rfl,show(⟨1,1,3,1,0,[eR],[],0,[],[]⟩:Frame)=fA from rfl,Jfv] at h
  exact h
 have w4:CallR Tryz.prog 18 [.agg [.int .i64 (1),.int .i64 (2),.bool (true),.int .i64 (0),.int .i64 (0),.int .i64 (0),.int .i64 (1),.int .i64 (9),.int .i64 (0),.int .i64 (0),.int .i64 (0),.int .i64 (0),.int .i64 (9),.slice false (Ja ([eR])),.bool (false),.slice false (Ja ([]:List Res)),.int .i64 (0),.slice false (Ja ([]:List Snap))]] (.val (.tup [.slice false [],.bool false])):=by
  have h:=YU (1) (2) (true) (0) (0) (0) (1) (9) (0) (0) (0) (0) (9) ([eR]) (false) ([]:List Res) (0) ([]:List Snap) (bdB.sz (by decide))
  rw[show(⟨1,2,true,⟨⟨0,0,0,1⟩,9⟩,⟨0,0,0,0⟩,⟨⟨9,[eR]⟩,false,[]⟩,⟨0,[]⟩⟩:Side)=sB from rfl,Jak JjK,show JY sB.p=(0,[],false) by unfold JY;rw[show Jr sB.p=⟨0,[]⟩ from Jf3];rfl] at h
  exact h
 have w5:CallR Tryz.prog 10 [.agg [.int .i64 (1),.int .i64 (3),.bool (true),.int .i64 (0),.int .i64 (0),.int .i64 (0),.int .i64 (1),.int .i64 (9),.int .i64 (0),.int .i64 (0),.int .i64 (0),.int .i64 (0),.int .i64 (9),.slice false (Ja ([eR])),.bool (false),.slice false (Ja ([]:List Res)),.int .i64 (0),.slice false (Ja ([]:List Snap))]] (.val (.bool true)):=by
  have h:=Yf (1) (3) (true) (0) (0) (0) (1) (9) (0) (0) (0) (0) (9) ([eR]) (false) ([]:List Res) (0) ([]:List Snap) (bdC.sz (by decide))
  rw[show(⟨1,3,true,⟨⟨0,0,0,1⟩,9⟩,⟨0,0,0,0⟩,⟨⟨9,[eR]⟩,false,[]⟩,⟨0,[]⟩⟩:Side)=sC from rfl,JnP] at h
  exact h
 refine CallR.go0 (T:=T.withF [20]) Tryz.call7 Tryz.func7 rfl Tryz.ntmps7 (congrArg Array.toList Tryz.results7) fun ts hn=>?_
 (repeat' (first
 | (with_reducible first|refine callX.by (w0) ?_|refine callX.by (w1) ?_|refine callX.by (w2) ?_|refine callX.by (w3) ?_|refine callX.by (w4) ?_|refine callX.by (w5) ?_|refine callX.by (Ya _ _) ?_|refine callX.by (YM _ _ _ _ _ _ _ _ _ _ _ _ _ _ _ _ _ _ _ ?_) ?_|refine callX.by (YU _ _ _ _ _ _ _ _ _ _ _ _ _ _ _ _ _ _ ?_) ?_|refine callX.by (Yf _ _ _ _ _ _ _ _ _ _ _ _ _ _ _ _ _ _ ?_) ?_|assumption|(refine Qw hK _ ?_;clear hK K)|refine Qw ‹_› _ ?_|refine Nx.out ‹_› ?_|refine Qi fun K hK=>?_|refine Qj (T.withF [20]) fun K hK=>?_|refine Ql fun A B hA hB=>?_|refine Qn ?_|refine Qr ?_)
 | ((with_reducible first|apply Qy|apply Qz|apply QA)<;>intro hb<;>try simp only[nr] at hb)
 |simp only[go_sem,↓reduceIte,reduceIte,Qa,Qh,Qb,Qc,Qd,Qe,Qf,Qg,reduceCtorEq, *,-w0,-w1,-w2,-w3,-w4,-w5,Int.le_refl,List.length_nil,List.length_cons,decide_true,Int.toNat_zero,List.drop_zero,List.getD_cons_zero,c01,w04]
 |with_reducible refine fun(bn:Bool) hbn=>?_))
 all_goals trace_state
structure Whole(l:List Res):Prop where
 good:Ja4 l=true
 miss:Jb3 l=[]
 orph:Jce l=[]
 nd:(l.map Jg).Nodup
 len:l.length≤80
 sm:∀r∈l,Ju r
theorem Jr3{w:Warm}(h:Vp w=true)(hs:∀r∈w.shown,Ju r):Whole w.shown:=by
 have hsh:=Jgp h
 have hsc:=saneC_iff.1 (saneW_iff.1 h).1
 have hnd:=(Z6 hsc.2.1).nodup
 have hl:=JjP h
 refine⟨JnX h,?_,?_,?_,by omega,hs⟩
 ·rw[hsh];exact Jmu hnd hsc.2.2.2
 ·rw[hsh];exact JmY hnd
 ·rw[hsh];exact JfO hnd (JaJ _)
structure KeepP(p:Pins)(ids:List Int)(was:List (List Res))(b:Nat):Prop where
 ok:OkP p
 whole:∀x∈p.snaps,Whole x.l
 pins:∀x∈p.snaps,x.pins≤b
 eq:was.length=ids.length
 len:ids.length≤b
 held:∀k,(h:k<ids.length)→(h2:k<was.length)→∃x∈p.snaps,x.id=ids[k]∧0<x.pins∧x.l=was[k]
theorem KeepP.get{p:Pins}{ids:List Int}{was:List (List Res)}{b:Nat}(h:KeepP p ids was b){k:Nat}(hk:k<ids.length)(h2:k<was.length):JaG p ids[k]=(was[k],true):=by
 obtain⟨x,hx,e1,e2,e3⟩:=h.held k hk h2
 obtain⟨i,hi,rfl⟩:=List.getElem_of_mem hx
 rw[Jm2,←e1,JnD h.ok hi,e3]
theorem KeepP.mono{p:Pins}{ids:List Int}{was:List (List Res)}{b c:Nat}(h:KeepP p ids was b)(hc:b≤c):KeepP p ids was c :=
 ⟨h.ok,h.whole,fun x hx=>by have:=h.pins x hx;omega,h.eq,by have:=h.len;omega,h.held⟩
theorem Jnd{p:Pins}(h:OkP p)(l:List Res):(Vh p l).1=p∨∃n,(Vh p l).1=⟨n,p.snaps.filter (fun x=>!decide (x.pins=0))++[⟨n,0,l⟩]⟩:=by
 unfold Vh
 rw[Jcg h]
 simp only
 split
 ·exact .inl rfl
 ·split
  ·exact .inl rfl
  ·exact .inr ⟨_,rfl⟩
theorem KeepP.publish{p:Pins}{ids:List Int}{was:List (List Res)}{b:Nat}(h:KeepP p ids was b){l:List Res}(hw:Whole l):KeepP (Vh p l).1 ids was b:=by
 have ok:=Jf2 p l
 rcases Jnd h.ok l with e|⟨n,e⟩
 ·rw[e];exact h
 ·rw[e] at ok ⊢
  refine⟨ok,fun x hx=>?_,fun x hx=>?_,h.eq,h.len,fun k hk h2=>?_⟩
  ·rcases List.mem_append.1 hx with hx|hx
   ·exact h.whole x (List.mem_filter.1 hx).1
   ·rw[List.mem_singleton] at hx;subst hx;exact hw
  ·rcases List.mem_append.1 hx with hx|hx
   ·exact h.pins x (List.mem_filter.1 hx).1
   ·rw[List.mem_singleton] at hx;subst hx;simp only;omega
  ·obtain⟨x,hx,e1,e2,e3⟩:=h.held k hk h2
   exact⟨x,List.mem_append_left _ (List.mem_filter.2 ⟨hx,by simp only[Bool.not_eq_true',decide_eq_false_iff_not];omega⟩),e1,e2,e3⟩
theorem Jh5(l:List Snap):J2 l=(l.map (·.l)).flatMap fun r=>r.map Jg:=by
 rw[J2,List.flatMap_map]
theorem KeepP.pin{p:Pins}{ids:List Int}{was:List (List Res)}{b:Nat}(h:KeepP p ids was b)(hb:b<10000) :
  (VC p=(p,0,10)∧(JY p).2.2=false)∨∃q id l,VC p=(q,id,0)∧(JY p).2=(l,true)∧(JY q).2=(l,true)∧q.snaps.length=p.snaps.length∧J2 q.snaps=J2 p.snaps ∧
   (∀x∈q.snaps,∃y∈p.snaps,x.l=y.l)∧KeepP q (ids++[id]) (was++[l]) (b+1):=by
 have hq:OkP (VC p).1:=by rw[Jm7];exact JmO p
 unfold JY
 unfold VC at hq ⊢
 simp only[Jcg h.ok] at hq ⊢
 cases hg:p.snaps.getLast? with
 |none=>exact .inl ⟨rfl,rfl⟩
 |some s =>
  rw[hg] at hq
  obtain⟨hk,hs⟩:=Jh2 hg
  have hm:s∈p.snaps:=List.mem_of_getLast? hg
  have h1:=h.pins s hm
  have h2:=h.ok.mem s hm
  have hw:IntKind.i64.wrap (s.pins+1)=s.pins+1:=IntWalk.i64_in _ (by omega)
  simp only at hq ⊢
  rw[if_neg (by omega),hw] at hq ⊢
  have hmem:∀x∈p.snaps.set (p.snaps.length-1) ⟨s.id,s.pins+1,s.l⟩,x∈p.snaps∨x=⟨s.id,s.pins+1,s.l⟩:=fun x hx=>List.mem_or_eq_of_mem_set hx
  have hin:(⟨s.id,s.pins+1,s.l⟩:Snap)∈p.snaps.set (p.snaps.length-1) ⟨s.id,s.pins+1,s.l⟩:=by
   have e:(p.snaps.set (p.snaps.length-1) ⟨s.id,s.pins+1,s.l⟩)[p.snaps.length-1]'(by simpa using hk)=⟨s.id,s.pins+1,s.l⟩:=by simp
   have:=QC (l:=p.snaps.set (p.snaps.length-1) ⟨s.id,s.pins+1,s.l⟩) (n:=p.snaps.length-1) (by simpa using hk)
   rwa [e] at this
  refine .inr ⟨_,_,s.l,rfl,rfl,?_,by simp,?_,fun x hx=>?_,⟨hq,fun x hx=>?_,fun x hx=>?_,by simp[h.eq],by have:=h.len;simp;omega,fun k hk1 hk2=>?_⟩⟩
  ·rw[Jcg hq]
   simp only[List.getLast?_eq_getElem?,List.length_set,List.getElem?_set_self hk]
  ·rw[Jh5,Jh5]
   congr 1
   simp only[List.map_set]
   have e:s.l=(p.snaps.map (·.l))[p.snaps.length-1]'(by simpa using hk):=by simp[hs]
   rw[e,List.set_getElem_self]
  ·rcases hmem x hx with hx|rfl
   ·exact⟨x,hx,rfl⟩
   ·exact⟨s,hm,rfl⟩
  ·rcases hmem x hx with hx|rfl
   ·exact h.whole x hx
   ·exact h.whole s hm
  ·rcases hmem x hx with hx|rfl
   ·have:=h.pins x hx;omega
   ·simp only;omega
  ·by_cases hkl:k<ids.length
   ·have hkw:k<was.length:=by rw[h.eq];exact hkl
    obtain⟨x,hx,e1,e2,e3⟩:=h.held k hkl hkw
    rw[List.getElem_append_left hkl,List.getElem_append_left hkw]
    obtain⟨i,hi,rfl⟩:=List.getElem_of_mem hx
    by_cases hil:i=p.snaps.length-1
    ·subst hil
     rw[hs] at e1 e2 e3
     exact⟨_,hin,e1,by simp only;omega,e3⟩
    ·refine⟨p.snaps[i],?_,e1,e2,e3⟩
     have e:(p.snaps.set (p.snaps.length-1) ⟨s.id,s.pins+1,s.l⟩)[i]'(by simpa using hi)=p.snaps[i]:=by
      rw[List.getElem_set_ne (fun h=>hil h.symm)]
     have:=QC (l:=p.snaps.set (p.snaps.length-1) ⟨s.id,s.pins+1,s.l⟩) (n:=i) (by simpa using hi)
     rwa [e] at this
   ·have he:=h.eq
    simp only[List.length_append,List.length_cons,List.length_nil] at hk1 hk2
    obtain rfl:k=ids.length:=by omega
    refine⟨_,hin,by simp,by simp only;omega,?_⟩
    rw[List.getElem_append_right (by omega)]
    simp[he]
structure ShI(s:Side)(ids:List Int)(was:List (List Res))(a b:Nat):Prop where
 sane:Vi s=true
 bd:BdS s a
 k:KeepP s.p ids was b
theorem JlN{s:Side}(h:Vi s=true)(f:Frame):(JA s f).1.p=s.p∨(JA s f).1.p=(Vh s.p (JW s.w f.adds f.gone).1.shown).1:=by
 have k:=(Jgr s f).2.2.2.2
 unfold JA
 rw[Jak h]
 simp only
 repeat' split
 all_goals first|exact k|exact .inl rfl
theorem ShI.handle{s:Side}{ids:List Int}{was:List (List Res)}{a b:Nat}(h:ShI s ids was a b){f:Frame}(hf:∀r∈f.adds,Ju r):ShI (JA s f).1 ids was (a+1) b:=by
 refine⟨Jfx s f,h.bd.handle hf,?_⟩
 have hw:=(saneS_iff.1 h.sane).2.2.2.2.1
 rcases JlN h.sane f with e|e<;>rw[e]
 ·exact h.k
 ·exact h.k.publish (Jr3 (Jgt hw f.adds f.gone) (Jgs hw f.gone h.bd.sc hf).2.2.2)
theorem ShI.mono{s:Side}{ids:List Int}{was:List (List Res)}{a b c:Nat}(h:ShI s ids was a b)(hc:b≤c):ShI s ids was a c:=⟨h.sane,h.bd,h.k.mono hc⟩
theorem ShI.begin{s:Side}{ids:List Int}{was:List (List Res)}{a b:Nat}(h:ShI s ids was a b)(hb:b<10000) :
  (JM s=s∧(VC s.p).2=(0,10)∧(JY s.p).2.2=false)∨∃id l,(VC s.p).2=(id,0)∧(JY (JM s).p).2=(l,true)∧ShI (JM s) (ids++[id]) (was++[l]) a (b+1):=by
 unfold JM
 rw[Jak h.sane]
 rcases h.k.pin hb with ⟨e1,e2⟩|⟨q,id,l,e1,e2,e3,e4,e5,e6,e7⟩
 ·rw[e1];exact .inl ⟨rfl,rfl,e2⟩
 ·rw[e1]
  refine .inr ⟨id,l,rfl,e3,?_,⟨h.bd.c,h.bd.w,h.bd.sc,h.bd.sw,?_⟩,e7⟩
  ·obtain⟨h1,h2,h3,h4,h5,h6,h7,h8⟩:=saneS_iff.1 h.sane
   refine saneS_iff.2 ⟨h1,h2,h3,h4,h5,(Ji3 _).2 e7.ok,?_,?_⟩
   ·have e8:Vk q=Vk s.p:=by
     unfold Vk
     rw[Jcg e7.ok,Jcg h.k.ok,e5]
    unfold Y8 at h7 ⊢
    rw[e8]
    exact h7
   ·unfold Jaq at h8 ⊢
    simp only[e3]
    rw[e2] at h8
    exact h8
  ·refine⟨by have:=h.bd.p.len;simp only;omega,fun x hx=>?_⟩
   obtain⟨y,hy,e⟩:=e6 x hx
   have h1:=h.bd.p.all y hy
   have h2:=h.k.ok
   refine⟨by rw[e];exact h1.1,?_⟩
   have h3:=h1.2
   unfold Jdy at h3 ⊢
   rw[e]
   exact h3
theorem Jhl(limit:Int):(JD (Jk limit 1000) 1).1=⟨1,1,true,⟨z4,1000⟩,z4,⟨⟨VI limit,[]⟩,false,[]⟩,⟨0,[]⟩⟩:=by
 unfold JD
 rw[Jak (JfM limit 1000)]
 simp only
 rw[if_neg (by simp[Jk]),if_neg (by simp[Jk])]
 rfl
theorem Jn6(limit:Int):ShI (JD (Jk limit 1000) 1).1 [] [] 0 0:=by
 refine⟨Jhn _ _,?_,?_⟩
 ·rw[Jhl]
  exact⟨by simp,by simp,by simp,by simp,⟨by simp,by simp⟩⟩
 ·rw[Jhl]
  exact⟨JiI,by simp,by simp,rfl,Nat.le_refl _,by simp⟩
end Go.Proofs.YtihahfhagobnoaaGreatDoor.Lg
