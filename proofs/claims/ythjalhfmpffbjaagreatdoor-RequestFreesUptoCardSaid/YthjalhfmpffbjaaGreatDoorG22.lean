/- Parts of the proof, one behind the other. -/
import Derived.Test.YthjalhfmpffbjaaGreatDoorG21
namespace Go.Proofs.YthjalhfmpffbjaaGreatDoor.Lg
set_option maxRecDepth 100000
set_option linter.unusedVariables false
set_option linter.unusedSimpArgs false
open Go
open Nat renaming reduceEqDiff → Qa, reduceLT → Qb, reduceLeDiff → Qc, reduceAdd → Qd, reduceMul → Qe, reduceSub → Qf, reduceBEq → Qg
open String renaming reduceEq → Qh
open SpecC renaming seqW → Qi, regW → Qj, drawW → Qk, condW → Ql, skip → Qn, ret → Qr
open NxK renaming out → Qw
open condK renaming split → Qy
open gK renaming split_t → Qz, split_f → QA
open List renaming getElem_mem → QC
def Jjq(s:Side)(f:Frame):Side×Int :=
 let w:=Y5 s.w f.adds f.gone
 let p:=if w.2.1=true then JfC s.p w.1.shown else (s.p,0,0)
 if p.2.2=0 then
  if JaW p.1=true then ({ s with w:=w.1,p:=p.1,errs:=Jjf s.errs f.kind w.2.2 },0) else ({ s with errs:=Jjf s.errs f.kind 8 },0)
 else (s,p.2.2)
theorem Jk7{n m:Int}:fin n m=true↔0≤n∧n≤m:=by simp[fin]
theorem saneS_iff{s:Side}:VD s=true↔(0≤s.epoch∧s.epoch≤2147483647)∧(0≤s.turn∧s.turn≤2147483647)∧Jbl s.errs=true∧Jcw s.in'=true∧VZ s.w=true∧Zm s.p=true∧JaW s.p=true∧Jbd s=true:=by
 unfold VD
 simp only[Bool.and_eq_true,Jk7,and_assoc]
theorem JfD:Jr ⟨0,[]⟩=⟨0,[]⟩:=by rcases JfE ⟨0,[]⟩ with h|h<;>exact h
theorem JlA:J1 ⟨0,[]⟩=[]:=by
 unfold J1
 rw[JfD]
 simp[JY,JI,VU,J8]
theorem JdM(a b:Int):VD (Je a b)=true:=by
 rw[saneS_iff]
 refine⟨by simp[Je],by simp[Je],(by decide:Jbl z4=true),?_,Jmu a,(by decide:Zm ⟨0,[]⟩=true),?_,by simp only[Je,Jbd,JN,JfD];decide⟩
 ·have h1:1≤Ym b∧Ym b≤2147483647:=by unfold Ym;omega
  have h2:Ym (Ym b)=Ym b:=by unfold Ym;omega
  have h3:YW (Ym b) 0=0:=by unfold YW;omega
  simp only[Je,Jcw,JrQ,JrR,JrS,JrT,h2,h3,decide_true,Bool.and_self]
 ·show JaW ⟨0,[]⟩=true
  unfold JaW
  rw[JlA]
  decide
theorem JnQ(s:Side):VD (Jw s)=true:=by
 unfold Jw
 split
 ·assumption
 ·exact JdM _ _
def Jbn(s:Side):Bool:=Yu s.w.c.l && Yu s.w.shown && JaF s.p
set_option maxHeartbeats 4000000 in
theorem Jk2(s_epoch:Int)(s_turn:Int)(s_up:Bool)(s_in_last_a0:Int)(s_in_last_a1:Int)(s_in_last_a2:Int)(s_in_last_a3:Int)(s_in_max:Int)(s_errs_a0:Int)(s_errs_a1:Int)(s_errs_a2:Int)(s_errs_a3:Int)(s_w_c_cap:Int)(s_w_c_l:List Res)(s_w_ready:Bool)(s_w_shown:List Res)(s_p_next:Int)(s_p_snaps:List Snap)(hw:ZT ⟨⟨s_w_c_cap,s_w_c_l⟩,s_w_ready,s_w_shown⟩)(hl:Jc s_p_snaps.length)(hs:∀x∈s_p_snaps,VR x):CallR Tryz.prog 31 [.agg [.int .i64 s_epoch,.int .i64 s_turn,.bool s_up,.int .i64 s_in_last_a0,.int .i64 s_in_last_a1,.int .i64 s_in_last_a2,.int .i64 s_in_last_a3,.int .i64 s_in_max,.int .i64 s_errs_a0,.int .i64 s_errs_a1,.int .i64 s_errs_a2,.int .i64 s_errs_a3,.int .i64 s_w_c_cap,.slice false (Ja s_w_c_l),.bool s_w_ready,.slice false (Ja s_w_shown),.int .i64 s_p_next,.slice false (Ja s_p_snaps)]] (.val (.bool (Jbn (⟨s_epoch,s_turn,s_up,⟨⟨s_in_last_a0,s_in_last_a1,s_in_last_a2,s_in_last_a3⟩,s_in_max⟩,⟨s_errs_a0,s_errs_a1,s_errs_a2,s_errs_a3⟩,⟨⟨s_w_c_cap,s_w_c_l⟩,s_w_ready,s_w_shown⟩,⟨s_p_next,s_p_snaps⟩⟩:Side)))):=by
 have w1:=Jb6 s_w_c_l hw.1.1 hw.1.2
 have w2:=Jb6 s_w_shown hw.2.1 hw.2.2
 have w3:=Jk1 s_p_next s_p_snaps hl hs
 have e:Jbn (⟨s_epoch,s_turn,s_up,⟨⟨s_in_last_a0,s_in_last_a1,s_in_last_a2,s_in_last_a3⟩,s_in_max⟩,⟨s_errs_a0,s_errs_a1,s_errs_a2,s_errs_a3⟩,⟨⟨s_w_c_cap,s_w_c_l⟩,s_w_ready,s_w_shown⟩,⟨s_p_next,s_p_snaps⟩⟩:Side)=(Yu s_w_c_l && Yu s_w_shown && JaF ⟨s_p_next,s_p_snaps⟩):=rfl
 rw[e]
 clear hw hl hs e
 generalize Yu s_w_c_l=a at *
 generalize Yu s_w_shown=b at *
 generalize JaF ⟨s_p_next,s_p_snaps⟩=c at *
 refine CallR.go1 (T:=T) Tryz.call31 Tryz.func31 rfl Tryz.ntmps31 (congrArg Array.toList Tryz.results31) (by decide) fun ts hn h0=>?_
 (repeat' (first
 | (with_reducible first|refine callX.by (w1) ?_|refine callX.by (w2) ?_|refine callX.by (w3) ?_|assumption|(refine Qw hK _ ?_;clear hK K)|refine Qw ‹_› _ ?_|refine Nx.out ‹_› ?_|refine Qi fun K hK=>?_|refine Qj T fun K hK=>?_|refine Ql fun A B hA hB=>?_|refine Qn ?_|refine Qr ?_)
 | ((with_reducible first|apply Qy|apply Qz|apply QA)<;>intro hb<;>try simp only[nr] at hb)
 |simp only[go_sem,↓reduceIte,reduceIte,Qa,Qh,Qb,Qc,Qd,Qe,Qf,Qg,reduceCtorEq, *,-w1,-w2,-w3]
 |with_reducible refine fun(bn:Bool) hbn=>?_))
 all_goals simp_all
set_option maxHeartbeats 4000000 in
theorem JnO(s_epoch:Int)(s_turn:Int)(s_up:Bool)(s_in_last_a0:Int)(s_in_last_a1:Int)(s_in_last_a2:Int)(s_in_last_a3:Int)(s_in_max:Int)(s_errs_a0:Int)(s_errs_a1:Int)(s_errs_a2:Int)(s_errs_a3:Int)(s_w_c_cap:Int)(s_w_c_l:List Res)(s_w_ready:Bool)(s_w_shown:List Res)(s_p_next:Int)(s_p_snaps:List Snap)(hw:ZT ⟨⟨s_w_c_cap,s_w_c_l⟩,s_w_ready,s_w_shown⟩)(hl:Jc s_p_snaps.length)(hs:∀x∈s_p_snaps,VR x):CallR Tryz.prog 17 [.agg [.int .i64 s_epoch,.int .i64 s_turn,.bool s_up,.int .i64 s_in_last_a0,.int .i64 s_in_last_a1,.int .i64 s_in_last_a2,.int .i64 s_in_last_a3,.int .i64 s_in_max,.int .i64 s_errs_a0,.int .i64 s_errs_a1,.int .i64 s_errs_a2,.int .i64 s_errs_a3,.int .i64 s_w_c_cap,.slice false (Ja s_w_c_l),.bool s_w_ready,.slice false (Ja s_w_shown),.int .i64 s_p_next,.slice false (Ja s_p_snaps)],.agg [.int .i64 s_epoch,.int .i64 s_turn,.bool s_up,.int .i64 s_in_last_a0,.int .i64 s_in_last_a1,.int .i64 s_in_last_a2,.int .i64 s_in_last_a3,.int .i64 s_in_max,.int .i64 s_errs_a0,.int .i64 s_errs_a1,.int .i64 s_errs_a2,.int .i64 s_errs_a3,.int .i64 s_w_c_cap,.slice false (Ja s_w_c_l),.bool s_w_ready,.slice false (Ja s_w_shown),.int .i64 s_p_next,.slice false (Ja s_p_snaps)]] (.val (.bool true)):=by
 have w1:=JnN s_w_c_cap s_w_c_l s_w_ready s_w_shown s_w_c_cap s_w_c_l s_w_ready s_w_shown hw.1.1 hw.1.2 hw.2.1 hw.2.2
 rw[show Jeg (⟨⟨s_w_c_cap,s_w_c_l⟩,s_w_ready,s_w_shown⟩:Warm) ⟨⟨s_w_c_cap,s_w_c_l⟩,s_w_ready,s_w_shown⟩=true by simp[Jeg,JbP]] at w1
 have w2:=JnB s_p_next s_p_next s_p_snaps s_p_snaps hl hs
 rw[decide_eq_true (show s_p_next=s_p_next∧s_p_snaps=s_p_snaps from⟨rfl,rfl⟩)] at w2
 clear hw hl hs
 refine CallR.go2 (T:=T) Tryz.call17 Tryz.func17 rfl Tryz.ntmps17 (congrArg Array.toList Tryz.results17) (by decide) fun ts hn h0 h1=>?_
 (repeat' (first
 | (with_reducible first|refine callX.by (w1) ?_|refine callX.by (w2) ?_|assumption|(refine Qw hK _ ?_;clear hK K)|refine Qw ‹_› _ ?_|refine Nx.out ‹_› ?_|refine Qi fun K hK=>?_|refine Qj T fun K hK=>?_|refine Ql fun A B hA hB=>?_|refine Qn ?_|refine Qr ?_)
 | ((with_reducible first|apply Qy|apply Qz|apply QA)<;>intro hb<;>try simp only[nr] at hb)
 |simp only[go_sem,↓reduceIte,reduceIte,Qa,Qh,Qb,Qc,Qd,Qe,Qf,Qg,reduceCtorEq, *,-w1,-w2,Bool.and_self,decide_true]
 |with_reducible refine fun(bn:Bool) hbn=>?_))
theorem JdH(l:List Snap):(∀x∈l.dropLast,0<x.pins)↔∀i,(h:i+1<l.length)→0<l[i].pins:=by
 constructor
 ·intro h i hi
  have h1:i<l.dropLast.length:=by simp;omega
  have:=h _ (QC h1)
  simpa using this
 ·intro h x hx
  obtain⟨i,hi,rfl⟩:=List.getElem_of_mem hx
  simp only[List.length_dropLast] at hi
  simpa using h i (by omega)
theorem Ji8{q:Pins}{k:Nat}{s:Snap}(hk:k<q.snaps.length)(h:0<s.pins∨k+1=q.snaps.length):Y3 q k s=⟨q.next',q.snaps.set k s⟩:=by
 rw[Y3,if_pos h,Jel _ _ _ hk]
theorem JnL{q:Pins}{k:Nat}{s:Snap}(h:¬(0<s.pins∨k+1=q.snaps.length)):Y3 q k s=⟨q.next',q.snaps.eraseIdx k⟩:=by
 rw[Y3,if_neg h,List.eraseIdx_eq_take_drop_succ];simp
theorem JmB{q:Pins}(h:OkP q){k:Nat}{s:Snap}(hk:k<q.snaps.length)(hid:s.id=q.snaps[k].id)(h0:0≤s.pins)(h1:s.pins≤10000):OkP (Y3 q k s):=by
 have hb:=h.mem _ (QC hk)
 by_cases hc:0<s.pins∨k+1=q.snaps.length
 ·rw[Ji8 hk hc]
  refine⟨h.lo,h.hi,by simpa using h.len,?_,?_,?_⟩
  ·have h2:(q.snaps.map (·.id)).Pairwise (· < ·):=List.pairwise_map.2 h.up
   suffices h3:((q.snaps.set k s).map (·.id)).Pairwise (· < ·) from List.pairwise_map.1 h3
   rw[List.map_set,hid]
   have:(q.snaps.map (·.id)).set k q.snaps[k].id=q.snaps.map (·.id):=by
    have e:q.snaps[k].id=(q.snaps.map (·.id))[k]'(by simpa using hk):=by simp
    rw[e,List.set_getElem_self]
   rw[this];exact h2
  ·intro x hx
   rcases List.mem_or_eq_of_mem_set hx with hx|rfl
   ·exact h.mem x hx
   ·simp only;omega
  ·rw[JdH]
   have hp:=(JdH _).1 h.pos
   intro i hi
   simp only[List.length_set] at hi
   simp only[List.getElem_set]
   split
   ·omega
   ·exact hp i hi
 ·rw[JnL hc]
  refine⟨h.lo,h.hi,?_,h.up.sublist (List.eraseIdx_sublist _ _),fun x hx=>h.mem x (List.mem_of_mem_eraseIdx hx),?_⟩
  ·have:=h.len
   simp only[List.length_eraseIdx];split<;>omega
  ·rw[JdH]
   have hp:=(JdH _).1 h.pos
   intro i hi
   simp only[List.length_eraseIdx,if_pos hk] at hi
   rw[List.getElem_eraseIdx]
   split
   ·exact hp i (by omega)
   ·exact hp (i+1) (by omega)
theorem Jhx{l:List Snap}{s:Snap}(h:l.getLast?=some s):∃hk:l.length-1<l.length,l[l.length-1]=s:=by
 have hne:0<l.length:=by
  cases l with
  |nil=>simp at h
  |cons=>simp
 refine⟨by omega,?_⟩
 rw[List.getLast?_eq_getElem?,List.getElem?_eq_getElem (by omega)] at h
 exact Option.some.inj h
theorem JmA(p:Pins):OkP (Jd9 p).1:=by
 have h:=Jid p
 unfold Jd9
 simp only
 generalize Vu p=q at *
 cases hg:q.snaps.getLast? with
 |none=>exact h
 |some s =>
  obtain⟨hk,rfl⟩:=Jhx hg
  have hb:=h.mem _ (QC hk)
  simp only
  split
  ·exact h
  ·have hw:IntKind.i64.wrap (q.snaps[q.snaps.length-1].pins+1)=q.snaps[q.snaps.length-1].pins+1:=IntWalk.i64_in _ (by omega)
   exact JmB h hk rfl (by simp only[hw];omega) (by simp only[hw];omega)
theorem JnA{q:Pins}(h:OkP q){k:Nat}(hk:k<q.snaps.length):Jea q q.snaps[k].id=if q.snaps[k].pins=0 then (q,15) else (Y3 q k ⟨q.snaps[k].id,q.snaps[k].pins-1,q.snaps[k].l⟩,0):=by
 have hb:=h.mem _ (QC hk)
 have hw:IntKind.i64.wrap (q.snaps[k].pins-1)=q.snaps[k].pins-1:=IntWalk.i64_in _ (by omega)
 rw[Jea,JfU h,JfN hk rfl (fun j hj hid=>by
  have:=Jgc h.up (by omega) hk hid
  omega),hw,Nat.zero_add]
theorem Jnv{q:Pins}(h:OkP q){k:Nat}(hk:k<q.snaps.length):JaV q q.snaps[k].id=(q.snaps[k].l,true):=by
 rw[JaV,JfU h,Jhj h.up hk]
def SmP(p:Pins):Prop:=∀x∈p.snaps,VR x
theorem Job{p:Pins}(h:SmP p):SmP (Vu p):=by
 unfold Vu;split
 ·exact h
 ·intro x hx;simp at hx
theorem Joa{p:Pins}{id:Int}(h:SmP p):Jc (JaV p id).1.length∧∀x∈(JaV p id).1,JD x:=by
 have h1:=Job h
 unfold JaV
 split
 ·simp[Jc]
 ·rename_i s hs
  exact h1 s (List.mem_of_find?_eq_some hs)
def Err(e:Int):Prop:=0≤e∧e≤15∧e≠9
theorem Yy{s:Side}(h:VD s=true):Jw s=s:=by unfold Jw;rw[if_pos h]
structure Bd(p:Pins)(n:Nat):Prop where
 len:p.snaps.length≤n
 all:∀x∈p.snaps,x.l.length≤80∧VR x
theorem JhA:∀(l:List Snap),(∀x∈l,x.l.length≤80)→(JY l).length≤l.length*80
 | [],_=>by simp[JY]
 |x :: l,h=>by
  have:=JhA l fun y hy=>h y (by simp[hy])
  have h1:=h x (by simp)
  rw[Jhz,List.length_append,List.length_map,List.length_cons]
  omega
theorem Bd.sz{p:Pins}{n:Nat}(h:Bd p n)(hn:n≤1000000):SzP p:=by
 have h1:=JhA p.snaps fun x hx=>(h.all x hx).1
 have h2:=h.len
 exact⟨by unfold Jc;omega,fun x hx=>(h.all x hx).2,by unfold Jc;omega⟩
theorem Bd.sane{p:Pins}{n:Nat}(h:Bd p n):Bd (Jr p) n:=by
 rcases JfE p with e|e<;>rw[e]
 ·exact h
 ·exact⟨by simp,by simp⟩
theorem Bd.publish{p:Pins}{n:Nat}(h:Bd p n){l:List Res}(h1:l.length≤80)(h2:∀r∈l,JD r):Bd (JfC p l).1 (n+1):=by
 have h0:=h.sane
 unfold JfC
 simp only
 generalize Jr p=q at *
 have hf:=List.length_filter_le (fun x:Snap=>!decide (x.pins=0)) q.snaps
 have hl:=h0.len
 split
 ·exact⟨Nat.le_succ_of_le hl,h0.all⟩
 ·split
  ·exact⟨Nat.le_succ_of_le hl,h0.all⟩
  ·refine⟨by simp only[List.length_append,List.length_cons,List.length_nil];omega,fun x hx=>?_⟩
   rcases List.mem_append.1 hx with hx|hx
   ·exact h0.all x (List.mem_filter.1 hx).1
   ·rw[List.mem_singleton] at hx
    subst hx
    exact⟨h1,by unfold Jc;simp only;omega,h2⟩
structure BdS(s:Side)(n:Nat):Prop where
 c:s.w.c.l.length≤80
 w:s.w.shown.length≤80
 sc:∀r∈s.w.c.l,JD r
 sw:∀r∈s.w.shown,JD r
 p:Bd s.p n
theorem BdS.sz{s:Side}{n:Nat}(h:BdS s n)(hn:n≤1000000):SzS s:=by
 have h1:=h.c
 have h2:=h.w
 exact⟨by omega,⟨⟨by unfold Jc;omega,h.sc⟩,by unfold Jc;omega,h.sw⟩,h.p.sz hn⟩
theorem BdS.sane{s:Side}{n:Nat}(h:BdS s n):BdS (Jw s) n:=by
 unfold Jw
 split
 ·exact h
 ·exact⟨by simp[Je],by simp[Je],by simp[Je],by simp[Je],⟨by simp[Je],by simp[Je]⟩⟩
theorem Joi{w:Warm}(h:VZ w=true){a:List Res}(g:List Key)(h1:∀r∈w.c.l,JD r)(h2:∀r∈a,JD r) :
  (Y5 w a g).1.c.l.length≤80∧(Y5 w a g).1.shown.length≤80∧(∀r∈(Y5 w a g).1.c.l,JD r)∧∀r∈(Y5 w a g).1.shown,JD r:=by
 have k:=Joj h a g
 have k1:=Jjc k
 have k2:=JnT k
 have k3:∀r∈(Y5 w a g).1.c.l,JD r:=fun r hr=>(Jok h hr).elim (h1 r) (h2 r)
 exact⟨by omega,by omega,k3,fun r hr=>k3 r (JnU k hr)⟩
theorem BdS.step{s:Side}{n:Nat}(h:BdS s n)(hs:VD s=true){f:Frame}(hf:∀r∈f.adds,JD r):BdS (Jjq s f).1 (n+1):=by
 obtain⟨k1,k2,k3,k4⟩:=Joi (saneS_iff.1 hs).2.2.2.2.1 f.gone h.sc hf
 have hp:=h.p.publish k2 k4
 have hn:Bd s.p (n+1):=⟨by have:=h.p.len;omega,h.p.all⟩
 unfold Jjq
 generalize Y5 s.w f.adds f.gone=r at *
 obtain⟨w,ch,why⟩:=r
 simp only at k1 k2 k3 k4 hp ⊢
 cases ch<;>simp only[Bool.false_eq_true,↓reduceIte]
 ·split
  ·exact⟨k1,k2,k3,k4,hn⟩
  ·exact⟨h.c,h.w,h.sc,h.sw,hn⟩
 ·split
  ·split
   ·exact⟨k1,k2,k3,k4,hp⟩
   ·exact⟨h.c,h.w,h.sc,h.sw,hn⟩
  ·exact⟨h.c,h.w,h.sc,h.sw,hn⟩
theorem Jk4{s:Side}(h:Jbn s=true)(hw:ZT s.w)(hs:∀x∈s.p.snaps,VR x):BdS s 20:=by
 unfold Jbn JaF Yu at h
 simp only[Bool.and_eq_true,decide_eq_true_eq,List.all_eq_true] at h
 obtain⟨⟨⟨-,h1⟩,-,h2⟩,h3,h4⟩:=h
 exact⟨h1,h2,hw.1.2,hw.2.2,h4,fun x hx=>⟨(h3 x hx).2,hs x hx⟩⟩
@[go_sem] def Jc6:List (List Nat×List Nat):=[([21],[23,24]),([22],[23,24]),([23],[21,22]),([24],[21,22])]
@[go_sem] def Jc7:List (List Nat×List Nat):=[([49],[50,51,52]),([50],[49,52,4]),([51],[49,52,4]),([52],[49,50,51,4,5]),([4],[50,51,52]),([5],[52])]
theorem Jnm(p:Pins)(id:Int):∀x∈(Vt p id).1.snaps,∃y∈(Jr p).snaps,x.l=y.l:=by
 unfold Vt
 simp only
 generalize Jr p=q
 have hp:=JdU q.snaps id q.snaps.length
 split
 ·exact fun x hx=>⟨x,hx,rfl⟩
 ·rename_i h0
  split
  ·exact fun x hx=>⟨x,hx,rfl⟩
  ·have hk:(J5 q.snaps id q.snaps.length).toNat<q.snaps.length:=by omega
   generalize (J5 q.snaps id q.snaps.length).toNat=k at *
   have hset:∀t:Snap,t.l=(q.snaps.getD k default).l→∀x∈q.snaps.set k t,∃y∈q.snaps,x.l=y.l:=fun t ht x hx=>by
    rcases List.mem_or_eq_of_mem_set hx with hx|rfl
    ·exact⟨x,hx,rfl⟩
    ·refine⟨q.snaps[k],QC hk,?_⟩
     rw[ht];simp[hk]
   split
   ·intro x hx
    refine hset ⟨(q.snaps.getD k default).id,IntKind.i64.wrap ((q.snaps.getD k default).pins-1),(q.snaps.getD k default).l⟩ rfl x ?_
    rcases List.mem_append.1 hx with hx|hx
    ·exact List.mem_of_mem_take hx
    ·exact List.mem_of_mem_drop hx
   ·exact hset _ rfl
theorem Jnl(p:Pins)(id:Int):(Vt p id).1.snaps.length≤(Jr p).snaps.length:=by
 unfold Vt
 simp only
 generalize Jr p=q
 split
 ·exact Nat.le_refl _
 ·split
  ·exact Nat.le_refl _
  ·split
   ·simp only[List.length_append,List.length_take,List.length_drop,List.length_set];omega
   ·simp
theorem Bd.release{p:Pins}{n:Nat}(h:Bd p n)(id:Int):Bd (Vt p id).1 n:=by
 have h0:=h.sane
 refine⟨Nat.le_trans (Jnl p id) h0.len,fun x hx=>?_⟩
 obtain⟨y,hy,e⟩:=Jnm p id x hx
 have h1:=h0.all y hy
 refine⟨by rw[e];exact h1.1,?_⟩
 have h3:=h1.2
 unfold VR at h3 ⊢
 rw[e]
 exact h3
def J0(s:Side)(id:Int):Side×List Frame×Int :=
 let b:=Jw s
 let r:=Vt b.p id
 if J1 r.1=J1 b.p∨b.up=false∨b.turn=2147483647 then ({ b with p:=r.1 },[],r.2)
 else ({ b with p:=r.1,turn:=b.turn+1 },[⟨3,b.epoch,0,0,b.turn+1,[],[],0,[],J1 r.1⟩],r.2)
set_option maxHeartbeats 16000000 in
theorem JkU(s_epoch:Int)(s_turn:Int)(s_up:Bool)(s_in_last_a0:Int)(s_in_last_a1:Int)(s_in_last_a2:Int)(s_in_last_a3:Int)(s_in_max:Int)(s_errs_a0:Int)(s_errs_a1:Int)(s_errs_a2:Int)(s_errs_a3:Int)(s_w_c_cap:Int)(s_w_c_l:List Res)(s_w_ready:Bool)(s_w_shown:List Res)(s_p_next:Int)(s_p_snaps:List Snap)(id:Int)(h:SzS (⟨s_epoch,s_turn,s_up,⟨⟨s_in_last_a0,s_in_last_a1,s_in_last_a2,s_in_last_a3⟩,s_in_max⟩,⟨s_errs_a0,s_errs_a1,s_errs_a2,s_errs_a3⟩,⟨⟨s_w_c_cap,s_w_c_l⟩,s_w_ready,s_w_shown⟩,⟨s_p_next,s_p_snaps⟩⟩:Side))(hq:SzP (Vt (Jw (⟨s_epoch,s_turn,s_up,⟨⟨s_in_last_a0,s_in_last_a1,s_in_last_a2,s_in_last_a3⟩,s_in_max⟩,⟨s_errs_a0,s_errs_a1,s_errs_a2,s_errs_a3⟩,⟨⟨s_w_c_cap,s_w_c_l⟩,s_w_ready,s_w_shown⟩,⟨s_p_next,s_p_snaps⟩⟩:Side)).p id).1):CallR Tryz.prog 85 [.agg [.int .i64 s_epoch,.int .i64 s_turn,.bool s_up,.int .i64 s_in_last_a0,.int .i64 s_in_last_a1,.int .i64 s_in_last_a2,.int .i64 s_in_last_a3,.int .i64 s_in_max,.int .i64 s_errs_a0,.int .i64 s_errs_a1,.int .i64 s_errs_a2,.int .i64 s_errs_a3,.int .i64 s_w_c_cap,.slice false (Ja s_w_c_l),.bool s_w_ready,.slice false (Ja s_w_shown),.int .i64 s_p_next,.slice false (Ja s_p_snaps)],.int .i64 id] (.val (.tup [.agg [.int .i64 (J0 (⟨s_epoch,s_turn,s_up,⟨⟨s_in_last_a0,s_in_last_a1,s_in_last_a2,s_in_last_a3⟩,s_in_max⟩,⟨s_errs_a0,s_errs_a1,s_errs_a2,s_errs_a3⟩,⟨⟨s_w_c_cap,s_w_c_l⟩,s_w_ready,s_w_shown⟩,⟨s_p_next,s_p_snaps⟩⟩:Side) id).1.epoch,.int .i64 (J0 (⟨s_epoch,s_turn,s_up,⟨⟨s_in_last_a0,s_in_last_a1,s_in_last_a2,s_in_last_a3⟩,s_in_max⟩,⟨s_errs_a0,s_errs_a1,s_errs_a2,s_errs_a3⟩,⟨⟨s_w_c_cap,s_w_c_l⟩,s_w_ready,s_w_shown⟩,⟨s_p_next,s_p_snaps⟩⟩:Side) id).1.turn,.bool (J0 (⟨s_epoch,s_turn,s_up,⟨⟨s_in_last_a0,s_in_last_a1,s_in_last_a2,s_in_last_a3⟩,s_in_max⟩,⟨s_errs_a0,s_errs_a1,s_errs_a2,s_errs_a3⟩,⟨⟨s_w_c_cap,s_w_c_l⟩,s_w_ready,s_w_shown⟩,⟨s_p_next,s_p_snaps⟩⟩:Side) id).1.up,.int .i64 (J0 (⟨s_epoch,s_turn,s_up,⟨⟨s_in_last_a0,s_in_last_a1,s_in_last_a2,s_in_last_a3⟩,s_in_max⟩,⟨s_errs_a0,s_errs_a1,s_errs_a2,s_errs_a3⟩,⟨⟨s_w_c_cap,s_w_c_l⟩,s_w_ready,s_w_shown⟩,⟨s_p_next,s_p_snaps⟩⟩:Side) id).1.in'.last.a0,.int .i64 (J0 (⟨s_epoch,s_turn,s_up,⟨⟨s_in_last_a0,s_in_last_a1,s_in_last_a2,s_in_last_a3⟩,s_in_max⟩,⟨s_errs_a0,s_errs_a1,s_errs_a2,s_errs_a3⟩,⟨⟨s_w_c_cap,s_w_c_l⟩,s_w_ready,s_w_shown⟩,⟨s_p_next,s_p_snaps⟩⟩:Side) id).1.in'.last.a1,.int .i64 (J0 (⟨s_epoch,s_turn,s_up,⟨⟨s_in_last_a0,s_in_last_a1,s_in_last_a2,s_in_last_a3⟩,s_in_max⟩,⟨s_errs_a0,s_errs_a1,s_errs_a2,s_errs_a3⟩,⟨⟨s_w_c_cap,s_w_c_l⟩,s_w_ready,s_w_shown⟩,⟨s_p_next,s_p_snaps⟩⟩:Side) id).1.in'.last.a2,.int .i64 (J0 (⟨s_epoch,s_turn,s_up,⟨⟨s_in_last_a0,s_in_last_a1,s_in_last_a2,s_in_last_a3⟩,s_in_max⟩,⟨s_errs_a0,s_errs_a1,s_errs_a2,s_errs_a3⟩,⟨⟨s_w_c_cap,s_w_c_l⟩,s_w_ready,s_w_shown⟩,⟨s_p_next,s_p_snaps⟩⟩:Side) id).1.in'.last.a3,.int .i64 (J0 (⟨s_epoch,s_turn,s_up,⟨⟨s_in_last_a0,s_in_last_a1,s_in_last_a2,s_in_last_a3⟩,s_in_max⟩,⟨s_errs_a0,s_errs_a1,s_errs_a2,s_errs_a3⟩,⟨⟨s_w_c_cap,s_w_c_l⟩,s_w_ready,s_w_shown⟩,⟨s_p_next,s_p_snaps⟩⟩:Side) id).1.in'.max,.int .i64 (J0 (⟨s_epoch,s_turn,s_up,⟨⟨s_in_last_a0,s_in_last_a1,s_in_last_a2,s_in_last_a3⟩,s_in_max⟩,⟨s_errs_a0,s_errs_a1,s_errs_a2,s_errs_a3⟩,⟨⟨s_w_c_cap,s_w_c_l⟩,s_w_ready,s_w_shown⟩,⟨s_p_next,s_p_snaps⟩⟩:Side) id).1.errs.a0,.int .i64 (J0 (⟨s_epoch,s_turn,s_up,⟨⟨s_in_last_a0,s_in_last_a1,s_in_last_a2,s_in_last_a3⟩,s_in_max⟩,⟨s_errs_a0,s_errs_a1,s_errs_a2,s_errs_a3⟩,⟨⟨s_w_c_cap,s_w_c_l⟩,s_w_ready,s_w_shown⟩,⟨s_p_next,s_p_snaps⟩⟩:Side) id).1.errs.a1,.int .i64 (J0 (⟨s_epoch,s_turn,s_up,⟨⟨s_in_last_a0,s_in_last_a1,s_in_last_a2,s_in_last_a3⟩,s_in_max⟩,⟨s_errs_a0,s_errs_a1,s_errs_a2,s_errs_a3⟩,⟨⟨s_w_c_cap,s_w_c_l⟩,s_w_ready,s_w_shown⟩,⟨s_p_next,s_p_snaps⟩⟩:Side) id).1.errs.a2,.int .i64 (J0 (⟨s_epoch,s_turn,s_up,⟨⟨s_in_last_a0,s_in_last_a1,s_in_last_a2,s_in_last_a3⟩,s_in_max⟩,⟨s_errs_a0,s_errs_a1,s_errs_a2,s_errs_a3⟩,⟨⟨s_w_c_cap,s_w_c_l⟩,s_w_ready,s_w_shown⟩,⟨s_p_next,s_p_snaps⟩⟩:Side) id).1.errs.a3,.int .i64 (J0 (⟨s_epoch,s_turn,s_up,⟨⟨s_in_last_a0,s_in_last_a1,s_in_last_a2,s_in_last_a3⟩,s_in_max⟩,⟨s_errs_a0,s_errs_a1,s_errs_a2,s_errs_a3⟩,⟨⟨s_w_c_cap,s_w_c_l⟩,s_w_ready,s_w_shown⟩,⟨s_p_next,s_p_snaps⟩⟩:Side) id).1.w.c.cap,.slice false (Ja (J0 (⟨s_epoch,s_turn,s_up,⟨⟨s_in_last_a0,s_in_last_a1,s_in_last_a2,s_in_last_a3⟩,s_in_max⟩,⟨s_errs_a0,s_errs_a1,s_errs_a2,s_errs_a3⟩,⟨⟨s_w_c_cap,s_w_c_l⟩,s_w_ready,s_w_shown⟩,⟨s_p_next,s_p_snaps⟩⟩:Side) id).1.w.c.l),.bool (J0 (⟨s_epoch,s_turn,s_up,⟨⟨s_in_last_a0,s_in_last_a1,s_in_last_a2,s_in_last_a3⟩,s_in_max⟩,⟨s_errs_a0,s_errs_a1,s_errs_a2,s_errs_a3⟩,⟨⟨s_w_c_cap,s_w_c_l⟩,s_w_ready,s_w_shown⟩,⟨s_p_next,s_p_snaps⟩⟩:Side) id).1.w.ready,.slice false (Ja (J0 (⟨s_epoch,s_turn,s_up,⟨⟨s_in_last_a0,s_in_last_a1,s_in_last_a2,s_in_last_a3⟩,s_in_max⟩,⟨s_errs_a0,s_errs_a1,s_errs_a2,s_errs_a3⟩,⟨⟨s_w_c_cap,s_w_c_l⟩,s_w_ready,s_w_shown⟩,⟨s_p_next,s_p_snaps⟩⟩:Side) id).1.w.shown),.int .i64 (J0 (⟨s_epoch,s_turn,s_up,⟨⟨s_in_last_a0,s_in_last_a1,s_in_last_a2,s_in_last_a3⟩,s_in_max⟩,⟨s_errs_a0,s_errs_a1,s_errs_a2,s_errs_a3⟩,⟨⟨s_w_c_cap,s_w_c_l⟩,s_w_ready,s_w_shown⟩,⟨s_p_next,s_p_snaps⟩⟩:Side) id).1.p.next',.slice false (Ja (J0 (⟨s_epoch,s_turn,s_up,⟨⟨s_in_last_a0,s_in_last_a1,s_in_last_a2,s_in_last_a3⟩,s_in_max⟩,⟨s_errs_a0,s_errs_a1,s_errs_a2,s_errs_a3⟩,⟨⟨s_w_c_cap,s_w_c_l⟩,s_w_ready,s_w_shown⟩,⟨s_p_next,s_p_snaps⟩⟩:Side) id).1.p.snaps)],.slice false (Ja (J0 (⟨s_epoch,s_turn,s_up,⟨⟨s_in_last_a0,s_in_last_a1,s_in_last_a2,s_in_last_a3⟩,s_in_max⟩,⟨s_errs_a0,s_errs_a1,s_errs_a2,s_errs_a3⟩,⟨⟨s_w_c_cap,s_w_c_l⟩,s_w_ready,s_w_shown⟩,⟨s_p_next,s_p_snaps⟩⟩:Side) id).2.1),.int .i64 (J0 (⟨s_epoch,s_turn,s_up,⟨⟨s_in_last_a0,s_in_last_a1,s_in_last_a2,s_in_last_a3⟩,s_in_max⟩,⟨s_errs_a0,s_errs_a1,s_errs_a2,s_errs_a3⟩,⟨⟨s_w_c_cap,s_w_c_l⟩,s_w_ready,s_w_shown⟩,⟨s_p_next,s_p_snaps⟩⟩:Side) id).2.2])):=by
 have w1:=Ja1 s_epoch s_turn s_up s_in_last_a0 s_in_last_a1 s_in_last_a2 s_in_last_a3 s_in_max s_errs_a0 s_errs_a1 s_errs_a2 s_errs_a3 s_w_c_cap s_w_c_l s_w_ready s_w_shown s_p_next s_p_snaps h
 have hz:=Jf1 h
 have hr:=(saneS_iff.1 (JnQ (⟨s_epoch,s_turn,s_up,⟨⟨s_in_last_a0,s_in_last_a1,s_in_last_a2,s_in_last_a3⟩,s_in_max⟩,⟨s_errs_a0,s_errs_a1,s_errs_a2,s_errs_a3⟩,⟨⟨s_w_c_cap,s_w_c_l⟩,s_w_ready,s_w_shown⟩,⟨s_p_next,s_p_snaps⟩⟩:Side))).2.1
 unfold J0
 clear h
 generalize Jw (⟨s_epoch,s_turn,s_up,⟨⟨s_in_last_a0,s_in_last_a1,s_in_last_a2,s_in_last_a3⟩,s_in_max⟩,⟨s_errs_a0,s_errs_a1,s_errs_a2,s_errs_a3⟩,⟨⟨s_w_c_cap,s_w_c_l⟩,s_w_ready,s_w_shown⟩,⟨s_p_next,s_p_snaps⟩⟩:Side)=b at *
 simp only
 have w2:=Jcy b.p.next' id b.p.snaps hz.p.n
 have w2:CallR Tryz.prog 129 [.agg [.int .i64 b.p.next',.slice false (Ja b.p.snaps)],.int .i64 id] (.val (.tup [.agg [.int .i64 (Vt b.p id).1.next',.slice false (Ja (Vt b.p id).1.snaps)],.int .i64 (Vt b.p id).2])):=w2
 generalize (Vt b.p id).2=e at *
 generalize (Vt b.p id).1=q at *
 have w3:=(Jag q.next' q.snaps hq.n hq.s hq.t).frz
 have w3:CallR Tryz.prog 80 [.agg [.int .i64 q.next',.slice false (Ja q.snaps)]] (.val (.slice false (Ja (J1 q)))):=w3
 have w4:=(Jag b.p.next' b.p.snaps hz.p.n hz.p.s hz.p.t).frz
 have w4:CallR Tryz.prog 80 [.agg [.int .i64 b.p.next',.slice false (Ja b.p.snaps)]] (.val (.slice false (Ja (J1 b.p)))):=w4
 have w5:=JaD (J1 q) (J1 b.p) hq.held.1
 have w6:=JcM b.epoch b.turn b.up b.in'.last.a0 b.in'.last.a1 b.in'.last.a2 b.in'.last.a3 b.in'.max b.errs.a0 b.errs.a1 b.errs.a2 b.errs.a3 b.w.c.cap b.w.c.l b.w.ready b.w.shown q.next' q.snaps
 have w7:CallR Tryz.prog 99 [.agg [.int .i64 (b.epoch),.int .i64 (b.turn),.bool (b.up),.int .i64 (b.in'.last.a0),.int .i64 (b.in'.last.a1),.int .i64 (b.in'.last.a2),.int .i64 (b.in'.last.a3),.int .i64 (b.in'.max),.int .i64 (b.errs.a0),.int .i64 (b.errs.a1),.int .i64 (b.errs.a2),.int .i64 (b.errs.a3),.int .i64 (b.w.c.cap),.slice false (Ja (b.w.c.l)),.bool (b.w.ready),.slice false (Ja (b.w.shown)),.int .i64 (q.next'),.slice false (Ja (q.snaps))],.agg [.int .i64 3,.int .i64 b.epoch,.int .i64 0,.int .i64 0,.int .i64 0,.slice false [],.slice false [],.int .i64 0,.slice false [],.slice false []]]
  (.val (.tup [.agg [.int .i64 (b.epoch),.int .i64 (b.turn+1),.bool (b.up),.int .i64 (b.in'.last.a0),.int .i64 (b.in'.last.a1),.int .i64 (b.in'.last.a2),.int .i64 (b.in'.last.a3),.int .i64 (b.in'.max),.int .i64 (b.errs.a0),.int .i64 (b.errs.a1),.int .i64 (b.errs.a2),.int .i64 (b.errs.a3),.int .i64 (b.w.c.cap),.slice false (Ja (b.w.c.l)),.bool (b.w.ready),.slice false (Ja (b.w.shown)),.int .i64 (q.next'),.slice false (Ja (q.snaps))],.agg [.int .i64 3,.int .i64 b.epoch,.int .i64 0,.int .i64 0,.int .i64 (b.turn+1),.slice false [],.slice false [],.int .i64 0,.slice false [],.slice false (Ja (J1 q))]])) :=
  JcS b.epoch b.turn b.up b.in'.last.a0 b.in'.last.a1 b.in'.last.a2 b.in'.last.a3 b.in'.max b.errs.a0 b.errs.a1 b.errs.a2 b.errs.a3 b.w.c.cap b.w.c.l b.w.ready b.w.shown q.next' q.snaps 3 b.epoch 0 0 0 [] [] 0 [] [] hq hr
 clear hz hr hq
 generalize J1 q=hq at *
 generalize J1 b.p=hb0 at *
 by_cases hc:hq=hb0
 ·rw[decide_eq_true hc] at w5
  rw[if_pos (.inl hc)]
  have w7:=trivial
  refine CallR.go2 (T:=T) Tryz.call85 Tryz.func85 rfl Tryz.ntmps85 (congrArg Array.toList Tryz.results85) (by decide) fun ts hn h0 h1=>?_
  (repeat' (first
 | (with_reducible first|refine callX.by (w1) ?_|refine callX.by (w2) ?_|refine callX.by (w3) ?_|refine callX.by (w4) ?_|refine callX.by (w5) ?_|refine callX.by (w6) ?_|refine callX.by (Ja1 _ _ _ _ _ _ _ _ _ _ _ _ _ _ _ _ _ _ ?_) ?_|refine callX.by awc5 ?_|refine callX.by (Jcy _ _ _ ?_) ?_|refine callX.by (Jag _ _ ?_ ?_ ?_) ?_|refine callX.by awc7 ?_|refine callX.by awc8 ?_|refine callX.by (JaD _ _ ?_) ?_|refine callX.by (JcM _ _ _ _ _ _ _ _ _ _ _ _ _ _ _ _ _ _) ?_|refine callX.by (JcS _ _ _ _ _ _ _ _ _ _ _ _ _ _ _ _ _ _ _ _ _ _ _ _ _ _ _ _ ?_ ?_) ?_|assumption|(refine Qw hK _ ?_;clear hK K)|refine Qw ‹_› _ ?_|refine Nx.out ‹_› ?_|refine Qi fun K hK=>?_|refine Qj T fun K hK=>?_|refine Qk (id:=3) T mixed Jc6 (by kernel_rfl) fun K hK=>?_|refine Qk (id:=8) T mixed Jc7 (by kernel_rfl) fun K hK=>?_|refine Ql fun A B hA hB=>?_|refine Qn ?_|refine Qr ?_)
 | ((with_reducible first|apply Qy|apply Qz|apply QA)<;>intro hb<;>try simp only[nr] at hb)
 |simp only[go_sem,↓reduceIte,reduceIte,Qa,Qh,Qb,Qc,Qd,Qe,Qf,Qg,reduceCtorEq, *,-w1,-w2,-w3,-w4,-w5,-w6,-hc,J6]
 |with_reducible refine fun(bn:Bool) hbn=>?_))
 ·rw[decide_eq_false hc] at w5
  by_cases hu:b.up=false
  ·rw[if_pos (.inr (.inl hu))]
   have w7:=trivial
   refine CallR.go2 (T:=T) Tryz.call85 Tryz.func85 rfl Tryz.ntmps85 (congrArg Array.toList Tryz.results85) (by decide) fun ts hn h0 h1=>?_
   (repeat' (first
 | (with_reducible first|refine callX.by (w1) ?_|refine callX.by (w2) ?_|refine callX.by (w3) ?_|refine callX.by (w4) ?_|refine callX.by (w5) ?_|refine callX.by (w6) ?_|refine callX.by (Ja1 _ _ _ _ _ _ _ _ _ _ _ _ _ _ _ _ _ _ ?_) ?_|refine callX.by awc5 ?_|refine callX.by (Jcy _ _ _ ?_) ?_|refine callX.by (Jag _ _ ?_ ?_ ?_) ?_|refine callX.by awc7 ?_|refine callX.by awc8 ?_|refine callX.by (JaD _ _ ?_) ?_|refine callX.by (JcM _ _ _ _ _ _ _ _ _ _ _ _ _ _ _ _ _ _) ?_|refine callX.by (JcS _ _ _ _ _ _ _ _ _ _ _ _ _ _ _ _ _ _ _ _ _ _ _ _ _ _ _ _ ?_ ?_) ?_|assumption|(refine Qw hK _ ?_;clear hK K)|refine Qw ‹_› _ ?_|refine Nx.out ‹_› ?_|refine Qi fun K hK=>?_|refine Qj T fun K hK=>?_|refine Qk (id:=3) T mixed Jc6 (by kernel_rfl) fun K hK=>?_|refine Qk (id:=8) T mixed Jc7 (by kernel_rfl) fun K hK=>?_|refine Ql fun A B hA hB=>?_|refine Qn ?_|refine Qr ?_)
 | ((with_reducible first|apply Qy|apply Qz|apply QA)<;>intro hb<;>try simp only[nr] at hb)
 |simp only[go_sem,↓reduceIte,reduceIte,Qa,Qh,Qb,Qc,Qd,Qe,Qf,Qg,reduceCtorEq, *,-w1,-w2,-w3,-w4,-w5,-w6,-hc,J6]
 |with_reducible refine fun(bn:Bool) hbn=>?_))
  ·have hu:b.up=true:=by simpa using hu
   by_cases ht:b.turn=2147483647
   ·rw[if_pos (.inr (.inr ht))]
    have w7:=trivial
    refine CallR.go2 (T:=T) Tryz.call85 Tryz.func85 rfl Tryz.ntmps85 (congrArg Array.toList Tryz.results85) (by decide) fun ts hn h0 h1=>?_
    (repeat' (first
 | (with_reducible first|refine callX.by (w1) ?_|refine callX.by (w2) ?_|refine callX.by (w3) ?_|refine callX.by (w4) ?_|refine callX.by (w5) ?_|refine callX.by (w6) ?_|refine callX.by (Ja1 _ _ _ _ _ _ _ _ _ _ _ _ _ _ _ _ _ _ ?_) ?_|refine callX.by awc5 ?_|refine callX.by (Jcy _ _ _ ?_) ?_|refine callX.by (Jag _ _ ?_ ?_ ?_) ?_|refine callX.by awc7 ?_|refine callX.by awc8 ?_|refine callX.by (JaD _ _ ?_) ?_|refine callX.by (JcM _ _ _ _ _ _ _ _ _ _ _ _ _ _ _ _ _ _) ?_|refine callX.by (JcS _ _ _ _ _ _ _ _ _ _ _ _ _ _ _ _ _ _ _ _ _ _ _ _ _ _ _ _ ?_ ?_) ?_|assumption|(refine Qw hK _ ?_;clear hK K)|refine Qw ‹_› _ ?_|refine Nx.out ‹_› ?_|refine Qi fun K hK=>?_|refine Qj T fun K hK=>?_|refine Qk (id:=3) T mixed Jc6 (by kernel_rfl) fun K hK=>?_|refine Qk (id:=8) T mixed Jc7 (by kernel_rfl) fun K hK=>?_|refine Ql fun A B hA hB=>?_|refine Qn ?_|refine Qr ?_)
 | ((with_reducible first|apply Qy|apply Qz|apply QA)<;>intro hb<;>try simp only[nr] at hb)
 |simp only[go_sem,↓reduceIte,reduceIte,Qa,Qh,Qb,Qc,Qd,Qe,Qf,Qg,reduceCtorEq, *,-w1,-w2,-w3,-w4,-w5,-w6,-hc,J6]
 |with_reducible refine fun(bn:Bool) hbn=>?_))
   ·rw[if_neg (by simp[hc,hu,ht])]
    rw[hu] at w7
    refine CallR.go2 (T:=T) Tryz.call85 Tryz.func85 rfl Tryz.ntmps85 (congrArg Array.toList Tryz.results85) (by decide) fun ts hn h0 h1=>?_
    (repeat' (first
 | (with_reducible first|refine callX.by (w1) ?_|refine callX.by (w2) ?_|refine callX.by (w3) ?_|refine callX.by (w4) ?_|refine callX.by (w5) ?_|refine callX.by (w6) ?_|refine callX.by (w7) ?_|refine callX.by (Ja1 _ _ _ _ _ _ _ _ _ _ _ _ _ _ _ _ _ _ ?_) ?_|refine callX.by awc5 ?_|refine callX.by (Jcy _ _ _ ?_) ?_|refine callX.by (Jag _ _ ?_ ?_ ?_) ?_|refine callX.by awc7 ?_|refine callX.by awc8 ?_|refine callX.by (JaD _ _ ?_) ?_|refine callX.by (JcM _ _ _ _ _ _ _ _ _ _ _ _ _ _ _ _ _ _) ?_|refine callX.by (JcS _ _ _ _ _ _ _ _ _ _ _ _ _ _ _ _ _ _ _ _ _ _ _ _ _ _ _ _ ?_ ?_) ?_|assumption|(refine Qw hK _ ?_;clear hK K)|refine Qw ‹_› _ ?_|refine Nx.out ‹_› ?_|refine Qi fun K hK=>?_|refine Qj T fun K hK=>?_|refine Qk (id:=3) T mixed Jc6 (by kernel_rfl) fun K hK=>?_|refine Qk (id:=8) T mixed Jc7 (by kernel_rfl) fun K hK=>?_|refine Ql fun A B hA hB=>?_|refine Qn ?_|refine Qr ?_)
 | ((with_reducible first|apply Qy|apply Qz|apply QA)<;>intro hb<;>try simp only[nr] at hb)
 |simp only[go_sem,↓reduceIte,reduceIte,Qa,Qh,Qb,Qc,Qd,Qe,Qf,Qg,reduceCtorEq, *,-w1,-w2,-w3,-w4,-w5,-w6,-w7,-hc]
 |with_reducible refine fun(bn:Bool) hbn=>?_))
    all_goals rfl
end Go.Proofs.YthjalhfmpffbjaaGreatDoor.Lg
