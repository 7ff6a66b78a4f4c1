/- Parts of the proof, one behind the other. -/
import Derived.Test.YthjalhfmpffbjaaGreatDoorG21
namespace Go.Proofs.YthjalhfmpffbjaaGreatDoor.Lg
set_option maxRecDepth 100000
set_option linter.unusedVariables false
set_option linter.unusedSimpArgs false
open Go
open Nat renaming reduceEqDiff → Qa, reduceLT → Qb, reduceLeDiff → Qc, reduceAdd → Qd, reduceMul → Qe, reduceSub → Qf, reduceBEq → Qg
open String renaming reduceEq → Qh
open SpecC renaming seqW → Qi, regW → Qj, drawW → Qk, condW → Ql, skip → Qn, ret → Qr
open NxK renaming out → Qw
open condK renaming split → Qy
open gK renaming split_t → Qz, split_f → QA
def Ji2(s:Side)(f:Frame):Side×Int :=
 let w:=Y6 s.w f.adds f.gone
 let p:=if w.2.1=true then Jfp s.p w.1.shown else (s.p,0,0)
 if p.2.2=0 then
  if JbL p.1=true then ({ s with w:=w.1,p:=p.1,errs:=JiQ s.errs f.kind w.2.2 },0) else ({ s with errs:=JiQ s.errs f.kind 8 },0)
 else (s,p.2.2)
theorem JkL{n m:Int}:fin n m=true↔0≤n∧n≤m:=by simp[fin]
theorem saneS_iff{s:Side}:VX s=true↔(0≤s.epoch∧s.epoch≤2147483647)∧(0≤s.turn∧s.turn≤2147483647)∧Jbi s.errs=true∧Jcw s.in'=true∧VY s.w=true∧ZI s.p=true∧JbL s.p=true∧JbX s=true:=by
 unfold VX
 simp only[Bool.and_eq_true,JkL,and_assoc]
theorem Jfq:Jq ⟨0,[]⟩=⟨0,[]⟩:=by rcases Jfr ⟨0,[]⟩ with h|h<;>exact h
theorem Jle:J8 ⟨0,[]⟩=[]:=by
 unfold J8
 rw[Jfq]
 simp[J5,JH,VQ,J6]
theorem JdL(a b:Int):VX (Je a b)=true:=by
 rw[saneS_iff]
 refine⟨by simp[Je],by simp[Je],(by decide:Jbi z4=true),?_,Jl8 a,(by decide:ZI ⟨0,[]⟩=true),?_,by simp only[Je,JbX,VT,Jfq];decide⟩
 ·have h1:1≤Yn b∧Yn b≤2147483647:=by unfold Yn;omega
  have h2:Yn (Yn b)=Yn b:=by unfold Yn;omega
  have h3:YY (Yn b) 0=0:=by unfold YY;omega
  simp only[Je,Jcw,Jrw,Jrx,Jry,Jrz,h2,h3,decide_true,Bool.and_self]
 ·show JbL ⟨0,[]⟩=true
  unfold JbL
  rw[Jle]
  decide
theorem Jnt(s:Side):VX (Jw s)=true:=by
 unfold Jw
 split
 ·assumption
 ·exact JdL _ _
def Jbk(s:Side):Bool:=Yv s.w.c.l && Yv s.w.shown && JaH s.p
set_option maxHeartbeats 4000000 in
theorem JkH(s_epoch:Int)(s_turn:Int)(s_up:Bool)(s_in_last_a0:Int)(s_in_last_a1:Int)(s_in_last_a2:Int)(s_in_last_a3:Int)(s_in_max:Int)(s_errs_a0:Int)(s_errs_a1:Int)(s_errs_a2:Int)(s_errs_a3:Int)(s_w_c_cap:Int)(s_w_c_l:List Res)(s_w_ready:Bool)(s_w_shown:List Res)(s_p_next:Int)(s_p_snaps:List Snap)(hw:ZW ⟨⟨s_w_c_cap,s_w_c_l⟩,s_w_ready,s_w_shown⟩)(hl:Jc s_p_snaps.length)(hs:∀x∈s_p_snaps,V1 x):CallR Tryz.prog 31 [.agg [.int .i64 s_epoch,.int .i64 s_turn,.bool s_up,.int .i64 s_in_last_a0,.int .i64 s_in_last_a1,.int .i64 s_in_last_a2,.int .i64 s_in_last_a3,.int .i64 s_in_max,.int .i64 s_errs_a0,.int .i64 s_errs_a1,.int .i64 s_errs_a2,.int .i64 s_errs_a3,.int .i64 s_w_c_cap,.slice false (Ja s_w_c_l),.bool s_w_ready,.slice false (Ja s_w_shown),.int .i64 s_p_next,.slice false (Ja s_p_snaps)]] (.val (.bool (Jbk (⟨s_epoch,s_turn,s_up,⟨⟨s_in_last_a0,s_in_last_a1,s_in_last_a2,s_in_last_a3⟩,s_in_max⟩,⟨s_errs_a0,s_errs_a1,s_errs_a2,s_errs_a3⟩,⟨⟨s_w_c_cap,s_w_c_l⟩,s_w_ready,s_w_shown⟩,⟨s_p_next,s_p_snaps⟩⟩:Side)))):=by
 have w1:=Jb6 s_w_c_l hw.1.1 hw.1.2
 have w2:=Jb6 s_w_shown hw.2.1 hw.2.2
 have w3:=JkG s_p_next s_p_snaps hl hs
 have e:Jbk (⟨s_epoch,s_turn,s_up,⟨⟨s_in_last_a0,s_in_last_a1,s_in_last_a2,s_in_last_a3⟩,s_in_max⟩,⟨s_errs_a0,s_errs_a1,s_errs_a2,s_errs_a3⟩,⟨⟨s_w_c_cap,s_w_c_l⟩,s_w_ready,s_w_shown⟩,⟨s_p_next,s_p_snaps⟩⟩:Side)=(Yv s_w_c_l && Yv s_w_shown && JaH ⟨s_p_next,s_p_snaps⟩):=rfl
 rw[e]
 clear hw hl hs e
 generalize Yv s_w_c_l=a at *
 generalize Yv s_w_shown=b at *
 generalize JaH ⟨s_p_next,s_p_snaps⟩=c at *
 refine CallR.go1 (T:=T) Tryz.call31 Tryz.func31 rfl Tryz.ntmps31 (congrArg Array.toList Tryz.results31) (by decide) fun ts hn h0=>?_
 (repeat' (first
 | (with_reducible first|refine callX.by (w1) ?_|refine callX.by (w2) ?_|refine callX.by (w3) ?_|assumption|(refine Qw hK _ ?_;clear hK K)|refine Qw ‹_› _ ?_|refine Nx.out ‹_› ?_|refine Qi fun K hK=>?_|refine Qj T fun K hK=>?_|refine Ql fun A B hA hB=>?_|refine Qn ?_|refine Qr ?_)
 | ((with_reducible first|apply Qy|apply Qz|apply QA)<;>intro hb<;>try simp only[nr] at hb)
 |simp only[go_sem,↓reduceIte,reduceIte,Qa,Qh,Qb,Qc,Qd,Qe,Qf,Qg,reduceCtorEq, *,-w1,-w2,-w3]
 |with_reducible refine fun(bn:Bool) hbn=>?_))
 all_goals simp_all
set_option maxHeartbeats 4000000 in
theorem Jnr(s_epoch:Int)(s_turn:Int)(s_up:Bool)(s_in_last_a0:Int)(s_in_last_a1:Int)(s_in_last_a2:Int)(s_in_last_a3:Int)(s_in_max:Int)(s_errs_a0:Int)(s_errs_a1:Int)(s_errs_a2:Int)(s_errs_a3:Int)(s_w_c_cap:Int)(s_w_c_l:List Res)(s_w_ready:Bool)(s_w_shown:List Res)(s_p_next:Int)(s_p_snaps:List Snap)(hw:ZW ⟨⟨s_w_c_cap,s_w_c_l⟩,s_w_ready,s_w_shown⟩)(hl:Jc s_p_snaps.length)(hs:∀x∈s_p_snaps,V1 x):CallR Tryz.prog 17 [.agg [.int .i64 s_epoch,.int .i64 s_turn,.bool s_up,.int .i64 s_in_last_a0,.int .i64 s_in_last_a1,.int .i64 s_in_last_a2,.int .i64 s_in_last_a3,.int .i64 s_in_max,.int .i64 s_errs_a0,.int .i64 s_errs_a1,.int .i64 s_errs_a2,.int .i64 s_errs_a3,.int .i64 s_w_c_cap,.slice false (Ja s_w_c_l),.bool s_w_ready,.slice false (Ja s_w_shown),.int .i64 s_p_next,.slice false (Ja s_p_snaps)],.agg [.int .i64 s_epoch,.int .i64 s_turn,.bool s_up,.int .i64 s_in_last_a0,.int .i64 s_in_last_a1,.int .i64 s_in_last_a2,.int .i64 s_in_last_a3,.int .i64 s_in_max,.int .i64 s_errs_a0,.int .i64 s_errs_a1,.int .i64 s_errs_a2,.int .i64 s_errs_a3,.int .i64 s_w_c_cap,.slice false (Ja s_w_c_l),.bool s_w_ready,.slice false (Ja s_w_shown),.int .i64 s_p_next,.slice false (Ja s_p_snaps)]] (.val (.bool true)):=by
 have w1:=Jnq s_w_c_cap s_w_c_l s_w_ready s_w_shown s_w_c_cap s_w_c_l s_w_ready s_w_shown hw.1.1 hw.1.2 hw.2.1 hw.2.2
 rw[show Jeb (⟨⟨s_w_c_cap,s_w_c_l⟩,s_w_ready,s_w_shown⟩:Warm) ⟨⟨s_w_c_cap,s_w_c_l⟩,s_w_ready,s_w_shown⟩=true by simp[Jeb,JbM]] at w1
 have w2:=Jnd s_p_next s_p_next s_p_snaps s_p_snaps hl hs
 rw[decide_eq_true (show s_p_next=s_p_next∧s_p_snaps=s_p_snaps from⟨rfl,rfl⟩)] at w2
 clear hw hl hs
 refine CallR.go2 (T:=T) Tryz.call17 Tryz.func17 rfl Tryz.ntmps17 (congrArg Array.toList Tryz.results17) (by decide) fun ts hn h0 h1=>?_
 (repeat' (first
 | (with_reducible first|refine callX.by (w1) ?_|refine callX.by (w2) ?_|assumption|(refine Qw hK _ ?_;clear hK K)|refine Qw ‹_› _ ?_|refine Nx.out ‹_› ?_|refine Qi fun K hK=>?_|refine Qj T fun K hK=>?_|refine Ql fun A B hA hB=>?_|refine Qn ?_|refine Qr ?_)
 | ((with_reducible first|apply Qy|apply Qz|apply QA)<;>intro hb<;>try simp only[nr] at hb)
 |simp only[go_sem,↓reduceIte,reduceIte,Qa,Qh,Qb,Qc,Qd,Qe,Qf,Qg,reduceCtorEq, *,-w1,-w2,Bool.and_self,decide_true]
 |with_reducible refine fun(bn:Bool) hbn=>?_))
def SmP(p:Pins):Prop:=∀x∈p.snaps,V1 x
theorem JnN{p:Pins}(h:SmP p):SmP (Jao p):=by
 unfold Jao;split
 ·exact h
 ·intro x hx;simp at hx
theorem JnM{p:Pins}{id:Int}(h:SmP p):Jc (JcG p id).1.length∧∀x∈(JcG p id).1,JD x:=by
 have h1:=JnN h
 unfold JcG
 split
 ·simp[Jc]
 ·rename_i s hs
  exact h1 s (List.mem_of_find?_eq_some hs)
def Err(e:Int):Prop:=0≤e∧e≤15∧e≠9
theorem JbO{s:Side}(h:VX s=true):Jw s=s:=by unfold Jw;rw[if_pos h]
structure Bd(p:Pins)(n:Nat):Prop where
 len:p.snaps.length≤n
 all:∀x∈p.snaps,x.l.length≤80∧V1 x
theorem Jhg:∀(l:List Snap),(∀x∈l,x.l.length≤80)→(J5 l).length≤l.length*80
 | [],_=>by simp[J5]
 |x :: l,h=>by
  have:=Jhg l fun y hy=>h y (by simp[hy])
  have h1:=h x (by simp)
  rw[Jhf,List.length_append,List.length_map,List.length_cons]
  omega
theorem Bd.sz{p:Pins}{n:Nat}(h:Bd p n)(hn:n≤1000000):SzP p:=by
 have h1:=Jhg p.snaps fun x hx=>(h.all x hx).1
 have h2:=h.len
 exact⟨by unfold Jc;omega,fun x hx=>(h.all x hx).2,by unfold Jc;omega⟩
theorem Bd.sane{p:Pins}{n:Nat}(h:Bd p n):Bd (Jq p) n:=by
 rcases Jfr p with e|e<;>rw[e]
 ·exact h
 ·exact⟨by simp,by simp⟩
theorem Bd.publish{p:Pins}{n:Nat}(h:Bd p n){l:List Res}(h1:l.length≤80)(h2:∀r∈l,JD r):Bd (Jfp p l).1 (n+1):=by
 have h0:=h.sane
 unfold Jfp
 simp only
 generalize Jq p=q at *
 have hf:=List.length_filter_le (fun x:Snap=>!decide (x.pins=0)) q.snaps
 have hl:=h0.len
 split
 ·exact⟨Nat.le_succ_of_le hl,h0.all⟩
 ·split
  ·exact⟨Nat.le_succ_of_le hl,h0.all⟩
  ·refine⟨by simp only[List.length_append,List.length_cons,List.length_nil];omega,fun x hx=>?_⟩
   rcases List.mem_append.1 hx with hx|hx
   ·exact h0.all x (List.mem_filter.1 hx).1
   ·rw[List.mem_singleton] at hx
    subst hx
    exact⟨h1,by unfold Jc;simp only;omega,h2⟩
structure BdS(s:Side)(n:Nat):Prop where
 c:s.w.c.l.length≤80
 w:s.w.shown.length≤80
 sc:∀r∈s.w.c.l,JD r
 sw:∀r∈s.w.shown,JD r
 p:Bd s.p n
theorem BdS.sz{s:Side}{n:Nat}(h:BdS s n)(hn:n≤1000000):SzS s:=by
 have h1:=h.c
 have h2:=h.w
 exact⟨by omega,⟨⟨by unfold Jc;omega,h.sc⟩,by unfold Jc;omega,h.sw⟩,h.p.sz hn⟩
theorem BdS.sane{s:Side}{n:Nat}(h:BdS s n):BdS (Jw s) n:=by
 unfold Jw
 split
 ·exact h
 ·exact⟨by simp[Je],by simp[Je],by simp[Je],by simp[Je],⟨by simp[Je],by simp[Je]⟩⟩
theorem JnV{w:Warm}(h:VY w=true){a:List Res}(g:List Key)(h1:∀r∈w.c.l,JD r)(h2:∀r∈a,JD r) :
  (Y6 w a g).1.c.l.length≤80∧(Y6 w a g).1.shown.length≤80∧(∀r∈(Y6 w a g).1.c.l,JD r)∧∀r∈(Y6 w a g).1.shown,JD r:=by
 have k:=JnW h a g
 have k1:=JiN k
 have k2:=Jnw k
 have k3:∀r∈(Y6 w a g).1.c.l,JD r:=fun r hr=>(JnX h hr).elim (h1 r) (h2 r)
 exact⟨by omega,by omega,k3,fun r hr=>k3 r (Jnx k hr)⟩
theorem BdS.step{s:Side}{n:Nat}(h:BdS s n)(hs:VX s=true){f:Frame}(hf:∀r∈f.adds,JD r):BdS (Ji2 s f).1 (n+1):=by
 obtain⟨k1,k2,k3,k4⟩:=JnV (saneS_iff.1 hs).2.2.2.2.1 f.gone h.sc hf
 have hp:=h.p.publish k2 k4
 have hn:Bd s.p (n+1):=⟨by have:=h.p.len;omega,h.p.all⟩
 unfold Ji2
 generalize Y6 s.w f.adds f.gone=r at *
 obtain⟨w,ch,why⟩:=r
 simp only at k1 k2 k3 k4 hp ⊢
 cases ch<;>simp only[Bool.false_eq_true,↓reduceIte]
 ·split
  ·exact⟨k1,k2,k3,k4,hn⟩
  ·exact⟨h.c,h.w,h.sc,h.sw,hn⟩
 ·split
  ·split
   ·exact⟨k1,k2,k3,k4,hp⟩
   ·exact⟨h.c,h.w,h.sc,h.sw,hn⟩
  ·exact⟨h.c,h.w,h.sc,h.sw,hn⟩
theorem JkJ{s:Side}(h:Jbk s=true)(hw:ZW s.w)(hs:∀x∈s.p.snaps,V1 x):BdS s 20:=by
 unfold Jbk JaH Yv at h
 simp only[Bool.and_eq_true,decide_eq_true_eq,List.all_eq_true] at h
 obtain⟨⟨⟨-,h1⟩,-,h2⟩,h3,h4⟩:=h
 exact⟨h1,h2,hw.1.2,hw.2.2,h4,fun x hx=>⟨(h3 x hx).2,hs x hx⟩⟩
@[go_sem] def Jc6:List (List Nat×List Nat):=[([21],[23,24]),([22],[23,24]),([23],[21,22]),([24],[21,22])]
@[go_sem] def Jc7:List (List Nat×List Nat):=[([49],[50,51,52]),([50],[49,52,4]),([51],[49,52,4]),([52],[49,50,51,4,5]),([4],[50,51,52]),([5],[52])]
theorem JmY(p:Pins)(id:Int):∀x∈(VU p id).1.snaps,∃y∈(Jq p).snaps,x.l=y.l:=by
 unfold VU
 simp only
 generalize Jq p=q
 have hp:=JdT q.snaps id q.snaps.length
 split
 ·exact fun x hx=>⟨x,hx,rfl⟩
 ·rename_i h0
  split
  ·exact fun x hx=>⟨x,hx,rfl⟩
  ·have hk:(J3 q.snaps id q.snaps.length).toNat<q.snaps.length:=by omega
   generalize (J3 q.snaps id q.snaps.length).toNat=k at *
   have hset:∀t:Snap,t.l=(q.snaps.getD k default).l→∀x∈q.snaps.set k t,∃y∈q.snaps,x.l=y.l:=fun t ht x hx=>by
    rcases List.mem_or_eq_of_mem_set hx with hx|rfl
    ·exact⟨x,hx,rfl⟩
    ·refine⟨q.snaps[k],List.getElem_mem hk,?_⟩
     rw[ht];simp[hk]
   split
   ·intro x hx
    refine hset ⟨(q.snaps.getD k default).id,IntKind.i64.wrap ((q.snaps.getD k default).pins-1),(q.snaps.getD k default).l⟩ rfl x ?_
    rcases List.mem_append.1 hx with hx|hx
    ·exact List.mem_of_mem_take hx
    ·exact List.mem_of_mem_drop hx
   ·exact hset _ rfl
theorem JmX(p:Pins)(id:Int):(VU p id).1.snaps.length≤(Jq p).snaps.length:=by
 unfold VU
 simp only
 generalize Jq p=q
 split
 ·exact Nat.le_refl _
 ·split
  ·exact Nat.le_refl _
  ·split
   ·simp only[List.length_append,List.length_take,List.length_drop,List.length_set];omega
   ·simp
theorem Bd.release{p:Pins}{n:Nat}(h:Bd p n)(id:Int):Bd (VU p id).1 n:=by
 have h0:=h.sane
 refine⟨Nat.le_trans (JmX p id) h0.len,fun x hx=>?_⟩
 obtain⟨y,hy,e⟩:=JmY p id x hx
 have h1:=h0.all y hy
 refine⟨by rw[e];exact h1.1,?_⟩
 have h3:=h1.2
 unfold V1 at h3 ⊢
 rw[e]
 exact h3
def JZ(s:Side)(id:Int):Side×List Frame×Int :=
 let b:=Jw s
 let r:=VU b.p id
 if J8 r.1=J8 b.p∨b.up=false∨b.turn=2147483647 then ({ b with p:=r.1 },[],r.2)
 else ({ b with p:=r.1,turn:=b.turn+1 },[⟨3,b.epoch,0,0,b.turn+1,[],[],0,[],J8 r.1⟩],r.2)
set_option maxHeartbeats 16000000 in
theorem Jkz(s_epoch:Int)(s_turn:Int)(s_up:Bool)(s_in_last_a0:Int)(s_in_last_a1:Int)(s_in_last_a2:Int)(s_in_last_a3:Int)(s_in_max:Int)(s_errs_a0:Int)(s_errs_a1:Int)(s_errs_a2:Int)(s_errs_a3:Int)(s_w_c_cap:Int)(s_w_c_l:List Res)(s_w_ready:Bool)(s_w_shown:List Res)(s_p_next:Int)(s_p_snaps:List Snap)(id:Int)(h:SzS (⟨s_epoch,s_turn,s_up,⟨⟨s_in_last_a0,s_in_last_a1,s_in_last_a2,s_in_last_a3⟩,s_in_max⟩,⟨s_errs_a0,s_errs_a1,s_errs_a2,s_errs_a3⟩,⟨⟨s_w_c_cap,s_w_c_l⟩,s_w_ready,s_w_shown⟩,⟨s_p_next,s_p_snaps⟩⟩:Side))(hq:SzP (VU (Jw (⟨s_epoch,s_turn,s_up,⟨⟨s_in_last_a0,s_in_last_a1,s_in_last_a2,s_in_last_a3⟩,s_in_max⟩,⟨s_errs_a0,s_errs_a1,s_errs_a2,s_errs_a3⟩,⟨⟨s_w_c_cap,s_w_c_l⟩,s_w_ready,s_w_shown⟩,⟨s_p_next,s_p_snaps⟩⟩:Side)).p id).1):CallR Tryz.prog 85 [.agg [.int .i64 s_epoch,.int .i64 s_turn,.bool s_up,.int .i64 s_in_last_a0,.int .i64 s_in_last_a1,.int .i64 s_in_last_a2,.int .i64 s_in_last_a3,.int .i64 s_in_max,.int .i64 s_errs_a0,.int .i64 s_errs_a1,.int .i64 s_errs_a2,.int .i64 s_errs_a3,.int .i64 s_w_c_cap,.slice false (Ja s_w_c_l),.bool s_w_ready,.slice false (Ja s_w_shown),.int .i64 s_p_next,.slice false (Ja s_p_snaps)],.int .i64 id] (.val (.tup [.agg [.int .i64 (JZ (⟨s_epoch,s_turn,s_up,⟨⟨s_in_last_a0,s_in_last_a1,s_in_last_a2,s_in_last_a3⟩,s_in_max⟩,⟨s_errs_a0,s_errs_a1,s_errs_a2,s_errs_a3⟩,⟨⟨s_w_c_cap,s_w_c_l⟩,s_w_ready,s_w_shown⟩,⟨s_p_next,s_p_snaps⟩⟩:Side) id).1.epoch,.int .i64 (JZ (⟨s_epoch,s_turn,s_up,⟨⟨s_in_last_a0,s_in_last_a1,s_in_last_a2,s_in_last_a3⟩,s_in_max⟩,⟨s_errs_a0,s_errs_a1,s_errs_a2,s_errs_a3⟩,⟨⟨s_w_c_cap,s_w_c_l⟩,s_w_ready,s_w_shown⟩,⟨s_p_next,s_p_snaps⟩⟩:Side) id).1.turn,.bool (JZ (⟨s_epoch,s_turn,s_up,⟨⟨s_in_last_a0,s_in_last_a1,s_in_last_a2,s_in_last_a3⟩,s_in_max⟩,⟨s_errs_a0,s_errs_a1,s_errs_a2,s_errs_a3⟩,⟨⟨s_w_c_cap,s_w_c_l⟩,s_w_ready,s_w_shown⟩,⟨s_p_next,s_p_snaps⟩⟩:Side) id).1.up,.int .i64 (JZ (⟨s_epoch,s_turn,s_up,⟨⟨s_in_last_a0,s_in_last_a1,s_in_last_a2,s_in_last_a3⟩,s_in_max⟩,⟨s_errs_a0,s_errs_a1,s_errs_a2,s_errs_a3⟩,⟨⟨s_w_c_cap,s_w_c_l⟩,s_w_ready,s_w_shown⟩,⟨s_p_next,s_p_snaps⟩⟩:Side) id).1.in'.last.a0,.int .i64 (JZ (⟨s_epoch,s_turn,s_up,⟨⟨s_in_last_a0,s_in_last_a1,s_in_last_a2,s_in_last_a3⟩,s_in_max⟩,⟨s_errs_a0,s_errs_a1,s_errs_a2,s_errs_a3⟩,⟨⟨s_w_c_cap,s_w_c_l⟩,s_w_ready,s_w_shown⟩,⟨s_p_next,s_p_snaps⟩⟩:Side) id).1.in'.last.a1,.int .i64 (JZ (⟨s_epoch,s_turn,s_up,⟨⟨s_in_last_a0,s_in_last_a1,s_in_last_a2,s_in_last_a3⟩,s_in_max⟩,⟨s_errs_a0,s_errs_a1,s_errs_a2,s_errs_a3⟩,⟨⟨s_w_c_cap,s_w_c_l⟩,s_w_ready,s_w_shown⟩,⟨s_p_next,s_p_snaps⟩⟩:Side) id).1.in'.last.a2,.int .i64 (JZ (⟨s_epoch,s_turn,s_up,⟨⟨s_in_last_a0,s_in_last_a1,s_in_last_a2,s_in_last_a3⟩,s_in_max⟩,⟨s_errs_a0,s_errs_a1,s_errs_a2,s_errs_a3⟩,⟨⟨s_w_c_cap,s_w_c_l⟩,s_w_ready,s_w_shown⟩,⟨s_p_next,s_p_snaps⟩⟩:Side) id).1.in'.last.a3,.int .i64 (JZ (⟨s_epoch,s_turn,s_up,⟨⟨s_in_last_a0,s_in_last_a1,s_in_last_a2,s_in_last_a3⟩,s_in_max⟩,⟨s_errs_a0,s_errs_a1,s_errs_a2,s_errs_a3⟩,⟨⟨s_w_c_cap,s_w_c_l⟩,s_w_ready,s_w_shown⟩,⟨s_p_next,s_p_snaps⟩⟩:Side) id).1.in'.max,.int .i64 (JZ (⟨s_epoch,s_turn,s_up,⟨⟨s_in_last_a0,s_in_last_a1,s_in_last_a2,s_in_last_a3⟩,s_in_max⟩,⟨s_errs_a0,s_errs_a1,s_errs_a2,s_errs_a3⟩,⟨⟨s_w_c_cap,s_w_c_l⟩,s_w_ready,s_w_shown⟩,⟨s_p_next,s_p_snaps⟩⟩:Side) id).1.errs.a0,.int .i64 (JZ (⟨s_epoch,s_turn,s_up,⟨⟨s_in_last_a0,s_in_last_a1,s_in_last_a2,s_in_last_a3⟩,s_in_max⟩,⟨s_errs_a0,s_errs_a1,s_errs_a2,s_errs_a3⟩,⟨⟨s_w_c_cap,s_w_c_l⟩,s_w_ready,s_w_shown⟩,⟨s_p_next,s_p_snaps⟩⟩:Side) id).1.errs.a1,.int .i64 (JZ (⟨s_epoch,s_turn,s_up,⟨⟨s_in_last_a0,s_in_last_a1,s_in_last_a2,s_in_last_a3⟩,s_in_max⟩,⟨s_errs_a0,s_errs_a1,s_errs_a2,s_errs_a3⟩,⟨⟨s_w_c_cap,s_w_c_l⟩,s_w_ready,s_w_shown⟩,⟨s_p_next,s_p_snaps⟩⟩:Side) id).1.errs.a2,.int .i64 (JZ (⟨s_epoch,s_turn,s_up,⟨⟨s_in_last_a0,s_in_last_a1,s_in_last_a2,s_in_last_a3⟩,s_in_max⟩,⟨s_errs_a0,s_errs_a1,s_errs_a2,s_errs_a3⟩,⟨⟨s_w_c_cap,s_w_c_l⟩,s_w_ready,s_w_shown⟩,⟨s_p_next,s_p_snaps⟩⟩:Side) id).1.errs.a3,.int .i64 (JZ (⟨s_epoch,s_turn,s_up,⟨⟨s_in_last_a0,s_in_last_a1,s_in_last_a2,s_in_last_a3⟩,s_in_max⟩,⟨s_errs_a0,s_errs_a1,s_errs_a2,s_errs_a3⟩,⟨⟨s_w_c_cap,s_w_c_l⟩,s_w_ready,s_w_shown⟩,⟨s_p_next,s_p_snaps⟩⟩:Side) id).1.w.c.cap,.slice false (Ja (JZ (⟨s_epoch,s_turn,s_up,⟨⟨s_in_last_a0,s_in_last_a1,s_in_last_a2,s_in_last_a3⟩,s_in_max⟩,⟨s_errs_a0,s_errs_a1,s_errs_a2,s_errs_a3⟩,⟨⟨s_w_c_cap,s_w_c_l⟩,s_w_ready,s_w_shown⟩,⟨s_p_next,s_p_snaps⟩⟩:Side) id).1.w.c.l),.bool (JZ (⟨s_epoch,s_turn,s_up,⟨⟨s_in_last_a0,s_in_last_a1,s_in_last_a2,s_in_last_a3⟩,s_in_max⟩,⟨s_errs_a0,s_errs_a1,s_errs_a2,s_errs_a3⟩,⟨⟨s_w_c_cap,s_w_c_l⟩,s_w_ready,s_w_shown⟩,⟨s_p_next,s_p_snaps⟩⟩:Side) id).1.w.ready,.slice false (Ja (JZ (⟨s_epoch,s_turn,s_up,⟨⟨s_in_last_a0,s_in_last_a1,s_in_last_a2,s_in_last_a3⟩,s_in_max⟩,⟨s_errs_a0,s_errs_a1,s_errs_a2,s_errs_a3⟩,⟨⟨s_w_c_cap,s_w_c_l⟩,s_w_ready,s_w_shown⟩,⟨s_p_next,s_p_snaps⟩⟩:Side) id).1.w.shown),.int .i64 (JZ (⟨s_epoch,s_turn,s_up,⟨⟨s_in_last_a0,s_in_last_a1,s_in_last_a2,s_in_last_a3⟩,s_in_max⟩,⟨s_errs_a0,s_errs_a1,s_errs_a2,s_errs_a3⟩,⟨⟨s_w_c_cap,s_w_c_l⟩,s_w_ready,s_w_shown⟩,⟨s_p_next,s_p_snaps⟩⟩:Side) id).1.p.next',.slice false (Ja (JZ (⟨s_epoch,s_turn,s_up,⟨⟨s_in_last_a0,s_in_last_a1,s_in_last_a2,s_in_last_a3⟩,s_in_max⟩,⟨s_errs_a0,s_errs_a1,s_errs_a2,s_errs_a3⟩,⟨⟨s_w_c_cap,s_w_c_l⟩,s_w_ready,s_w_shown⟩,⟨s_p_next,s_p_snaps⟩⟩:Side) id).1.p.snaps)],.slice false (Ja (JZ (⟨s_epoch,s_turn,s_up,⟨⟨s_in_last_a0,s_in_last_a1,s_in_last_a2,s_in_last_a3⟩,s_in_max⟩,⟨s_errs_a0,s_errs_a1,s_errs_a2,s_errs_a3⟩,⟨⟨s_w_c_cap,s_w_c_l⟩,s_w_ready,s_w_shown⟩,⟨s_p_next,s_p_snaps⟩⟩:Side) id).2.1),.int .i64 (JZ (⟨s_epoch,s_turn,s_up,⟨⟨s_in_last_a0,s_in_last_a1,s_in_last_a2,s_in_last_a3⟩,s_in_max⟩,⟨s_errs_a0,s_errs_a1,s_errs_a2,s_errs_a3⟩,⟨⟨s_w_c_cap,s_w_c_l⟩,s_w_ready,s_w_shown⟩,⟨s_p_next,s_p_snaps⟩⟩:Side) id).2.2])):=by
 have w1:=JbN s_epoch s_turn s_up s_in_last_a0 s_in_last_a1 s_in_last_a2 s_in_last_a3 s_in_max s_errs_a0 s_errs_a1 s_errs_a2 s_errs_a3 s_w_c_cap s_w_c_l s_w_ready s_w_shown s_p_next s_p_snaps h
 have hz:=JiK h
 have hr:=(saneS_iff.1 (Jnt (⟨s_epoch,s_turn,s_up,⟨⟨s_in_last_a0,s_in_last_a1,s_in_last_a2,s_in_last_a3⟩,s_in_max⟩,⟨s_errs_a0,s_errs_a1,s_errs_a2,s_errs_a3⟩,⟨⟨s_w_c_cap,s_w_c_l⟩,s_w_ready,s_w_shown⟩,⟨s_p_next,s_p_snaps⟩⟩:Side))).2.1
 unfold JZ
 clear h
 generalize Jw (⟨s_epoch,s_turn,s_up,⟨⟨s_in_last_a0,s_in_last_a1,s_in_last_a2,s_in_last_a3⟩,s_in_max⟩,⟨s_errs_a0,s_errs_a1,s_errs_a2,s_errs_a3⟩,⟨⟨s_w_c_cap,s_w_c_l⟩,s_w_ready,s_w_shown⟩,⟨s_p_next,s_p_snaps⟩⟩:Side)=b at *
 simp only
 have w2:=Jcy b.p.next' id b.p.snaps hz.p.n
 have w2:CallR Tryz.prog 129 [.agg [.int .i64 b.p.next',.slice false (Ja b.p.snaps)],.int .i64 id] (.val (.tup [.agg [.int .i64 (VU b.p id).1.next',.slice false (Ja (VU b.p id).1.snaps)],.int .i64 (VU b.p id).2])):=w2
 generalize (VU b.p id).2=e at *
 generalize (VU b.p id).1=q at *
 have w3:=(Jah q.next' q.snaps hq.n hq.s hq.t).frz
 have w3:CallR Tryz.prog 80 [.agg [.int .i64 q.next',.slice false (Ja q.snaps)]] (.val (.slice false (Ja (J8 q)))):=w3
 have w4:=(Jah b.p.next' b.p.snaps hz.p.n hz.p.s hz.p.t).frz
 have w4:CallR Tryz.prog 80 [.agg [.int .i64 b.p.next',.slice false (Ja b.p.snaps)]] (.val (.slice false (Ja (J8 b.p)))):=w4
 have w5:=JaF (J8 q) (J8 b.p) hq.held.1
 have w6:=JcM b.epoch b.turn b.up b.in'.last.a0 b.in'.last.a1 b.in'.last.a2 b.in'.last.a3 b.in'.max b.errs.a0 b.errs.a1 b.errs.a2 b.errs.a3 b.w.c.cap b.w.c.l b.w.ready b.w.shown q.next' q.snaps
 have w7:CallR Tryz.prog 99 [.agg [.int .i64 (b.epoch),.int .i64 (b.turn),.bool (b.up),.int .i64 (b.in'.last.a0),.int .i64 (b.in'.last.a1),.int .i64 (b.in'.last.a2),.int .i64 (b.in'.last.a3),.int .i64 (b.in'.max),.int .i64 (b.errs.a0),.int .i64 (b.errs.a1),.int .i64 (b.errs.a2),.int .i64 (b.errs.a3),.int .i64 (b.w.c.cap),.slice false (Ja (b.w.c.l)),.bool (b.w.ready),.slice false (Ja (b.w.shown)),.int .i64 (q.next'),.slice false (Ja (q.snaps))],.agg [.int .i64 3,.int .i64 b.epoch,.int .i64 0,.int .i64 0,.int .i64 0,.slice false [],.slice false [],.int .i64 0,.slice false [],.slice false []]]
  (.val (.tup [.agg [.int .i64 (b.epoch),.int .i64 (b.turn+1),.bool (b.up),.int .i64 (b.in'.last.a0),.int .i64 (b.in'.last.a1),.int .i64 (b.in'.last.a2),.int .i64 (b.in'.last.a3),.int .i64 (b.in'.max),.int .i64 (b.errs.a0),.int .i64 (b.errs.a1),.int .i64 (b.errs.a2),.int .i64 (b.errs.a3),.int .i64 (b.w.c.cap),.slice false (Ja (b.w.c.l)),.bool (b.w.ready),.slice false (Ja (b.w.shown)),.int .i64 (q.next'),.slice false (Ja (q.snaps))],.agg [.int .i64 3,.int .i64 b.epoch,.int .i64 0,.int .i64 0,.int .i64 (b.turn+1),.slice false [],.slice false [],.int .i64 0,.slice false [],.slice false (Ja (J8 q))]])) :=
  JcS b.epoch b.turn b.up b.in'.last.a0 b.in'.last.a1 b.in'.last.a2 b.in'.last.a3 b.in'.max b.errs.a0 b.errs.a1 b.errs.a2 b.errs.a3 b.w.c.cap b.w.c.l b.w.ready b.w.shown q.next' q.snaps 3 b.epoch 0 0 0 [] [] 0 [] [] hq hr
 clear hz hr hq
 generalize J8 q=hq at *
 generalize J8 b.p=hb0 at *
 by_cases hc:hq=hb0
 ·rw[decide_eq_true hc] at w5
  rw[if_pos (.inl hc)]
  have w7:=trivial
  refine CallR.go2 (T:=T) Tryz.call85 Tryz.func85 rfl Tryz.ntmps85 (congrArg Array.toList Tryz.results85) (by decide) fun ts hn h0 h1=>?_
  (repeat' (first
 | (with_reducible first|refine callX.by (w1) ?_|refine callX.by (w2) ?_|refine callX.by (w3) ?_|refine callX.by (w4) ?_|refine callX.by (w5) ?_|refine callX.by (w6) ?_|refine callX.by (JbN _ _ _ _ _ _ _ _ _ _ _ _ _ _ _ _ _ _ ?_) ?_|refine callX.by awc5 ?_|refine callX.by (Jcy _ _ _ ?_) ?_|refine callX.by (Jah _ _ ?_ ?_ ?_) ?_|refine callX.by awc7 ?_|refine callX.by awc8 ?_|refine callX.by (JaF _ _ ?_) ?_|refine callX.by (JcM _ _ _ _ _ _ _ _ _ _ _ _ _ _ _ _ _ _) ?_|refine callX.by (JcS _ _ _ _ _ _ _ _ _ _ _ _ _ _ _ _ _ _ _ _ _ _ _ _ _ _ _ _ ?_ ?_) ?_|assumption|(refine Qw hK _ ?_;clear hK K)|refine Qw ‹_› _ ?_|refine Nx.out ‹_› ?_|refine Qi fun K hK=>?_|refine Qj T fun K hK=>?_|refine Qk (id:=3) T mixed Jc6 (by kernel_rfl) fun K hK=>?_|refine Qk (id:=8) T mixed Jc7 (by kernel_rfl) fun K hK=>?_|refine Ql fun A B hA hB=>?_|refine Qn ?_|refine Qr ?_)
 | ((with_reducible first|apply Qy|apply Qz|apply QA)<;>intro hb<;>try simp only[nr] at hb)
 |simp only[go_sem,↓reduceIte,reduceIte,Qa,Qh,Qb,Qc,Qd,Qe,Qf,Qg,reduceCtorEq, *,-w1,-w2,-w3,-w4,-w5,-w6,-hc,Vc]
 |with_reducible refine fun(bn:Bool) hbn=>?_))
 ·rw[decide_eq_false hc] at w5
  by_cases hu:b.up=false
  ·rw[if_pos (.inr (.inl hu))]
   have w7:=trivial
   refine CallR.go2 (T:=T) Tryz.call85 Tryz.func85 rfl Tryz.ntmps85 (congrArg Array.toList Tryz.results85) (by decide) fun ts hn h0 h1=>?_
   (repeat' (first
 | (with_reducible first|refine callX.by (w1) ?_|refine callX.by (w2) ?_|refine callX.by (w3) ?_|refine callX.by (w4) ?_|refine callX.by (w5) ?_|refine callX.by (w6) ?_|refine callX.by (JbN _ _ _ _ _ _ _ _ _ _ _ _ _ _ _ _ _ _ ?_) ?_|refine callX.by awc5 ?_|refine callX.by (Jcy _ _ _ ?_) ?_|refine callX.by (Jah _ _ ?_ ?_ ?_) ?_|refine callX.by awc7 ?_|refine callX.by awc8 ?_|refine callX.by (JaF _ _ ?_) ?_|refine callX.by (JcM _ _ _ _ _ _ _ _ _ _ _ _ _ _ _ _ _ _) ?_|refine callX.by (JcS _ _ _ _ _ _ _ _ _ _ _ _ _ _ _ _ _ _ _ _ _ _ _ _ _ _ _ _ ?_ ?_) ?_|assumption|(refine Qw hK _ ?_;clear hK K)|refine Qw ‹_› _ ?_|refine Nx.out ‹_› ?_|refine Qi fun K hK=>?_|refine Qj T fun K hK=>?_|refine Qk (id:=3) T mixed Jc6 (by kernel_rfl) fun K hK=>?_|refine Qk (id:=8) T mixed Jc7 (by kernel_rfl) fun K hK=>?_|refine Ql fun A B hA hB=>?_|refine Qn ?_|refine Qr ?_)
 | ((with_reducible first|apply Qy|apply Qz|apply QA)<;>intro hb<;>try simp only[nr] at hb)
 |simp only[go_sem,↓reduceIte,reduceIte,Qa,Qh,Qb,Qc,Qd,Qe,Qf,Qg,reduceCtorEq, *,-w1,-w2,-w3,-w4,-w5,-w6,-hc,Vc]
 |with_reducible refine fun(bn:Bool) hbn=>?_))
  ·have hu:b.up=true:=by simpa using hu
   by_cases ht:b.turn=2147483647
   ·rw[if_pos (.inr (.inr ht))]
    have w7:=trivial
    refine CallR.go2 (T:=T) Tryz.call85 Tryz.func85 rfl Tryz.ntmps85 (congrArg Array.toList Tryz.results85) (by decide) fun ts hn h0 h1=>?_
    (repeat' (first
 | (with_reducible first|refine callX.by (w1) ?_|refine callX.by (w2) ?_|refine callX.by (w3) ?_|refine callX.by (w4) ?_|refine callX.by (w5) ?_|refine callX.by (w6) ?_|refine callX.by (JbN _ _ _ _ _ _ _ _ _ _ _ _ _ _ _ _ _ _ ?_) ?_|refine callX.by awc5 ?_|refine callX.by (Jcy _ _ _ ?_) ?_|refine callX.by (Jah _ _ ?_ ?_ ?_) ?_|refine callX.by awc7 ?_|refine callX.by awc8 ?_|refine callX.by (JaF _ _ ?_) ?_|refine callX.by (JcM _ _ _ _ _ _ _ _ _ _ _ _ _ _ _ _ _ _) ?_|refine callX.by (JcS _ _ _ _ _ _ _ _ _ _ _ _ _ _ _ _ _ _ _ _ _ _ _ _ _ _ _ _ ?_ ?_) ?_|assumption|(refine Qw hK _ ?_;clear hK K)|refine Qw ‹_› _ ?_|refine Nx.out ‹_› ?_|refine Qi fun K hK=>?_|refine Qj T fun K hK=>?_|refine Qk (id:=3) T mixed Jc6 (by kernel_rfl) fun K hK=>?_|refine Qk (id:=8) T mixed Jc7 (by kernel_rfl) fun K hK=>?_|refine Ql fun A B hA hB=>?_|refine Qn ?_|refine Qr ?_)
 | ((with_reducible first|apply Qy|apply Qz|apply QA)<;>intro hb<;>try simp only[nr] at hb)
 |simp only[go_sem,↓reduceIte,reduceIte,Qa,Qh,Qb,Qc,Qd,Qe,Qf,Qg,reduceCtorEq, *,-w1,-w2,-w3,-w4,-w5,-w6,-hc,Vc]
 |with_reducible refine fun(bn:Bool) hbn=>?_))
   ·rw[if_neg (by simp[hc,hu,ht])]
    rw[hu] at w7
    refine CallR.go2 (T:=T) Tryz.call85 Tryz.func85 rfl Tryz.ntmps85 (congrArg Array.toList Tryz.results85) (by decide) fun ts hn h0 h1=>?_
    (repeat' (first
 | (with_reducible first|refine callX.by (w1) ?_|refine callX.by (w2) ?_|refine callX.by (w3) ?_|refine callX.by (w4) ?_|refine callX.by (w5) ?_|refine callX.by (w6) ?_|refine callX.by (w7) ?_|refine callX.by (JbN _ _ _ _ _ _ _ _ _ _ _ _ _ _ _ _ _ _ ?_) ?_|refine callX.by awc5 ?_|refine callX.by (Jcy _ _ _ ?_) ?_|refine callX.by (Jah _ _ ?_ ?_ ?_) ?_|refine callX.by awc7 ?_|refine callX.by awc8 ?_|refine callX.by (JaF _ _ ?_) ?_|refine callX.by (JcM _ _ _ _ _ _ _ _ _ _ _ _ _ _ _ _ _ _) ?_|refine callX.by (JcS _ _ _ _ _ _ _ _ _ _ _ _ _ _ _ _ _ _ _ _ _ _ _ _ _ _ _ _ ?_ ?_) ?_|assumption|(refine Qw hK _ ?_;clear hK K)|refine Qw ‹_› _ ?_|refine Nx.out ‹_› ?_|refine Qi fun K hK=>?_|refine Qj T fun K hK=>?_|refine Qk (id:=3) T mixed Jc6 (by kernel_rfl) fun K hK=>?_|refine Qk (id:=8) T mixed Jc7 (by kernel_rfl) fun K hK=>?_|refine Ql fun A B hA hB=>?_|refine Qn ?_|refine Qr ?_)
 | ((with_reducible first|apply Qy|apply Qz|apply QA)<;>intro hb<;>try simp only[nr] at hb)
 |simp only[go_sem,↓reduceIte,reduceIte,Qa,Qh,Qb,Qc,Qd,Qe,Qf,Qg,reduceCtorEq, *,-w1,-w2,-w3,-w4,-w5,-w6,-w7,-hc]
 |with_reducible refine fun(bn:Bool) hbn=>?_))
    all_goals rfl
end Go.Proofs.YthjalhfmpffbjaaGreatDoor.Lg
