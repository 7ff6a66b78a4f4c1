/- Parts of the proof, one behind the other. -/
import Derived.Lib.Bytealg
import Derived.Test.YthjalhfmpffbjaaGreatDoorG05
set_option linter.unusedVariables false
set_option linter.unusedSimpArgs false
set_option maxRecDepth 100000
set_option maxHeartbeats 64000000
namespace Go.Proofs.YthjalhfmpffbjaaGreatDoor.Lg
open Go
open Tryz
variable {P:Program}
theorem Rel.later{E:Env}{ts:TS}{G:Ghost}{a:Go.Act}{w w':World}(h:Rel E ts G a w)(hbel:Bel (fun _=>False) w w'):Rel E ts G a w':=by
 have hw:∀i,i<w.heap.size→w'.heap[i]?=w.heap[i]?:=fun i hi=>hbel.block i hi (fun f=>f)
 have hle:(Jb E G ts w).Le (Jb E G ts w') :=
  {blk:=fun b' hMa hc=>⟨hw _ hc,hMa⟩,gen:=fun _=>Nat.le_refl _,kind:=fun e k _ hk'=>⟨hk',rfl,rfl⟩ }
 refine⟨h.size,h.defers,fun t=>(h.tmp t).mono hle,fun d=>ObOk.mono hle rfl rfl (fun h1 h2=>hw _ (h.own d ⟨h1,h2⟩).2.2) (h.obj d),h.sep,fun d hd=>?_,fun b hb=>Nat.lt_of_lt_of_le (h.inF b hb) hbel.size,h.bel.trans ⟨hbel.os,hbel.tape,hbel.output,hbel.size,fun k hk' _=>hw k hk',hbel.drawn⟩,h.pin⟩
 obtain⟨p,q,s⟩:=h.own d hd
 exact⟨p,q,Nat.lt_of_lt_of_le s hbel.size⟩
def Done(f:FuncId)(args:List Arg)(x:Int)(U:(Nat→List AV)→Prop):Prop :=
 if x=0 then CallV prog f args (fun r io=>r=.val (.tup [])∧U io) else CallUV prog f args (ZA x) U
theorem Done.calls{f:FuncId}{args:List Arg}{x:Int}{U:(Nat→List AV)→Prop}(h:Done f args x U)(hf:∀(vals:Array Value) (w:World),(callFunc f vals).run prog w=.ok (.enter f vals) w)
  {E:Env} {G:Ghost} {vals:Array Value} {w:World} (hw:E.w0=w) (hrel:Rel E (Jk args args.length) G ⟨vals,[]⟩ w) (hpin:∀j,(∃cs,args[j]?=some (.io cs))↔∃b,E.pin j=some b) :
  Calls prog f vals w fun e w'=>(if x=0 then e=.returned (.tuple #[]) else e=.panicked (ZA x))∧∃io ts' G' a',U io∧Rel E ts' G' a' w'∧∀j b,E.pin j=some b→ts'.gen j=0∧ts'.obj j=.box (io j)∧AV.pure.pureL (io j)=true:=by
 unfold Done at h
 split at h
 ·have:=h E G vals w hw hrel hpin
  rw[hf] at this
  refine Calls.mono this ?_
  rintro e w' ⟨v,r,io,ts',G',rfl,⟨rfl,hU⟩,hr,hp,hret⟩
  obtain⟨_,ht⟩:=hret
  have hv:=hr.tmp 0
  rw[ht] at hv
  have hv:Rep (Jb E G' ts' w') v (.tup []):=by simpa using hv
  have hv0:v=.tuple #[]:=by
   cases hv with
   |tup cs bs hl h=>rw[show cs=#[] from Array.eq_empty_of_size_eq_zero (by simpa using hl)]
  exact⟨by rw[hv0,if_pos ‹_›],io,ts',G',_,hU,hr,hp⟩
 ·have:=h E G vals w hw hrel hpin
  rw[hf] at this
  refine Calls.mono this ?_
  rintro e w' ⟨io,ts',G',rfl,hU,hr,hp⟩
  exact⟨by rw[if_neg ‹_›],io,ts',G',_,hU,hr,hp⟩
theorem Jav(w:World):Bel (fun _=>False) w (VK w):=(Bel.refl _ _).alloc _
theorem Jh0(w:World):(VK w).heap[w.heap.size]?=some (.cells #[.int .i64 0] 31 (0,0)):=heap_alloc_new w _
theorem JcM(w:World):(VK w).heap.size=w.heap.size+1:=by simp[VK]
theorem Jh1{w w':World}(h:w'.heap[w.heap.size]?=some (.cells #[.int .i64 0] 31 (0,0))):w'.cell? (Yi w)=some (.int .i64 0)∧w'.frozen? (Yi w)=false:=by
 constructor
 ·simp[World.cell?,Yi,h]
 ·simp[World.frozen?,Yi,h]
theorem Je3(w:World)(p:Addr)(v:Value)(i:Nat)(h:i≠p.block):(w.setCell p v).heap[i]?=w.heap[i]?:=by
 simp[World.setCell,Array.getElem?_modify,Ne.symm h]
theorem Jkd(w:World)(p:Addr)(v:Value):(w.setCell p v).heap.size=w.heap.size:=by simp[World.setCell]
theorem Jnr(g:FuncId)(caps:List AV)(x:Int)(hg:∀(vals:Array Value) (w:World),(callFunc g vals).run prog w=.ok (.enter g vals) w)(hd:Done g (caps.map Arg.v) x (fun _=>True))(hp:AV.pure.pureL caps=true) :
  CallR prog 103 [.clo (.func g) [] caps] (.val (.int .i64 x)):=by
 intro E G vals w hw hrel hpin
 rw[call103]
 dsimp only
 have hs:vals.size=1:=hrel.size
 have h0:=hrel.tmp 0
 have h0:Rep (Jb E G (Jk (List.map Arg.v [AV.clo (.func g) [] caps]) 1) w) (vals.getD 0 undef) (.clo (.func g) [] caps):=h0
 obtain⟨c1,hfv,hc1,hc1r⟩:∃c1:Array Value,vals.getD 0 undef=.func (.func g) #[] c1∧c1.size=caps.length∧∀i,Rep (Jb E G (Jk (List.map Arg.v [AV.clo (.func g) [] caps]) 1) w) (c1.getD i undef) (caps.getD i .any):=by
  generalize vals.getD 0 undef=q at h0
  cases h0 with
  |clo _ f1 c1 _ _ p0 p1 p2 p3 =>
   have:f1=#[]:=Array.eq_empty_of_size_eq_zero (by simpa using p0)
   subst this
   exact⟨c1,rfl,p1,p3⟩
 have hvals:vals=#[.func (.func g) #[] c1]:=by
  apply Array.ext
  ·simp[hs]
  ·intro i h1 h2
   have hi:i=0:=by simp at h2;omega
   subst hi
   have:vals.getD 0 undef=vals[0]:=by simp[hs]
   rw[←this,hfv];rfl
 subst hvals
 have hrl:=hrel.later (Jav w)
 let E2:Env:={ w0:=VK w,X:=fun _=>False,F:=E.F,pin:=fun _=>none }
 have hobj:∀d,(Jk (caps.map Arg.v) (caps.map Arg.v).length).obj d=.dead:=fun d=>by
  simp only[Jk,List.getElem?_map]
  cases caps[d]?<;>rfl
 have hdead:∀d,¬Jj (Jk (caps.map Arg.v) (caps.map Arg.v).length) G d:=fun d hl=>hl.1 (by rw[hobj];rfl)
 have hM:∀b,(Jb E2 G (Jk (caps.map Arg.v) (caps.map Arg.v).length) (VK w)).M b→(Jb E G (Jk (List.map Arg.v [AV.clo (.func g) [] caps]) 1) w).M b:=fun b hb=>by
  rcases hb with hF|⟨d,hl,_⟩
  ·exact .inl hF
  ·exact absurd hl (hdead d)
 have hrel2:Rel E2 (Jk (caps.map Arg.v) (caps.map Arg.v).length) G ⟨c1,[]⟩ (VK w):=by
  refine⟨by simp[Jk,hc1],rfl,fun t=>?_,fun d=>by rw[hobj];trivial,fun d d' h1 _ _=>absurd h1 (hdead d),fun d h1=>absurd h1 (hdead d),fun b hb=>hrl.inF b hb,Bel.refl _ _,fun j b hj _=>by cases hj⟩
  have e:(Jk (caps.map Arg.v) (caps.map Arg.v).length).tmp t=caps.getD t .any:=by
   simp only[Jk,List.getElem?_map,List.getD_eq_getElem?_getD]
   cases caps[t]?<;>rfl
  rw[e]
  refine Rep.mono_pure (c:=Jb E G (Jk (List.map Arg.v [AV.clo (.func g) [] caps]) 1) w) (fun b hb hlt=>⟨(Jav w).block b hlt fun f=>f,fun h=>hb (hM b h)⟩) (hc1r t) (JW caps t hp)
 have hC:=hd.calls hg (E:=E2) rfl hrel2 fun j=>by
  constructor
  ·rintro⟨cs,hcs⟩
   simp only[List.getElem?_map] at hcs
   cases hh:caps[j]?<;>rw[hh] at hcs<;>simp at hcs
  ·rintro⟨b,hb⟩;cases hb
 refine Calls.mono (JhE g c1 w _ (hg _) hC ?_) ?_
 ·rintro e w' ⟨he,io,ts',G',a',_,hr,_⟩
  have hb:=hr.bel.block w.heap.size (by show _<(VK w).heap.size;rw[JcM];omega) (fun f=>f)
  have hb:w'.heap[w.heap.size]?=_:=hb.trans (Jh0 w)
  obtain⟨q1,q2⟩:=Jh1 hb
  refine⟨q1,q2,?_⟩
  split at he
  ·exact .inl he
  ·exact .inr ⟨x,he⟩
 ·rintro e w'' ⟨e1,w1,⟨he,io,ts',G',a',_,hr,_⟩,hcase⟩
  have hbel1:Bel (fun _=>False) (VK w) w1:=hr.bel
  have key:e=.returned (.int .i64 x)∧w''=w1.setCell (Yi w) (.int .i64 x):=by
   rcases hcase with ⟨h1,h2,h3⟩|⟨y,h1,h2,h3⟩
   ·split at he
    ·rename_i hx;subst hx;exact⟨h2,h3⟩
    ·rw[h1] at he;cases he
   ·split at he
    ·rw[h1] at he;cases he
    ·rw[h1] at he
     have:y=x:=by
      simp only[Ending.panicked.injEq,ZA,List.cons.injEq,PanicEntry.mk.injEq,upV] at he
      simpa using he
     subst this;exact⟨h2,h3⟩
  obtain⟨rfl,rfl⟩:=key
  have hbel:Bel (fun _=>False) w (w1.setCell (Yi w) (.int .i64 x)):=by
   have h1:=(Jav w).trans hbel1
   refine⟨h1.os,h1.tape,h1.output,by rw[Jkd];exact h1.size,fun k hk hx=>?_,h1.drawn⟩
   rw[Je3 _ _ _ _ (by show k≠w.heap.size;omega)]
   exact h1.block k hk hx
  let ts1:TS:={ n:=1,tmp:=fun t=>if t=0 then .int .i64 x else .any,gen:=fun _=>0,obj:=fun _=>.dead }
  refine⟨.int .i64 x,.val (.int .i64 x),fun _=>[],ts1,G,rfl,rfl,⟨rfl,rfl,fun t=>?_,fun d=>trivial,fun d d' h1 _ _=>absurd rfl h1.1,fun d h1=>absurd rfl h1.1,fun b hb=>Nat.lt_of_lt_of_le (hrel.inF b hb) hbel.size,?_,fun j b hj _=>?_⟩,fun j b hj=>?_,rfl,by simp[ts1]⟩
  ·show Rep _ _ (if t=0 then AV.int .i64 x else .any)
   split
   ·rename_i ht;subst ht;exact .int _ _
   ·exact .any _
  ·rw[hw]
   exact⟨hbel.os,hbel.tape,hbel.output,hbel.size,fun k hk _=>hbel.block k hk fun f=>f,hbel.drawn⟩
  ·exact absurd ((hpin j).2 ⟨b,hj⟩) (by rintro⟨cs,hcs⟩;cases j<;>simp at hcs)
  ·exact absurd ((hpin j).2 ⟨b,hj⟩) (by rintro⟨cs,hcs⟩;cases j<;>simp at hcs)
end Go.Proofs.YthjalhfmpffbjaaGreatDoor.Lg
namespace Go.Proofs.YthjalhfmpffbjaaGreatDoor.Lg
open Go
open Tryz
open Nat renaming reduceEqDiff → Qa, reduceLT → Qb, reduceLeDiff → Qc, reduceAdd → Qd, reduceMul → Qe, reduceSub → Qf, reduceBEq → Qg
open String renaming reduceEq → Qh
open SpecC renaming seqW → Qi, regW → Qj, drawW → Qk, condW → Ql, block → Qm, skip → Qn, exit → Qp, ret → Qr, loopF → Qs
open NxK renaming out → Qw
open Nx renaming out → Qx
open condK renaming split → Qy
open gK renaming split_t → Qz, split_f → QA
theorem SpecO.caughtB{o:Oper}{ts:TS}{K:TS→Prop}{x:Operand}{at_:Array TypeId}(ho:o.op=.call { callee:=.value (.func 103),args:=#[x],argTypes:=at_ })
  {g:FuncId} {as0:List AV} (d:Nat) {cs cs':List AV} {e:Int} (hx:ts.ev x=.clo (.func g) [] (as0++[.ref d (ts.gen d) 0])) (hob:ts.obj d=.box cs) (hcs:AV.pure.pureL cs=true) (hp:AV.pure.pureL as0=true)
  (hg:∀(vals:Array Value) (w:World),(callFunc g vals).run prog w=.ok (.enter g vals) w) (hd:Done g (as0.map Arg.v++[.io cs]) e (fun io=>io as0.length=cs')) (hk:Jd (ts.setObj d (.box cs')) o.dst (.int .i64 e) K):SpecO prog o ts K:=by
 obtain⟨gg,hgg⟩:∃gg,gg=ts.gen d:=⟨_,rfl⟩
 rw[←hgg] at hx
 intro E G a w next Q hr hn
 have hvx:=hr.ev x
 rw[hx] at hvx
 obtain⟨c1,hfv,hc1,hc1r⟩:∃c1:Array Value,a.eval x=.func (.func g) #[] c1∧c1.size=(as0++[AV.ref d gg 0]).length∧∀i,Rep (Jb E G ts w) (c1.getD i undef) ((as0++[AV.ref d gg 0]).getD i .any):=by
  generalize a.eval x=q at hvx
  cases hvx with
  |clo _ f1 c1 _ _ p0 p1 p2 p3 =>
   have:f1=#[]:=Array.eq_empty_of_size_eq_zero (by simpa using p0)
   subst this
   exact⟨c1,rfl,p1,p3⟩
 have hobk:=hr.obj d
 rw[hob] at hobk
 have hκd:G.κ d≠none:=hobk.1
 have hlive:Jj ts G d:=⟨by simp[hob,Ob.kind],hκd⟩
 have hβlt:G.β d<w.heap.size:=(hr.own d hlive).2.2
 have hrl:=hr.later (Jav w)
 let k:=as0.length
 let args:List Arg:=as0.map Arg.v++[.io cs]
 have hklen:args.length=k+1:=by simp[args,k]
 let E':Env:={ w0:=VK w,X:=fun b=>b=G.β d,F:=fun b=>E.F b∨(∃e,e≠d∧Jj ts G e∧G.β e=b)∨b=w.heap.size,pin:=fun j=>if j=k then some (G.β d) else none }
 let G0:Ghost:=G.set k (G.β d) (G.κ d)
 have hG0:G0.β k=G.β d∧G0.κ k=G.κ d:=by simp[G0,Ghost.set]
 have hargk:args[k]?=some (.io cs):=by simp[args,k]
 have hargne:∀j,j≠k→∀q,args[j]?=some q→∃y,q=.v y:=fun j hj q hq=>by
  simp only[args] at hq
  by_cases hjl:j<as0.length
  ·rw[List.getElem?_append_left (by simpa using hjl),List.getElem?_map] at hq
   cases hh:as0[j]?<;>rw[hh] at hq<;>simp at hq
   exact⟨_,hq.symm⟩
  ·rw[List.getElem?_append_right (by simp;omega)] at hq
   have:¬j-(as0.map Arg.v).length=0:=by simp;omega
   obtain⟨q',hq'⟩:=Nat.exists_eq_succ_of_ne_zero this
   rw[hq'] at hq
   simp at hq
 have hobj:∀j,(Jk args args.length).obj j=if j=k then .box cs else .dead:=fun j=>by
  simp only[Jk]
  by_cases hj:j=k
  ·subst hj;rw[hargk,if_pos rfl]
  ·rw[if_neg hj]
   cases hh:args[j]? with
   |none=>rfl
   |some q=>obtain⟨y,rfl⟩:=hargne j hj q hh;rfl
 have htmp:∀j,(Jk args args.length).tmp j=if j=k then .ref k 0 0 else as0.getD j .any:=fun j=>by
  simp only[Jk]
  by_cases hj:j=k
  ·subst hj;rw[hargk,if_pos rfl]
  ·rw[if_neg hj]
   by_cases hjl:j<as0.length
   ·have:args[j]?=some (.v as0[j]):=by
     simp only[args]
     rw[List.getElem?_append_left (by simpa using hjl),List.getElem?_map,List.getElem?_eq_getElem hjl];rfl
    rw[this]
    simp[hjl]
   ·have:args[j]?=none:=by
     rw[List.getElem?_eq_none];rw[hklen];omega
    rw[this]
    simp[List.getElem?_eq_none (show as0.length≤j by omega)]
 have hlive0:∀j,Jj (Jk args args.length) G0 j↔j=k:=fun j=>by
  unfold Jj
  rw[hobj]
  by_cases hj:j=k
  ·subst hj;rw[hG0.2];simp[Ob.kind,hκd]
  ·simp[hj,Ob.kind]
 have hM:∀b,(Jb E' G0 (Jk args args.length) (VK w)).M b↔((Jb E G ts w).M b∨b=w.heap.size):=fun b=>by
  constructor
  ·rintro((hF|⟨e,_,hl,hb⟩|hb)|⟨e,hl,hb⟩)
   ·exact .inl (.inl hF)
   ·exact .inl (.inr ⟨e,hl,hb⟩)
   ·exact .inr hb
   ·have:=(hlive0 e).1 hl
    subst this
    exact .inl (.inr ⟨d,hlive,by rw[←hG0.1];exact hb⟩)
  ·rintro((hF|⟨e,hl,hb⟩)|hb)
   ·exact .inl (.inl hF)
   ·by_cases he:e=d
    ·subst he;exact .inr ⟨k,(hlive0 k).2 rfl,by rw[hG0.1];exact hb⟩
    ·exact .inl (.inr (.inl ⟨e,he,hl,hb⟩))
   ·exact .inl (.inr (.inr hb))
 have hmono:∀ {u y},Rep (Jb E G ts w) u y→y.pure=true→Rep (Jb E' G0 (Jk args args.length) (VK w)) u y:=fun h hp=>Rep.mono_pure (c:=Jb E G ts w) (fun b hb hlt=>⟨(Jav w).block b hlt fun f=>f,fun h=>by
  rcases(hM b).1 h with h|h
  ·exact hb h
  ·have:b<w.heap.size:=hlt
   omega⟩) h hp
 have hrel':Rel E' (Jk args args.length) G0 ⟨c1,[]⟩ (VK w):=by
  refine⟨?_,rfl,fun t=>?_,fun j=>?_,fun j j' h1 h2 _=>?_,fun j h1=>?_,fun b hb=>?_,Bel.refl _ _,fun j b hj hgj=>?_⟩
  ·show c1.size=args.length
   rw[hc1,hklen];simp[k]
  ·rw[htmp]
   have h1:=hc1r t
   by_cases ht:t=k
   ·subst ht
    rw[if_pos rfl]
    have e1:(as0++[AV.ref d gg 0]).getD k .any=.ref d gg 0:=by simp[k]
    rw[e1] at h1
    generalize c1.getD k undef=u1 at h1
    cases h1 with
    |ref _ _ _ _ q1 q2 q3 =>
     refine .ref k 0 0 _ q1 (Nat.zero_le _) fun _ _=>?_
     rw[show(Jb E' G0 (Jk args args.length) (VK w)).β k=G.β d from hG0.1]
     exact q3 hgg (by simp[Jb,hob,Ob.kind])
   ·rw[if_neg ht]
    have e1:(as0++[AV.ref d gg 0]).getD t .any=as0.getD t .any:=by
     by_cases htl:t<as0.length
     ·simp[List.getElem?_append_left htl]
     ·simp only[List.getD_eq_getElem?_getD]
      rw[List.getElem?_eq_none (by simp;omega),List.getElem?_eq_none (by omega)]
    rw[e1] at h1
    exact hmono h1 (JW as0 t hp)
  ·rw[hobj]
   by_cases hj:j=k
   ·subst hj
    rw[if_pos rfl]
    obtain⟨_,vs,T,p1,p2,p3⟩:=hobk
    refine⟨by rw[show(Jb E' G0 _ (VK w)).κ k=G.κ d from hG0.2];exact hκd,vs,T,?_,p2,fun i=>hmono (p3 i) (JW cs i hcs)⟩
    rw[show(Jb E' G0 _ (VK w)).β k=G.β d from hG0.1]
    exact((Jav w).block _ hβlt fun f=>f).trans p1
   ·rw[if_neg hj];trivial
  ·rw[(hlive0 j).1 h1,(hlive0 j').1 h2]
  ·have:=(hlive0 j).1 h1
   subst this
   rw[hG0.1]
   refine⟨.inr rfl,?_,by rw[JcM];omega⟩
   rintro(h2|⟨e',hne,hle,hb⟩|hb)
   ·exact(hr.own d hlive).2.1 h2
   ·exact hne (hr.sep e' d hle hlive hb)
   ·omega
  ·rw[JcM]
   rcases hb with h1|⟨e,_,hl,rfl⟩|rfl
   ·exact Nat.lt_succ_of_lt (hr.inF b h1)
   ·exact Nat.lt_succ_of_lt (hr.own e hl).2.2
   ·exact Nat.lt_succ_self _
  ·simp only[E'] at hj
   split at hj
   ·rename_i hc;cases hj;rw[hc,hG0.1]
   ·cases hj
 have hC:=hd.calls hg (E:=E') rfl hrel' fun j=>by
  simp only[E']
  constructor
  ·rintro⟨cs0,h⟩
   by_cases hj:j=k
   ·exact⟨G.β d,by simp[hj]⟩
   ·obtain⟨y,hy⟩:=hargne j hj _ h;cases hy
  ·rintro⟨b,hb⟩
   split at hb
   ·rename_i hj;exact⟨cs,by rw[hj];exact hargk⟩
   ·cases hb
 have hcaught:=JhE g c1 w _ (hg _) hC (by
  rintro e1 w' ⟨he,io,ts',G',a',_,hr1,_⟩
  have hb:=hr1.bel.block w.heap.size (by show _<(VK w).heap.size;rw[JcM];omega) (by show ¬w.heap.size=G.β d;omega)
  have hb:w'.heap[w.heap.size]?=_:=hb.trans (Jh0 w)
  obtain⟨q1,q2⟩:=Jh1 hb
  refine⟨q1,q2,?_⟩
  split at he
  ·exact .inl he
  ·exact .inr ⟨_,he⟩)
 have hexec:(execOp a.eval o).run prog w=.ok (.enter 103 #[.func (.func g) #[] c1]) w:=by
  have h1:(execOp a.eval o).run prog w=(callFunc 103 #[.func (.func g) #[] c1]).run prog w:=by
   have hcf:a.eval (.func 103)=.func (.func 103) #[] #[]:=rfl
   simp[execOp,ho,resolve,Deferred.ofValue,invoke,hfv,hcf]
  rw[h1,call103]
 unfold Oper.wp
 rw[hexec]
 show Calls _ _ _ _ _
 refine Calls.mono hcaught ?_
 rintro e0 w'' ⟨e1,w1,⟨he,io,ts',G',a',hio,hrel,hpin⟩,hcase⟩
 have key:e0=.returned (.int .i64 e)∧w''=w1.setCell (Yi w) (.int .i64 e):=by
  rcases hcase with ⟨h1,h2,h3⟩|⟨y,h1,h2,h3⟩
  ·split at he
   ·rename_i hx;subst hx;exact⟨h2,h3⟩
   ·rw[h1] at he;cases he
  ·split at he
   ·rw[h1] at he;cases he
   ·rw[h1] at he
    have:y=e:=by
     simp only[Ending.panicked.injEq,ZA,List.cons.injEq,PanicEntry.mk.injEq,upV] at he
     simpa using he
    subst this;exact⟨h2,h3⟩
 obtain⟨rfl,rfl⟩:=key
 obtain⟨q1,q2,q3⟩:=hpin k (G.β d) (by simp[E'])
 have hio:io k=cs':=hio
 rw[hio] at q2 q3
 have hpβ:=hrel.pin k (G.β d) (by simp[E']) q1
 have hbel1:Bel (fun b=>b=G.β d) (VK w) w1:=hrel.bel
 have hblk:∀i,i<w.heap.size→i≠G.β d→(w1.setCell (Yi w) (.int .i64 e)).heap[i]?=w.heap[i]?:=fun i hi hne=>by
  rw[Je3 _ _ _ _ (by show i≠w.heap.size;omega),hbel1.block i (by rw[JcM];omega) hne]
  exact(Jav w).block i hi fun f=>f
 have hbut:But d ts G w (w1.setCell (Yi w) (.int .i64 e)):=by
  have h0:=Jav w
  exact⟨hbel1.os.trans h0.os,hbel1.tape.trans h0.tape,hbel1.output.trans h0.output,by rw[Jkd];exact Nat.le_trans h0.size hbel1.size,Nat.le_trans h0.drawn hbel1.drawn,fun i hi hne=>hblk i hi fun h=>hne hlive h⟩
 have hob0:=hrel.obj k
 rw[q2] at hob0
 have hliveH:Jj ts' G' k:=⟨by simp[q2,Ob.kind],hob0.1⟩
 have hkd:(Ob.box cs').kind=(ts.obj d).kind:=by rw[hob];rfl
 have hM2:∀b,(Jb E G (ts.setObj d (.box cs')) (w1.setCell (Yi w) (.int .i64 e))).M b→(Jb E' G' ts' w1).M b:=fun b hb=>by
  rcases hb with hF|⟨e,hl,hb⟩
  ·exact .inl (.inl hF)
  ·have hl':=(YR hkd e).1 hl
   by_cases he:e=d
   ·subst he;exact .inr ⟨k,hliveH,by rw[hpβ];exact hb⟩
   ·exact .inl (.inr (.inl ⟨e,he,hl',hb⟩))
 have hmono2:∀ {u y},Rep (Jb E' G' ts' w1) u y→y.pure=true→Rep (Jb E G (ts.setObj d (.box cs')) (w1.setCell (Yi w) (.int .i64 e))) u y:=fun h hp=>Rep.mono_pure (c:=Jb E' G' ts' w1) (fun b hb hlt=>⟨by
   have:b≠w.heap.size:=fun h=>hb (.inl (.inr (.inr h)))
   exact Je3 _ _ _ _ this,fun h=>hb (hM2 b h)⟩) h hp
 have hr2:=Rel.turned (d:=d) hr hbut (.box cs') hkd (by
  obtain⟨_,vs,T,h1,h2,h3⟩:=hob0
  refine⟨hκd,vs,T,?_,h2,fun i=>hmono2 (h3 i) (JW cs' i q3)⟩
  show(w1.setCell (Yi w) (.int .i64 e)).heap[G.β d]?=_
  rw[Je3 _ _ _ _ (by show G.β d≠w.heap.size;omega),←hpβ];exact h1)
 simp only[Jd] at hk
 cases hd:o.dst with
 |none=>rw[hd] at hk;exact hn _ G _ _ hk hr2
 |some d'=>rw[hd] at hk;exact hn _ G _ _ hk.2 (hr2.put hk.1 (.int _ _))
theorem Jqi{n b:Nat}(h:Jc n)(hb:b≤16384):Vt (n+1) b:=JaO (by unfold Jc at h;omega) hb
theorem JdZ(c:Bool)(xs:List Snap)(hl:Jc xs.length):CallR prog 137 [.slice c (Ja xs)] (.own 3 (Ja xs)):=by
 have hr:Vt xs.length 40:=JaO (by unfold Jc at hl;omega) (by decide)
 refine Jl call137 func137 rfl ntmps137 results137 fun ts hn h0=>?_
 (repeat' (first
 | (with_reducible first|assumption|(refine Qw hK _ ?_;clear hK K)|refine Qw ‹_› _ ?_|refine Qx ‹_› ?_|refine Qi fun K hK=>?_|refine Qj T fun K hK=>?_|refine Ql fun A B hA hB=>?_|refine Qn ?_|refine Qr ?_)
 |(with_reducible first|apply Qy|apply Qz|apply QA)<;>intro hb<;>try simp only[nr] at hb
 |simp only[go_sem,↓reduceIte,Qa,Qh,Qb,Qc,Qd,Qe,Qf,Qg,reduceCtorEq, *]
 |intro(bn:Bool) hbn))
def Jo(r:Res):Key:=⟨r.kind,r.name⟩
theorem JgX(xs:List Res)(hl:Jc xs.length):CallR prog 118 [.slice false (Ja xs)] (.own 2 (Ja (xs.map Jo))):=by
 refine Jl call118 func118 rfl ntmps118 results118 fun ts hn h0=>?_
 (repeat' (first
 | (with_reducible first|refine callX.by (Vf _ _ _ _ _ _ _) ?_|assumption|(refine Qw hK _ ?_;clear hK K)|refine Qw ‹_› _ ?_|refine Qx ‹_› ?_|refine Qi fun K hK=>?_|refine Qj T fun K hK=>?_|refine Ql fun A B hA hB=>?_|refine Qm ?_|refine Qn ?_|refine Qp ?_|refine Qr ?_)
 |(with_reducible first|apply Qy|apply Qz|apply QA)<;>intro hb<;>try simp only[nr] at hb
 |simp only[go_sem,↓reduceIte,Qa,Qh,Qb,Qc,Qd,Qe,Qf,Qg,reduceCtorEq, *]
 |intro(bn:Bool) hbn))
 refine SpecC.virt 3 16 2 (by decide) (by simp only[go_sem,↓reduceIte,Qa,Qh,Qb,Qc,Qd,Qe,Qf,Qg,reduceCtorEq, *]) ?_
 refine Qs [6,7] (fun m ts'=>∃(i:Nat),∃(g:Nat),m=xs.length-i∧i≤xs.length∧ts'.tmp 3=.os 16 g i∧ts'.gen 16=g∧ts'.obj 16=.arr 2 (Ja ((xs.take i).map Jo))∧ts'.tmp 8=.int .i64 i) xs.length ?_ ?_
 ·refine⟨0,ts.gen 16+1,?_⟩
  simp only[go_sem,↓reduceIte,Qa,Qh,Qb,Qc,Qd,Qe,Qf,Qg,reduceCtorEq, *,List.map_nil,Vp]
 ·rintro m A hM ts' hk ⟨i,g,hm,f1,s1,s2,s3,s4⟩
  simp only[go_sem,↓reduceIte,Qa,Qh,Qb,Qc,Qd,Qe,Qf,Qg,reduceCtorEq, *] at hk
  have hlen:(Ja ((xs.take i).map Jo)).length=i:=by simp[Ja,f1]
  have hr:Vt (i+1) 24:=JaO (by unfold Jc at hl;omega) (by decide)
  have htk:(Ja ((xs.take i).map Jo)).take i=Ja ((xs.take i).map Jo):=List.take_of_length_le (by omega)
  (repeat' (first
 | (with_reducible first|refine callX.by (Vf _ _ _ _ _ _ _) ?_|assumption|(refine Qw hK _ ?_;clear hK K)|refine Qw ‹_› _ ?_|refine Qx ‹_› ?_|refine Qi fun K hK=>?_|refine Qj T fun K hK=>?_|refine Ql fun A B hA hB=>?_|refine Qm ?_|refine Qn ?_|refine Qp ?_|refine Qr ?_)
 |(with_reducible first|apply Qy|apply Qz|apply QA)<;>intro hb<;>try simp only[nr] at hb
 |simp only[go_sem,↓reduceIte,Qa,Qh,Qb,Qc,Qd,Qe,Qf,Qg,reduceCtorEq, *]
 |intro(bn:Bool) hbn))
  all_goals ((repeat clear hK);(repeat clear hA);(repeat clear hB))
  ·have e:xs.take (i+1)=xs.take i++[xs[i]]:=by rw[List.take_add_one,List.getElem?_eq_getElem hb];rfl
   (refine hM.on (xs.length-(i+1)) (by omega) (by simp only[go_sem,↓reduceIte,Qa,Qh,Qb,Qc,Qd,Qe,Qf,Qg,reduceCtorEq, *,Jg hb hl,e,List.map_append,Jo]) ⟨i+1,ts'.gen 16+1,rfl,by omega,?_⟩;simp only[go_sem,↓reduceIte,Qa,Qh,Qb,Qc,Qd,Qe,Qf,Qg,reduceCtorEq, *,Jg hb hl,e,List.map_append,Jo];done)
  ·have hi2:i=xs.length:=by omega
   subst hi2
   simp[Ja]
def Vn(p:Pins):Pins×Int×Int :=
 let q:=Jq p
 match q.snaps.getLast? with
 |none=>(q,0,10)
 |some s=>if s.pins=10000 then (q,0,14) else (⟨q.next',q.snaps.set (q.snaps.length-1) ⟨s.id,IntKind.i64.wrap (s.pins+1),s.l⟩⟩,s.id,0)
theorem JpB(next:Int)(xs:List Snap)(hl:Jc xs.length):CallR prog 122 [.agg [.int .i64 next,.slice false (Ja xs)]] (.val (.tup [Dat.av (Vn ⟨next,xs⟩).1,.int .i64 (Vn ⟨next,xs⟩).2.1,.int .i64 (Vn ⟨next,xs⟩).2.2])):=by
 have hl2:Jc (Jq ⟨next,xs⟩).snaps.length:=Jco hl
 have hset:∀(n:Nat) (a b:Int) (l:List Res),(Ja (Jq ⟨next,xs⟩).snaps).set n (.agg [.int .i64 a,.int .i64 b,.slice false (Ja l)])=Ja ((Jq ⟨next,xs⟩).snaps.set n ⟨a,b,l⟩):=fun n a b l=>Y2 _ n (⟨a,b,l⟩:Snap)
 refine Jl call122 func122 rfl ntmps122 results122 fun ts hn h0=>?_
 (repeat' (first
 | (with_reducible first|refine callX.by (ZO _ _ ?_) ?_|refine callX.by (ZJ _ _ ?_) ?_|refine callX.by (JdZ _ _ ?_) ?_|assumption|(refine Qw hK _ ?_;clear hK K)|refine Qw ‹_› _ ?_|refine Qx ‹_› ?_|refine Qi fun K hK=>?_|refine Qj T fun K hK=>?_|refine Qk (id:=9) T mixed [([36],[37,38,39,40,41,42]),([37],[36,39,41,42,2]),([38],[36,39,42,2]),([39],[36,37,38,42,2]),([40],[36,2]),([41],[36,37,2]),([42],[36,37,38,39,2]),([2],[37,38,39,40,41,42])] (by kernel_rfl) fun K hK=>?_|refine Ql fun A B hA hB=>?_|refine Qm ?_|refine Qn ?_|refine Qr ?_)
 |(with_reducible first|apply Qy|apply Qz|apply QA)<;>intro hb<;>try simp only[nr] at hb
 |simp only[go_sem,↓reduceIte,Qa,Qh,Qb,Qc,Qd,Qe,Qf,Qg,reduceCtorEq, *]
 |intro(bn:Bool) hbn))
 ·have h0:(Jq ⟨next,xs⟩).snaps=[]:=by simpa using hb
  simp[Vn,h0]
 all_goals
  have h0:(Jq ⟨next,xs⟩).snaps.getLast?=some ((Jq ⟨next,xs⟩).snaps[(Jq ⟨next,xs⟩).snaps.length-1]'(by omega)):=by rw[List.getLast?_eq_getElem?,List.getElem?_eq_getElem]
  simp only[Vn,h0]
 ·rw[if_pos (of_decide_eq_true hb)];simp
 ·rw[if_neg (of_decide_eq_false hb)];simp
theorem Jow(n:Int):CallR prog 208 [.int .i64 n] (.val (.bool false)):=by
 refine Jl call208 func208 rfl ntmps208 results208 fun ts hn h0=>?_
 (repeat' (first
 | (with_reducible first|assumption|(refine Qw hK _ ?_;clear hK K)|refine Qw ‹_› _ ?_|refine Qx ‹_› ?_|refine Qi fun K hK=>?_|refine Qj T fun K hK=>?_|refine Ql fun A B hA hB=>?_|refine Qn ?_|refine Qr ?_)
 |(with_reducible first|apply Qy|apply Qz|apply QA)<;>intro hb<;>try simp only[nr] at hb
 |simp only[go_sem,↓reduceIte,Qa,Qh,Qb,Qc,Qd,Qe,Qf,Qg,reduceCtorEq, *]
 |intro(bn:Bool) hbn))
def Jay(a b:Int):Int:=if a<b then -1 else if b<a then 1 else 0
theorem JiD(a b:Int):CallR prog 164 [.int .i64 a,.int .i64 b] (.val (.int .i64 (Jay a b))):=by
 refine Jn call164 func164 rfl ntmps164 results164 fun ts hn h0 h1=>?_
 (repeat' (first
 | (with_reducible first|refine callX.by (Jow _) ?_|assumption|(refine Qw hK _ ?_;clear hK K)|refine Qw ‹_› _ ?_|refine Qx ‹_› ?_|refine Qi fun K hK=>?_|refine Qj T fun K hK=>?_|refine Ql fun A B hA hB=>?_|refine Qn ?_|refine Qr ?_)
 |(with_reducible first|apply Qy|apply Qz|apply QA)<;>intro hb<;>try simp only[nr] at hb
 |simp only[go_sem,↓reduceIte,Qa,Qh,Qb,Qc,Qd,Qe,Qf,Qg,reduceCtorEq, *]
 |intro(bn:Bool) hbn))
 all_goals simp[Jay, *]
def JaS(a b:List UInt8):Int:=Lib.compareBytes a b
set_option maxRecDepth 100000 in
theorem Jnx(a b:List UInt8):CallR prog 248 [.str a,.str b] (.val (.int .i64 (JaS a b))):=by
 refine CallP.extn rfl fun vals w c hs hv=>?_
 have h0:=hv 0
 have h1:=hv 1
 obtain⟨s,e0,hs0⟩:=Yo h0
 obtain⟨t,e1,hs1⟩:=Yo h1
 have hvals:vals=#[.string s,.string t]:=by
  apply Array.ext
  ·simpa using hs
  ·intro i h1 h2
   have hi:i<2:=by rw[hs] at h1;simpa using h1
   match i,hi with
   |0,_=>rw[Array.getD_eq_getD_getElem?,Array.getElem?_eq_getElem h1] at e0;simpa using e0
   |1,_=>rw[Array.getD_eq_getD_getElem?,Array.getElem?_eq_getElem h1] at e1;simpa using e1
 refine⟨_,?_,.int _ _⟩
 rw[hvals,run_callFunc_extern func248 (by kernel_rfl) (by kernel_rfl) (by kernel_rfl) (e:=Extern.BytealgCompare.compare) (by kernel_rfl),Lib.run_compareString]
 simp only[Result.andThen,JaS,hs0,hs1]
theorem Jnw(a b:List UInt8):CallR prog 237 [.str a,.str b] (.val (.int .i64 (JaS a b))):=by
 refine Jn call237 func237 rfl ntmps237 results237 fun ts hn h0 h1=>?_
 (repeat' (first
 | (with_reducible first|refine callX.by (Jnx _ _) ?_|assumption|(refine Qw hK _ ?_;clear hK K)|refine Qw ‹_› _ ?_|refine Qx ‹_› ?_|refine Qi fun K hK=>?_|refine Qj T fun K hK=>?_|refine Ql fun A B hA hB=>?_|refine Qn ?_|refine Qr ?_)
 |(with_reducible first|apply Qy|apply Qz|apply QA)<;>intro hb<;>try simp only[nr] at hb
 |simp only[go_sem,↓reduceIte,Qa,Qh,Qb,Qc,Qd,Qe,Qf,Qg,reduceCtorEq, *]
 |intro(bn:Bool) hbn))
theorem Jqv(a b:List UInt8):CallR prog 209 [.str a,.str b] (.val (.int .i64 (JaS a b))):=by
 refine Jn call209 func209 rfl ntmps209 results209 fun ts hn h0 h1=>?_
 (repeat' (first
 | (with_reducible first|refine callX.by (Jnw _ _) ?_|assumption|(refine Qw hK _ ?_;clear hK K)|refine Qw ‹_› _ ?_|refine Qx ‹_› ?_|refine Qi fun K hK=>?_|refine Qj T fun K hK=>?_|refine Ql fun A B hA hB=>?_|refine Qn ?_|refine Qr ?_)
 |(with_reducible first|apply Qy|apply Qz|apply QA)<;>intro hb<;>try simp only[nr] at hb
 |simp only[go_sem,↓reduceIte,Qa,Qh,Qb,Qc,Qd,Qe,Qf,Qg,reduceCtorEq, *]
 |intro(bn:Bool) hbn))
theorem Jo3(a b:List UInt8):CallR prog 165 [.str a,.str b] (.val (.int .i64 (JaS a b))):=by
 refine Jn call165 func165 rfl ntmps165 results165 fun ts hn h0 h1=>?_
 (repeat' (first
 | (with_reducible first|refine callX.by (Jqv _ _) ?_|assumption|(refine Qw hK _ ?_;clear hK K)|refine Qw ‹_› _ ?_|refine Qx ‹_› ?_|refine Qi fun K hK=>?_|refine Qj T fun K hK=>?_|refine Ql fun A B hA hB=>?_|refine Qn ?_|refine Qr ?_)
 |(with_reducible first|apply Qy|apply Qz|apply QA)<;>intro hb<;>try simp only[nr] at hb
 |simp only[go_sem,↓reduceIte,Qa,Qh,Qb,Qc,Qd,Qe,Qf,Qg,reduceCtorEq, *]
 |intro(bn:Bool) hbn))
def ior:List Int→Int
 | []=>0
 |x :: r=>if x=0 then ior r else x
theorem JiI(xs:List Int)(hl:Jc xs.length):CallR prog 163 [.slice false (Ja xs)] (.val (.int .i64 (ior xs))):=by
 refine Jl call163 func163 rfl ntmps163 results163 fun ts hn h0=>?_
 (repeat' (first
 | (with_reducible first|assumption|(refine Qw hK _ ?_;clear hK K)|refine Qw ‹_› _ ?_|refine Qx ‹_› ?_|refine Qi fun K hK=>?_|refine Qj T fun K hK=>?_|refine Ql fun A B hA hB=>?_|refine Qm ?_|refine Qn ?_|refine Qp ?_|refine Qr ?_)
 |(with_reducible first|apply Qy|apply Qz|apply QA)<;>intro hb<;>try simp only[nr] at hb
 |simp only[go_sem,↓reduceIte,Qa,Qh,Qb,Qc,Qd,Qe,Qf,Qg,reduceCtorEq, *]
 |intro(bn:Bool) hbn))
 refine Qs [3,6,7] (fun m ts'=>∃(i:Nat),m=xs.length-i∧i≤xs.length∧ior xs=ior (xs.drop i)∧ts'.tmp 8=.int .i64 i) xs.length ?_ ?_
 ·refine⟨0,?_⟩
  simp only[go_sem,↓reduceIte,Qa,Qh,Qb,Qc,Qd,Qe,Qf,Qg,reduceCtorEq, *]
 ·rintro m A hM ts' hk ⟨i,hm,f1,f2,s1⟩
  simp only[go_sem,↓reduceIte,Qa,Qh,Qb,Qc,Qd,Qe,Qf,Qg,reduceCtorEq, *] at hk
  by_cases hlt:i<xs.length
  ·rw[List.drop_eq_getElem_cons hlt,ior] at f2
   (repeat' (first
 | (with_reducible first|assumption|(refine Qw hK _ ?_;clear hK K)|refine Qw ‹_› _ ?_|refine Qx ‹_› ?_|refine Qi fun K hK=>?_|refine Qj T fun K hK=>?_|refine Ql fun A B hA hB=>?_|refine Qm ?_|refine Qn ?_|refine Qp ?_|refine Qr ?_)
 |(with_reducible first|apply Qy|apply Qz|apply QA)<;>intro hb<;>try simp only[nr] at hb
 |simp only[go_sem,↓reduceIte,Qa,Qh,Qb,Qc,Qd,Qe,Qf,Qg,reduceCtorEq, *]
 |intro(bn:Bool) hbn))
   all_goals ((repeat clear hK);(repeat clear hA);(repeat clear hB))
   ·simp[of_decide_eq_false hb]
   ·rw[if_pos (of_decide_eq_true hb)] at f2
    (refine hM.on (xs.length-(i+1)) (by omega) (by simp only[go_sem,↓reduceIte,Qa,Qh,Qb,Qc,Qd,Qe,Qf,Qg,reduceCtorEq, *,Jg hlt hl,-f2]) ⟨i+1,rfl,by omega,f2,?_⟩;simp only[go_sem,↓reduceIte,Qa,Qh,Qb,Qc,Qd,Qe,Qf,Qg,reduceCtorEq, *,Jg hlt hl,-f2];done)
  ·rw[List.drop_eq_nil_of_le (by omega),ior] at f2
   (repeat' (first
 | (with_reducible first|assumption|(refine Qw hK _ ?_;clear hK K)|refine Qw ‹_› _ ?_|refine Qx ‹_› ?_|refine Qi fun K hK=>?_|refine Qj T fun K hK=>?_|refine Ql fun A B hA hB=>?_|refine Qm ?_|refine Qn ?_|refine Qp ?_|refine Qr ?_)
 |(with_reducible first|apply Qy|apply Qz|apply QA)<;>intro hb<;>try simp only[nr] at hb
 |simp only[go_sem,↓reduceIte,Qa,Qh,Qb,Qc,Qd,Qe,Qf,Qg,reduceCtorEq, *]
 |intro(bn:Bool) hbn))
def JL(a b:Key):Int:=ior [Jay a.kind b.kind,JaS a.name b.name]
theorem Vv(k1 k2:Int)(n1 n2:List UInt8):CallR prog 120 [.agg [.int .i64 k1,.str n1],.agg [.int .i64 k2,.str n2]] (.val (.int .i64 (JL ⟨k1,n1⟩ ⟨k2,n2⟩))):=by
 have hor:=JiI [Jay k1 k2,JaS n1 n2] (by simp[Jc])
 simp only[Ja,List.map_cons,List.map_nil,JfA] at hor
 refine Jn call120 func120 rfl ntmps120 results120 fun ts hn h0 h1=>?_
 (repeat' (first
 | (with_reducible first|refine callX.by (hor) ?_|refine callX.by (JiD _ _) ?_|refine callX.by (Jo3 _ _) ?_|refine callX.by (JiI _ ?_) ?_|assumption|(refine Qw hK _ ?_;clear hK K)|refine Qw ‹_› _ ?_|refine Qx ‹_› ?_|refine Qi fun K hK=>?_|refine Qj T fun K hK=>?_|refine Qk (id:=1) T mixed [([5],[7,8,10,11,12,13]),([6],[7,8,10,11,12,13]),([7],[5,6,10,11,12,13]),([8],[5,6,10,11,12,13]),([9],[10,11,12,13]),([10],[5,6,7,8,9,12,13]),([11],[5,6,7,8,9,12,13]),([12],[5,6,7,8,9,10,11]),([13],[5,6,7,8,9,10,11])] (by kernel_rfl) fun K hK=>?_|refine Ql fun A B hA hB=>?_|refine Qn ?_|refine Qr ?_)
 |(with_reducible first|apply Qy|apply Qz|apply QA)<;>intro hb<;>try simp only[nr] at hb
 |simp only[go_sem,↓reduceIte,Qa,Qh,Qb,Qc,Qd,Qe,Qf,Qg,reduceCtorEq, *]
 |intro(bn:Bool) hbn))
 all_goals rfl
def ZQ(next:Int):List Snap→Int→Bool
 | [],_=>true
 |s :: r,last=>!(decide (s.id≤last) || decide (next<s.id) || decide (s.pins<0) || decide (10000<s.pins) || (decide (s.pins=0) && decide (r≠[]))) && ZQ next r s.id
def Jcq(p:Pins):Bool:=!(decide (p.next' < 0) || decide (2147483647<p.next') || decide (1000<p.snaps.length)) && ZQ p.next' p.snaps 0
end Go.Proofs.YthjalhfmpffbjaaGreatDoor.Lg
