/- Parts of the proof, one behind the other. -/
import Derived.Sort.Grow
import Derived.Deep.Draws
import Derived.Test.YthjalhfmpffbjaaGreatDoorG04
set_option linter.unusedVariables false
set_option linter.unusedSimpArgs false
set_option maxRecDepth 100000
set_option maxHeartbeats 64000000
namespace Go.Proofs.YthjalhfmpffbjaaGreatDoor.Lg
open Go
variable {P:Program}
theorem Ent.virtB{ts:TS}(t d i sz:Nat){cs:List AV}(hd:(ts.obj d).box?=some cs)(hne:d≠t)(hc:cs[i]?=some (.slice true []))(hsz:0<sz) :
  Ent ts ((ts.new t (.arr sz [])).setObj d (.box (cs.set i (.os t (ts.gen t+1) 0)))):=fun E G a w hr=>by
 have ho:=Ja1 hd
 have hr1:=hr.newVirt t sz hsz
 refine⟨G.set t w.heap.size none,?_⟩
 have hob:=hr1.obj d
 have ho1:(ts.new t (.arr sz [])).obj d=.box cs:=by simp[TS.new,Jp,hne,ho]
 rw[ho1] at hob
 obtain⟨hκ,vs,T,h1,h2,h3⟩:=hob
 have hlive:Jj (ts.new t (.arr sz [])) (G.set t w.heap.size none) d:=⟨by simp[ho1,Ob.kind],hκ⟩
 refine hr1.setObj d _ (by simp[ho1,Ob.kind]) hlive rfl rfl rfl rfl (fun _ _=>rfl) ?_
 refine⟨hκ,vs,T,h1,by simp[h2],fun j=>?_⟩
 have hle:(Jb E (G.set t w.heap.size none) (ts.new t (.arr sz [])) w).Le (Jb E (G.set t w.heap.size none) ((ts.new t (.arr sz [])).setObj d (.box (cs.set i (.os t (ts.gen t+1) 0)))) w) :=
  Zn E _ _ w _ d _ (by simp[ho1,Ob.kind]) hlive (fun _ _=>rfl)
 by_cases hj:j=i
 ·subst hj
  have hi:j<cs.length:=by
   rcases List.getElem?_eq_some_iff.1 hc with ⟨h,_⟩;exact h
  have e:(cs.set j (.os t (ts.gen t+1) 0)).getD j .any=.os t (ts.gen t+1) 0:=by simp[hi]
  rw[e]
  have hb:=hr.obj d
  rw[ho] at hb
  obtain⟨_,vs',T',h1',_,h3'⟩:=hb
  have hvs:vs'=vs:=by
   have hβ:(G.set t w.heap.size none).β d=G.β d:=by simp[Ghost.set,Jp,hne]
   have e1:w.heap[G.β d]?=some (.cells vs' T' (0,0)):=h1'
   have e2:w.heap[(G.set t w.heap.size none).β d]?=some (.cells vs T (0,0)):=h1
   rw[hβ,e1] at e2
   have e3:=Option.some.inj e2
   simp only[Obj.cells.injEq] at e3
   exact e3.1
  have hc0:=h3' j
  rw[hvs] at hc0
  have e3:cs.getD j .any=.slice true []:=by simp[List.getD_eq_getElem?_getD,hc]
  rw[e3] at hc0
  exact(Jf7 (d:=t) (sz:=sz) hc0).mono hle
 ·have e:(cs.set i (.os t (ts.gen t+1) 0)).getD j .any=cs.getD j .any:=by simp[List.getD_eq_getElem?_getD,List.getElem?_set,Ne.symm hj]
  rw[e]
  exact(h3 j).mono hle
def Vk(w:World):Ctx:={ w,M:=fun _=>False,gen:=fun _=>0,kind:=fun _=>none,β:=fun _=>0,κ:=fun _=>none }
def JbU(w:World):Env:={ w0:=w,X:=fun _=>False,F:=fun _=>False,pin:=fun _=>none }
theorem Bel.grown{w w':World}(h:Bel (fun _=>False) w w'):∃q os',w'=Go.Sort.grow (w.drewN q) os':=by
 refine⟨w'.drawn-w.drawn,w'.heap.extract w.heap.size w'.heap.size,?_⟩
 have hh:w'.heap=w.heap++w'.heap.extract w.heap.size w'.heap.size:=by
  apply Array.ext_getElem?
  intro i
  have hs:=h.size
  by_cases hi:i<w.heap.size
  ·rw[Array.getElem?_append_left hi];exact h.block i hi (fun h=>h)
  ·rw[Array.getElem?_append_right (by omega),Array.getElem?_extract]
   by_cases hj:i<w'.heap.size
   ·rw[if_pos (by omega)];congr 1;omega
   ·rw[if_neg (by omega),Array.getElem?_eq_none (by omega)]
 obtain⟨hp,tp,dr,os,out⟩:=w'
 have h1:=h.os;have h2:=h.tape;have h3:=h.output;have h4:=h.drawn
 simp only at hh h1 h2 h3 h4
 simp only[Go.Sort.grow,World.drewN]
 congr 1
 omega
def Jfn(W:World)(x:AV)(e:Ending)(w':World):Prop:=∃v,e=.returned v∧Rep (Vk w') v x∧Bel (fun _=>False) W w'
theorem CallR.top{f:FuncId}{args:List AV}{x:AV}(h:CallR P f args (.val x))(vals:Array Value)(W:World)(hsz:vals.size=args.length)(hr:∀i,Rep (Vk W) (vals.getD i undef) (args.getD i .any)) :
  match (callFunc f vals).run P W with
  | .ok (.enter f' args') w1=>Calls P f' args' w1 (Jfn W x)
  | .ok (.value v) w1=>Jfn W x (.returned v) w1
  |_=>False:=by
 let G0:Ghost:=⟨fun _=>0,fun _=>none⟩
 have hobj:∀d,(Jk (args.map Arg.v) (args.map Arg.v).length).obj d=.dead:=fun d=>by
  simp only[Jk,List.getElem?_map]
  cases args[d]?<;>rfl
 have hdead:∀d,¬Jj (Jk (args.map Arg.v) (args.map Arg.v).length) G0 d:=fun d hl=>hl.1 (by rw[hobj];rfl)
 have hctx:Jb (JbU W) G0 (Jk (args.map Arg.v) (args.map Arg.v).length) W=Vk W:=by
  unfold Jb Vk
  have e1:(fun b=>(JbU W).F b∨∃d,Jj (Jk (args.map Arg.v) (args.map Arg.v).length) G0 d∧G0.β d=b)=fun _=>False:=by
   funext b
   apply propext
   constructor
   ·rintro(h|⟨d,h,_⟩)
    ·exact h
    ·exact hdead d h
   ·exact False.elim
  have e2:(fun d=>((Jk (args.map Arg.v) (args.map Arg.v).length).obj d).kind)=fun _=>none:=by
   funext d
   rw[hobj];rfl
  rw[e1,e2]
  rfl
 have hrel:Rel (JbU W) (Jk (args.map Arg.v) (args.map Arg.v).length) G0 ⟨vals,[]⟩ W:=by
  refine⟨by simp[Jk,hsz],rfl,fun t=>?_,fun d=>by rw[hobj];trivial,fun d d' h1 _ _=>absurd h1 (hdead d),fun d h1=>absurd h1 (hdead d),fun b hb=>hb.elim,Bel.refl _ _,fun j b hj _=>by cases hj⟩
  rw[hctx]
  have e:(Jk (args.map Arg.v) (args.map Arg.v).length).tmp t=args.getD t .any:=by
   simp only[Jk,List.getElem?_map,List.getD_eq_getElem?_getD]
   cases args[t]?<;>rfl
  rw[e];exact hr t
 have hC:=h (JbU W) G0 vals W rfl hrel fun j=>by
  constructor
  ·rintro⟨cs,hcs⟩
   simp only[List.getElem?_map] at hcs
   cases hh:args[j]?<;>rw[hh] at hcs<;>simp at hcs
  ·rintro⟨b,hb⟩;cases hb
 have fin:∀e w',Post (JbU W) (fun r' _=>r'=.val x) e w'→Jfn W x e w':=by
  rintro e w' ⟨v,r',io,ts',G',rfl,rfl,hrel',_,hret⟩
  obtain⟨hxp,hx0⟩:=hret
  have hv:=hrel'.tmp 0
  rw[hx0] at hv
  exact⟨v,rfl,Rep.mono_pure (c:=Jb (JbU W) G' ts' w') (c':=Vk w') (fun b hm _=>⟨rfl,fun h=>h⟩) (by simpa using hv) hxp,hrel'.bel⟩
 split at hC
 ·rename_i heq;rw[heq];exact Calls.mono hC fun e w' hp=>fin e w' hp
 ·rename_i heq;rw[heq];exact fin _ _ hC
 ·exact hC.elim
end Go.Proofs.YthjalhfmpffbjaaGreatDoor.Lg
namespace Go.Proofs.YthjalhfmpffbjaaGreatDoor.Lg
open Go
variable {P:Program}
@[go_sem] theorem JGt(p:Prop):(True→p)=p:=by simp
def TS.frzWith(ts:TS)(d:Nat)(cs:List AV):TS:={ ts with tmp:=fun t=>J4 d (ts.gen d) cs (ts.tmp t),obj:=Jp ts.obj d .dead }
def JfN(ob:Ob)(ts:TS)(d:Nat):TS :=
 match ob with
 | .box cs=>ts.frzWith d cs
 |_=>ts
@[go_sem] theorem JwL(ts:TS)(d:Nat):ts.frzBox d=JfN (ts.obj d) ts d:=by
 unfold TS.frzBox JfN TS.frzWith
 cases ts.obj d<;>rfl
@[go_sem] theorem JwK(ts:TS)(d:Nat)(cs:List AV):JfN (.box cs) ts d=ts.frzWith d cs:=rfl
@[go_sem] theorem JwG(ts:TS):ts.frzAll []=ts:=rfl
@[go_sem] theorem JwH(ts:TS)(d g:Nat)(r:List AV):ts.frzAll (.ref d g 0 :: r)=(ts.frzBox d).frzAll r:=rfl
@[go_sem] theorem Jxa(ts:TS)(d:Nat)(cs:List AV):(ts.frzWith d cs).n=ts.n:=rfl
@[go_sem] theorem Jw9(ts:TS)(d e:Nat)(cs:List AV):(ts.frzWith d cs).gen e=ts.gen e:=rfl
@[go_sem] theorem Jxb(ts:TS)(d e:Nat)(cs:List AV):(ts.frzWith d cs).obj e=if e=d then .dead else ts.obj e:=rfl
@[go_sem] theorem Jxc(ts:TS)(d t:Nat)(cs:List AV):(ts.frzWith d cs).tmp t=J4 d (ts.gen d) cs (ts.tmp t):=rfl
@[go_sem] theorem Jw4(d g:Nat)(cs:List AV)(e q o:Nat):J4 d g cs (.ref e q o)=if e=d then (if q=g∧o<cs.length then .ro (cs.drop o) else .ref e q o) else .ref e q o:=by
 unfold J4
 by_cases h:e=d<;>simp[h]
@[go_sem] theorem JwQ(d g:Nat)(cs:List AV):J4 d g cs (.any)=.any:=rfl
@[go_sem] theorem JwW(d g:Nat)(cs:List AV)(a b:List AV):J4 d g cs (.mp a b)=.mp a b:=rfl
@[go_sem] theorem JwX(d g:Nat)(cs:List AV)(e q:Nat):J4 d g cs (.mref e q)=.mref e q:=rfl
@[go_sem] theorem JwR(d g:Nat)(cs:List AV)(b:Bool):J4 d g cs (.bool b)=.bool b:=rfl
@[go_sem] theorem JwV(d g:Nat)(cs:List AV)(k:IntKind)(n:Int):J4 d g cs (.int k n)=.int k n:=rfl
@[go_sem] theorem Jw7(d g:Nat)(cs:List AV)(s:List UInt8):J4 d g cs (.str s)=.str s:=rfl
@[go_sem] theorem JwP(d g:Nat)(cs:List AV)(l:List AV):J4 d g cs (.agg l)=.agg l:=rfl
@[go_sem] theorem Jw8(d g:Nat)(cs:List AV)(l:List AV):J4 d g cs (.tup l)=.tup l:=rfl
@[go_sem] theorem Jw6(d g:Nat)(cs:List AV)(c:Bool)(l:List AV):J4 d g cs (.slice c l)=.slice c l:=rfl
@[go_sem] theorem Jw5(d g:Nat)(cs:List AV)(l:List AV):J4 d g cs (.ro l)=.ro l:=rfl
@[go_sem] theorem Jw1(d g:Nat)(cs:List AV):J4 d g cs (.nilp)=.nilp:=rfl
@[go_sem] theorem JwS(d g:Nat)(cs:List AV)(f:Fn)(a b:List AV):J4 d g cs (.clo f a b)=.clo f a b:=rfl
@[go_sem] theorem JwZ(d g:Nat)(cs:List AV):J4 d g cs (.nilf)=.nilf:=rfl
@[go_sem] theorem Jw0(d g:Nat)(cs:List AV):J4 d g cs (.nilm)=.nilm:=rfl
@[go_sem] theorem JwY(d g:Nat)(cs:List AV):J4 d g cs (.niface)=.niface:=rfl
@[go_sem] theorem JwU(d g:Nat)(cs:List AV)(t:TypeId)(v:AV):J4 d g cs (.iface t v)=.iface t v:=rfl
@[go_sem] theorem Jw2(d g:Nat)(cs:List AV)(e q n:Nat):J4 d g cs (.os e q n)=.os e q n:=rfl
@[go_sem] theorem JwT(d g:Nat)(cs:List AV)(e q i o:Nat):J4 d g cs (.eref e q i o)=.eref e q i o:=rfl
@[go_sem] theorem Jw3(d g:Nat)(cs:List AV)(e q o n:Nat):J4 d g cs (.ot e q o n)=.ot e q o n:=rfl
def JcK(M:TS→Prop)(Q:Exit→TS→Prop):Exit→TS→Prop
 | .normal,ts=>M ts
 |e,ts=>Q e ts
@[go_sem] theorem Jvh(M:TS→Prop)(Q:Exit→TS→Prop)(ts:TS):JcK M Q .normal ts=M ts:=rfl
@[go_sem] theorem Jvi(M:TS→Prop)(Q:Exit→TS→Prop)(ts:TS):JcK M Q .ret ts=Q .ret ts:=rfl
@[go_sem] theorem Jvg(M:TS→Prop)(Q:Exit→TS→Prop)(ts:TS)(id:Nat):JcK M Q (.exit id) ts=Q (.exit id) ts:=rfl
def Jg7(keep:List Nat)(ts0:TS)(M:TS→Prop)(ts:TS):Prop:=∃ts',Ent ts ts'∧ZY keep ts' ts0∧M ts'
def JmD(P:Program)(keep:List Nat)(M:TS→Prop)(B:Code)(ts0:TS)(Q:Exit→TS→Prop):Prop:=∀ts,ZY keep ts ts0→M ts→SpecC P B ts Q
theorem SpecC.cut{A B:Code}{ts:TS}{Q:Exit→TS→Prop}(M:TS→Prop)(h1:SpecC P A ts (JcK M Q))(h2:∀ts',M ts'→SpecC P B ts' Q):SpecC P (.seq A B) ts Q:=by
 intro E G a w hr
 refine wp_seq (wp_mono (h1 E G a w hr) ?_)
 rintro e a' w' ⟨ts',G',hq,hr'⟩
 cases e with
 |normal=>exact h2 ts' hq E G' a' w' hr'
 |_=>exact⟨ts',G',hq,hr'⟩
theorem SpecC.cutAtS(n:Nat){A C D:Code}{ops:Array Oper}{b:Bool}{ts:TS}{Q:Exit→TS→Prop}(keep:List Nat)(M:TS→Prop)(h1:SpecC P A ts (JcK (Jg7 keep ts M) Q))
  (h2:JmD P keep M (.seq (.seq (.region n ops b) C) D) ts Q):SpecC P (.seq A (.seq (.seq (.region n ops b) C) D)) ts Q :=
 SpecC.cut (Jg7 keep ts M) h1 fun _ ⟨ts',he,hk,hm⟩=>SpecC.ent he (h2 ts' hk hm)
end Go.Proofs.YthjalhfmpffbjaaGreatDoor.Lg
namespace Go.Proofs.YthjalhfmpffbjaaGreatDoor.Lg
open Go
variable {P:Program}
theorem Ent.frzBox(ts:TS)(d:Nat):Ent ts (ts.frzBox d):=fun E G a w hr=>⟨G,hr.frzBox d⟩
@[go_sem] theorem JwI(ts:TS)(cs r:List AV):ts.frzAll (.ro cs :: r)=ts.frzAll r:=rfl
theorem Ent.frzM{ts:TS}(d j:Nat){q:List AV×List AV}{e g len:Nat}{p:Nat×List AV}(h1:(ts.obj d).mp?=some q)(h2:q.2.getD j .any=.os e g len)(h3:(ts.obj e).arr?=some p)(h4:(g=ts.gen e∧len=p.2.length)∧e≠d) :
  Ent ts ((ts.kill e).setObj d (.mp q.1 (q.2.set j (.slice false p.2)))):=fun E G a w hr=>by
 have ho:=Jcd h1
 have ha:=ZD h3
 obtain⟨⟨hg,rfl⟩,hne⟩:=h4
 have hk:=hr.kill e
 refine⟨G,?_⟩
 have hob:=hk.obj d
 have hod:(ts.kill e).obj d=.mp q.1 q.2:=by simp[TS.kill,TS.setObj,Jp,hne.symm,ho]
 rw[hod] at hob
 obtain⟨hκ,es,cl,b1,b2,b3,b4,b5,b6⟩:=hob
 have hlive:Jj (ts.kill e) G d:=⟨by simp[hod,Ob.kind],hκ⟩
 refine hk.setObj d _ (by simp[hod,Ob.kind]) hlive rfl rfl rfl rfl (fun _ _=>rfl) ?_
 have hle:(Jb E G (ts.kill e) w).Le (Jb E G ((ts.kill e).setObj d (.mp q.1 (q.2.set j (.slice false p.2)))) w):=Zn E G _ w w d _ (by simp[hod,Ob.kind]) hlive (fun _ _=>rfl)
 refine⟨hκ,es,cl,b1,b2,by simp[b3],fun i=>(b4 i).mono hle,fun i=>?_,b6⟩
 by_cases hi:j=i
 ·subst hi
  by_cases hl:j<q.2.length
  ·have e1:(q.2.set j (.slice false p.2)).getD j .any=.slice false p.2:=by simp[hl]
   rw[e1]
   have hob0:=hr.obj d
   rw[ho] at hob0
   obtain⟨_,es',cl',c1,_,_,_,c5,_⟩:=hob0
   have he:es'=es∧cl'=cl:=by
    have:=c1.symm.trans b1
    simp only[Option.some.injEq,Obj.map.injEq] at this
    exact this
   obtain⟨rfl,rfl⟩:=he
   have hv:=c5 j
   rw[h2] at hv
   have:=Rep.frozen hr hv hg ha (Nat.le_refl _)
   rw[List.take_length] at this
   exact this.mono hle
  ·rw[Jbe (by simp;omega)];exact .any _
 ·have e1:(q.2.set j (.slice false p.2)).getD i .any=q.2.getD i .any:=by simp[List.getElem?_set,hi]
  rw[e1];exact(b5 i).mono hle
def JfO(q:Option (List AV×List AV))(p:Option (Nat×List AV))(ts:TS)(d j e:Nat):TS :=
 match q,p with
 |some q,some p=>(ts.kill e).setObj d (.mp q.1 (q.2.set j (.slice false p.2)))
 |_,_=>ts
def TS.frzMp(ts:TS)(d j e:Nat):TS:=JfO (ts.obj d).mp? (ts.obj e).arr? ts d j e
def Jn2(q:Option (List AV×List AV))(p:Option (Nat×List AV))(ts:TS)(d j e:Nat):Prop :=
 match q,p with
 |some q,some p=>q.2.getD j .any=.os e (ts.gen e) p.2.length∧e≠d
 |_,_=>False
@[go_sem] theorem JwN(ts:TS)(d j e:Nat):ts.frzMp d j e=JfO (ts.obj d).mp? (ts.obj e).arr? ts d j e:=rfl
@[go_sem] theorem JwO(q:List AV×List AV)(p:Nat×List AV)(ts:TS)(d j e:Nat):JfO (some q) (some p) ts d j e=(ts.kill e).setObj d (.mp q.1 (q.2.set j (.slice false p.2))):=rfl
@[go_sem] theorem JwM(q:List AV×List AV)(p:Nat×List AV)(ts:TS)(d j e:Nat):Jn2 (some q) (some p) ts d j e=(q.2.getD j .any=.os e (ts.gen e) p.2.length∧e≠d):=rfl
def V0(f:FuncId)(x y z:AV):Nat→AV
 |0=>.any
 |n+1=>.ro [.clo (.func f) [] [x,y,z,V0 f x y z n]]
theorem Jgw(f:FuncId)(x y z:AV)(n:Nat):V0 f x y z (n+1)=.ro [.clo (.func f) [] [x,y,z,V0 f x y z n]]:=rfl
theorem JjP(f:FuncId)(x y z:AV)(d g H n:Nat)(hx:x.pure=true)(hz:z.pure=true):(V0 f x y z n).renM d g H=V0 f x (y.renM d g H) z n:=by
 induction n with
 |zero=>rfl
 |succ n ih=>simp only[V0,AV.renM,AV.renM.renML,ih,JeK d g H x hx,JeK d g H z hz]
theorem JjB(f:FuncId)(x y z:AV)(d g n:Nat)(hx:x.pure=true)(hy:y.pureH d g=true)(hz:z.pure=true):(V0 f x y z n).pureH d g=true:=by
 induction n with
 |zero=>rfl
 |succ n ih=>simp only[V0,AV.pureH,AV.pureH.pureHL,ih,JeD d g x hx,hy,JeD d g z hz,Bool.and_self]
def VZ(dx gx dy gy dz gz dv gv:Nat)(a b c v:AV)(x:AV):AV :=
 match x with
 | .ref d g off=>if d=dx∧g=gx∧off=0 then .ro [a] else if d=dy∧g=gy∧off=0 then .ro [b] else if d=dz∧g=gz∧off=0 then .ro [c] else if d=dv∧g=gv∧off=0 then v else .ref d g off
 |x=>x
def TS.recT(ts:TS)(dx dy dz dv:Nat)(x y z v:AV):TS :=
 {((((ts.kill dx).kill dy).kill dz).kill dv) with tmp:=fun t=>VZ dx (ts.gen dx) dy (ts.gen dy) dz (ts.gen dz) dv (ts.gen dv) x y z v (ts.tmp t) }
section
variable (ts:TS) (dx dy dz dv:Nat) (x y z v:AV)
@[go_sem] theorem JDI:(ts.recT dx dy dz dv x y z v).n=ts.n:=rfl
@[go_sem] theorem JDH(e:Nat):(ts.recT dx dy dz dv x y z v).gen e=ts.gen e:=rfl
@[go_sem] theorem JDK(t:Nat):(ts.recT dx dy dz dv x y z v).tmp t=VZ dx (ts.gen dx) dy (ts.gen dy) dz (ts.gen dz) dv (ts.gen dv) x y z v (ts.tmp t):=rfl
@[go_sem] theorem JDJ(e:Nat):(ts.recT dx dy dz dv x y z v).obj e=if e=dv then .dead else if e=dz then .dead else if e=dy then .dead else if e=dx then .dead else ts.obj e:=by
 simp only[TS.recT,TS.kill,TS.setObj,Jp]
variable (gx gy gz gv:Nat)
@[go_sem] theorem JDC(d g o:Nat):VZ dx gx dy gy dz gz dv gv x y z v (.ref d g o)=if d=dx∧g=gx∧o=0 then .ro [x] else if d=dy∧g=gy∧o=0 then .ro [y] else if d=dz∧g=gz∧o=0 then .ro [z] else if d=dv∧g=gv∧o=0 then v else .ref d g o:=rfl
@[go_sem] theorem JDu:VZ dx gx dy gy dz gz dv gv x y z v .any=.any:=rfl
@[go_sem] theorem JDv(b:Bool):VZ dx gx dy gy dz gz dv gv x y z v (.bool b)=.bool b:=rfl
@[go_sem] theorem JDx(k:IntKind)(n:Int):VZ dx gx dy gy dz gz dv gv x y z v (.int k n)=.int k n:=rfl
@[go_sem] theorem JDF(s:List UInt8):VZ dx gx dy gy dz gz dv gv x y z v (.str s)=.str s:=rfl
@[go_sem] theorem JDt(l:List AV):VZ dx gx dy gy dz gz dv gv x y z v (.agg l)=.agg l:=rfl
@[go_sem] theorem JDG(l:List AV):VZ dx gx dy gy dz gz dv gv x y z v (.tup l)=.tup l:=rfl
@[go_sem] theorem JDE(c:Bool)(l:List AV):VZ dx gx dy gy dz gz dv gv x y z v (.slice c l)=.slice c l:=rfl
@[go_sem] theorem JDD(l:List AV):VZ dx gx dy gy dz gz dv gv x y z v (.ro l)=.ro l:=rfl
@[go_sem] theorem JDw(f:Fn)(a b:List AV):VZ dx gx dy gy dz gz dv gv x y z v (.clo f a b)=.clo f a b:=rfl
@[go_sem] theorem JDA:VZ dx gx dy gy dz gz dv gv x y z v .nilm=.nilm:=rfl
@[go_sem] theorem JDy(a b:List AV):VZ dx gx dy gy dz gz dv gv x y z v (.mp a b)=.mp a b:=rfl
@[go_sem] theorem JDz(d g:Nat):VZ dx gx dy gy dz gz dv gv x y z v (.mref d g)=.mref d g:=rfl
@[go_sem] theorem JDB(d g n:Nat):VZ dx gx dy gy dz gz dv gv x y z v (.os d g n)=.os d g n:=rfl
end
theorem Rep.box1{E:Env}{ts:TS}{G:Ghost}{a:Act}{w:World}(h:Rel E ts G a w){c':Ctx}(hle:(Jb E G ts w).Le c'){d g:Nat}{x:AV}{v:Value}(hv:Rep (Jb E G ts w) v (.ref d g 0))(hg:g=ts.gen d)(ho:ts.obj d=.box [x])(hM:¬c'.M (G.β d))(hw:c'.w=w):Rep c' v (.ro [x]):=by
 have hv:=(Jdi hv).2.2 hg (by simp[Jb,ho,Ob.kind])
 have hob:=h.obj d
 rw[ho] at hob
 obtain⟨hκ,vs,T,hheap,hsize,hcell⟩:=hob
 rw[hv]
 refine .ro _ 0 _ (fun j=>vs.getD j undef) (by simp) hM (fun j hj=>?_) fun j=>(hcell j).mono hle
 rw[hw,Nat.zero_add]
 exact Z2 hheap (by simp at hsize hj;omega)
theorem Ent.frzRec{ts:TS}(f:FuncId)(n dx dy dz dv:Nat){x y z:AV}(hx:(ts.obj dx).box?=some [x])(hy:(ts.obj dy).box?=some [y])(hz:(ts.obj dz).box?=some [z])
  (hv:(ts.obj dv).box?=some [.clo (.func f) [] [.ref dx (ts.gen dx) 0,.ref dy (ts.gen dy) 0,.ref dz (ts.gen dz) 0,.ref dv (ts.gen dv) 0]]) :
  Ent ts (ts.recT dx dy dz dv x y z (V0 f (.ro [x]) (.ro [y]) (.ro [z]) n)):=fun E G a w hr=>by
 have hx:=Ja1 hx
 have hy:=Ja1 hy
 have hz:=Ja1 hz
 have hv:=Ja1 hv
 refine⟨G,?_⟩
 have hk:=(((hr.kill dx).kill dy).kill dz).kill dv
 have hle:(Jb E G ts w).Le (Jb E G ((((ts.kill dx).kill dy).kill dz).kill dv) w):=by
  have h1:=JaC E G ts w dx
  have h2:=JaC E G (ts.kill dx) w dy
  have h3:=JaC E G ((ts.kill dx).kill dy) w dz
  have h4:=JaC E G (((ts.kill dx).kill dy).kill dz) w dv
  refine⟨fun b hM hlt=>?_,fun d=>Nat.le_refl _,fun d k hg hk=>?_⟩
  ·exact⟨rfl,(h4.blk b (h3.blk b (h2.blk b (h1.blk b hM hlt).2 hlt).2 hlt).2 hlt).2⟩
  ·obtain⟨p1,p2,p3⟩:=h4.kind d k hg hk
   obtain⟨q1,q2,q3⟩:=h3.kind d k hg p1
   obtain⟨r1,r2,r3⟩:=h2.kind d k hg q1
   obtain⟨s1,s2,s3⟩:=h1.kind d k hg r1
   exact⟨s1,rfl,rfl⟩
 have hdead:∀d,d=dx∨d=dy∨d=dz∨d=dv→ts.obj d≠.dead→¬(Jb E G ((((ts.kill dx).kill dy).kill dz).kill dv) w).M (G.β d):=fun d hd hob hM=>by
  have hlive:Jj ts G d:=by
   have:=hr.obj d
   rcases hd with rfl|rfl|rfl|rfl
   ·rw[hx] at this;exact⟨by simp[hx,Ob.kind],this.1⟩
   ·rw[hy] at this;exact⟨by simp[hy,Ob.kind],this.1⟩
   ·rw[hz] at this;exact⟨by simp[hz,Ob.kind],this.1⟩
   ·rw[hv] at this;exact⟨by simp[hv,Ob.kind],this.1⟩
  rcases hM with hF|⟨e,he,hb⟩
  ·exact(hr.own d hlive).2.1 hF
  ·obtain⟨n4,l4⟩:=VE he
   obtain⟨n3,l3⟩:=VE l4
   obtain⟨n2,l2⟩:=VE l3
   obtain⟨n1,l1⟩:=VE l2
   have:=hr.sep e d l1 hlive hb
   subst this
   rcases hd with rfl|rfl|rfl|rfl
   ·exact n1 rfl
   ·exact n2 rfl
   ·exact n3 rfl
   ·exact n4 rfl
 have kx:∀ {v},Rep (Jb E G ts w) v (.ref dx (ts.gen dx) 0)→Rep (Jb E G ((((ts.kill dx).kill dy).kill dz).kill dv) w) v (.ro [x]):=fun h=>Rep.box1 hr hle h rfl hx (hdead dx (.inl rfl) (by simp[hx])) rfl
 have ky:∀ {v},Rep (Jb E G ts w) v (.ref dy (ts.gen dy) 0)→Rep (Jb E G ((((ts.kill dx).kill dy).kill dz).kill dv) w) v (.ro [y]):=fun h=>Rep.box1 hr hle h rfl hy (hdead dy (.inr (.inl rfl)) (by simp[hy])) rfl
 have kz:∀ {v},Rep (Jb E G ts w) v (.ref dz (ts.gen dz) 0)→Rep (Jb E G ((((ts.kill dx).kill dy).kill dz).kill dv) w) v (.ro [z]):=fun h=>Rep.box1 hr hle h rfl hz (hdead dz (.inr (.inr (.inl rfl))) (by simp[hz])) rfl
 have kv:∀(n:Nat) {v},Rep (Jb E G ts w) v (.ref dv (ts.gen dv) 0)→Rep (Jb E G ((((ts.kill dx).kill dy).kill dz).kill dv) w) v (V0 f (.ro [x]) (.ro [y]) (.ro [z]) n):=by
  intro n
  induction n with
  |zero=>exact fun _=>.any _
  |succ n ih =>
   intro v h
   have hv':=(Jdi h).2.2 rfl (by simp[Jb,hv,Ob.kind])
   have hob:=hr.obj dv
   rw[hv] at hob
   obtain⟨hκ,vs,T,hheap,hsize,hcell⟩:=hob
   rw[hv',Jgw]
   have h0:=hcell 0
   simp only[List.getD_cons_zero] at h0
   refine .ro _ 0 _ (fun j=>if j=0 then vs.getD 0 undef else undef) (by simp) (hdead dv (.inr (.inr (.inr rfl))) (by simp[hv])) (fun j hj=>?_) fun j=>?_
   ·have:j=0:=by simpa using hj
    subst this
    rw[Nat.add_zero]
    exact Z2 hheap (by simp at hsize;omega)
   ·split
    ·rename_i hj
     subst hj
     simp only[List.getD_cons_zero]
     generalize vs.getD 0 undef=u at h0
     cases h0 with
     |clo _ f1 c1 _ _ p0 p1 p2 p3 =>
      refine .clo _ _ _ _ _ p0 (by simpa using p1) (fun i=>by simp;exact .any _) fun i=>?_
      match i with
      |0=>exact kx (by simpa using p3 0)
      |1=>exact ky (by simpa using p3 1)
      |2=>exact kz (by simpa using p3 2)
      |3=>exact ih (by simpa using p3 3)
      |i+4=>simp;exact .any _
    ·rename_i hj
     have:([.clo (.func f) [] [.ro [x],.ro [y],.ro [z],V0 f (.ro [x]) (.ro [y]) (.ro [z]) n]]:List AV).getD j .any=.any:=by
      obtain⟨i,rfl⟩:∃i,j=i+1:=⟨j-1,by omega⟩
      simp
     rw[this];exact .any _
 refine⟨hk.size,hk.defers,fun t=>?_,hk.obj,hk.sep,hk.own,hk.inF,hk.bel,hk.pin⟩
 show Rep (Jb E G ((((ts.kill dx).kill dy).kill dz).kill dv) w) (a.tmps.getD t undef) (VZ _ _ _ _ _ _ _ _ x y z _ (ts.tmp t))
 have h1:=hr.tmp t
 have h2:=hk.tmp t
 have h2:Rep (Jb E G ((((ts.kill dx).kill dy).kill dz).kill dv) w) (a.tmps.getD t undef) (ts.tmp t):=h2
 generalize ts.tmp t=u at h1 h2
 unfold VZ
 split
 ·rename_i d g off
  split
  ·rename_i hc;obtain⟨rfl,rfl,rfl⟩:=hc;exact kx h1
  ·split
   ·rename_i hc;obtain⟨rfl,rfl,rfl⟩:=hc;exact ky h1
   ·split
    ·rename_i hc;obtain⟨rfl,rfl,rfl⟩:=hc;exact kz h1
    ·split
     ·rename_i hc;obtain⟨rfl,rfl,rfl⟩:=hc;exact kv n h1
     ·exact h2
 ·exact h2
theorem SpecC.mkRec(T:Tys P)(id:Nat){d:Nat}{fn:Fn}{caps:List Operand}{ty:TypeId}{pos:String}{after:Array Edge}{l:List Oper}{ts:TS}{Q:Exit→TS→Prop}
  (h:∀K,NxK (fun ts'=>Q .normal ts') K→d<ts.n∧wOps T (⟨some d,.makeFunc fn #[] (List.toArray caps),ty,pos,after,none⟩ :: l) l K (ts.put d (.clo fn [] (caps.map ts.ev)))) :
  SpecC P (.region id (List.toArray (⟨some d,.makeFunc fn #[] (List.toArray caps),ty,pos,after,none⟩ :: l)) false) ts Q:=by
 obtain⟨h1,h2⟩:=h _ ⟨fun _ h=>h⟩
 refine SpecC.region ?_
 show SpecOs P (List.toArray (⟨some d,.makeFunc fn #[] (List.toArray caps),ty,pos,after,none⟩ :: l)) _ (⟨some d,.makeFunc fn #[] (List.toArray caps),ty,pos,after,none⟩ :: l) ts
 unfold SpecOs SpecG
 refine SpecO.makeFunc (fn:=fn) (first:=#[]) (caps:=List.toArray caps) rfl ⟨h1,?_⟩
 have:=wOps.sound (P:=P) h2
 simpa using this
end Go.Proofs.YthjalhfmpffbjaaGreatDoor.Lg
namespace Go.Proofs.YthjalhfmpffbjaaGreatDoor.Lg
open Go
variable {P:Program}
def JfM(q p:Option (Nat×List AV))(ts:TS)(d j c e:Nat):TS :=
 match q,p with
 |some q,some p=>(ts.kill e).setObj d (.arr q.1 (q.2.set j (.agg ((q.2.getD j .any).cells.set c (.slice false p.2)))))
 |_,_=>ts
def TS.frzAr(ts:TS)(d j c e:Nat):TS:=JfM (ts.obj d).arr? (ts.obj e).arr? ts d j c e
def Jn1(q p:Option (Nat×List AV))(ts:TS)(d j c e:Nat):Prop :=
 match q,p with
 |some q,some p=>q.2.getD j .any=.agg (q.2.getD j .any).cells∧(q.2.getD j .any).cells.getD c .any=.os e (ts.gen e) p.2.length∧e≠d
 |_,_=>False
@[go_sem] theorem JwJ(ts:TS)(d j c e:Nat):ts.frzAr d j c e=JfM (ts.obj d).arr? (ts.obj e).arr? ts d j c e:=rfl
@[go_sem] theorem JwF(q p:Nat×List AV)(ts:TS)(d j c e:Nat):JfM (some q) (some p) ts d j c e=(ts.kill e).setObj d (.arr q.1 (q.2.set j (.agg ((q.2.getD j .any).cells.set c (.slice false p.2))))):=rfl
@[go_sem] theorem JwE(q p:Nat×List AV)(ts:TS)(d j c e:Nat):Jn1 (some q) (some p) ts d j c e=(q.2.getD j .any=.agg (q.2.getD j .any).cells∧(q.2.getD j .any).cells.getD c .any=.os e (ts.gen e) p.2.length∧e≠d):=rfl
end Go.Proofs.YthjalhfmpffbjaaGreatDoor.Lg
namespace Go.Proofs.YthjalhfmpffbjaaGreatDoor.Lg
open Go
variable {P:Program}
theorem Post.frz{E:Env}{sz:Nat}{xs:List AV}{e:Ending}{w':World}(h:Post E (fun r' _=>r'=.own sz xs) e w'):Post E (fun r' _=>r'=.val (.slice false xs)) e w':=by
 obtain⟨v,r,io,ts',G',h1,rfl,h3,h4,h5⟩:=h
 obtain⟨d,g,q1,q2,q3,q4⟩:=h5
 have h3':(ts'.obj d).arr?=some (sz,xs):=by rw[q3];rfl
 obtain⟨G2,hrel⟩:=Ent.frz 0 q1 q2.symm h3' (Nat.le_refl _) E G' _ _ h3
 refine⟨v,.val (.slice false xs),io,_,G2,h1,rfl,hrel,fun j b hj=>?_,?_⟩
 ·obtain⟨a1,a2,a3⟩:=h4 j b hj
  have hjd:j≠d:=by rintro rfl;rw[q3] at a2;cases a2
  refine⟨a1,?_,a3⟩
  rw[←a2]
  simp[TS.kill,TS.setObj,TS.put,Jp,hjd]
 ·refine⟨?_,?_⟩
  ·simp only[go_sem,q4]
  ·simp[TS.put,Jp,List.take_length]
theorem CallR.frz{f:FuncId}{args:List AV}{sz:Nat}{xs:List AV}(h:CallR P f args (.own sz xs)):CallR P f args (.val (.slice false xs)):=by
 intro E G vals w hw hrel hpin
 have:=h E G vals w hw hrel hpin
 split at this<;>rename_i heq
 ·exact Calls.mono this fun e w' hp=>hp.frz
 ·exact this.frz
 ·exact this
end Go.Proofs.YthjalhfmpffbjaaGreatDoor.Lg
namespace Go.Proofs.YthjalhfmpffbjaaGreatDoor.Lg
open Go
variable {P:Program}
def Jg8(E:Env)(ch:List PanicEntry)(U:(Nat→List AV)→Prop)(e:Ending)(w':World):Prop :=
 ∃io ts' G',e=.panicked ch∧U io∧Rel E ts' G' ⟨#[],[]⟩ w'∧∀j b,E.pin j=some b→ts'.gen j=0∧ts'.obj j=.box (io j)∧AV.pure.pureL (io j)=true
def CallUV(P:Program)(f:FuncId)(args:List Arg)(ch:List PanicEntry)(U:(Nat→List AV)→Prop):Prop :=
 ∀(E:Env) (G:Ghost) (vals:Array Value) (w:World),E.w0=w→Rel E (Jk args args.length) G ⟨vals,[]⟩ w→(∀j,(∃cs,args[j]?=some (.io cs))↔∃b,E.pin j=some b) →
  match (callFunc f vals).run P w with
  | .ok (.enter f' args') w1=>Calls P f' args' w1 (Jg8 E ch U)
  |_=>False
def JmF(args:List Arg)(ch:List PanicEntry)(U:(Nat→List AV)→Prop)(ex:Exit)(ts:TS):Prop :=
 ex=.panic ch∧∃io,U io∧∀j cs,args[j]?=some (.io cs)→ts.gen j=0∧ts.obj j=.box (io j)∧AV.pure.pureL (io j)=true
theorem CallUV.of_body{f:FuncId}{fn:Func}{c:Code}{args:List Arg}{ch:List PanicEntry}{U:(Nat→List AV)→Prop}(hcall:∀(vals:Array Value) (w:World),(callFunc f vals).run P w=.ok (.enter f vals) w)
  (hf:P.funcs[f]?=some fn) (hb:fn.body=some c) (hn:args.length≤fn.ntmps) (h:SpecC P c (Jk args fn.ntmps) (JmF args ch U)):CallUV P f args ch U:=by
 intro E G vals w hw hrel hpin
 rw[hcall]
 dsimp only
 refine calls_of_wp hf hb ?_
 refine wp_mono (h E G _ w (Jhp hn hrel)) ?_
 rintro e a' w' ⟨ts',G',⟨rfl,io,hU,hio⟩,hr'⟩
 show a'.defers=[]∧Jg8 E ch U (.panicked ch) w'
 refine⟨hr'.defers,io,{ ts' with n:=0,tmp:=fun _=>.any },G',rfl,hU,⟨rfl,rfl,fun t=>.any _,hr'.obj,hr'.sep,hr'.own,hr'.inF,hr'.bel,hr'.pin⟩,fun j b hj=>?_⟩
 obtain⟨cs,hcs⟩:=(hpin j).2 ⟨b,hj⟩
 exact hio j cs hcs
def UpK(P:Program)(o:Oper)(ts:TS)(K:List PanicEntry→TS→Prop):Prop :=
 ∀(E:Env) (G:Ghost) (a:Act) (w:World) (next:Act→World→Prop) (Q:Exit→Act→World→Prop),Rel E ts G a w →
  (∀ch ts' G' w',K ch ts'→Rel E ts' G' a w'→Q (.panic ch) a w')→o.wp P a w next Q
theorem UpK.call{o:Oper}{ts:TS}{K:List PanicEntry→TS→Prop}{fop:Operand}{xs:Array Operand}{at_:Array TypeId}(ho:o.op=.call { callee:=.value fop,args:=xs,argTypes:=at_ })
  {f:FuncId} {caps:List AV} (hf:ts.ev fop=.clo (.func f) [] caps) {args:List AV} {lent:List Nat} (hargs:ts.toArgs ((xs.toList.map ts.ev)++caps)=some (args,lent))
  {ch:List PanicEntry} {U:(Nat→List AV)→Prop} (hcall:CallUV P f (args.map Arg.v) ch U) (hk:K ch ts):UpK P o ts K:=by
 intro E G a w next Q hr hn
 have hvf:=hr.ev fop
 rw[hf] at hvf
 have hfv:∃c1:Array Value,a.eval fop=.func (.func f) #[] c1∧c1.size=caps.length∧∀i,Rep (Jb E G ts w) (c1.getD i undef) (caps.getD i .any):=by
  generalize a.eval fop=q at hvf
  cases hvf with
  |clo _ f1 c1 _ _ p0 p1 p2 p3 =>
   have:f1=#[]:=Array.eq_empty_of_size_eq_zero (by simpa using p0)
   subst this
   exact⟨c1,rfl,p1,p3⟩
 obtain⟨c1,hfe,hc1,hc1r⟩:=hfv
 let vals:Array Value:=xs.map a.eval++c1
 let E':=Y3 E ts G w lent
 let as1:List Arg:=args.map Arg.v
 have hM:∀b,(Jb E' G (Jk as1 as1.length) w).M b↔(E.F b∨∃d,d ∉ lent∧Jj ts G d∧G.β d=b):=fun b=>by
  simp only[Jb,E',Y3]
  constructor
  ·rintro(h1|⟨d,hl,_⟩)
   ·exact h1
   ·have hkind:=hl.1
    simp only[Jk,as1] at hkind
    split at hkind
    ·rename_i cs hcs;simp at hcs
    ·rename_i sz xs hcs;simp at hcs
    ·simp[Ob.kind] at hkind
  ·exact fun h1=>.inl h1
 have hvlen:vals.toList.length=((xs.toList.map ts.ev)++caps).length:=by simp[vals,hc1]
 have hvrep:∀i,Rep (Jb E G ts w) (vals.toList.getD i undef) (((xs.toList.map ts.ev)++caps).getD i .any):=fun i=>by
  simp only[vals,Array.toList_append,Array.toList_map,List.getD_eq_getElem?_getD]
  by_cases hi:i<xs.size
  ·rw[List.getElem?_append_left (by simpa using hi),List.getElem?_append_left (by simpa using hi)]
   simp only[List.getElem?_map,Array.getElem?_toList]
   rw[Array.getElem?_eq_getElem hi]
   exact hr.ev _
  ·rw[List.getElem?_append_right (by simp;omega),List.getElem?_append_right (by simp;omega)]
   have:=hc1r (i-xs.size)
   simpa using this
 obtain⟨hlen,hargr,hpure⟩:=Jfa hr (c':=Jb E' G (Jk as1 as1.length) w) rfl lent hM vals.toList _ args lent hvlen hvrep hargs (fun d hd=>hd)
 have hrel':Rel E' (Jk as1 as1.length) G ⟨vals,[]⟩ w:=by
  refine⟨?_,rfl,fun t=>?_,fun d=>?_,fun d d' h1 _ _=>?_,fun d h1=>?_,fun b hb=>?_,Bel.refl _ _,fun j b hj=>by simp[E',Y3] at hj⟩
  ·simp only[Jk,as1,List.length_map]
   rw[hlen,←hvlen];simp
  ·have:=hargr t
   have e1:vals.getD t undef=vals.toList.getD t undef:=by simp
   have e2:(Jk as1 as1.length).tmp t=args.getD t .any:=by
    simp only[Jk,as1,List.getElem?_map,List.getD_eq_getElem?_getD]
    cases args[t]?<;>rfl
   rw[e1,e2];exact this
  ·have:(Jk as1 as1.length).obj d=.dead:=by
    simp only[Jk,as1,List.getElem?_map]
    cases args[d]?<;>rfl
   rw[this];trivial
  ·have:(Jk as1 as1.length).obj d=.dead:=by
    simp only[Jk,as1,List.getElem?_map]
    cases args[d]?<;>rfl
   simp[Jj,this,Ob.kind] at h1
  ·have:(Jk as1 as1.length).obj d=.dead:=by
    simp only[Jk,as1,List.getElem?_map]
    cases args[d]?<;>rfl
   simp[Jj,this,Ob.kind] at h1
  ·rcases hb with h1|⟨d,_,hl,rfl⟩
   ·exact hr.inF b h1
   ·exact(hr.own d hl).2.2
 have hpin:∀j,(∃cs,as1[j]?=some (.io cs))↔∃b,E'.pin j=some b:=fun j=>by
  constructor
  ·rintro⟨cs,hcs⟩;simp only[as1,List.getElem?_map] at hcs;cases hh:args[j]?<;>rw[hh] at hcs<;>simp at hcs
  ·rintro⟨b,hb⟩;simp[E',Y3] at hb
 have hC:=hcall E' G vals w rfl hrel' hpin
 have hexec:(execOp a.eval o).run P w=(callFunc f vals).run P w:=by
  simp[execOp,ho,resolve,hfe,Deferred.ofValue,invoke,vals]
 unfold Oper.wp
 rw[hexec]
 split at hC
 ·rename_i f' args' w1 heq
  rw[heq]
  show Calls P f' args' w1 _
  refine Calls.mono hC ?_
  rintro e w' ⟨io,ts',G',rfl,hU,hrel,_⟩
  show Q (.panic ch) a w'
  have hbel:=hrel.bel
  have hw:∀i,i<w.heap.size→w'.heap[i]?=w.heap[i]?:=fun i hi=>hbel.block i hi (fun f=>f)
  refine hn ch ts G w' hk ?_
  have hle:(Jb E G ts w).Le (Jb E G ts w') :=
   {blk:=fun b' hMa hc=>⟨hw _ hc,hMa⟩,gen:=fun _=>Nat.le_refl _,kind:=fun e k _ hk'=>⟨hk',rfl,rfl⟩ }
  refine⟨hr.size,hr.defers,fun t=>(hr.tmp t).mono hle,fun d=>ObOk.mono hle rfl rfl (fun h1 h2=>hw _ (hr.own d ⟨h1,h2⟩).2.2) (hr.obj d),hr.sep,fun d hd=>?_,fun b hb=>Nat.lt_of_lt_of_le (hr.inF b hb) hbel.size,hr.bel.trans ⟨hbel.os,hbel.tape,hbel.output,hbel.size,fun k hk' _=>hw k hk',hbel.drawn⟩,hr.pin⟩
  obtain⟨p,q,s⟩:=hr.own d hd
  exact⟨p,q,Nat.lt_of_lt_of_le s hbel.size⟩
 ·exact hC.elim
theorem UpK.panic{o:Oper}{ts:TS}{K:List PanicEntry→TS→Prop}{x:Operand}(ho:o.op=.panic x){t:TypeId}{y:AV}{u:Value}(hx:ts.ev x=.iface t y)(hu:∀c v,Rep c v y→v=u)
  (hk:K [{ v:=.iface t u,recovered:=false }] ts):UpK P o ts K:=by
 intro E G a w next Q hr hn
 have hv:=hr.ev x
 rw[hx] at hv
 have hq:a.eval x=.iface t u:=by
  generalize a.eval x=q at hv
  cases hv with
  |iface _ v _ h=>rw[hu _ _ h]
 have hexec:(execOp a.eval o).run P w=.halt (.panic (.iface t u)) w:=by
  simp[execOp,ho,Instr.panic,hq,goPanic]
 unfold Oper.wp
 rw[hexec,Oper.upon_panic]
 exact hn _ ts G w hk hr
theorem Jmy{ops:Array Oper}{K:TS→Prop}{rest:List Nat}:∀(l:List Oper) (i:Nat) (tl:List Oper),ops.toList.drop i=l++tl→∀ {ts:TS},SpecOs P ops K l ts→∀(E:Env) (G:Ghost) (a:Act) (w:World) (Q:Exit→Act→World→Prop),Rel E ts G a w →
  (∀ts' G' a' w',K ts'→Rel E ts' G' a' w'→wpOps P ops Q rest a' w')→wpOps P ops Q (List.range' i l.length++rest) a w
 | [],i,tl,_,ts,h=>fun E G a w Q hr hn=>by simpa using hn ts G a w h hr
 |o :: l,i,tl,hd,ts,h=>fun E G a w Q hr hn=>by
  have ho:ops[i]?=some o:=by
   have:ops.toList[i]?=some o:=by rw[←Nat.add_zero i,←List.getElem?_drop,hd];rfl
   simpa using this
  have hd':ops.toList.drop (i+1)=l++tl:=by rw[←List.drop_drop,hd];rfl
  simp only[List.length_cons,List.range'_succ,List.cons_append]
  rw[wpOps_cons]
  exact SpecG.sound h ho hr fun ts' G' a' w' hK hr'=>Jmy l (i+1) tl hd' hK E G' a' w' Q hr' hn
theorem SpecC.regU{id:Nat}(pre:List Oper)(o:Oper)(post:List Oper){l:List Oper}(hl:l=pre++o :: post){ts:TS}{Q:Exit→TS→Prop}(hg:o.guard=none)
  (h:SpecOs P (List.toArray l) (fun ts'=>UpK P o ts' (fun ch ts''=>Q (.panic ch) ts'')) pre ts):SpecC P (.region id (List.toArray l) false) ts Q:=by
 subst hl
 intro E G a w hr
 refine wp_region ?_
 have e:List.range (List.toArray (pre++o :: post)).size=List.range' 0 pre.length++(pre.length :: List.range' (pre.length+1) post.length):=by
  rw[List.range_eq_range',←List.range'_succ]
  simp only[List.size_toArray,List.length_append,List.length_cons]
  have:=List.range'_append (s:=0) (m:=pre.length) (n:=post.length+1) (step:=1)
  simpa using this.symm
 rw[e]
 refine Jmy pre 0 (o :: post) (by simp) h E G a w _ hr fun ts' G' a' w' hU hr'=>?_
 rw[wpOps_cons]
 unfold wpOp
 have ho:(List.toArray (pre++o :: post))[pre.length]?=some o:=by simp
 rw[ho]
 dsimp only
 rw[if_pos (by simp[Region.wanted,hg])]
 exact .inl (hU E G' a' w' _ _ hr' fun ch ts'' G'' w'' hK hr''=>⟨ts'',G'',hK,hr''⟩)
def CallU(P:Program)(f:FuncId)(args:List AV)(ch:List PanicEntry):Prop:=CallUV P f (args.map Arg.v) ch fun _=>True
def ZX(k:Nat)(cs:List AV)(ts:TS):Prop:=ts.gen k=0∧ts.obj k=.box cs∧AV.pure.pureL cs=true
def upQ(ch:List PanicEntry):Exit→TS→Prop
 | .panic ch',_=>ch'=ch
 |_,_=>False
def upB(ch:List PanicEntry)(k:Nat)(cs:List AV):Exit→TS→Prop
 | .panic ch',ts=>ch'=ch∧ZX k cs ts
 |_,_=>False
section
variable (ts:TS) (ch ch':List PanicEntry) (k:Nat) (cs:List AV)
@[go_sem] theorem JGh(next:TS→Prop)(Q:Exit→TS→Prop):Jah next Q (.panic ch) ts=Q (.panic ch) ts:=rfl
@[go_sem] theorem Jxw(id:Nat)(Q:Exit→TS→Prop):Jb5 id Q (.panic ch) ts=Q (.panic ch) ts:=rfl
@[go_sem] theorem JGy:upQ ch (.panic ch') ts=(ch'=ch):=rfl
@[go_sem] theorem JGx:upB ch k cs (.panic ch') ts=(ch'=ch∧ZX k cs ts):=rfl
@[go_sem] theorem JrE:ZX k cs ts=(ts.gen k=0∧ts.obj k=.box cs∧AV.pure.pureL cs=true):=rfl
end
theorem Jhq{as0:List AV}{cs:List AV}{j:Nat}{c:List AV}(h:(as0.map Arg.v++[.io cs])[j]?=some (.io c)):j=as0.length∧c=cs:=by
 by_cases hj:j<as0.length
 ·rw[List.getElem?_append_left (by simpa using hj),List.getElem?_map] at h
  cases hh:as0[j]?<;>rw[hh] at h<;>simp at h
 ·rw[List.getElem?_append_right (by simp;omega)] at h
  cases hd:j-(as0.map Arg.v).length with
  |zero =>
   rw[hd] at h
   simp at h
   exact⟨by simp at hd;omega,h.symm⟩
  |succ n=>rw[hd] at h;simp at h
theorem Jfy{args:List AV}{j:Nat}{c:List AV}:(args.map Arg.v)[j]?≠some (.io c):=by
 rw[List.getElem?_map]
 cases args[j]?<;>simp
theorem CallU.go{f:FuncId}{fn:Func}{c:Code}{args:List AV}{ch:List PanicEntry}(hcall:∀(vals:Array Value) (w:World),(callFunc f vals).run P w=.ok (.enter f vals) w)
  (hf:P.funcs[f]?=some fn) (hb:fn.body=some c) {n:Nat} (hnt:fn.ntmps=n) (hn:args.length≤n)
  (h:∀ts:TS,ts.n=n→Jak ts 0 (args.map Arg.v)→SpecC P c ts (upQ ch)):CallU P f args ch:=by
 subst hnt
 refine CallUV.of_body hcall hf hb (by simpa using hn) ?_
 refine(h (Jk (args.map Arg.v) fn.ntmps) rfl (Z1 _ _ _ 0 fun i=>by simp)).mono fun ex ts' hq=>?_
 cases ex<;>first|exact hq.elim|skip
 have hq:_=ch:=hq
 subst hq
 exact⟨rfl,fun _=>[],trivial,fun j c hj=>absurd hj Jfy⟩
section go
variable {f:FuncId} {fn:Func} {c:Code} {ch:List PanicEntry} (hcall:∀(vals:Array Value) (w:World),(callFunc f vals).run P w=.ok (.enter f vals) w)
  (hf:P.funcs[f]?=some fn) (hb:fn.body=some c) {n:Nat} (hnt:fn.ntmps=n)
include hcall hf hb hnt
theorem CallU.go1{a:AV}(hn:1≤n)(h:∀ts:TS,ts.n=n→ts.tmp 0=a→SpecC P c ts (upQ ch)):CallU P f [a] ch:=CallU.go hcall hf hb hnt hn fun ts h1 h2=>h ts h1 h2.1
theorem CallU.go2{a b:AV}(hn:2≤n)(h:∀ts:TS,ts.n=n→ts.tmp 0=a→ts.tmp 1=b→SpecC P c ts (upQ ch)):CallU P f [a,b] ch:=CallU.go hcall hf hb hnt hn fun ts h1 h2=>h ts h1 h2.1 h2.2.1
theorem CallUV.goB3{a b d:AV}{cs cs':List AV}(hn:4≤n)(h:∀ts:TS,ts.n=n→ts.tmp 0=a→ts.tmp 1=b→ts.tmp 2=d→ts.tmp 3=.ref 3 0 0→ts.gen 3=0→ts.obj 3=.box cs→SpecC P c ts (upB ch 3 cs')) :
  CallUV P f ([a,b,d].map Arg.v++[.io cs]) ch (fun io=>io [a,b,d].length=cs'):=by
 subst hnt
 refine CallUV.of_body hcall hf hb (by simpa using hn) ?_
 have ha:=Z1 fn.ntmps ([a,b,d].map Arg.v++[.io cs]) ([a,b,d].map Arg.v++[.io cs]) 0 fun i=>by simp
 refine(h (Jk ([a,b,d].map Arg.v++[.io cs]) fn.ntmps) rfl ha.1 ha.2.1 ha.2.2.1 ha.2.2.2.1.1 ha.2.2.2.1.2.1 ha.2.2.2.1.2.2).mono fun ex ts' hq=>?_
 cases ex<;>first|exact hq.elim|skip
 obtain⟨hq,h1,h2,h3⟩:=hq
 subst hq
 refine⟨rfl,fun _=>cs',rfl,fun j c hj=>?_⟩
 obtain⟨rfl,_⟩:=Jhq hj
 exact⟨h1,h2,h3⟩
theorem CallV.goB3(T:Tys P)(hrs:fn.results.toList=[]){a b d:AV}{cs cs':List AV}(hn:4≤n)(h:∀ts:TS,ts.n=n→ts.tmp 0=a→ts.tmp 1=b→ts.tmp 2=d→ts.tmp 3=.ref 3 0 0→ts.gen 3=0→ts.obj 3=.box cs→SpecC P c ts (Vl (ZX 3 cs'))) :
  CallV P f ([a,b,d].map Arg.v++[.io cs]) (fun r io=>r=.val (.tup [])∧io [a,b,d].length=cs'):=by
 subst hnt
 refine CallV.of_body (T:=T) hcall hf hb (by simpa using hn) ?_
 have ha:=Z1 fn.ntmps ([a,b,d].map Arg.v++[.io cs]) ([a,b,d].map Arg.v++[.io cs]) 0 fun i=>by simp
 refine(h (Jk ([a,b,d].map Arg.v++[.io cs]) fn.ntmps) rfl ha.1 ha.2.1 ha.2.2.1 ha.2.2.2.1.1 ha.2.2.2.1.2.1 ha.2.2.2.1.2.2).mono fun ex ts' hq=>?_
 have key:ZX 3 cs' ts'→JcC T fn ([a,b,d].map Arg.v++[.io cs]) (fun r io=>r=.val (.tup [])∧io [a,b,d].length=cs') .normal ts'∧JcC T fn ([a,b,d].map Arg.v++[.io cs]) (fun r io=>r=.val (.tup [])∧io [a,b,d].length=cs') .ret ts':=fun⟨h1,h2,h3⟩=>by
  have hres:ts'.result T fn.results.toList=some (.tup []):=by rw[hrs];rfl
  have hio:∀j c,([a,b,d].map Arg.v++[.io cs])[j]?=some (.io c)→ts'.gen j=0∧ts'.obj j=.box cs'∧AV.pure.pureL cs'=true:=fun j c hj=>by
   obtain⟨rfl,_⟩:=Jhq hj
   exact⟨h1,h2,h3⟩
  exact⟨⟨.inl rfl,.tup [],.tup [],fun _=>cs',hres,rfl,⟨rfl,rfl⟩,hio⟩,⟨.inr rfl,.tup [],.tup [],fun _=>cs',hres,rfl,⟨rfl,rfl⟩,hio⟩⟩
 cases ex<;>first|exact hq.elim|skip
 ·exact .inl (key hq).1
 ·exact .inl (key hq).2
theorem CallI.go1(T:Tys P)(hrs:fn.results.toList=[]){a:AV}{cs cs':List AV}(hn:2≤n)(h:∀ts:TS,ts.n=n→ts.tmp 0=.ref 0 0 0→ts.gen 0=0→ts.obj 0=.box cs→ts.tmp 1=a→SpecC P c ts (Vl (ZX 0 cs'))) :
  CallI P f cs [a] (.tup []) cs':=by
 subst hnt
 refine CallV.of_body (T:=T) hcall hf hb (by simpa using hn) ?_
 have ha:=Z1 fn.ntmps (.io cs :: [a].map Arg.v) (.io cs :: [a].map Arg.v) 0 fun i=>by simp
 refine(h (Jk (.io cs :: [a].map Arg.v) fn.ntmps) rfl ha.1.1 ha.1.2.1 ha.1.2.2 ha.2.1).mono fun ex ts' hq=>?_
 have hio:ZX 0 cs' ts'→∀j q,((.io cs :: [a].map Arg.v):List Arg)[j]?=some (.io q)→ts'.gen j=0∧ts'.obj j=.box cs'∧AV.pure.pureL cs'=true:=fun hb j q hj=>by
  cases j with
  |zero=>exact hb
  |succ j=>rw[List.getElem?_cons_succ] at hj;exact absurd hj Jfy
 have hres:ts'.result T fn.results.toList=some (.tup []):=by rw[hrs];rfl
 cases ex<;>first|exact hq.elim|skip
 ·exact .inl ⟨.inl rfl,.tup [],.tup [],fun _=>cs',hres,rfl,⟨rfl,rfl⟩,hio hq⟩
 ·exact .inl ⟨.inr rfl,.tup [],.tup [],fun _=>cs',hres,rfl,⟨rfl,rfl⟩,hio hq⟩
end go
theorem SpecC.regUW(T:Tys P)(n:Nat){id:Nat}{l:List Oper}{o:Oper}{ts:TS}{Q:Exit→TS→Prop}(ho:l[n]?=some o)(hg:o.guard=none)
  (h:∀K,NxK (fun ts'=>UpK P o ts' (fun ch ts''=>Q (.panic ch) ts'')) K→wOps T l (l.take n) K ts):SpecC P (.region id (List.toArray l) false) ts Q:=by
 have hlt:n<l.length:=(List.getElem?_eq_some_iff.1 ho).1
 have hl:l=l.take n++o :: l.drop (n+1):=by
  have e:l[n]=o:=(List.getElem?_eq_some_iff.1 ho).2
  rw[←e,←List.drop_eq_getElem_cons hlt,List.take_append_drop]
 exact SpecC.regU (l.take n) o (l.drop (n+1)) hl hg (wOps.sound (h _ ⟨fun _ h=>h⟩))
theorem SpecC.regMidW(T:Tys P)(n:Nat){id:Nat}{l:List Oper}{o:Oper}{ts:TS}{Q:Exit→TS→Prop}(ho:l[n]?=some o)(hg:o.guard=none)
  (h:∀K,NxK (fun ts'=>∀K2,NxK (fun ts''=>∀K3,NxK (fun ts3=>Q .normal ts3) K3→wOps T l (l.drop (n+1)) K3 ts'') K2→SpecO P o ts' K2) K→wOps T l (l.take n) K ts):SpecC P (.region id (List.toArray l) false) ts Q:=by
 have hlt:n<l.length:=(List.getElem?_eq_some_iff.1 ho).1
 have hl:l=l.take n++o :: l.drop (n+1):=by
  have e:l[n]=o:=(List.getElem?_eq_some_iff.1 ho).2
  rw[←e,←List.drop_eq_getElem_cons hlt,List.take_append_drop]
 have key:SpecOs P (List.toArray l) (Q .normal) (l.take n++o :: l.drop (n+1)) ts:=by
  have h0:SpecOs P (List.toArray l) (SpecOs P (List.toArray l) (Q .normal) (o :: l.drop (n+1))) (l.take n) ts:=by
   refine wOps.sound (h _ ⟨fun ts' hts=>?_⟩)
   show SpecG P (List.toArray l) o ts' (SpecOs P (List.toArray l) (Q .normal) (l.drop (n+1)))
   unfold SpecG
   rw[hg]
   exact hts _ ⟨fun ts'' h2=>wOps.sound (h2 _ ⟨fun _ h=>h⟩)⟩
  have app:∀(a b:List Oper) (ts:TS),SpecOs P (List.toArray l) (SpecOs P (List.toArray l) (Q .normal) b) a ts→SpecOs P (List.toArray l) (Q .normal) (a++b) ts:=by
   intro a b
   induction a with
   |nil=>exact fun ts h=>h
   |cons x a ih=>exact fun ts h=>h.mono fun ts' h'=>ih ts' h'
  exact app _ _ _ h0
 rw[←hl] at key
 exact SpecC.region_k (List.toList_toArray) key
theorem UpK.callF{dst:Option Nat}{f:FuncId}{xs:Array Operand}{at_:Array TypeId}{ty:TypeId}{pos:String}{after:Array Edge}{g:Option (Nat×Bool)}{ts:TS}{args:List AV}{ch:List PanicEntry}{K:List PanicEntry→TS→Prop}(h:CallU P f args ch)
  (hargs:(ts.toArgs (xs.toList.map ts.ev)).map (·.1)=some args) (hk:K ch ts):UpK P ⟨dst,.call ⟨.value (.func f),xs,at_⟩,ty,pos,after,g⟩ ts K:=by
 cases hh:ts.toArgs (xs.toList.map ts.ev) with
 |none=>rw[hh] at hargs;cases hargs
 |some q =>
  rw[hh] at hargs
  simp only[Option.map_some,Option.some.injEq] at hargs
  obtain⟨q1,q2⟩:=q
  simp only at hargs
  subst hargs
  exact UpK.call (caps:=[]) rfl rfl (by rw[List.append_nil];exact hh) h hk
theorem UpK.panicT{dst:Option Nat}{t:Nat}{ty:TypeId}{pos:String}{after:Array Edge}{g:Option (Nat×Bool)}{ts:TS}{K:List PanicEntry→TS→Prop}{u:TypeId}{n:Int}(hx:ts.tmp t=.iface u (.agg [.int .i64 n]))
  (hk:K [{ v:=.iface u (.agg #[.int .i64 n]),recovered:=false }] ts):UpK P ⟨dst,.panic (.tmp t),ty,pos,after,g⟩ ts K :=
 UpK.panic (y:=.agg [.int .i64 n]) (u:=.agg #[.int .i64 n]) rfl hx (fun c v hv=>by
  obtain⟨vs,rfl,h2,h3⟩:=Ym hv
  have hv0:=h3 0
  have hs:vs.size=1:=by simpa using h2
  have e:vs.getD 0 undef=.int .i64 n:=by simpa using Vh hv0
  congr 1
  apply Array.ext
  ·simp[hs]
  ·intro i h1 h2
   have hi:i=0:=by omega
   subst hi
   have:vs.getD 0 undef=vs[0]:=by simp[hs]
   rw[←this,e];rfl) hk
end Go.Proofs.YthjalhfmpffbjaaGreatDoor.Lg
