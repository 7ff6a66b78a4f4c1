/- Parts of the proof, one behind the other. -/
import Derived.Test.YtmjkjmoeicnbnaaGreatDoorG25
namespace Go.Proofs.YtmjkjmoeicnbnaaGreatDoor.Lg
set_option maxRecDepth 100000
set_option linter.unusedVariables false
set_option linter.unusedSimpArgs false
open Go
variable {P:Program}
@[go_sem] theorem Jtr(cs:List AV):(AV.ro cs).cells=[.ro cs]:=rfl
@[go_sem] theorem Jw5(cs:List AV):(AV.ro cs).known=true:=rfl
@[go_sem] theorem JzQ(cs:List AV):(AV.ro cs).one=true:=rfl
theorem Ent.frzBM{ts:TS}(d j e:Nat){cs ks vs:List AV}{g:Nat}(h1:(ts.obj d).box?=some cs)(h2:cs.getD j .any=.mref e g)(h3:(ts.obj e).mp?=some (ks,vs))(h4:g=ts.gen e∧e≠d)
  (h5:AV.pure.pureL ks=true∧AV.pure.pureL vs=true):Ent ts ((ts.kill e).setObj d (.box (cs.set j (.mp ks vs)))):=fun E G a w hr=>by
 have ho:=Jbl h1
 have hm:=Ja2 h3
 obtain⟨hg,hne⟩:=h4
 have hk:=hr.kill e
 refine⟨G,?_⟩
 have hob:=hk.obj d
 have hod:(ts.kill e).obj d=.box cs:=by simp[TS.kill,TS.setObj,Jl,hne.symm,ho]
 rw[hod] at hob
 obtain⟨hκ,us,T,b1,b2,b3⟩:=hob
 have hlive:Jf (ts.kill e) G d:=⟨by simp[hod,Ob.kind],hκ⟩
 refine hk.setObj d _ (by simp[hod,Ob.kind]) hlive rfl rfl rfl rfl (fun _ _=>rfl) ?_
 have hle:(Jb E G (ts.kill e) w).Le (Jb E G ((ts.kill e).setObj d (.box (cs.set j (.mp ks vs)))) w):=YY E G _ w w d _ (by simp[hod,Ob.kind]) hlive (fun _ _=>rfl)
 refine⟨hκ,us,T,b1,by simp[b2],fun i=>?_⟩
 by_cases hi:j=i
 ·subst hi
  by_cases hl:j<cs.length
  ·have e1:(cs.set j (.mp ks vs)).getD j .any=.mp ks vs:=by simp[hl]
   rw[e1]
   have hob0:=hr.obj d
   rw[ho] at hob0
   obtain⟨_,us',T',c1,_,c3⟩:=hob0
   have he:us'=us:=by
    have:=c1.symm.trans b1
    simp only[Option.some.injEq,Obj.cells.injEq] at this
    exact this.1
   subst he
   have hv:=c3 j
   rw[h2] at hv
   refine Rep.mono hle (Rep.plainM hr rfl (fun b hM hb=>((Z0 E G ts w e).blk b hM hb).2) hv hg hm h5 fun hL=>?_)
   rintro(hF|⟨x,hx,hb⟩)
   ·exact(hr.own e hL).2.1 hF
   ·have hx':=Vr hx
    exact hx'.1 (hr.sep x e hx'.2 hL hb)
  ·rw[Zx (by simp;omega)];exact .any _
 ·have e1:(cs.set j (.mp ks vs)).getD i .any=cs.getD i .any:=by simp[List.getElem?_set,hi]
  rw[e1];exact(b3 i).mono hle
def Jeu(q:Option (List AV))(p:Option (List AV×List AV))(ts:TS)(d j e:Nat):TS :=
 match q,p with
 |some q,some p=>(ts.kill e).setObj d (.box (q.set j (.mp p.1 p.2)))
 |_,_=>ts
def TS.frzBm(ts:TS)(d j e:Nat):TS:=Jeu (ts.obj d).box? (ts.obj e).mp? ts d j e
def Jgy(q:Option (List AV))(p:Option (List AV×List AV))(ts:TS)(d j e:Nat):Prop :=
 match q,p with
 |some q,some p=>q.getD j .any=.mref e (ts.gen e)∧e≠d∧AV.pure.pureL p.1=true∧AV.pure.pureL p.2=true
 |_,_=>False
@[go_sem] theorem JuE(ts:TS)(d j e:Nat):ts.frzBm d j e=Jeu (ts.obj d).box? (ts.obj e).mp? ts d j e:=rfl
@[go_sem] theorem JuD(q:List AV)(p:List AV×List AV)(ts:TS)(d j e:Nat):Jeu (some q) (some p) ts d j e=(ts.kill e).setObj d (.box (q.set j (.mp p.1 p.2))):=rfl
@[go_sem] theorem JuC(q:List AV)(p:List AV×List AV)(ts:TS)(d j e:Nat):Jgy (some q) (some p) ts d j e=(q.getD j .any=.mref e (ts.gen e)∧e≠d∧AV.pure.pureL p.1=true∧AV.pure.pureL p.2=true):=rfl
theorem Ent.frzBM2{ts:TS}(d j e:Nat)(h:Jgy (ts.obj d).box? (ts.obj e).mp? ts d j e):Ent ts (ts.frzBm d j e):=by
 unfold TS.frzBm
 cases hq:(ts.obj d).box? with
 |none=>rw[hq] at h;exact h.elim
 |some q=>cases hp:(ts.obj e).mp? with
  |none=>rw[hq,hp] at h;exact h.elim
  |some p =>
   rw[hq,hp] at h
   exact Ent.frzBM d j e hq h.1 (by rw[hp]) ⟨rfl,h.2.1⟩ h.2.2
end Go.Proofs.YtmjkjmoeicnbnaaGreatDoor.Lg
namespace Go.Proofs.YtmjkjmoeicnbnaaGreatDoor.Lg
set_option maxRecDepth 100000
set_option linter.unusedVariables false
set_option linter.unusedSimpArgs false
open Go
variable {P:Program}
def JdX(E:Env)(n:Int)(sz:Nat)(xs:List AV)(e:Ending)(w':World):Prop :=
 ∃ad v,e=.returned (.agg #[.int .i64 n,.slice ad 0 0,v])∧Post E (fun r _=>r=.own sz xs) (.returned v) w'
def CallS(P:Program)(f:FuncId)(args:List AV)(n:Int)(sz:Nat)(xs:List AV):Prop :=
 ∀(E:Env) (G:Ghost) (vals:Array Value) (w:World),E.w0=w→Rel E (Jh (args.map Arg.v) (args.map Arg.v).length) G ⟨vals,[]⟩ w→(∀j,(∃cs,(args.map Arg.v)[j]?=some (.io cs))↔∃b,E.pin j=some b) →
  match (callFunc f vals).run P w with
  | .ok (.enter f' args') w1=>Calls P f' args' w1 (JdX E n sz xs)
  | .ok (.value v) w1=>JdX E n sz xs (.returned v) w1
  |_=>False
def JdV(T:Tys P)(rs:List ResultVar)(n:Int)(sz:Nat)(zs:List AV)(ts:TS):Prop :=
 Jax ts rs=true∧Jj (ts.result T rs) fun x=>match x with
  | .agg [.int .i64 m,.slice true [],y]=>m=n∧Jay ts y sz zs
  |_=>False
@[go_sem] theorem JpD(T:Tys P)(rs:List ResultVar)(n:Int)(sz:Nat)(zs:List AV)(ts:TS):JdV T rs n sz zs ts=(Jax ts rs=true∧Jj (ts.result T rs) fun x=>match x with
  | .agg [.int .i64 m,.slice true [],y]=>m=n∧Jay ts y sz zs
  |_=>False):=rfl
theorem CallS.go{T:Tys P}{f:FuncId}{fn:Func}{c:Code}{args:List AV}{rs:List ResultVar}{n:Int}{sz:Nat}{zs:List AV}(hcall:∀(vals:Array Value) (w:World),(callFunc f vals).run P w=.ok (.enter f vals) w)
  (hf:P.funcs[f]?=some fn) (hb:fn.body=some c) {m:Nat} (hnt:fn.ntmps=m) (hrs:fn.results.toList=rs) (hn:args.length≤m)
  (h:∀ts:TS,ts.n=m→Jaf ts 0 (args.map Arg.v)→SpecC P c ts (V3 (JdV T rs n sz zs))):CallS P f args n sz zs:=by
 subst hnt
 intro E G vals w hw hrel hpin
 rw[hcall]
 dsimp only
 refine calls_of_wp hf hb ?_
 have hs:=h (Jh (args.map Arg.v) fn.ntmps) rfl (JaN _ (args.map Arg.v) (args.map Arg.v) 0 fun i=>by simp)
 refine wp_mono (hs E G _ w (JbX (by simpa using hn) hrel)) ?_
 rintro e a' w' ⟨ts',G',hq,hr'⟩
 have hnp:∀j,E.pin j=none:=fun j=>by
  cases hj:E.pin j with
  |none=>rfl
  |some b =>
   obtain⟨cs,hcs⟩:=(hpin j).2 ⟨b,hj⟩
   simp only[List.getElem?_map] at hcs
   cases hh:args[j]?<;>rw[hh] at hcs<;>simp at hcs
 have key:JdV T rs n sz zs ts'→a'.defers=[]∧∃v,(results fn a'.tmps).run P w'=.ok v w'∧JdX E n sz zs (.returned v) w':=fun hE=>by
  obtain⟨h1,hx⟩:=hE
  obtain⟨x,h2,h3⟩:=Jt hx
  split at h3
  ·rename_i q0 q1 y
   obtain⟨rfl,hy⟩:=h3
   obtain⟨v,hv,hrep⟩:=Jcz hr' (fn:=fn) (by rw[hrs];exact h2)
   obtain⟨us,rfl,u1,u2⟩:=Y7 hrep
   have hu:us=#[us.getD 0 undef,us.getD 1 undef,us.getD 2 undef]:=by
    obtain⟨l⟩:=us
    have hl:l.length=3:=by simpa using u1
    match l,hl with
    | [a,b,d],_=>rfl
   have u20:=u2 0
   have u21:=u2 1
   have u22:=u2 2
   have e0:us.getD 0 undef=.int .i64 q1:=by
    generalize us.getD 0 undef=z at u20
    have u20:Rep (Jb E G' ts' w') z (.int .i64 q1):=u20
    cases u20;rfl
   obtain⟨ad,e1⟩:∃ad,us.getD 1 undef=.slice ad 0 0:=by
    generalize us.getD 1 undef=z at u21
    have u21:Rep (Jb E G' ts' w') z (.slice true []):=u21
    cases u21 with
    |slice0 _ a cap h=>exact⟨a,by rw[h rfl]⟩
    |slice=>contradiction
   have u23:Rep (Jb E G' ts' w') (us.getD 2 undef) y:=u22
   clear u22
   refine⟨hr'.defers,_,hv,ad,us.getD 2 undef,by rw[hu,e0,e1];rfl,Post.fit hnp ?_⟩
   have hy':=hy
   unfold Jay at hy
   split at hy
   ·rename_i d g len
    obtain⟨h5,h6⟩:=hy
    obtain⟨⟨sz',xs⟩,ho,rfl,h7,h8,h9⟩:=Jt h6
    have ho:=YE ho
    have hl:(xs.take len).length=len:=by simp only at h7;simp;omega
    have h0:Rel E { ts' with n:=1,tmp:=fun t=>if t=0 then .os d g len else .any } G' ⟨#[us.getD 2 undef],[]⟩ w':=by
     refine⟨rfl,rfl,fun t=>?_,hr'.obj,hr'.sep,hr'.own,hr'.inF,hr'.bel,hr'.pin⟩
     show Rep (Jb E G' ts' w') _ (if t=0 then _ else .any)
     split
     ·rename_i e0;subst e0;exact u23
     ·exact .any _
    have ht:=h0.trunc (d:=d) ho len
    exact⟨us.getD 2 undef,.own sz' (xs.take len),fun _=>[],_,G',rfl,.inl (by show Ret.own sz' (AV.nrm.nrmL (xs.take len))=_;rw[h9]),ht,fun j b hj=>(by rw[hnp j] at hj;cases hj),d,g,(by rw[hl];simp[TS.setObj]),h5.symm,(by simp[TS.setObj]),h8⟩
   ·refine⟨us.getD 2 undef,.val (.slice true []),fun _=>[],{ (ts'.over E) with n:=1,tmp:=fun t=>if t=0 then .slice true [] else .any },G',rfl,.inr ⟨rfl,sz,hy.1,(by rw[hy.2])⟩,?_,fun j b hj=>(by rw[hnp j] at hj;cases hj),rfl,by simp⟩
    have hov:=hr'.over
    refine⟨rfl,rfl,fun t=>?_,hov.obj,hov.sep,hov.own,hov.inF,hov.bel,hov.pin⟩
    show Rep (Jb E G' (ts'.over E) w') _ (if t=0 then .slice true [] else .any)
    split
    ·rename_i e0;subst e0;exact u23.mono (Jde E G' ts' w')
    ·exact .any _
   ·exact hy.elim
  ·exact h3.elim
 cases e with
 |normal=>exact key hq
 |ret=>exact key hq
 |_=>exact hq.elim
theorem SpecO.callG{o:Oper}{ts:TS}{K:TS→Prop}{fop:Operand}{xs:Array Operand}{at_:Array TypeId}(ho:o.op=.call { callee:=.value fop,args:=xs,argTypes:=at_ })
  {f:FuncId} {fst:List AV} (hf:ts.ev fop=.clo (.func f) fst []) {args:List AV} (hargs:ts.toArgs (fst++xs.toList.map ts.ev)=some (args,[])) {PX:Env→Ending→World→Prop} (hret:∀E e w,PX E e w→∃v,e=.returned v)
  (hcall:∀(E:Env) (G:Ghost) (vals:Array Value) (w:World),E.w0=w→Rel E (Jh (args.map Arg.v) (args.map Arg.v).length) G ⟨vals,[]⟩ w→(∀j,(∃cs,(args.map Arg.v)[j]?=some (.io cs))↔∃b,E.pin j=some b) →
   match (callFunc f vals).run P w with
   | .ok (.enter f' args') w1=>Calls P f' args' w1 (PX E)
   | .ok (.value v) w1=>PX E (.returned v) w1
   |_=>False)
  (fin:∀(E:Env) (G:Ghost) (a:Act) (w:World),Rel E ts G a w→∀(v:Value) (w':World),PX (Vk E ts G w []) (.returned v) w'→∃ts2 G2,K ts2∧Rel E ts2 G2 (a.put o.dst v) w'):SpecO P o ts K:=by
 intro E G a w next Q hr hn
 have hvf:=hr.ev fop
 rw[hf] at hvf
 obtain⟨c0,hfe,hc0,hc0r⟩:∃c0:Array Value,a.eval fop=.func (.func f) c0 #[]∧c0.size=fst.length∧∀i,Rep (Jb E G ts w) (c0.getD i undef) (fst.getD i .any):=by
  generalize a.eval fop=q at hvf
  cases hvf with
  |clo _ f1 c1 _ _ p0 p1 p2 p3 =>
   have:c1=#[]:=Array.eq_empty_of_size_eq_zero (by simpa using p1)
   subst this;exact⟨f1,rfl,p0,p2⟩
 let vals:Array Value:=c0++xs.map a.eval
 let E':=Vk E ts G w []
 let ags:List Arg:=args.map Arg.v
 have hM:∀b,(Jb E' G (Jh ags ags.length) w).M b↔(E.F b∨∃d,d ∉ ([]:List Nat)∧Jf ts G d∧G.β d=b):=fun b=>by
  simp only[Jb,E',Vk]
  constructor
  ·rintro(h1|⟨d,hl,_⟩)
   ·exact h1
   ·have hkind:=hl.1
    simp only[Jh,ags] at hkind
    split at hkind
    ·rename_i cs hcs;simp at hcs
    ·rename_i sz xs hcs;simp at hcs
    ·simp[Ob.kind] at hkind
  ·exact fun h1=>.inl h1
 have hvlen:vals.toList.length=(fst++xs.toList.map ts.ev).length:=by simp[vals,hc0]
 have hvrep:∀i,Rep (Jb E G ts w) (vals.toList.getD i undef) ((fst++xs.toList.map ts.ev).getD i .any):=fun i=>by
  simp only[vals,Array.toList_append,Array.toList_map,List.getD_eq_getElem?_getD]
  by_cases hi:i<fst.length
  ·rw[List.getElem?_append_left (by simpa[hc0] using hi),List.getElem?_append_left hi]
   have:=hc0r i
   simpa using this
  ·rw[List.getElem?_append_right (by simp[hc0];omega),List.getElem?_append_right (by omega)]
   simp only[List.getElem?_map,Array.getElem?_toList,Array.length_toList,hc0]
   by_cases hj:i-fst.length<xs.size
   ·rw[Array.getElem?_eq_getElem hj];exact hr.ev _
   ·rw[Array.getElem?_eq_none (by omega)];exact .any _
 obtain⟨hlen,hargr,hpure⟩:=JcC hr (c':=Jb E' G (Jh ags ags.length) w) rfl [] hM vals.toList _ args [] hvlen hvrep hargs (fun d hd=>hd)
 have hdead:∀d,(Jh ags ags.length).obj d=.dead:=fun d=>by
  simp only[Jh,ags,List.getElem?_map]
  cases args[d]?<;>rfl
 have hrel':Rel E' (Jh ags ags.length) G ⟨vals,[]⟩ w:=by
  refine⟨?_,rfl,fun t=>?_,fun d=>(by rw[hdead d];trivial),fun d d' h1 _ _=>(by simp[Jf,hdead d,Ob.kind] at h1),fun d h1=>(by simp[Jf,hdead d,Ob.kind] at h1),fun b hb=>?_,Bel.refl _ _,fun j b hj=>(by simp[E',Vk] at hj)⟩
  ·simp only[Jh,ags,List.length_map]
   rw[hlen,←hvlen];simp
  ·have:=hargr t
   have e1:vals.getD t undef=vals.toList.getD t undef:=by simp
   have e2:(Jh ags ags.length).tmp t=args.getD t .any:=by
    simp only[Jh,ags,List.getElem?_map,List.getD_eq_getElem?_getD]
    cases args[t]?<;>rfl
   rw[e1,e2];exact this
  ·rcases hb with h1|⟨d,_,hl,rfl⟩
   ·exact hr.inF b h1
   ·exact(hr.own d hl).2.2
 have hpin:∀j,(∃cs,ags[j]?=some (.io cs))↔∃b,E'.pin j=some b:=fun j=>by
  constructor
  ·rintro⟨cs,hcs⟩;simp only[ags,List.getElem?_map] at hcs;cases hh:args[j]?<;>rw[hh] at hcs<;>simp at hcs
  ·rintro⟨b,hb⟩;simp[E',Vk] at hb
 have hC:=hcall E' G vals w rfl hrel' hpin
 have hexec:(execOp a.eval o).run P w=(callFunc f vals).run P w:=by
  simp[execOp,ho,resolve,hfe,Deferred.ofValue,invoke,vals]
 unfold Oper.wp
 rw[hexec]
 split at hC
 ·rename_i f' args' w1 heq
  rw[heq]
  show Calls P f' args' w1 _
  refine Calls.mono hC ?_
  intro e w' hp
  obtain⟨v,rfl⟩:=hret _ _ _ hp
  obtain⟨ts2,G2,q1,q2⟩:=fin E G a w hr v w' hp
  exact hn _ _ _ _ q1 q2
 ·rename_i v w1 heq
  rw[heq]
  obtain⟨ts2,G2,q1,q2⟩:=fin E G a w hr v w1 hC
  exact hn _ _ _ _ q1 q2
 ·exact hC.elim
theorem SpecO.callS{o:Oper}{ts:TS}{K:TS→Prop}{fop:Operand}{xs:Array Operand}{at_:Array TypeId}(ho:o.op=.call { callee:=.value fop,args:=xs,argTypes:=at_ })
  {f:FuncId} (hf:ts.ev fop=.clo (.func f) [] []) {args:List AV} (hargs:ts.toArgs ([]++xs.toList.map ts.ev)=some (args,[]))
  {n:Int} {sz:Nat} {ys:List AV} (hcall:CallS P f args n sz ys) {d:Nat} (hd:o.dst=some d) (hdn:d<ts.n) (hk:K ((ts.new d (.arr sz ys)).put d (.agg [.int .i64 n,.slice true [],.os d (ts.gen d+1) ys.length]))):SpecO P o ts K:=by
 refine SpecO.callG ho hf hargs (fun E e w ⟨ad,v,h,_⟩=>⟨_,h⟩) hcall ?_
 rintro E G a w hr u w' ⟨ad1,v,hu,v',r,io,ts',G',hv',rfl,hrel,_,hret⟩
 cases hu
 cases hv'
 have hbel:=hrel.bel
 have hw:∀i,i<w.heap.size→w'.heap[i]?=w.heap[i]?:=fun i hi=>hbel.block i hi (fun f=>f)
 have hbel':Bel (fun _=>False) w w':=⟨hbel.os,hbel.tape,hbel.output,hbel.size,hbel.block,hbel.drawn⟩
 have hv0:Rep (Jb (Vk E ts G w []) G' ts' w') v (ts'.tmp 0):=by have:=hrel.tmp 0;simpa using this
 obtain⟨d0,g0,ht0,hg0,ho0,hp0⟩:=hret
 rw[ht0] at hv0
 obtain⟨_,_,hos⟩:=VZ hv0
 have hos:=hos hg0.symm (by simp[Jb,ho0,Ob.kind])
 have hob:=hrel.obj d0
 rw[ho0] at hob
 obtain⟨h0,hsz,hrest⟩:=hob
 have agg:∀ {c:Ctx} {x:AV},Rep c v x→Rep c (.agg #[.int .i64 n,.slice ad1 0 0,v]) (.agg [.int .i64 n,.slice true [],x]):=fun hx =>
  .agg _ _ rfl fun i=>match i with
   |0=>.int _ _
   |1=>.slice0 _ _ _ (fun _=>rfl)
   |2=>hx
   |i+3=>.any _
 rw[hd]
 unfold JI at hos
 cases hκ:(Jb (Vk E ts G w []) G' ts' w').κ d0 with
 |none =>
  rw[hκ] at hos hrest
  subst hrest
  obtain⟨_,ad,rfl⟩:=hos
  refine⟨_,_,hk,hr.newObj (w':=w') hdn (.arr sz []) w.heap.size none (Nat.le_refl _) (fun h=>absurd rfl h) hbel' ?_ ?_⟩
  ·refine agg (.os d _ _ _ rfl (by simp[Jb,TS.new]) fun _ _=>?_)
   unfold JI
   simp[Jb,Ghost.set]
  ·refine⟨h0,by simp,?_⟩
   simp[Jb,Ghost.set]
 |some cap =>
  rw[hκ] at hos hrest
  obtain⟨hv,hcap⟩:=hos
  obtain⟨vs,T,hheap,hsize,hfit,hcell⟩:=hrest
  have hlive0:Jf ts' G' d0:=⟨by simp[ho0,Ob.kind],by rw[show G'.κ d0=some cap from hκ];simp⟩
  obtain⟨hown,hnF,hlt⟩:=hrel.own d0 hlive0
  have hge:w.heap.size≤G'.β d0:=hown.elim id (fun h=>h.elim)
  refine⟨_,_,hk,hr.newObj (w':=w') hdn (.arr sz ys) (G'.β d0) (some cap) hge (fun _=>hlt) hbel' ?_ ?_⟩
  ·refine agg (.os d _ _ _ ?_ (by simp[Jb,TS.new]) fun _ _=>?_)
   ·rw[hv];rfl
   ·unfold JI
    simp only[Jb,Ghost.set,Ve]
    exact⟨hv,hfit⟩
  ·refine⟨h0,hsz,?_⟩
   simp only[Jb,Ghost.set,Ve]
   refine⟨vs,T,hheap,hsize,hfit,fun i j hi hj=>?_⟩
   refine Rep.mono_pure (c:=Jb (Vk E ts G w []) G' ts' w') ?_ (hcell i j hi hj) (JZ _ _ (AV.pure_cells (JZ ys i hp0)))
   intro ad hMa hc
   refine⟨rfl,?_⟩
   rintro(hF|⟨e,hl,hb⟩)
   ·exact hMa (.inl (.inl hF))
   ·by_cases he:e=d
    ·subst he
     have:G'.β d0=ad:=by simpa[Ghost.set] using hb
     exact hMa (.inr ⟨d0,hlive0,this⟩)
    ·have hl':Jf ts G e:=by simpa[Jf,TS.new,Ghost.set,Jl,he] using hl
     have hb':G.β e=ad:=by simpa[Ghost.set,Jl,he] using hb
     exact hMa (.inl (.inr ⟨e,by simp,hl',hb'⟩))
theorem SpecO.callB{o:Oper}{ts:TS}{K:TS→Prop}{fop:Operand}{xs:Array Operand}{at_:Array TypeId}(ho:o.op=.call { callee:=.value fop,args:=xs,argTypes:=at_ })
  {f:FuncId} {fst:List AV} (hf:ts.ev fop=.clo (.func f) fst []) {args:List AV} (hargs:ts.toArgs (fst++xs.toList.map ts.ev)=some (args,[])) {x:AV} (hcall:CallR P f args (.val x)) {d:Nat} (hd:o.dst=some d) (hdn:d<ts.n) (hk:K (ts.put d x)):SpecO P o ts K:=by
 refine SpecO.callG ho hf hargs (fun E e w ⟨v,_,_,_,_,h,_⟩=>⟨v,h⟩) hcall ?_
 rintro E G a w hr v w' ⟨v',r,io,ts',G',hv',rfl,hrel,_,hxp,hx0⟩
 cases hv'
 have hbel:=hrel.bel
 have hw:∀i,i<w.heap.size→w'.heap[i]?=w.heap[i]?:=fun i hi=>hbel.block i hi (fun f=>f)
 have hv0:Rep (Jb (Vk E ts G w []) G' ts' w') v (ts'.tmp 0):=by have:=hrel.tmp 0;simpa using this
 rw[hx0] at hv0
 have hr2:Rel E ts G a w':=by
  have hle:(Jb E G ts w).Le (Jb E G ts w') :=
   {blk:=fun b' hMa hc=>⟨hw _ hc,hMa⟩,gen:=fun _=>Nat.le_refl _,kind:=fun e k _ hk'=>⟨hk',rfl,rfl⟩ }
  refine⟨hr.size,hr.defers,fun t=>(hr.tmp t).mono hle,fun d=>ObOk.mono hle rfl rfl (fun h1 h2=>hw _ (hr.own d ⟨h1,h2⟩).2.2) (hr.obj d),hr.sep,fun d hd=>?_,fun b hb=>Nat.lt_of_lt_of_le (hr.inF b hb) hbel.size,hr.bel.trans ⟨hbel.os,hbel.tape,hbel.output,hbel.size,fun k hk' _=>hw k hk',hbel.drawn⟩,hr.pin⟩
  obtain⟨p,q,s⟩:=hr.own d hd
  exact⟨p,q,Nat.lt_of_lt_of_le s hbel.size⟩
 rw[hd]
 refine⟨_,G,hk,hr2.put hdn (Rep.mono_pure (c:=Jb (Vk E ts G w []) G' ts' w') ?_ hv0 hxp)⟩
 intro ad hMa hc
 refine⟨rfl,?_⟩
 rintro(hF|⟨d,hl,hb⟩)
 ·exact hMa (.inl (.inl hF))
 ·exact hMa (.inl (.inr ⟨d,by simp,hl,hb⟩))
end Go.Proofs.YtmjkjmoeicnbnaaGreatDoor.Lg
