/- Parts of the proof, one behind the other. -/
import Derived.Test.YtmjkjmoeicnbnaaGreatDoorG24
namespace Go.Proofs.YtmjkjmoeicnbnaaGreatDoor.Lg
set_option maxRecDepth 100000
set_option linter.unusedVariables false
set_option linter.unusedSimpArgs false
open Go
open Nat renaming reduceEqDiff → Qa, reduceLT → Qb, reduceLeDiff → Qc, reduceAdd → Qd, reduceMul → Qe, reduceSub → Qf, reduceBEq → Qg
open String renaming reduceEq → Qh
open SpecC renaming seqW → Qi, regW → Qj, drawW → Qk, condW → Ql, skip → Qn, ret → Qr
open NxK renaming out → Qw
open condK renaming split → Qy
open gK renaming split_t → Qz, split_f → QA
structure BInv(E1:Env)(l:Nat)(c0:AV)(i:Int)(a:Go.Act)(w:World):Prop where
 ex:∃ts G,Rel E1 ts G a w∧ts.n=19∧ts.tmp 1=c0∧ts.tmp 3=.int .i64 i∧ts.tmp 0=.clo (.yield l) [] []∧∀d,ts.obj d=.dead
theorem evB{E:Env}{ts:TS}{G:Ghost}{a:Go.Act}{w:World}(hr:Rel E ts G a w){t:Nat}{b:Bool}(h:ts.tmp t=.bool b):a.eval (.tmp t)=.bool b:=by
 have:=hr.ev (.tmp t)
 rw[show ts.ev (.tmp t)=.bool b from h] at this
 generalize a.eval (.tmp t)=v at *
 cases this
 rfl
theorem Jpy{P:Program}{ops:Array Oper}{F:Fence}{n i:Nat}{o:Oper}{K:Go.Act→World→Prop}{Q:Exit→Go.Act→World→Prop}{a:Go.Act}{w:World}(ho:ops[i]?=some o)(hg:o.guard=none)(h:o.wpIn F n P a w K Q):wpOpIn F n P ops Q i K a w:=by
 unfold wpOpIn
 rw[ho]
 dsimp only
 rw[if_pos (by simp[Region.wanted,hg])]
 exact h
theorem Jjc(xs:List Res)(hl:Jc xs.length):JfB Tryz.prog 201 (.ro [.slice false (Ja xs)]) xs.length
  (fun k=>[.int .i64 ((xs.length:Int)-1-k),(Ja xs).getD (xs.length-1-k) .any]):=by
 intro E1 G1 W l cv J hE hFX hrel hJs hY hJ0
 refine callsIn_of_wp Tryz.func201 rfl trivial ?_ rfl
 have hob:∀d,(Jh [Arg.v (.clo (.yield l) [] []),Arg.v (.ro [.slice false (Ja xs)])] 19).obj d=.dead:=fun d=>by
  match d with
  |0=>rfl
  |1=>rfl
  |d+2=>simp[Jh]
 have hr0:=JbX (n:=19) (by simp) hrel
 rw[Tryz.ntmps201]
 refine wpIn_seq ?_
 refine wpIn_mono (SpecK.framed (S:=[0]) (Q:=fun ts'=>ts'.n=19∧ts'.tmp 1=.ro [.slice false (Ja xs)]∧ts'.tmp 3=.int .i64 ((xs.length:Int)-1)∧ts'.tmp 0=.clo (.yield l) [] []∧∀d,ts'.obj d=.dead) ?_ Jae _ hr0) ?_
 ·refine SpecK.regW T (by kernel_rfl) fun K hK=>?_
  have hw:IntKind.i64.wrap ((xs.length:Int)-1)=(xs.length:Int)-1:=IntWalk.i64_in _ (by unfold Jc at hl;omega)
  have h1:(Jh [Arg.v (.clo (.yield l) [] []),Arg.v (.ro [.slice false (Ja xs)])] 19).tmp 1=.ro [.slice false (Ja xs)]:=rfl
  have h0:(Jh [Arg.v (.clo (.yield l) [] []),Arg.v (.ro [.slice false (Ja xs)])] 19).tmp 0=.clo (.yield l) [] []:=rfl
  have hn:(Jh [Arg.v (.clo (.yield l) [] []),Arg.v (.ro [.slice false (Ja xs)])] 19).n=19:=rfl
  generalize Jh [Arg.v (.clo (.yield l) [] []),Arg.v (.ro [.slice false (Ja xs)])] 19=t0 at *
  simp only[go_sem,↓reduceIte,reduceIte,Qa,Qh,Qb,Qc,Qd,Qe,Qf,Qg,reduceCtorEq, *]
  refine hK.out _ ⟨?_,?_,?_,?_,?_⟩
  all_goals simp only[go_sem,↓reduceIte,reduceIte,Qa,Qh,Qb,Qc,Qd,Qe,Qf,Qg,reduceCtorEq, *]
 ·rintro ex a1 W1 ⟨rfl,hk1,ts1,G2,⟨q1,q2,q3,q5,q4⟩,hr1,hb1,ho1⟩
  have hbF:Bel (fun _=>False) W W1:=hb1.into fun b _ ⟨d,hd,_⟩=>hd.1 (by rw[hob];rfl)
  refine wpIn_block ?_
  refine wpIn_loop_rounds (xs.length+1) ?_
  refine(?_:∀(i k:Nat) (a:Go.Act) (W:World),k+i=xs.length→BInv E1 l (.ro [.slice false (Ja xs)]) ((i:Int)-1) a W→J k W→Code.roundsIn Fence.wide 2 _ _ _ (i+1) a W) xs.length 0 a1 W1 (by omega) ⟨⟨ts1,G2,hr1,q1,q2,q3,q5,q4⟩⟩ (hJs _ _ _ hJ0 hbF)
  ·intro i
   induction i with
   |zero =>
    rintro k a W hki ⟨ts,G,hr,f1,f2,f3,f5,f4⟩ hJ
    rw[roundsIn_succ]
    refine wpIn_seq ?_
    refine wpIn_seq ?_
    refine wpIn_mono (SpecK.framed (S:=[0]) (Q:=fun ts'=>ts'.n=19∧ts'.tmp 8=.bool false∧∀d,ts'.obj d=.dead) ?_ Jae _ hr) ?_
    ·refine SpecK.regW T (by kernel_rfl) fun K hK=>?_
     simp only[go_sem,↓reduceIte,reduceIte,Qa,Qh,Qb,Qc,Qd,Qe,Qf,Qg,reduceCtorEq, *]
     refine hK.out _ ⟨?_,?_,?_⟩
     all_goals simp only[go_sem,↓reduceIte,reduceIte,Qa,Qh,Qb,Qc,Qd,Qe,Qf,Qg,reduceCtorEq, *]
     all_goals decide
    ·rintro ex a2 W2 ⟨rfl,hk2,ts2,G3,⟨p1,p2,p3⟩,hr2,hb2,ho2⟩
     have hb2F:Bel (fun _=>False) W W2:=hb2.into fun b _ ⟨d,hd,_⟩=>hd.1 (by rw[f4];rfl)
     refine wpIn_cond_false (evB hr2 p2) ?_
     refine wpIn_exit ?_
     simp only[Exit.then,Exit.inBlock]
     have hJn:J xs.length W2:=by have:=hJs _ _ _ hJ hb2F;rwa [show k=xs.length by omega] at this
     rw[if_pos trivial]
     refine bodyPost_end (results_none Tryz.results201 _ _ _) hr2.defers ?_
     exact⟨⟨_,rfl⟩,hJn⟩
   |succ i ih =>
    rintro k a W hki ⟨ts,G,hr,f1,f2,f3,f5,f4⟩ hJ
    rw[roundsIn_succ]
    refine wpIn_seq ?_
    refine wpIn_seq ?_
    have hi0:(0:Int)≤(i:Int):=by omega
    have hlt:i<xs.length:=by omega
    rw[show(((i+1:Nat):Int)-1)=(i:Int) by omega] at f3
    refine wpIn_mono (SpecK.framed (S:=[0]) (Q:=fun ts'=>ts'.n=19∧ts'.tmp 8=.bool true∧ts'.tmp 0=.clo (.yield l) [] []∧ts'.tmp 1=.ro [.slice false (Ja xs)]∧ts'.tmp 3=.int .i64 (i:Int)∧∀d,ts'.obj d=.dead) ?_ Jae _ hr) ?_
    ·refine SpecK.regW T (by kernel_rfl) fun K hK=>?_
     simp only[go_sem,↓reduceIte,reduceIte,Qa,Qh,Qb,Qc,Qd,Qe,Qf,Qg,reduceCtorEq, *]
     refine hK.out _ ⟨?_,?_,?_,?_,?_,?_⟩
     all_goals simp only[go_sem,↓reduceIte,reduceIte,Qa,Qh,Qb,Qc,Qd,Qe,Qf,Qg,reduceCtorEq, *]
     all_goals exact decide_eq_true hi0
    ·rintro ex a2 W2 ⟨rfl,hk2,ts2,G3,⟨p1,p2,p6,p3,p4,p5⟩,hr2,hb2,ho2⟩
     have hb2F:Bel (fun _=>False) W W2:=hb2.into fun b _ ⟨d,hd,_⟩=>hd.1 (by rw[f4];rfl)
     refine wpIn_cond_true (evB hr2 p2) ?_
     refine wpIn_skip ?_
     simp only[Exit.then]
     refine wpIn_seq ?_
     refine wpIn_block ?_
     refine wpIn_seq ?_
     refine wpIn_region ?_
     refine wOps.soundTake (S:=[0]) 6 T Jae 2 (by kernel_rfl) (K:=fun ts'=>ts'.n=19∧ts'.tmp 11=.clo (.yield l) [] []∧ts'.tmp 0=.clo (.yield l) [] []∧ts'.tmp 12=.int .i64 (i:Int)∧ts'.tmp 16=(Ja xs).getD i .any∧ts'.tmp 1=.ro [.slice false (Ja xs)]∧ts'.tmp 3=.int .i64 (i:Int)∧∀d,ts'.obj d=.dead) (fun K hK=>?_) hr2 ?_
     ·simp only[go_sem,List.take_succ_cons,List.take_zero,↓reduceIte,reduceIte,Qa,Qh,Qb,Qc,Qd,Qe,Qf,Qg,reduceCtorEq, *]
      refine hK.out _ ⟨?_,?_,?_,?_,?_,?_,?_,?_⟩
      all_goals simp only[go_sem,↓reduceIte,reduceIte,Qa,Qh,Qb,Qc,Qd,Qe,Qf,Qg,reduceCtorEq, *]
     ·rintro ts3 G4 a3 W3 ⟨n3,x11,x0,x12,x16,x1,x3,xo⟩ hr3 hk3 hb3
      have hb3F:Bel (fun _=>False) W2 W3:=hb3.into fun b _ ⟨d,hd,_⟩=>hd.1 (by rw[p5];rfl)
      have hJ3:=hJs _ _ _ (hJs _ _ _ hJ hb2F) hb3F
      show wpOpsIn _ _ _ _ _ [6,7] _ _
      rw[wpOpsIn_cons]
      have hfy:a3.eval (.tmp 11)=.func (.yield l) #[] #[]:=by
       have:=hr3.ev (.tmp 11)
       rw[show ts3.ev (.tmp 11)=.clo (.yield l) [] [] from x11] at this
       generalize a3.eval (.tmp 11)=v at *
       cases this with
       |clo _ f1 c1 _ _ q0 q1 _ _ =>
        rw[show f1=#[] from Array.eq_empty_of_size_eq_zero (by simpa using q0),show c1=#[] from Array.eq_empty_of_size_eq_zero (by simpa using q1)]
      refine Jpy rfl rfl (Jpx rfl hfy (hY k W3 _ (by omega) hJ3 rfl ?_) ?_)
      ·have hc:∀ {v:Value} {x:AV},Rep (Jb E1 G4 ts3 W3) v x→x.pure=true→Rep (Jb E1 G1 Jb5 W3) v x:=fun h hp=>Rep.mono_pure (c:=Jb E1 G4 ts3 W3) (c':=Jb E1 G1 Jb5 W3) (fun b hMb _=>⟨rfl,by
        rintro(hf|⟨d,hd,_⟩)
        ·exact hMb (.inl hf)
        ·exact hd.1 (by simp[Jb,Jb5,Jh,Ob.kind])⟩) h hp
       have e1:=hr3.ev (.tmp 12)
       rw[show ts3.ev (.tmp 12)=.int .i64 (i:Int) from x12] at e1
       have e2:=hr3.ev (.tmp 16)
       rw[show ts3.ev (.tmp 16)=(Ja xs).getD i .any from x16] at e2
       have hp2:((Ja xs).getD i .any).pure=true:=by rw[JcR xs i hlt];exact Dat.pure _
       have hki:xs.length-1-k=i:=by omega
       have hkz:(xs.length:Int)-1-(k:Int)=(i:Int):=by omega
       intro j
       match j with
       |0=>simp only[hkz];exact hc e1 rfl
       |1=>simp only[hki];exact hc e2 hp2
       |j+2=>exact .any _
      ·rintro e B ⟨rfl,hJB,hbB⟩
       refine⟨_,rfl,?_⟩
       have hrB:=(hr3.foreign (C:=E1.F) (fun _ h=>h) hbB (fun b h _=>hFX b h)).put (d:=17) (v:=.bool true) (x:=.bool true) (by rw[n3];decide) (.bool _)
       refine wOps.soundDrop (S:=[0]) 7 T Jae 2 (by kernel_rfl) (K:=fun ts'=>ts'.n=19∧ts'.tmp 18=.bool false∧ts'.tmp 0=.clo (.yield l) [] []∧ts'.tmp 1=.ro [.slice false (Ja xs)]∧ts'.tmp 3=.int .i64 (i:Int)∧∀d,ts'.obj d=.dead) (fun K hK=>?_) hrB ?_
       ·simp only[go_sem,↓reduceIte,reduceIte,Qa,Qh,Qb,Qc,Qd,Qe,Qf,Qg,reduceCtorEq, *]
        refine hK.out _ ⟨?_,?_,?_,?_,?_,?_⟩
        all_goals simp only[go_sem,↓reduceIte,reduceIte,Qa,Qh,Qb,Qc,Qd,Qe,Qf,Qg,reduceCtorEq, *]
       ·rintro ts5 G5 a5 W5 ⟨n5,y18,y0,y1,y3,yo⟩ hr5 hk5 hb5
        have hb5F:Bel (fun _=>False) B W5:=hb5.into fun b _ ⟨d,hd,_⟩=>hd.1 (by show(ts3.obj d).kind=none;rw[xo];rfl)
        have hJ5:=hJs _ _ _ hJB hb5F
        simp only[Exit.then]
        refine wpIn_cond_false (evB hr5 y18) ?_
        refine wpIn_skip ?_
        simp only[Exit.inBlock,Exit.then]
        refine wpIn_mono (SpecK.framed (S:=[0]) (Q:=fun ts'=>ts'.n=19∧ts'.tmp 1=.ro [.slice false (Ja xs)]∧ts'.tmp 3=.int .i64 ((i:Int)-1)∧ts'.tmp 0=.clo (.yield l) [] []∧∀d,ts'.obj d=.dead) ?_ Jae _ hr5) ?_
        ·refine SpecK.regW T (by kernel_rfl) fun K hK=>?_
         have hw:IntKind.i64.wrap ((i:Int)-1)=(i:Int)-1:=IntWalk.i64_in _ (by unfold Jc at hl;omega)
         simp only[go_sem,↓reduceIte,reduceIte,Qa,Qh,Qb,Qc,Qd,Qe,Qf,Qg,reduceCtorEq, *]
         refine hK.out _ ⟨?_,?_,?_,?_,?_⟩
         all_goals simp only[go_sem,↓reduceIte,reduceIte,Qa,Qh,Qb,Qc,Qd,Qe,Qf,Qg,reduceCtorEq, *]
        ·rintro ex a6 W6 ⟨rfl,hk6,ts6,G6,⟨z1,z2,z3,z4,z5⟩,hr6,hb6,ho6⟩
         have hb6F:Bel (fun _=>False) W5 W6:=hb6.into fun b _ ⟨d,hd,_⟩=>hd.1 (by rw[yo];rfl)
         exact ih (k+1) a6 W6 (by omega) ⟨ts6,G6,hr6,z1,z2,z3,z4,z5⟩ (hJs _ _ _ hJ5 hb6F)
theorem Jjb(xs:List Res):CallR Tryz.prog 160 [.slice false (Ja xs)] (.val (.clo (.func 201) [] [.ro [.slice false (Ja xs)]])):=by
 refine CallR.go1 (T:=T) Tryz.call160 Tryz.func160 rfl Tryz.ntmps160 (congrArg Array.toList Tryz.results160) (by decide) fun ts hn h0=>?_
 (repeat' (first
 | (with_reducible first|assumption|(refine Qw hK _ ?_;clear hK K)|refine Qw ‹_› _ ?_|refine Nx.out ‹_› ?_|refine Qi fun K hK=>?_|refine Qj T fun K hK=>?_|refine Ql fun A B hA hB=>?_|refine Qn ?_|refine Qr ?_)
 | ((with_reducible first|apply Qy|apply Qz|apply QA)<;>intro hb<;>try simp only[nr] at hb)
 |simp only[go_sem,↓reduceIte,reduceIte,Qa,Qh,Qb,Qc,Qd,Qe,Qf,Qg,reduceCtorEq, *]
 |with_reducible refine fun(bn:Bool) hbn=>?_))
theorem Rep.ref0{c c':Ctx}{d g o:Nat}{v:Value}(hβ:c'.β=c.β)(hk:c'.kind d≠none→c.kind d≠none)(hg:g=c.gen d)(h:Rep c v (.ref d g o)):Rep c' v (.ref d 0 o):=by
 cases h with
 |ref _ _ _ _ h1 _ h=>exact .ref d 0 o v h1 (Nat.zero_le _) fun _ hk'=>by rw[hβ];exact h hg (hk hk')
theorem Rep.mref0{c c':Ctx}{d g:Nat}{v:Value}(hβ:c'.β=c.β)(hk:c'.kind d≠none→c.kind d≠none)(hg:g=c.gen d)(h:Rep c v (.mref d g)):Rep c' v (.mref d 0):=by
 cases h with
 |mref _ _ _ h1 _ h=>exact .mref d 0 v h1 (Nat.zero_le _) fun _ hk'=>by rw[hβ];exact h hg (hk hk')
theorem Jds:∀ {l:List AV},AV.pure.pureL l=true→∀i,(l.getD i .any).pure=true
 | [],_,i=>by simp[AV.pure]
 |x :: l,h,i=>by
  simp only[AV.pure.pureL,Bool.and_eq_true] at h
  cases i with
  |zero=>simpa using h.1
  |succ i=>simpa using Jds h.2 i
def YF(n b m:Nat)(S:List Nat)(tmp:Nat→AV)(ks vs:List AV):TS :=
 {n:=n,tmp:=fun t=>if t=b then .ref b 0 0 else if S.contains t then tmp t else .any,gen:=fun _=>0,obj:=fun d=>if d=b then .box [.mref m 0] else if d=m then .mp ks vs else .dead }
theorem Rel.box0{E:Env}{ts:TS}{G:Ghost}{a:Go.Act}{w:World}(h:Rel E ts G a w){b m:Nat}(hbm:b≠m)(S:List Nat)(hS:∀t∈S,(ts.tmp t).pure=true)(h1:ts.tmp b=.ref b (ts.gen b) 0)(h2:ts.obj b=.box [.mref m (ts.gen m)])
  {ks vs:List AV} (h3:ts.obj m=.mp ks vs) (hks:AV.pure.pureL ks=true) (hvs:AV.pure.pureL vs=true) (hnp:∀j,E.pin j=none):Rel E (YF ts.n b m S ts.tmp ks vs) G a w:=by
 let c:=Jb E G ts w
 let c':=Jb E G (YF ts.n b m S ts.tmp ks vs) w
 have hkind:∀d,c'.kind d≠none→c.kind d≠none∧(d=b∨d=m):=fun d hd=>by
  simp only[c',Jb,YF] at hd
  simp only[c,Jb]
  by_cases e:d=b
  ·subst e;rw[h2];simp[Ob.kind]
  ·by_cases e2:d=m
   ·subst e2;rw[h3];simp[Ob.kind]
   ·simp[e,e2,Ob.kind] at hd
 have hlive:∀d,Jf (YF ts.n b m S ts.tmp ks vs) G d→Jf ts G d:=fun d hd=>⟨(hkind d hd.1).1,hd.2⟩
 have hM:∀x,¬c.M x→¬c'.M x:=fun x hx=>by
  rintro(hf|⟨d,hd,he⟩)
  ·exact hx (.inl hf)
  ·exact hx (.inr ⟨d,hlive d hd,he⟩)
 have hpu:∀ {v:Value} {x:AV},Rep c v x→x.pure=true→Rep c' v x:=fun hr hp=>Rep.mono_pure (c:=c) (c':=c') (fun x hx _=>⟨rfl,hM x hx⟩) hr hp
 refine⟨h.size,h.defers,fun t=>?_,fun d=>?_,fun d d' x y e=>h.sep d d' (hlive d x) (hlive d' y) e,fun d hd=>h.own d (hlive d hd),h.inF,h.bel,fun j x hj=>by rw[hnp] at hj;cases hj⟩
 ·show Rep c' _ (if t=b then .ref b 0 0 else if S.contains t then ts.tmp t else .any)
  split
  ·rename_i e;subst e
   have:=h.tmp t
   rw[h1] at this
   exact this.ref0 (c:=c) rfl (fun hk=>(hkind t hk).1) rfl
  ·split
   ·rename_i hs;exact hpu (h.tmp t) (hS t (List.contains_iff_mem.1 hs))
   ·exact .any _
 ·show ObOk c' d (if d=b then .box [.mref m 0] else if d=m then .mp ks vs else .dead)
  split
  ·rename_i e;subst e
   have:=h.obj d
   rw[h2] at this
   obtain⟨k0,vs0,T0,hh,hsz,hr⟩:=this
   refine⟨k0,vs0,T0,hh,by simpa using hsz,fun i=>?_⟩
   match i with
   |0=>exact Rep.mref0 (c:=c) (g:=ts.gen m) rfl (fun hk=>(hkind m hk).1) rfl (by have:=hr 0;simpa using this)
   |i+1=>simp;exact .any _
  ·split
   ·rename_i e;subst e
    have:=h.obj d
    rw[h3] at this
    obtain⟨k0,es,cl,hh,hk1,hv1,hr1,hr2,hborn⟩:=this
    exact⟨k0,es,cl,hh,hk1,hv1,fun i=>hpu (hr1 i) (Jds hks i),fun i=>hpu (hr2 i) (Jds hvs i),hborn⟩
   ·trivial
def Vc:List Res→List (Key×Res)
 | []=>[]
 |r :: l=>JQ (Vc l) (Je r) r
theorem JeA(l:List Res)(hl:Jc l.length):CallR Tryz.prog 117 [.slice false (Ja l)] (.val (.mp (Jo (Vc l)) (Js (Vc l)))):=by
 refine CallR.of_marks (T:=T) Tryz.call117 Tryz.func117 rfl (by rw[Tryz.ntmps117];simp) fun E G a w hw hnp hr=>?_
 rw[Tryz.ntmps117] at hr
 have h0:(Jh ([AV.slice false (Ja l)].map Arg.v) 16).tmp 0=.slice false (Ja l):=rfl
 have hn:(Jh ([AV.slice false (Ja l)].map Arg.v) 16).n=16:=rfl
 generalize Jh ([AV.slice false (Ja l)].map Arg.v) 16=t0 at *
 refine wpIn_seq ?_
 refine wpIn_mono (SpecK.framed (S:=[]) (Q:=fun ts'=>ts'.n=16∧ts'.tmp 0=.slice false (Ja l)) ?_ Jae _ hr) ?_
 ·refine SpecK.regW T (by kernel_rfl) fun K hK=>?_
  simp only[go_sem,↓reduceIte,reduceIte,Qa,Qh,Qb,Qc,Qd,Qe,Qf,Qg,reduceCtorEq, *]
  refine hK.out _ ⟨?_,?_⟩
  all_goals simp only[go_sem,↓reduceIte,reduceIte,Qa,Qh,Qb,Qc,Qd,Qe,Qf,Qg,reduceCtorEq, *]
 rintro ex a1 W1 ⟨rfl,_,ts1,G1,⟨p1,p2⟩,hr1,_,_⟩
 refine wpIn_seq ?_
 refine wpIn_mono (SpecK.framed (S:=[]) (Q:=fun ts'=>ts'.n=16∧ts'.tmp 0=.slice false (Ja l)∧ts'.tmp 3=.ref 3 (ts'.gen 3) 0∧ts'.obj 3=.box [.mref 6 (ts'.gen 6)]∧ts'.obj 6=.mp [] []) ?_ Jae _ hr1) ?_
 ·refine SpecK.regW T (by kernel_rfl) fun K hK=>?_
  simp only[go_sem,↓reduceIte,reduceIte,Qa,Qh,Qb,Qc,Qd,Qe,Qf,Qg,reduceCtorEq, *]
  refine hK.out _ ⟨?_,?_,?_,?_,?_⟩
  all_goals simp only[go_sem,↓reduceIte,reduceIte,Qa,Qh,Qb,Qc,Qd,Qe,Qf,Qg,reduceCtorEq, *]
 rintro ex a2 W2 ⟨rfl,_,ts2,G2,⟨q1,q2,q3,q4,q5⟩,hr2,_,_⟩
 refine wpIn_seq ?_
 refine wpIn_seq ?_
 have hbk:=Jjb l
 refine wpIn_mono (SpecK.framed (S:=[]) (Q:=fun ts'=>ts'.n=16∧ts'.tmp 8=.clo (.func 201) [] [.ro [.slice false (Ja l)]]∧ts'.tmp 3=.ref 3 (ts'.gen 3) 0∧ts'.obj 3=.box [.mref 6 (ts'.gen 6)]∧ts'.obj 6=.mp [] []) ?_ Jae _ hr2) ?_
 ·refine SpecK.regW T (by kernel_rfl) fun K hK=>?_
  (repeat' (first
 |refine callX.by hbk ?_
 |simp only[go_sem,↓reduceIte,reduceIte,Qa,Qh,Qb,Qc,Qd,Qe,Qf,Qg,reduceCtorEq, *]))
  refine hK.out _ ⟨?_,?_,?_,?_,?_⟩
  all_goals simp only[go_sem,↓reduceIte,reduceIte,Qa,Qh,Qb,Qc,Qd,Qe,Qf,Qg,reduceCtorEq, *]
 rintro ex a3 W3 ⟨rfl,_,ts3,G3,⟨r1,r2,r3,r4,r5⟩,hr3,_,_⟩
 refine wpIn_block ?_
 have hz:=hr3.box0 (b:=3) (m:=6) (by decide) [8] (fun t ht=>by rw[List.mem_singleton] at ht;subst ht;rw[r2];simp[AV.pure,AV.pure.pureL,JeV]) r3 r4 r5 rfl rfl hnp
 have e8:(YF ts3.n 3 6 [8] ts3.tmp [] []).ev (.tmp 8)=.clo (.func 201) [] [.ro [.slice false (Ja l)]]:=by
  show(if(8:Nat)=3 then AV.ref 3 0 0 else if[8].contains 8 then ts3.tmp 8 else .any)=_
  simpa using r2
 have en:(YF ts3.n 3 6 [8] ts3.tmp [] []).n=16:=r1
 have e3:(YF ts3.n 3 6 [8] ts3.tmp [] []).tmp 3=.ref 3 0 0:=rfl
 have eg:∀d,(YF ts3.n 3 6 [8] ts3.tmp [] []).gen d=0:=fun _=>rfl
 have o3:(YF ts3.n 3 6 [8] ts3.tmp [] []).obj 3=.box [.mref 6 0]:=rfl
 have o6:(YF ts3.n 3 6 [8] ts3.tmp [] []).obj 6=.mp [] []:=rfl
 have od:∀d,d≠3→d≠6→(YF ts3.n 3 6 [8] ts3.tmp [] []).obj d=.dead:=fun d h1 h2=>by simp[YF,h1,h2]
 generalize YF ts3.n 3 6 [8] ts3.tmp [] []=t4 at *
 refine wpIn_mono (JlG hz (gf:=201) (c0:=.ro [.slice false (Ja l)]) e8 (by simp[AV.pure,AV.pure.pureL,JeV]) Tryz.call201 (Jjc l hl) (fun _=>rfl) ?_ hnp ?_ [3] [3,6] ?_
  (fun j=>if j=3∨j=6 then some (G3.β j) else none) ?_ (fun k t=>t.n=16∧t.tmp 3=.ref 3 0 0∧t.gen 3=0∧t.gen 6=0∧t.obj 3=.box [.mref 6 0]∧t.obj 6=.mp (Jo (Vc (l.drop (l.length-k)))) (Js (Vc (l.drop (l.length-k))))∧∀d,d≠3→d≠6→t.obj d=.dead) ?_ ?_ ?_ ?_) ?_
 ·intro k x hx
  rcases List.mem_cons.1 hx with rfl|hx
  ·rfl
  ·rw[List.mem_singleton] at hx;rw[hx];exact Jds (JeV l) _
 ·intro q hq;rw[en];have hq:q∈[9,10]:=hq;rcases List.mem_cons.1 hq with rfl|hq
  ·decide
  ·rw[List.mem_singleton] at hq;subst hq;decide
 ·intro q hq;have hq:q∈[9,10]:=hq;rcases List.mem_cons.1 hq with rfl|hq
  ·decide
  ·rw[List.mem_singleton] at hq;subst hq;decide
 ·intro j b hj _;split at hj
  ·cases hj;rfl
  ·cases hj
 ·refine⟨en,?_,eg 3,eg 6,?_,?_,fun d h1 h2=>?_⟩
  ·exact e3
  ·exact o3
  ·show t4.obj 6=_;rw[o6,List.drop_eq_nil_of_le (by omega)];rfl
  ·simp[TS.only,h1,h2]
 ·exact fun k t h=>h.1.trans en.symm
 ·intro k t d hI hd
  obtain⟨_,_,g3,g6,b3,b6,bd⟩:=hI
  have l3:Jf t4 G3 3:=⟨by rw[o3];simp[Ob.kind],by have:=hz.obj 3;rw[o3] at this;exact this.1⟩
  have l6:Jf t4 G3 6:=⟨by rw[o6];simp[Ob.kind],by have:=hz.obj 6;rw[o6] at this;exact this.1⟩
  by_cases h3:d=3
  ·subst h3;exact⟨g3,_,by simp,3,l3,rfl⟩
  ·by_cases h6:d=6
   ·subst h6;exact⟨g6,_,by simp,6,l6,rfl⟩
   ·exact absurd (by rw[bd d h3 h6];rfl) hd
 ·rintro k t hk ⟨n0,s3,g3,g6,b3,b6,bd⟩
  have hlt:l.length-1-k<l.length:=by omega
  have hkz:(l.length:Int)-1-(k:Int)=((l.length-1-k:Nat):Int):=by omega
  have hd:l.drop (l.length-(k+1))=l[l.length-1-k] :: l.drop (l.length-k):=by
   rw[show l.length-(k+1)=l.length-1-k by omega,List.drop_eq_getElem_cons hlt,show l.length-1-k+1=l.length-k by omega]
  rw[hd,JcR l _ hlt,hkz]
  simp only[Vc]
  generalize Vc (l.drop (l.length-k))=M at *
  generalize l[l.length-1-k]=r at *
  have hte:t.puts [9,10] [.int .i64 ((l.length-1-k:Nat):Int),Dat.av r]=(t.put 9 (.int .i64 ((l.length-1-k:Nat):Int))).put 10 (Dat.av r):=rfl
  rw[hte]
  refine SpecK.regW T (by kernel_rfl) fun K hK=>?_
  simp only[go_sem,↓reduceIte,reduceIte,Qa,Qh,Qb,Qc,Qd,Qe,Qf,Qg,reduceCtorEq, *]
  refine hK.out _ ?_
  refine SpecK.block ?_
  refine SpecK.drawW T mixed [([11],[12,13,14]),([12],[11,14]),([13],[11,14]),([14],[11,12,13])] (by kernel_rfl) (by kernel_rfl) fun K2 hK2=>?_
  cases hix:JB (Je r) M with
  |some j =>
   (repeat' (first
 |refine callX.by (J8 _ _ _ _ _ _ _) ?_
 |simp only[go_sem,↓reduceIte,reduceIte,Qa,Qh,Qb,Qc,Qd,Qe,Qf,Qg,reduceCtorEq, *]))
   refine hK2.out _ ⟨?_,?_,?_,?_,?_,?_,?_⟩
   all_goals try(simp only[go_sem,TS.only,List.contains_cons,List.contains_nil,Bool.or_false,beq_self_eq_true,Bool.true_or,Bool.or_true,↓reduceIte,reduceIte,Qa,Qh,Qb,Qc,Qd,Qe,Qf,Qg,reduceCtorEq, *];done)
   rotate_left
   ·intro d h1 h2;simp[TS.only,h1,h2]
   simp only[JQ,hix]
   simp only[go_sem,TS.only,List.contains_cons,List.contains_nil,Bool.or_false,beq_self_eq_true,Bool.true_or,Bool.or_true,↓reduceIte,reduceIte,Qa,Qh,Qb,Qc,Qd,Qe,Qf,Qg,reduceCtorEq, *]
   rw[show JB ⟨r.kind,r.name⟩ M=some j from hix]
   simp only[J3,Jo,Js,Ja,List.map_set]
   rfl
  |none =>
   (repeat' (first
 |refine callX.by (J8 _ _ _ _ _ _ _) ?_
 |simp only[go_sem,↓reduceIte,reduceIte,Qa,Qh,Qb,Qc,Qd,Qe,Qf,Qg,reduceCtorEq, *]))
   refine hK2.out _ ⟨?_,?_,?_,?_,?_,?_,?_⟩
   all_goals try(simp only[go_sem,TS.only,List.contains_cons,List.contains_nil,Bool.or_false,beq_self_eq_true,Bool.true_or,Bool.or_true,↓reduceIte,reduceIte,Qa,Qh,Qb,Qc,Qd,Qe,Qf,Qg,reduceCtorEq, *];done)
   rotate_left
   ·intro d h1 h2;simp[TS.only,h1,h2]
   simp only[JQ,hix]
   simp only[go_sem,TS.only,List.contains_cons,List.contains_nil,Bool.or_false,beq_self_eq_true,Bool.true_or,Bool.or_true,↓reduceIte,reduceIte,Qa,Qh,Qb,Qc,Qd,Qe,Qf,Qg,reduceCtorEq, *]
   rw[show JB ⟨r.kind,r.name⟩ M=none from hix]
   simp only[J3,Jo,Js,Ja,List.map_append,List.map_cons,List.map_nil]
   rfl
 ·rintro ex a4 W4 ⟨rfl,D,F,t5,G5,rfl,hD,⟨n5,s3,g3,g6,b3,b6,bd⟩,hR,hFF,hFD,hDw⟩
  simp only[Exit.inBlock,Exit.then]
  rw[Nat.sub_self,List.drop_zero] at b6
  refine wpIn_seq ?_
  refine wpIn_wide.2 (wp_mono (Jl0 (Q:=fun ts'=>V0 T Tryz.f117.results.toList (.val (.mp (Jo (Vc l)) (Js (Vc l)))) ts') T _ ?_ hR.rebase) ?_)
  ·intro K hK
   simp only[go_sem,↓reduceIte,reduceIte,Qa,Qh,Qb,Qc,Qd,Qe,Qf,Qg,reduceCtorEq, *]
   refine hK.out _ ?_
   rw[Tryz.results117]
   simp only[go_sem,↓reduceIte,reduceIte,Qa,Qh,Qb,Qc,Qd,Qe,Qf,Qg,reduceCtorEq, *]
  ·rintro ex a5 W5 ⟨rfl,a6,t6,G6,hx,hr6,rfl⟩
   simp only[Exit.then]
   refine wpIn_ret ⟨rfl,D,F,t6,G6,a6,rfl,?_,hR.unbase hr6,hFF,hFD,?_,hx⟩
   ·exact(hr6.bel.block D (Array.getElem?_eq_some_iff.1 hD).1 (fun⟨d,hd,he⟩=>(hR.own d hd).2.1 (by rw[he];exact hFD))).trans hD
   ·have:=hr3.bel.size;rw[hw] at this;exact Nat.le_trans this hDw
@[go_sem] def JfE:List (List Nat×List Nat):=[([7],[8,9,11,12,4]),([8],[7,6,11,12,4]),([9],[7,11,12,4]),([10],[4]),([6],[8,4]),([11],[7,8,9,12,4]),([12],[7,8,9,11,4]),([4],[7,8,9,10,6,11,12]),([4],[12])]
theorem Jg0(l:List Res)(k:Key):Jy (Vc l) k=JF l k:=by
 induction l with
 |nil=>rfl
 |cons r l ih =>
  unfold Vc
  rw[JeJ,ih]
  unfold JF
  rw[List.find?_cons]
  by_cases h:k=Je r
  ·subst h;simp
  ·have h':¬Je r=k:=fun e=>h e.symm
   simp[h,h']
theorem JfZ(M:List (Key×Res)):Caps [.ro [.mp (Jo M) (Js M)]]:=⟨by simp only[go_sem,Bool.and_self],by simp only[go_sem]⟩
theorem JjB(M:List (Key×Res))(r_kind:Int)(r_name:List UInt8)(r_ver:Int)(r_port:Int)(r_to:List UInt8)(r_rules:List Rule)(r_hosts:List Int)(hM:∀p∈M,Jw p.2):CallR Tryz.prog 119 [.agg [.int .i64 r_kind,.str r_name,.int .i64 r_ver,.int .i64 r_port,.str r_to,.slice false (Ja r_rules),.slice false (Ja r_hosts)],.ro [.mp (Jo M) (Js M)]] (.val (.bool (!decide (Jy M (Je (⟨r_kind,r_name,r_ver,r_port,r_to,r_rules,r_hosts⟩:Res))=some (⟨r_kind,r_name,r_ver,r_port,r_to,r_rules,r_hosts⟩:Res))))):=by
 cases hix:JB (Je (⟨r_kind,r_name,r_ver,r_port,r_to,r_rules,r_hosts⟩:Res)) M with
 |some j =>
  obtain⟨hj,hg⟩:=Ja0 hix
  obtain⟨q1,q2,q3,q4,q5⟩:=hM _ (List.getElem_mem hj)
  have w1:=JdK (M[j]).2.kind (M[j]).2.name (M[j]).2.ver (M[j]).2.port (M[j]).2.to' (M[j]).2.rules' (M[j]).2.hosts r_kind r_name r_ver r_port r_to r_rules r_hosts q5 q3 q4
  have hv:∀z:AV,Yh false z (Js M) (some j)=.agg [.int .i64 (M[j]).2.kind,.str (M[j]).2.name,.int .i64 (M[j]).2.ver,.int .i64 (M[j]).2.port,.str (M[j]).2.to',.slice false (Ja (M[j]).2.rules'),.slice false (Ja (M[j]).2.hosts)]:=fun z=>by
   have:(Js M).getD j .any=Dat.av (M[j]).2:=by simp[Js,Ja,hj]
   exact this
  rw[hg]
  clear hM q1 q2 q3 q4 q5 hg
  have hix':JB (⟨r_kind,r_name⟩:Key) M=some j:=hix
  refine CallR.go2 (T:=T) Tryz.call119 Tryz.func119 rfl Tryz.ntmps119 (congrArg Array.toList Tryz.results119) (by decide) fun ts hn h0 h1=>?_
  (repeat' (first
 | (with_reducible first|refine callX.by (w1) ?_|refine callX.by (J8 _ _ _ _ _ _ _) ?_|refine callX.by (JdK _ _ _ _ _ _ _ _ _ _ _ _ _ _ ?_ ?_ ?_) ?_|refine callX.by JfU ?_|assumption|(refine Qw hK _ ?_;clear hK K)|refine Qw ‹_› _ ?_|refine Nx.out ‹_› ?_|refine Qi fun K hK=>?_|refine Qj T fun K hK=>?_|refine Qk (id:=1) T mixed JfE (by kernel_rfl) fun K hK=>?_|refine Ql fun A B hA hB=>?_|refine Qn ?_|refine Qr ?_)
 | ((with_reducible first|apply Qy|apply Qz|apply QA)<;>intro hb<;>try simp only[nr] at hb)
 |simp only[go_sem,↓reduceIte,reduceIte,Qa,Qh,Qb,Qc,Qd,Qe,Qf,Qg,reduceCtorEq, *,-w1,-hix]
 |with_reducible refine fun(bn:Bool) hbn=>?_))
  all_goals trace_state
 |none =>
  rw[Ja1 hix]
  have hix':JB (⟨r_kind,r_name⟩:Key) M=none:=hix
  clear hM
  refine CallR.go2 (T:=T) Tryz.call119 Tryz.func119 rfl Tryz.ntmps119 (congrArg Array.toList Tryz.results119) (by decide) fun ts hn h0 h1=>?_
  (repeat' (first
 | (with_reducible first|refine callX.by (J8 _ _ _ _ _ _ _) ?_|refine callX.by (JdK _ _ _ _ _ _ _ _ _ _ _ _ _ _ ?_ ?_ ?_) ?_|refine callX.by JfU ?_|assumption|(refine Qw hK _ ?_;clear hK K)|refine Qw ‹_› _ ?_|refine Nx.out ‹_› ?_|refine Qi fun K hK=>?_|refine Qj T fun K hK=>?_|refine Qk (id:=1) T mixed JfE (by kernel_rfl) fun K hK=>?_|refine Ql fun A B hA hB=>?_|refine Qn ?_|refine Qr ?_)
 | ((with_reducible first|apply Qy|apply Qz|apply QA)<;>intro hb<;>try simp only[nr] at hb)
 |simp only[go_sem,↓reduceIte,reduceIte,Qa,Qh,Qb,Qc,Qd,Qe,Qf,Qg,reduceCtorEq, *,-hix]
 |with_reducible refine fun(bn:Bool) hbn=>?_))
  all_goals trace_state
theorem JjC(M:List (Key×Res))(k_kind:Int)(k_name:List UInt8):CallR Tryz.prog 121 [.agg [.int .i64 k_kind,.str k_name],.ro [.mp (Jo M) (Js M)]] (.val (.bool (Jy M (⟨k_kind,k_name⟩:Key)).isSome)):=by
 rw[←Jks]
 cases hix:JB (⟨k_kind,k_name⟩:Key) M with
 |some j =>
  obtain⟨hj,hg⟩:=Ja0 hix
  have hv:∀z:AV,Yh false z (Js M) (some j)=.agg [.int .i64 (M[j]).2.kind,.str (M[j]).2.name,.int .i64 (M[j]).2.ver,.int .i64 (M[j]).2.port,.str (M[j]).2.to',.slice false (Ja (M[j]).2.rules'),.slice false (Ja (M[j]).2.hosts)]:=fun z=>by
   have:(Js M).getD j .any=Dat.av (M[j]).2:=by simp[Js,Ja,hj]
   exact this
  refine CallR.go2 (T:=T) Tryz.call121 Tryz.func121 rfl Tryz.ntmps121 (congrArg Array.toList Tryz.results121) (by decide) fun ts hn h0 h1=>?_
  (repeat' (first
 | (with_reducible first|assumption|(refine Qw hK _ ?_;clear hK K)|refine Qw ‹_› _ ?_|refine Nx.out ‹_› ?_|refine Qi fun K hK=>?_|refine Qj T fun K hK=>?_|refine Ql fun A B hA hB=>?_|refine Qn ?_|refine Qr ?_)
 | ((with_reducible first|apply Qy|apply Qz|apply QA)<;>intro hb<;>try simp only[nr] at hb)
 |simp only[go_sem,↓reduceIte,reduceIte,Qa,Qh,Qb,Qc,Qd,Qe,Qf,Qg,reduceCtorEq, *,-hg]
 |with_reducible refine fun(bn:Bool) hbn=>?_))
  all_goals trace_state
 |none =>
  refine CallR.go2 (T:=T) Tryz.call121 Tryz.func121 rfl Tryz.ntmps121 (congrArg Array.toList Tryz.results121) (by decide) fun ts hn h0 h1=>?_
  (repeat' (first
 | (with_reducible first|assumption|(refine Qw hK _ ?_;clear hK K)|refine Qw ‹_› _ ?_|refine Nx.out ‹_› ?_|refine Qi fun K hK=>?_|refine Qj T fun K hK=>?_|refine Ql fun A B hA hB=>?_|refine Qn ?_|refine Qr ?_)
 | ((with_reducible first|apply Qy|apply Qz|apply QA)<;>intro hb<;>try simp only[nr] at hb)
 |simp only[go_sem,↓reduceIte,reduceIte,Qa,Qh,Qb,Qc,Qd,Qe,Qf,Qg,reduceCtorEq, *]
 |with_reducible refine fun(bn:Bool) hbn=>?_))
  all_goals trace_state
theorem Jkg{l:List Res}{p:Key×Res}(h:p∈Vc l):p.2∈l:=by
 induction l with
 |nil=>simp[Vc] at h
 |cons r l ih =>
  unfold Vc JQ at h
  split at h
  ·rcases List.mem_or_eq_of_mem_set h with h|rfl
   ·exact List.mem_cons_of_mem _ (ih h)
   ·exact List.mem_cons_self
  ·rcases List.mem_append.1 h with h|h
   ·exact List.mem_cons_of_mem _ (ih h)
   ·rw[List.mem_singleton] at h;subst h;exact List.mem_cons_self
theorem JaT(xs ys:List Res)(hl:Jc xs.length)(hl2:Jc ys.length)(hs:∀r∈xs,Jw r):CallR Tryz.prog 58 [.slice false (Ja xs),.slice false (Ja ys)] (.val (.tup [.slice false (Ja (JA xs ys)),.slice false (Ja (JD xs ys))])):=by
 have w1:=JeA xs hl
 have w2:=JeA ys hl2
 have hf:=JbN 119 [.ro [.mp (Jo (Vc xs)) (Js (Vc xs))]] (JfZ _) (fun r=>!decide (Jy (Vc xs) (Je r)=some r)) ys (fun x _=>JjB (Vc xs) x.kind x.name x.ver x.port x.to' x.rules' x.hosts fun p hp=>hs _ (Jkg hp)) hl2
 have hkl:Jc (xs.map Je).length:=by simpa using hl
 have hlk:(xs.map Je).length=xs.length:=List.length_map _
 have hd:=Jan 121 [.ro [.mp (Jo (Vc ys)) (Js (Vc ys))]] (JfZ _) (fun k=>(Jy (Vc ys) k).isSome) (xs.map Je) (fun x _=>JjC (Vc ys) x.kind x.name) hkl
 have e1:ys.filter (fun r=>!decide (Jy (Vc xs) (Je r)=some r))=JA xs ys:=by unfold JA;simp only[Jg0]
 have e2:(xs.map Je).filter (fun x=>!(Jy (Vc ys) x).isSome)=JD xs ys:=by unfold JD;simp only[Jg0]
 rw[e1] at hf
 rw[e2] at hd
 have htk:(xs.map Je).take xs.length=xs.map Je:=List.take_of_length_le (by omega)
 clear e1 e2 hs
 generalize Vc xs=M1 at *
 generalize Vc ys=M2 at *
 refine CallR.go2 (T:=T) Tryz.call58 Tryz.func58 rfl Tryz.ntmps58 (congrArg Array.toList Tryz.results58) (by decide) fun ts hn h0 h1=>?_
 (repeat' (first
 | (with_reducible first|refine callX.by (w1) ?_|refine callX.by (w2) ?_|refine callX.by (hf) ?_)
 | (with_reducible refine callX.mv ?_ ?_ ?_ (hd);(focus(simp only[go_sem,↓reduceIte,reduceIte,Qa,Qh,Qb,Qc,Qd,Qe,Qf,Qg,reduceCtorEq, *,-w1,-w2,-hf,-hd];first|done|rfl));(focus(simp only[go_sem,↓reduceIte,reduceIte,Qa,Qh,Qb,Qc,Qd,Qe,Qf,Qg,reduceCtorEq, *,-w1,-w2,-hf,-hd];first|done|rfl)))
 | (with_reducible first|refine callX.by (JeA _ ?_) ?_|refine callX.by (JbN _ _ ?_ _ _ ?_ ?_) ?_|refine callX.by (JmX _ ?_) ?_)
 | (with_reducible refine callX.mv ?_ ?_ ?_ (Jan ?_ ?_ ?_ ?_ ?_ ?_ ?_);(focus(simp only[go_sem,↓reduceIte,reduceIte,Qa,Qh,Qb,Qc,Qd,Qe,Qf,Qg,reduceCtorEq, *,-w1,-w2,-hf,-hd];first|done|rfl));(focus(simp only[go_sem,↓reduceIte,reduceIte,Qa,Qh,Qb,Qc,Qd,Qe,Qf,Qg,reduceCtorEq, *,-w1,-w2,-hf,-hd];first|done|rfl)))
 | (with_reducible first|assumption|(refine Qw hK _ ?_;clear hK K)|refine Qw ‹_› _ ?_|refine Nx.out ‹_› ?_|refine Qi fun K hK=>?_|refine Qj T fun K hK=>?_|refine Ql fun A B hA hB=>?_|refine Qn ?_|refine Qr ?_)
 | ((with_reducible first|apply Qy|apply Qz|apply QA)<;>intro hb<;>try simp only[nr] at hb)
 |simp only[go_sem,↓reduceIte,reduceIte,Qa,Qh,Qb,Qc,Qd,Qe,Qf,Qg,reduceCtorEq, *,-w1,-w2,-hf,-hd]
 |with_reducible refine fun(bn:Bool) hbn=>?_))
 all_goals trace_state
end Go.Proofs.YtmjkjmoeicnbnaaGreatDoor.Lg
