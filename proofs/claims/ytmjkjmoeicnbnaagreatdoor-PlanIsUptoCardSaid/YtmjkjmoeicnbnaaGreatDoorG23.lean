/- Parts of the proof, one behind the other. -/
import Derived.Test.YtmjkjmoeicnbnaaGreatDoorG22
namespace Go.Proofs.YtmjkjmoeicnbnaaGreatDoor.Lg
set_option maxRecDepth 100000
set_option linter.unusedVariables false
set_option linter.unusedSimpArgs false
open Go
theorem Jkv(a b:Key):-1≤Jv a b∧Jv a b≤1:=by
 have:=Jf2 a.name b.name
 rw[Jbx];repeat' split
 all_goals omega
theorem Jiz{l m:List Res}(h:Up (l.map Je))(hs:m.Sublist l):Up (m.map Je):=by
 unfold Up at *
 exact h.sublist (hs.map _)
theorem JkU{l:List Res}{r x:Res}:x∈J1 l r↔x=r∨(x∈l∧Je x≠Je r):=by
 have hr:=Jkv (Je x) (Je r)
 have hz:Jv (Je x) (Je r)=0↔Je x=Je r:=⟨ZY _ _,fun e=>by rw[e];have:=ZX (Je r) (Je r);omega⟩
 simp only[J1,J5,List.mem_append,List.mem_filter,List.mem_singleton,decide_eq_true_eq]
 rw[show(Je x≠Je r)↔¬Jv (Je x) (Je r)=0 from(not_congr hz).symm]
 constructor
 ·rintro((⟨h1,h2⟩|h)|⟨h1,h2⟩)
  ·exact .inr ⟨h1,by omega⟩
  ·exact .inl h
  ·exact .inr ⟨h1,by omega⟩
 ·rintro(h|⟨h1,h2⟩)
  ·exact .inl (.inr h)
  ·by_cases h3:Jv (Je x) (Je r)=-1
   ·exact .inl (.inl ⟨h1,h3⟩)
   ·exact .inr ⟨h1,by omega⟩
theorem Jpw{l:List Res}{r:Res}(h:Up (l.map Je)):Up ((J1 l r).map Je):=by
 unfold Up at *
 unfold J1 J5
 rw[List.map_append,List.map_append,List.pairwise_append,List.pairwise_append]
 refine⟨⟨h.sublist (List.filter_sublist.map _),by simp,?_⟩,h.sublist (List.filter_sublist.map _),?_⟩
 ·intro a ha b hb
  simp only[List.mem_map,List.mem_filter,decide_eq_true_eq] at ha
  obtain⟨x,⟨_,hx⟩,rfl⟩:=ha
  have:b=Je r:=by simpa using hb
  subst this;omega
 ·intro a ha b hb
  simp only[List.mem_append,List.mem_map,List.mem_filter,decide_eq_true_eq,List.mem_singleton] at ha hb
  obtain⟨y,⟨_,hy⟩,rfl⟩:=hb
  have hy':Jv (Je r) (Je y)<0:=by have:=ZX (Je y) (Je r);omega
  rcases ha with ⟨x,⟨_,hx⟩,rfl⟩|⟨x,rfl,rfl⟩
  ·exact Jau _ (Je r) _ (by omega) hy'
  ·exact hy'
theorem Jls{l:List Res}(h:Up (l.map Je))(adds:List Res)(gone:List Key):Up ((Y2 l adds gone).map Je):=by
 have h1:∀(gone:List Key) (l:List Res),Up (l.map Je)→Up ((gone.foldl J0 l).map Je):=by
  intro gone
  induction gone with
  |nil=>exact fun l h=>h
  |cons k g ih=>exact fun l h=>ih _ (Jiz h List.filter_sublist)
 have h2:∀(adds:List Res) (l:List Res),Up (l.map Je)→Up ((adds.foldl J1 l).map Je):=by
  intro adds
  induction adds with
  |nil=>exact fun l h=>h
  |cons r a ih=>exact fun l h=>ih _ (Jpw h)
 exact h2 _ _ (h1 _ _ h)
theorem JgZ{x:Res}:∀(adds:List Res) (l:List Res),(adds.map Je).Nodup→(x∈adds.foldl J1 l↔x∈adds∨(x∈l∧Je x ∉ adds.map Je))
 | [],l,_=>by simp
 |r :: a,l,h=>by
  rw[List.map_cons,List.nodup_cons] at h
  rw[List.foldl_cons,JgZ a (J1 l r) h.2,JkU,List.mem_cons,List.map_cons,List.mem_cons,not_or]
  constructor
  ·rintro(h1|⟨h1|⟨h1,h2⟩,h3⟩)
   ·exact .inl (.inr h1)
   ·exact .inl (.inl h1)
   ·exact .inr ⟨h1,h2,h3⟩
  ·rintro((h1|h1)|⟨h1,h2,h3⟩)
   ·subst h1;exact .inr ⟨.inl rfl,h.1⟩
   ·exact .inl h1
   ·exact .inr ⟨.inr ⟨h1,h2⟩,h3⟩
theorem JgY{x:Res}:∀(gone:List Key) (l:List Res),x∈gone.foldl J0 l↔x∈l∧Je x ∉ gone
 | [],l=>by simp
 |k :: g,l=>by
  rw[List.foldl_cons,JgY g,JkV,List.mem_cons,not_or,and_assoc]
theorem JkT{l adds:List Res}{gone:List Key}(h:(adds.map Je).Nodup){x:Res}:x∈Y2 l adds gone↔x∈adds∨(x∈l∧Je x ∉ gone∧Je x ∉ adds.map Je):=by
 unfold Y2
 rw[JgZ _ _ h,JgY,and_assoc]
def JA(a b:List Res):List Res:=b.filter fun r=>!decide (JF a (Je r)=some r)
def JD(a b:List Res):List Key:=(a.map Je).filter fun k=>!(JF b k).isSome
theorem JmO{a:List Res}(h:Up (a.map Je))(r:Res):JF a (Je r)=some r↔r∈a:=⟨fun e=>(Jfj e).1,fun e=>JmP (Jfn h) e⟩
theorem JkR{a b:List Res}(h:Up (a.map Je)){r:Res}:r∈JA a b↔r∈b∧r ∉ a:=by
 unfold JA
 rw[List.mem_filter]
 simp only[Bool.not_eq_true',decide_eq_false_iff_not,JmO h]
theorem mem_diffG{a b:List Res}{k:Key}:k∈JD a b↔k∈a.map Je∧k ∉ b.map Je:=by
 unfold JD
 rw[List.mem_filter,Jiq]
 simp
theorem Jb4(a b:List Res):(JA a b).Sublist b:=List.filter_sublist
theorem JcX(a b:List Res):(JD a b).Sublist (a.map Je):=List.filter_sublist
theorem JmL{b m:List Res}(h:Up (b.map Je))(hs:m.Sublist b):(m.map Je).Nodup:=Jfn (Jiz h hs)
structure Part(a b A:List Res)(G:List Key):Prop where
 ha:Up (a.map Je)
 hb:Up (b.map Je)
 hA:A.Sublist (JA a b)
 hG:G.Sublist (JD a b)
section step
variable {a b A:List Res} {G:List Key}
theorem Part.mem(h:Part a b A G){x:Res}:x∈Y2 a A G↔x∈A∨(x∈a∧Je x ∉ G∧Je x ∉ A.map Je):=JkT (JmL h.hb (h.hA.trans (Jb4 a b)))
theorem Part.up(h:Part a b A G):Up ((Y2 a A G).map Je):=Jls h.ha _ _
end step
end Go.Proofs.YtmjkjmoeicnbnaaGreatDoor.Lg
namespace Go.Proofs.YtmjkjmoeicnbnaaGreatDoor.Lg
set_option maxRecDepth 100000
set_option linter.unusedVariables false
set_option linter.unusedSimpArgs false
open Go
open Nat renaming reduceEqDiff → Qa, reduceLT → Qb, reduceLeDiff → Qc, reduceAdd → Qd, reduceMul → Qe, reduceSub → Qf, reduceBEq → Qg
open String renaming reduceEq → Qh
open SpecC renaming seqW → Qi, regW → Qj, drawW → Qk, condW → Ql, block → Qm, skip → Qn, exit → Qp, ret → Qr, loopF → Qs
open NxK renaming out → Qw
open Nx renaming out → Qx
open condK renaming split → Qy
open gK renaming split_t → Qz, split_f → QA
def Yp(b D:List Res)(k:Int):List Res:=(Vv D k).filter fun r=>decide (Je r∈(JX b).map Je)
def VS(G:List Key)(k:Int):List Key:=G.filter fun x=>decide (x.kind=k)
def Zw(a:List Res)(held G:List Key)(k:Int):List Key:=(VS G k).filter fun x=>!(decide (x∈held) || decide (0<(J4 a x).length))
def JN(a b:List Res)(held:List Key)(i:Nat):Step :=
 if i<3 then ⟨3-i,Yp b (JA a b) (3-i),[]⟩
 else if i=3 then ⟨0,Vv (JA a b) 0,VS (JD a b) 0⟩
 else if i<7 then ⟨7-i,Vv (JA a b) (7-i),[]⟩
 else ⟨i-6,[],Zw a held (JD a b) (i-6)⟩
def VM(s:Step):Bool:=decide (0<s.adds.length+s.gone.length)
def VD(a b:List Res)(held:List Key):Nat→Nat→Option Step
 |0,_=>none
 |n+1,i=>if VM (JN a b held i)=true then some (JN a b held i) else VD a b held n (i+1)
def Jz(a b:List Res)(held:List Key):Option Step:=VD a b held 10 0
def Vf(a:List Res)(s:Step):List Res:=Y2 a s.adds s.gone
def Vu(b:List Res)(held:List Key):Nat→List Res→List Step
 |0,_=>[]
 |n+1,a=>match Jz a b held with
  |none=>[]
  |some s=>s :: Vu b held n (Vf a s)
theorem Jgp{a b:List Res}{held:List Key}{s:Step}:∀ {n i:Nat},VD a b held n i=some s→∃j,i≤j∧j<i+n∧s=JN a b held j∧VM s=true∧∀m,i≤m→m<j→VM (JN a b held m)=false
 |0,i,h=>by cases h
 |n+1,i,h=>by
  unfold VD at h
  split at h
  ·rename_i hf
   cases h
   exact⟨i,Nat.le_refl _,by omega,rfl,hf,fun m h1 h2=>by omega⟩
  ·rename_i hf
   obtain⟨j,h1,h2,h3,h4,h5⟩:=Jgp h
   refine⟨j,by omega,by omega,h3,h4,fun m m1 m2=>?_⟩
   by_cases hm:m=i
   ·rw[hm];simpa using hf
   ·exact h5 m (by omega) m2
theorem Jel(b D:List Res)(k:Int):(Yp b D k).Sublist D:=List.filter_sublist.trans List.filter_sublist
theorem Jj0(a:List Res)(held G:List Key)(k:Int):(Zw a held G k).Sublist G:=List.filter_sublist.trans List.filter_sublist
theorem Jj3{s:Step}:VM s=false↔s.adds=[]∧s.gone=[]:=by
 unfold VM
 rw[decide_eq_false_iff_not,←List.length_eq_zero_iff,←List.length_eq_zero_iff]
 omega
theorem Jg8{a b:List Res}{held:List Key}{s:Step}(h:Jz a b held=some s):∃j,j<10∧s=JN a b held j∧VM s=true∧∀m,m<j→VM (JN a b held m)=false:=by
 obtain⟨j,_,h2,h3,h4,h5⟩:=Jgp h
 exact⟨j,by omega,h3,h4,fun m hm=>h5 m (Nat.zero_le _) hm⟩
def Kin(l:List Res):Prop:=∀r∈l,0≤r.kind∧r.kind≤3
theorem Jek{a:List Res}(ha:Up (a.map Je)):JA a a=[]∧JD a a=[]:=by
 constructor
 ·rw[List.eq_nil_iff_forall_not_mem];intro r hr;have:=(JkR ha).1 hr;exact this.2 this.1
 ·rw[List.eq_nil_iff_forall_not_mem];intro r hr;have:=mem_diffG.1 hr;exact this.2 this.1
theorem Jla{a b:List Res}(held:List Key)(h1:JA a b=[])(h2:JD a b=[]):Jz a b held=none:=by
 cases h:Jz a b held with
 |none=>rfl
 |some s =>
  obtain⟨j,_,h3,h4,_⟩:=Jg8 h
  exfalso
  have:VM s=false:=by
   rw[h3,Jj3]
   unfold JN
   simp only[h1,h2,Yp,Vv,VS,Zw]
   repeat' split
   all_goals simp
  rw[this] at h4;cases h4
inductive Chain(b:List Res)(held:List Key):List Res→List Step→List Res→Prop
 |nil (a:List Res):Jz a b held=none→Chain b held a [] a
 |cons (a:List Res) (s:Step) (l:List Step) (e:List Res):Jz a b held=some s→Chain b held (Vf a s) l e→Chain b held a (s :: l) e
@[go_sem] def Jah:List (List Nat×List Nat):=[([30],[33,34,35,36,37]),([31],[]),([32],[]),([33],[30,34,35,36,37]),([34],[30,33,35]),([35],[30,33,34]),([36],[30,33]),([37],[30,33])]
theorem JjD(a:List Res)(r:Res)(l:List Res):JA a (r :: l)=(if JF a (Je r)=some r then [] else [r])++JA a l:=by
 unfold JA
 rw[List.filter_cons]
 by_cases h:JF a (Je r)=some r<;>simp[h]
theorem JjE(r:Res)(l b:List Res):JD (r :: l) b=(if(JF b (Je r)).isSome=true then [] else [Je r])++JD l b:=by
 unfold JD
 rw[List.map_cons,List.filter_cons]
 cases h:(JF b (Je r)).isSome<;>simp
set_option maxHeartbeats 8000000 in
theorem Yb(xs ys:List Res)(hl:xs.length≤65536)(hl2:ys.length≤65536)(hs:∀r∈xs,Jw r):CallR Tryz.prog 99 [.slice false (Ja xs),.slice false (Ja ys)] (.val (.tup [.slice false (Ja (JA xs ys)),.slice false (Ja (JD xs ys))])):=by
 have hsl:=Yz hl
 have hsl2:=Yz hl2
 refine CallR.go2 (T:=T) Tryz.call99 Tryz.func99 rfl Tryz.ntmps99 (congrArg Array.toList Tryz.results99) (by decide) fun ts hn h0 h1=>?_
 (repeat' (first
 | (with_reducible first|refine callX.by (JC _ _ _ _ _ _ _) ?_|refine callX.by (YT _ _ _ ?_) ?_|refine callX.by (YO _ _ _ _ _ _ _ _ _ _ _ _ _ _ ?_ ?_ ?_) ?_|assumption|(refine Qw hK _ ?_;clear hK K)|refine Qw ‹_› _ ?_|refine Qx ‹_› ?_|refine Qi fun K hK=>?_|refine Qj T fun K hK=>?_|refine Qk (id:=6) T mixed Jah (by kernel_rfl) fun K hK=>?_|refine Ql fun A B hA hB=>?_|refine Qm ?_|refine Qn ?_|refine Qp ?_|refine Qr ?_)
 | ((with_reducible first|apply Qy|apply Qz|apply QA)<;>intro hb<;>try simp only[nr] at hb)
 |simp only[go_sem,↓reduceIte,reduceIte,Qa,Qh,Qb,Qc,Qd,Qe,Qf,Qg,reduceCtorEq, *,-hs]
 |with_reducible refine fun(bn:Bool) hbn=>?_))
 refine SpecC.ent (Ent.virt 6 7 (by simp only[go_sem,↓reduceIte,reduceIte,Qa,Qh,Qb,Qc,Qd,Qe,Qf,Qg,reduceCtorEq, *,-hs]) (by decide)) ?_
 refine Qs [0,1] (fun m ts'=>∃(i:Nat),∃(g:Nat),∃(zs:List Res),m=ys.length-i∧i≤ys.length∧zs.length≤i∧JA xs ys=zs++JA xs (ys.drop i)∧ts'.tmp 6=.os 6 g zs.length∧ts'.gen 6=g∧ts'.obj 6=.arr 7 (Ja zs)∧ts'.tmp 7=.int .i64 i) ys.length ?_ ?_
 ·refine⟨0,ts.gen 6+1,[],rfl,Nat.zero_le _,Nat.le_refl _,rfl,?_⟩
  simp only[go_sem,↓reduceIte,reduceIte,Qa,Qh,Qb,Qc,Qd,Qe,Qf,Qg,reduceCtorEq, *,-hs,Vo]
 ·rintro m A hM ts' hk ⟨i,g,zs,hm,f1,f2,f3,s1,s2,s3,s4⟩
  simp only[go_sem,↓reduceIte,reduceIte,Qa,Qh,Qb,Qc,Qd,Qe,Qf,Qg,reduceCtorEq, *] at hk
  by_cases hlt:i<ys.length
  ·rw[List.drop_eq_getElem_cons hlt,JjD] at f3
   have w1:=YT xs ys[i].kind ys[i].name hsl
   have w1:CallR Tryz.prog 134 [.slice false (Ja xs),.agg [.int .i64 ys[i].kind,.str ys[i].name]] (.val (.tup [Dat.av ((JF xs (Je ys[i])).getD Jbb),.bool (JF xs (Je ys[i])).isSome])):=w1
   have hr:JT (zs.length+1) 104:=Vt (by omega) (by decide)
   cases hg:JF xs (Je ys[i]) with
   |none =>
    rw[hg] at w1 f3
    rw[if_neg (by simp)] at f3
    rw[JbZ] at w1
    generalize (none:Option Res).getD Jbb=z at *
    (repeat' (first
 | (with_reducible first|refine callX.by (w1) ?_|refine callX.by (JC _ _ _ _ _ _ _) ?_|refine callX.by (YT _ _ _ ?_) ?_|refine callX.by (YO _ _ _ _ _ _ _ _ _ _ _ _ _ _ ?_ ?_ ?_) ?_|assumption|(refine Qw hK _ ?_;clear hK K)|refine Qw ‹_› _ ?_|refine Qx ‹_› ?_|refine Qi fun K hK=>?_|refine Qj T fun K hK=>?_|refine Qk (id:=6) T mixed Jah (by kernel_rfl) fun K hK=>?_|refine Ql fun A B hA hB=>?_|refine Qm ?_|refine Qn ?_|refine Qp ?_|refine Qr ?_)
 | ((with_reducible first|apply Qy|apply Qz|apply QA)<;>intro hb<;>try simp only[nr] at hb)
 |simp only[go_sem,↓reduceIte,reduceIte,Qa,Qh,Qb,Qc,Qd,Qe,Qf,Qg,reduceCtorEq, *,-hs,-w1,-f3,Option.isSome_none]
 |with_reducible refine fun(bn:Bool) hbn=>?_))
    all_goals ((repeat clear hK);(repeat clear hA);(repeat clear hB))
    all_goals (refine hM.onE (ys.length-(i+1)) (Ent.ren 6 47 ?_ ?_) ?_ ?_ ?_;(focus(simp only[go_sem,↓reduceIte,reduceIte,Qa,Qh,Qb,Qc,Qd,Qe,Qf,Qg,reduceCtorEq, *,Jd hlt hsl2,List.length_append,-hs,-w1,-f3];first|done|rfl));(focus(simp only[go_sem,↓reduceIte,reduceIte,Qa,Qh,Qb,Qc,Qd,Qe,Qf,Qg,reduceCtorEq, *,Jd hlt hsl2,List.length_append,-hs,-w1,-f3];first|done|rfl));omega;(focus(simp only[go_sem,↓reduceIte,reduceIte,Qa,Qh,Qb,Qc,Qd,Qe,Qf,Qg,reduceCtorEq, *,Jd hlt hsl2,List.length_append,-hs,-w1,-f3];done));refine⟨i+1,ts'.gen 6+1,zs++[ys[i]],rfl,by omega,by simp;omega,by rw[f3,List.append_assoc],?_⟩;simp only[go_sem,↓reduceIte,reduceIte,Qa,Qh,Qb,Qc,Qd,Qe,Qf,Qg,reduceCtorEq, *,Jd hlt hsl2,List.length_append,-hs,-w1,-f3];done)
   |some x =>
    rw[hg] at w1 f3
    rw[JbZ] at w1
    have hx:=hs x (Jfj hg).1
    have w2:=YO x.kind x.name x.ver x.port x.to' x.rules' x.hosts ys[i].kind ys[i].name ys[i].ver ys[i].port ys[i].to' ys[i].rules' ys[i].hosts hx.2.2.2.2 hx.2.2.1 hx.2.2.2.1
    have w2:CallR Tryz.prog 80 [.agg [.int .i64 x.kind,.str x.name,.int .i64 x.ver,.int .i64 x.port,.str x.to',.slice false (Ja x.rules'),.slice false (Ja x.hosts)],.agg [.int .i64 ys[i].kind,.str ys[i].name,.int .i64 ys[i].ver,.int .i64 ys[i].port,.str ys[i].to',.slice false (Ja ys[i].rules'),.slice false (Ja ys[i].hosts)]] (.val (.bool (decide (x=ys[i])))):=w2
    by_cases he:x=ys[i]
    ·rw[decide_eq_true he] at w2
     rw[if_pos (by rw[he]),List.nil_append] at f3
     clear he
     (repeat' (first
 | (with_reducible first|refine callX.by (w1) ?_|refine callX.by (w2) ?_|refine callX.by (JC _ _ _ _ _ _ _) ?_|refine callX.by (YT _ _ _ ?_) ?_|refine callX.by (YO _ _ _ _ _ _ _ _ _ _ _ _ _ _ ?_ ?_ ?_) ?_|assumption|(refine Qw hK _ ?_;clear hK K)|refine Qw ‹_› _ ?_|refine Qx ‹_› ?_|refine Qi fun K hK=>?_|refine Qj T fun K hK=>?_|refine Qk (id:=6) T mixed Jah (by kernel_rfl) fun K hK=>?_|refine Ql fun A B hA hB=>?_|refine Qm ?_|refine Qn ?_|refine Qp ?_|refine Qr ?_)
 | ((with_reducible first|apply Qy|apply Qz|apply QA)<;>intro hb<;>try simp only[nr] at hb)
 |simp only[go_sem,↓reduceIte,reduceIte,Qa,Qh,Qb,Qc,Qd,Qe,Qf,Qg,reduceCtorEq, *,-hs,-w1,-w2,-f3,-hx,Option.isSome_some,Option.getD_some]
 |with_reducible refine fun(bn:Bool) hbn=>?_))
     all_goals ((repeat clear hK);(repeat clear hA);(repeat clear hB))
     all_goals (refine hM.on (ys.length-(i+1)) (by omega) (by simp only[go_sem,↓reduceIte,reduceIte,Qa,Qh,Qb,Qc,Qd,Qe,Qf,Qg,reduceCtorEq, *,Jd hlt hsl2,-hs,-w1,-w2,-f3,-hx]) ⟨i+1,g,zs,rfl,by omega,by omega,f3,?_⟩;simp only[go_sem,↓reduceIte,reduceIte,Qa,Qh,Qb,Qc,Qd,Qe,Qf,Qg,reduceCtorEq, *,Jd hlt hsl2,-hs,-w1,-w2,-f3,-hx];done)
    ·rw[decide_eq_false he] at w2
     rw[if_neg (by simpa using he)] at f3
     clear he
     (repeat' (first
 | (with_reducible first|refine callX.by (w1) ?_|refine callX.by (w2) ?_|refine callX.by (JC _ _ _ _ _ _ _) ?_|refine callX.by (YT _ _ _ ?_) ?_|refine callX.by (YO _ _ _ _ _ _ _ _ _ _ _ _ _ _ ?_ ?_ ?_) ?_|assumption|(refine Qw hK _ ?_;clear hK K)|refine Qw ‹_› _ ?_|refine Qx ‹_› ?_|refine Qi fun K hK=>?_|refine Qj T fun K hK=>?_|refine Qk (id:=6) T mixed Jah (by kernel_rfl) fun K hK=>?_|refine Ql fun A B hA hB=>?_|refine Qm ?_|refine Qn ?_|refine Qp ?_|refine Qr ?_)
 | ((with_reducible first|apply Qy|apply Qz|apply QA)<;>intro hb<;>try simp only[nr] at hb)
 |simp only[go_sem,↓reduceIte,reduceIte,Qa,Qh,Qb,Qc,Qd,Qe,Qf,Qg,reduceCtorEq, *,-hs,-w1,-w2,-f3,-hx,Option.isSome_some,Option.getD_some]
 |with_reducible refine fun(bn:Bool) hbn=>?_))
     all_goals ((repeat clear hK);(repeat clear hA);(repeat clear hB))
     all_goals (refine hM.onE (ys.length-(i+1)) (Ent.ren 6 47 ?_ ?_) ?_ ?_ ?_;(focus(simp only[go_sem,↓reduceIte,reduceIte,Qa,Qh,Qb,Qc,Qd,Qe,Qf,Qg,reduceCtorEq, *,Jd hlt hsl2,List.length_append,-hs,-w1,-w2,-f3,-hx];first|done|rfl));(focus(simp only[go_sem,↓reduceIte,reduceIte,Qa,Qh,Qb,Qc,Qd,Qe,Qf,Qg,reduceCtorEq, *,Jd hlt hsl2,List.length_append,-hs,-w1,-w2,-f3,-hx];first|done|rfl));omega;(focus(simp only[go_sem,↓reduceIte,reduceIte,Qa,Qh,Qb,Qc,Qd,Qe,Qf,Qg,reduceCtorEq, *,Jd hlt hsl2,List.length_append,-hs,-w1,-w2,-f3,-hx];done));refine⟨i+1,ts'.gen 6+1,zs++[ys[i]],rfl,by omega,by simp;omega,by rw[f3,List.append_assoc],?_⟩;simp only[go_sem,↓reduceIte,reduceIte,Qa,Qh,Qb,Qc,Qd,Qe,Qf,Qg,reduceCtorEq, *,Jd hlt hsl2,List.length_append,-hs,-w1,-w2,-f3,-hx];done)
  ·rw[List.drop_eq_nil_of_le (by omega),show JA xs []=[] from rfl,List.append_nil] at f3
   have hDA:JA xs ys=zs:=f3
   clear f3 hM hm
   have hzl:zs.length≤ys.length:=by omega
   (repeat' (first
 | (with_reducible first|refine callX.by (JC _ _ _ _ _ _ _) ?_|refine callX.by (YT _ _ _ ?_) ?_|refine callX.by (YO _ _ _ _ _ _ _ _ _ _ _ _ _ _ ?_ ?_ ?_) ?_|assumption|(refine Qw hK _ ?_;clear hK K)|refine Qw ‹_› _ ?_|refine Qx ‹_› ?_|refine Qi fun K hK=>?_|refine Qj T fun K hK=>?_|refine Qk (id:=6) T mixed Jah (by kernel_rfl) fun K hK=>?_|refine Ql fun A B hA hB=>?_|refine Qm ?_|refine Qn ?_|refine Qp ?_|refine Qr ?_)
 | ((with_reducible first|apply Qy|apply Qz|apply QA)<;>intro hb<;>try simp only[nr] at hb)
 |simp only[go_sem,↓reduceIte,reduceIte,Qa,Qh,Qb,Qc,Qd,Qe,Qf,Qg,reduceCtorEq, *,-hs,-hDA]
 |with_reducible refine fun(bn:Bool) hbn=>?_))
   refine SpecC.ent (Ent.frz 6 (d:=6) (g:=g) (len:=zs.length) (sz:=7) (xs:=Ja zs) (by simp only[go_sem,↓reduceIte,reduceIte,Qa,Qh,Qb,Qc,Qd,Qe,Qf,Qg,reduceCtorEq, *,-hs,-hDA];done) (by simp only[go_sem,↓reduceIte,reduceIte,Qa,Qh,Qb,Qc,Qd,Qe,Qf,Qg,reduceCtorEq, *,-hs,-hDA];done) (by simp only[go_sem,↓reduceIte,reduceIte,Qa,Qh,Qb,Qc,Qd,Qe,Qf,Qg,reduceCtorEq, *,-hs,-hDA];done) (by simp only[go_sem,↓reduceIte,reduceIte,Qa,Qh,Qb,Qc,Qd,Qe,Qf,Qg,reduceCtorEq, *,-hs,-hDA];done)) ?_
   refine SpecC.ent (Ent.virt 10 2 (by simp only[go_sem,↓reduceIte,reduceIte,Qa,Qh,Qb,Qc,Qd,Qe,Qf,Qg,reduceCtorEq, *,-hs,-hDA]) (by decide)) ?_
   refine Qs [0,1,6] (fun m ts'=>∃(j:Nat),∃(g2:Nat),∃(ks:List Key),m=xs.length-j∧j≤xs.length∧ks.length≤j∧JD xs ys=ks++JD (xs.drop j) ys∧ts'.tmp 6=.slice false (Ja zs)∧ts'.tmp 10=.os 10 g2 ks.length∧ts'.gen 10=g2∧ts'.obj 10=.arr 2 (Ja ks)∧ts'.tmp 11=.int .i64 j) xs.length ?_ ?_
   ·refine⟨0,ts'.gen 10+1,[],rfl,Nat.zero_le _,Nat.le_refl _,rfl,?_⟩
    simp only[go_sem,↓reduceIte,reduceIte,Qa,Qh,Qb,Qc,Qd,Qe,Qf,Qg,reduceCtorEq, *,-hs,-hDA,Vo]
    all_goals trace_state
   ·rintro m A hM ts' hk ⟨j,g2,ks,hm,f1,f2,f3,s1,s2,s3,s4,s5⟩
    simp only[go_sem,↓reduceIte,reduceIte,Qa,Qh,Qb,Qc,Qd,Qe,Qf,Qg,reduceCtorEq, *] at hk
    by_cases hlt2:j<xs.length
    ·rw[List.drop_eq_getElem_cons hlt2,JjE] at f3
     have w1:=YT ys xs[j].kind xs[j].name hsl2
     have w1:CallR Tryz.prog 134 [.slice false (Ja ys),.agg [.int .i64 xs[j].kind,.str xs[j].name]] (.val (.tup [Dat.av ((JF ys (Je xs[j])).getD Jbb),.bool (JF ys (Je xs[j])).isSome])):=w1
     rw[JbZ] at w1
     generalize (JF ys (Je xs[j])).getD Jbb=z at *
     have hr:JT (ks.length+1) 24:=Vt (by omega) (by decide)
     cases hg:(JF ys (Je xs[j])).isSome
     ·rw[hg] at w1 f3
      rw[if_neg (by simp)] at f3
      (repeat' (first
 | (with_reducible first|refine callX.by (w1) ?_|refine callX.by (JC _ _ _ _ _ _ _) ?_|refine callX.by (YT _ _ _ ?_) ?_|refine callX.by (YO _ _ _ _ _ _ _ _ _ _ _ _ _ _ ?_ ?_ ?_) ?_|assumption|(refine Qw hK _ ?_;clear hK K)|refine Qw ‹_› _ ?_|refine Qx ‹_› ?_|refine Qi fun K hK=>?_|refine Qj T fun K hK=>?_|refine Qk (id:=6) T mixed Jah (by kernel_rfl) fun K hK=>?_|refine Ql fun A B hA hB=>?_|refine Qm ?_|refine Qn ?_|refine Qp ?_|refine Qr ?_)
 | ((with_reducible first|apply Qy|apply Qz|apply QA)<;>intro hb<;>try simp only[nr] at hb)
 |simp only[go_sem,↓reduceIte,reduceIte,Qa,Qh,Qb,Qc,Qd,Qe,Qf,Qg,reduceCtorEq, *,-hs,-hDA,-w1,-f3]
 |with_reducible refine fun(bn:Bool) hbn=>?_))
      all_goals ((repeat clear hK);(repeat clear hA);(repeat clear hB))
      all_goals (refine hM.onE (xs.length-(j+1)) (Ent.ren 10 73 ?_ ?_) ?_ ?_ ?_;(focus(simp only[go_sem,↓reduceIte,reduceIte,Qa,Qh,Qb,Qc,Qd,Qe,Qf,Qg,reduceCtorEq, *,Jd hlt2 hsl,List.length_append,Je,-hs,-hDA,-w1,-f3];first|done|rfl));(focus(simp only[go_sem,↓reduceIte,reduceIte,Qa,Qh,Qb,Qc,Qd,Qe,Qf,Qg,reduceCtorEq, *,Jd hlt2 hsl,List.length_append,Je,-hs,-hDA,-w1,-f3];first|done|rfl));omega;(focus(simp only[go_sem,↓reduceIte,reduceIte,Qa,Qh,Qb,Qc,Qd,Qe,Qf,Qg,reduceCtorEq, *,Jd hlt2 hsl,List.length_append,Je,-hs,-hDA,-w1,-f3];done));refine⟨j+1,ts'.gen 10+1,ks++[Je xs[j]],rfl,by omega,by simp;omega,by rw[f3,List.append_assoc],?_⟩;simp only[go_sem,↓reduceIte,reduceIte,Qa,Qh,Qb,Qc,Qd,Qe,Qf,Qg,reduceCtorEq, *,Jd hlt2 hsl,List.length_append,Je,-hs,-hDA,-w1,-f3];done)
     ·rw[hg] at w1 f3
      rw[if_pos rfl,List.nil_append] at f3
      (repeat' (first
 | (with_reducible first|refine callX.by (w1) ?_|refine callX.by (JC _ _ _ _ _ _ _) ?_|refine callX.by (YT _ _ _ ?_) ?_|refine callX.by (YO _ _ _ _ _ _ _ _ _ _ _ _ _ _ ?_ ?_ ?_) ?_|assumption|(refine Qw hK _ ?_;clear hK K)|refine Qw ‹_› _ ?_|refine Qx ‹_› ?_|refine Qi fun K hK=>?_|refine Qj T fun K hK=>?_|refine Qk (id:=6) T mixed Jah (by kernel_rfl) fun K hK=>?_|refine Ql fun A B hA hB=>?_|refine Qm ?_|refine Qn ?_|refine Qp ?_|refine Qr ?_)
 | ((with_reducible first|apply Qy|apply Qz|apply QA)<;>intro hb<;>try simp only[nr] at hb)
 |simp only[go_sem,↓reduceIte,reduceIte,Qa,Qh,Qb,Qc,Qd,Qe,Qf,Qg,reduceCtorEq, *,-hs,-hDA,-w1,-f3]
 |with_reducible refine fun(bn:Bool) hbn=>?_))
      all_goals ((repeat clear hK);(repeat clear hA);(repeat clear hB))
      all_goals (refine hM.on (xs.length-(j+1)) (by omega) (by simp only[go_sem,↓reduceIte,reduceIte,Qa,Qh,Qb,Qc,Qd,Qe,Qf,Qg,reduceCtorEq, *,Jd hlt2 hsl,-hs,-hDA,-w1,-f3]) ⟨j+1,g2,ks,rfl,by omega,by omega,f3,?_⟩;simp only[go_sem,↓reduceIte,reduceIte,Qa,Qh,Qb,Qc,Qd,Qe,Qf,Qg,reduceCtorEq, *,Jd hlt2 hsl,-hs,-hDA,-w1,-f3];done)
    ·rw[List.drop_eq_nil_of_le (by omega),show JD [] ys=[] from rfl,List.append_nil] at f3
     (repeat' (first
 | (with_reducible first|refine callX.by (JC _ _ _ _ _ _ _) ?_|refine callX.by (YT _ _ _ ?_) ?_|refine callX.by (YO _ _ _ _ _ _ _ _ _ _ _ _ _ _ ?_ ?_ ?_) ?_|assumption|(refine Qw hK _ ?_;clear hK K)|refine Qw ‹_› _ ?_|refine Qx ‹_› ?_|refine Qi fun K hK=>?_|refine Qj T fun K hK=>?_|refine Qk (id:=6) T mixed Jah (by kernel_rfl) fun K hK=>?_|refine Ql fun A B hA hB=>?_|refine Qm ?_|refine Qn ?_|refine Qp ?_|refine Qr ?_)
 | ((with_reducible first|apply Qy|apply Qz|apply QA)<;>intro hb<;>try simp only[nr] at hb)
 |simp only[go_sem,↓reduceIte,reduceIte,Qa,Qh,Qb,Qc,Qd,Qe,Qf,Qg,reduceCtorEq, *,-hs,-hDA,-f3]
 |with_reducible refine fun(bn:Bool) hbn=>?_))
     all_goals (rw[f3];exact⟨by rw[hDA],rfl⟩)
def Za(l:List Res)(k:Int)(Kx:List Key)(al:Bool):List Res:=l.filter fun r=>decide (r.kind=k) && (al || decide (Je r∈Kx))
theorem JiT(r:Res)(l:List Res)(k:Int)(Kx:List Key)(al:Bool):Za (r :: l) k Kx al=(if r.kind=k∧(al=true∨Je r∈Kx) then [r] else [])++Za l k Kx al:=by
 unfold Za
 rw[List.filter_cons]
 by_cases h:r.kind=k∧(al=true∨Je r∈Kx)
 ·rw[if_pos (by simpa using h),if_pos h];rfl
 ·rw[if_neg (by simpa using h),if_neg h];rfl
set_option maxHeartbeats 4000000 in
theorem YC(l:List Res)(k:Int)(Kx:List Key)(al:Bool)(hl:l.length≤65536)(hK:Jc Kx.length):CallR Tryz.prog 100 [.slice false (Ja l),.int .i64 k,.slice false (Ja Kx),.bool al] (.own 7 (Ja (Za l k Kx al))):=by
 have hsl:=Yz hl
 have hKs:=hK
 clear hK
 refine CallR.go4 (T:=T) Tryz.call100 Tryz.func100 rfl Tryz.ntmps100 (congrArg Array.toList Tryz.results100) (by decide) fun ts hn h0 h1 h2 h3=>?_
 (repeat' (first
 | (with_reducible first|refine callX.by (JC _ _ _ _ _ _ _) ?_|refine callX.by (JJ _ _ _ ?_) ?_|assumption|(refine Qw hK _ ?_;clear hK K)|refine Qw ‹_› _ ?_|refine Qx ‹_› ?_|refine Qi fun K hK=>?_|refine Qj T fun K hK=>?_|refine Ql fun A B hA hB=>?_|refine Qm ?_|refine Qn ?_|refine Qp ?_|refine Qr ?_)
 | ((with_reducible first|apply Qy|apply Qz|apply QA)<;>intro hb<;>try simp only[nr] at hb)
 |simp only[go_sem,↓reduceIte,reduceIte,Qa,Qh,Qb,Qc,Qd,Qe,Qf,Qg,reduceCtorEq, *]
 |with_reducible refine fun(bn:Bool) hbn=>?_))
 refine SpecC.ent (Ent.virt 9 7 (by simp only[go_sem,↓reduceIte,reduceIte,Qa,Qh,Qb,Qc,Qd,Qe,Qf,Qg,reduceCtorEq, *]) (by decide)) ?_
 refine Qs [0,1,2,3] (fun m ts'=>∃(i:Nat),∃(g:Nat),∃(ys:List Res),m=l.length-i∧i≤l.length∧ys.length≤i∧Za l k Kx al=ys++Za (l.drop i) k Kx al∧ts'.tmp 9=.os 9 g ys.length∧ts'.gen 9=g∧ts'.obj 9=.arr 7 (Ja ys)∧ts'.tmp 10=.int .i64 i) l.length ?_ ?_
 ·refine⟨0,ts.gen 9+1,[],rfl,Nat.zero_le _,Nat.le_refl _,rfl,?_⟩
  simp only[go_sem,↓reduceIte,reduceIte,Qa,Qh,Qb,Qc,Qd,Qe,Qf,Qg,reduceCtorEq, *,Vo]
 ·rintro m A hM ts' hk ⟨i,g,ys,hm,f1,f2,f3,s1,s2,s3,s4⟩
  simp only[go_sem,↓reduceIte,reduceIte,Qa,Qh,Qb,Qc,Qd,Qe,Qf,Qg,reduceCtorEq, *] at hk
  by_cases hlt:i<l.length
  ·rw[List.drop_eq_getElem_cons hlt,JiT] at f3
   have w2:=JJ Kx l[i].kind l[i].name hKs
   have w2:CallR Tryz.prog 64 [.slice false (Ja Kx),.agg [.int .i64 l[i].kind,.str l[i].name]] (.val (.bool (decide (Je l[i]∈Kx)))):=w2
   have hr:JT (ys.length+1) 104:=Vt (by omega) (by decide)
   generalize hkm:decide (Je l[i]∈Kx)=km at *
   by_cases hkq:l[i].kind=k
   ·have hdk:decide (l[i].kind=k)=true:=decide_eq_true hkq
    cases al
    ·cases km
     ·rw[if_neg (by rintro⟨_,h|h⟩;exact absurd h (by simp);exact of_decide_eq_false hkm h),List.nil_append] at f3
      clear hkm hkq
      (repeat' (first
 | (with_reducible first|refine callX.by (w2) ?_|refine callX.by (JC _ _ _ _ _ _ _) ?_|refine callX.by (JJ _ _ _ ?_) ?_|assumption|(refine Qw hK _ ?_;clear hK K)|refine Qw ‹_› _ ?_|refine Qx ‹_› ?_|refine Qi fun K hK=>?_|refine Qj T fun K hK=>?_|refine Ql fun A B hA hB=>?_|refine Qm ?_|refine Qn ?_|refine Qp ?_|refine Qr ?_)
 | ((with_reducible first|apply Qy|apply Qz|apply QA)<;>intro hb<;>try simp only[nr] at hb)
 |simp only[go_sem,↓reduceIte,reduceIte,Qa,Qh,Qb,Qc,Qd,Qe,Qf,Qg,reduceCtorEq, *,-w2,-f3]
 |with_reducible refine fun(bn:Bool) hbn=>?_))
      all_goals ((repeat clear hK);(repeat clear hA);(repeat clear hB))
      all_goals (refine hM.on (l.length-(i+1)) (by omega) (by simp only[go_sem,↓reduceIte,reduceIte,Qa,Qh,Qb,Qc,Qd,Qe,Qf,Qg,reduceCtorEq, *,Jd hlt hsl,-w2,-f3]) ⟨i+1,g,ys,rfl,by omega,by omega,f3,?_⟩;simp only[go_sem,↓reduceIte,reduceIte,Qa,Qh,Qb,Qc,Qd,Qe,Qf,Qg,reduceCtorEq, *,Jd hlt hsl,-w2,-f3];done)
     ·rw[if_pos ⟨hkq,.inr (of_decide_eq_true hkm)⟩] at f3
      clear hkm hkq
      (repeat' (first
 | (with_reducible first|refine callX.by (w2) ?_|refine callX.by (JC _ _ _ _ _ _ _) ?_|refine callX.by (JJ _ _ _ ?_) ?_|assumption|(refine Qw hK _ ?_;clear hK K)|refine Qw ‹_› _ ?_|refine Qx ‹_› ?_|refine Qi fun K hK=>?_|refine Qj T fun K hK=>?_|refine Ql fun A B hA hB=>?_|refine Qm ?_|refine Qn ?_|refine Qp ?_|refine Qr ?_)
 | ((with_reducible first|apply Qy|apply Qz|apply QA)<;>intro hb<;>try simp only[nr] at hb)
 |simp only[go_sem,↓reduceIte,reduceIte,Qa,Qh,Qb,Qc,Qd,Qe,Qf,Qg,reduceCtorEq, *,-w2,-f3]
 |with_reducible refine fun(bn:Bool) hbn=>?_))
      all_goals ((repeat clear hK);(repeat clear hA);(repeat clear hB))
      all_goals (refine hM.onE (l.length-(i+1)) (Ent.ren 9 42 ?_ ?_) ?_ ?_ ?_;(focus(simp only[go_sem,↓reduceIte,reduceIte,Qa,Qh,Qb,Qc,Qd,Qe,Qf,Qg,reduceCtorEq, *,Jd hlt hsl,List.length_append,-w2,-f3];first|done|rfl));(focus(simp only[go_sem,↓reduceIte,reduceIte,Qa,Qh,Qb,Qc,Qd,Qe,Qf,Qg,reduceCtorEq, *,Jd hlt hsl,List.length_append,-w2,-f3];first|done|rfl));omega;(focus(simp only[go_sem,↓reduceIte,reduceIte,Qa,Qh,Qb,Qc,Qd,Qe,Qf,Qg,reduceCtorEq, *,Jd hlt hsl,List.length_append,-w2,-f3];done));refine⟨i+1,ts'.gen 9+1,ys++[l[i]],rfl,by omega,by simp;omega,by rw[f3,List.append_assoc],?_⟩;simp only[go_sem,↓reduceIte,reduceIte,Qa,Qh,Qb,Qc,Qd,Qe,Qf,Qg,reduceCtorEq, *,Jd hlt hsl,List.length_append,-w2,-f3];done)
    ·rw[if_pos ⟨hkq,.inl rfl⟩] at f3
     clear hkm hkq
     (repeat' (first
 | (with_reducible first|refine callX.by (w2) ?_|refine callX.by (JC _ _ _ _ _ _ _) ?_|refine callX.by (JJ _ _ _ ?_) ?_|assumption|(refine Qw hK _ ?_;clear hK K)|refine Qw ‹_› _ ?_|refine Qx ‹_› ?_|refine Qi fun K hK=>?_|refine Qj T fun K hK=>?_|refine Ql fun A B hA hB=>?_|refine Qm ?_|refine Qn ?_|refine Qp ?_|refine Qr ?_)
 | ((with_reducible first|apply Qy|apply Qz|apply QA)<;>intro hb<;>try simp only[nr] at hb)
 |simp only[go_sem,↓reduceIte,reduceIte,Qa,Qh,Qb,Qc,Qd,Qe,Qf,Qg,reduceCtorEq, *,-w2,-f3]
 |with_reducible refine fun(bn:Bool) hbn=>?_))
     all_goals ((repeat clear hK);(repeat clear hA);(repeat clear hB))
     all_goals (refine hM.onE (l.length-(i+1)) (Ent.ren 9 42 ?_ ?_) ?_ ?_ ?_;(focus(simp only[go_sem,↓reduceIte,reduceIte,Qa,Qh,Qb,Qc,Qd,Qe,Qf,Qg,reduceCtorEq, *,Jd hlt hsl,List.length_append,-w2,-f3];first|done|rfl));(focus(simp only[go_sem,↓reduceIte,reduceIte,Qa,Qh,Qb,Qc,Qd,Qe,Qf,Qg,reduceCtorEq, *,Jd hlt hsl,List.length_append,-w2,-f3];first|done|rfl));omega;(focus(simp only[go_sem,↓reduceIte,reduceIte,Qa,Qh,Qb,Qc,Qd,Qe,Qf,Qg,reduceCtorEq, *,Jd hlt hsl,List.length_append,-w2,-f3];done));refine⟨i+1,ts'.gen 9+1,ys++[l[i]],rfl,by omega,by simp;omega,by rw[f3,List.append_assoc],?_⟩;simp only[go_sem,↓reduceIte,reduceIte,Qa,Qh,Qb,Qc,Qd,Qe,Qf,Qg,reduceCtorEq, *,Jd hlt hsl,List.length_append,-w2,-f3];done)
   ·have hdk:decide (l[i].kind=k)=false:=decide_eq_false hkq
    rw[if_neg (fun h=>hkq h.1),List.nil_append] at f3
    clear hkm
    (repeat' (first
 | (with_reducible first|refine callX.by (w2) ?_|refine callX.by (JC _ _ _ _ _ _ _) ?_|refine callX.by (JJ _ _ _ ?_) ?_|assumption|(refine Qw hK _ ?_;clear hK K)|refine Qw ‹_› _ ?_|refine Qx ‹_› ?_|refine Qi fun K hK=>?_|refine Qj T fun K hK=>?_|refine Ql fun A B hA hB=>?_|refine Qm ?_|refine Qn ?_|refine Qp ?_|refine Qr ?_)
 | ((with_reducible first|apply Qy|apply Qz|apply QA)<;>intro hb<;>try simp only[nr] at hb)
 |simp only[go_sem,↓reduceIte,reduceIte,Qa,Qh,Qb,Qc,Qd,Qe,Qf,Qg,reduceCtorEq, *,-w2,-f3]
 |with_reducible refine fun(bn:Bool) hbn=>?_))
    all_goals ((repeat clear hK);(repeat clear hA);(repeat clear hB))
    all_goals (refine hM.on (l.length-(i+1)) (by omega) (by simp only[go_sem,↓reduceIte,reduceIte,Qa,Qh,Qb,Qc,Qd,Qe,Qf,Qg,reduceCtorEq, *,Jd hlt hsl,-w2,-f3]) ⟨i+1,g,ys,rfl,by omega,by omega,f3,?_⟩;simp only[go_sem,↓reduceIte,reduceIte,Qa,Qh,Qb,Qc,Qd,Qe,Qf,Qg,reduceCtorEq, *,Jd hlt hsl,-w2,-f3];done)
  ·rw[List.drop_eq_nil_of_le (by omega),show Za [] k Kx al=[] from rfl,List.append_nil] at f3
   (repeat' (first
 | (with_reducible first|refine callX.by (JC _ _ _ _ _ _ _) ?_|refine callX.by (JJ _ _ _ ?_) ?_|assumption|(refine Qw hK _ ?_;clear hK K)|refine Qw ‹_› _ ?_|refine Qx ‹_› ?_|refine Qi fun K hK=>?_|refine Qj T fun K hK=>?_|refine Ql fun A B hA hB=>?_|refine Qm ?_|refine Qn ?_|refine Qp ?_|refine Qr ?_)
 | ((with_reducible first|apply Qy|apply Qz|apply QA)<;>intro hb<;>try simp only[nr] at hb)
 |simp only[go_sem,↓reduceIte,reduceIte,Qa,Qh,Qb,Qc,Qd,Qe,Qf,Qg,reduceCtorEq, *,-f3]
 |with_reducible refine fun(bn:Bool) hbn=>?_))
   all_goals rw[f3]
end Go.Proofs.YtmjkjmoeicnbnaaGreatDoor.Lg
