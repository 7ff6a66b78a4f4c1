/- Parts of the proof, one behind the other. -/
import Derived.Test.YtmjkjmoeicnbnaaGreatDoorG19
namespace Go.Proofs.YtmjkjmoeicnbnaaGreatDoor.Lg
set_option maxRecDepth 100000
set_option linter.unusedVariables false
set_option linter.unusedSimpArgs false
open Go
open Nat renaming reduceEqDiff → Qa, reduceLT → Qb, reduceLeDiff → Qc, reduceAdd → Qd, reduceMul → Qe, reduceSub → Qf, reduceBEq → Qg
open String renaming reduceEq → Qh
open SpecC renaming seqW → Qi, regW → Qj, condW → Ql, block → Qm, skip → Qn, exit → Qp, ret → Qr, loopF → Qs
open NxK renaming out → Qw
open Nx renaming out → Qx
open condK renaming split → Qy
open gK renaming split_t → Qz, split_f → QA
structure Fit (l:List Res):Prop where
 up:Up (l.map keyOf)
 kin:Kin l
 serves:served l=0
 miss:∀ r∈l,∀ k∈refsR r,k∈l.map keyOf
structure InvA (h b a:List Res):Prop where
 up:Up (a.map keyOf)
 mem:∀ x∈a,x∈h∨(x∈b∧Rch b (keyOf x)∧x.kind≠0∧∀ y∈b,Rch b (keyOf y)→x.kind < y.kind→y∈a)
 has:∀ k∈h.map keyOf,k∈a.map keyOf
 zero:∀ x:Res,x.kind=0→(x∈a↔x∈h)
structure InvB (b a:List Res):Prop where
 up:Up (a.map keyOf)
 zero:∀ x:Res,x.kind=0→(x∈a↔x∈b)
 all:∀ y∈b,Rch b (keyOf y)→y∈a
theorem invA_refl {h b:List Res} (hh:Up (h.map keyOf)):InvA h b h:=⟨hh,fun x hx=>.inl hx,fun k hk=>hk,fun x _=>Iff.rfl⟩
theorem invA_rch {h b a:List Res} (fh:Fit h) (fb:Fit b) (i:InvA h b a) {k:Key} (hk:Rch a k):∀ x∈a,keyOf x=k→(x∈h∧Rch h k)∨(x∈b∧Rch b k∧∀ y∈b,Rch b (keyOf y)→x.kind < y.kind→y∈a):=by
 induction hk with
 | base r hr h0 =>
  intro x hx e
  have:=key_inj (up_nodup i.up) hx hr e
  subst this
  have hxh:=(i.zero x h0).1 hx
  exact .inl ⟨hxh,.base x hxh h0⟩
 | step r k hr hrr hk hka ih =>
  intro x hx e
  rcases ih r hr rfl with ⟨h1,h2⟩|⟨h1,h2,h3⟩
  ·have hkh:=fh.miss r h1 k hk
   have hkr:Rch h k:=.step r k h1 h2 hk hkh
   rcases i.mem x hx with h4|⟨h4,h5,_,h6⟩
   ·exact .inl ⟨h4,hkr⟩
   ·exact .inr ⟨h4,e▸h5,h6⟩
  ·have hkb:=fb.miss r h1 k hk
   have hkr:Rch b k:=.step r k h1 h2 hk hkb
   obtain ⟨y,hy,ey⟩:=List.mem_map.1 hkb
   have hl:=refs_lo hk
   have hyk:y.kind=k.kind:=congrArg Key.kind ey
   have hya:=h3 y hy (ey▸hkr) (by omega)
   have:=key_inj (up_nodup i.up) hx hya (e.trans ey.symm)
   subst this
   exact .inr ⟨hy,hkr,fun z hz hz1 hz2=>h3 z hz hz1 (by omega)⟩
theorem served_invA {h b a:List Res} (fh:Fit h) (fb:Fit b) (i:InvA h b a):served a=0:=by
 rw [served_ok]
 have key:∀ r∈reachR a,r∈a∧((r∈h∧Rch h (keyOf r))∨(r∈b∧Rch b (keyOf r)∧∀ y∈b,Rch b (keyOf y)→r.kind < y.kind→y∈a)):=fun r hr=>by
  obtain ⟨h1,h2⟩:=(mem_reachR (up_nodup i.up) r).1 hr
  exact ⟨h1,invA_rch fh fb i h2 r h1 rfl⟩
 refine ⟨fun r hr k hk=>?_,fun r hr=>?_⟩
 ·obtain ⟨_,⟨h1,h2⟩|⟨h1,h2,h3⟩⟩:=key r hr
  ·exact i.has k (fh.miss r h1 k hk)
  ·have hkb:=fb.miss r h1 k hk
   obtain ⟨y,hy,ey⟩:=List.mem_map.1 hkb
   have hl:=refs_lo hk
   have hyk:y.kind=k.kind:=congrArg Key.kind ey
   rw [← ey]
   exact List.mem_map_of_mem (h3 y hy (ey▸.step r k h1 h2 hk hkb) (by omega))
 ·obtain ⟨_,⟨h1,h2⟩|⟨h1,h2,h3⟩⟩:=key r hr
  ·exact (served_ok.1 fh.serves).2 r ((mem_reachR (up_nodup fh.up) r).2 ⟨h1,h2⟩)
  ·exact (served_ok.1 fb.serves).2 r ((mem_reachR (up_nodup fb.up) r).2 ⟨h1,h2⟩)
theorem invB_rch {b a:List Res} (fb:Fit b) (i:InvB b a) {k:Key} (hk:Rch a k):Rch b k∧∀ x∈a,keyOf x=k→x∈b:=by
 induction hk with
 | base r hr h0 =>
  have hb:=(i.zero r h0).1 hr
  exact ⟨.base r hb h0,fun x hx e=>by rw [key_inj (up_nodup i.up) hx hr e]; exact hb⟩
 | step r k hr hrr hk hka ih =>
  have h1:=ih.2 r hr rfl
  have hkb:=fb.miss r h1 k hk
  have hkr:Rch b k:=.step r k h1 ih.1 hk hkb
  obtain ⟨y,hy,ey⟩:=List.mem_map.1 hkb
  have hya:=i.all y hy (ey▸hkr)
  exact ⟨hkr,fun x hx e=>by rw [key_inj (up_nodup i.up) hx hya (e.trans ey.symm)]; exact hy⟩
theorem rch_invB {b a:List Res} (fb:Fit b) (i:InvB b a) {k:Key} (hk:Rch b k):Rch a k:=by
 induction hk with
 | base r hr h0=>exact .base r ((i.zero r h0).2 hr) h0
 | step r k hr hrr hk hkb ih =>
  have hkr:Rch b k:=.step r k hr hrr hk hkb
  obtain ⟨y,hy,ey⟩:=List.mem_map.1 hkb
  refine .step r k (i.all r hr hrr) ih hk ?_
  rw [← ey]; exact List.mem_map_of_mem (i.all y hy (ey▸hkr))
theorem reach_invB {b a:List Res} (fb:Fit b) (i:InvB b a):reachR a=reachR b:=by
 refine res_ext (up_sub i.up (reachR_sub a)) (up_sub fb.up (reachR_sub b)) fun x=>?_
 rw [mem_reachR (up_nodup i.up),mem_reachR (up_nodup fb.up)]
 constructor
 ·rintro ⟨h1,h2⟩
  have:=invB_rch fb i h2
  exact ⟨this.2 x h1 rfl,this.1⟩
 ·rintro ⟨h1,h2⟩
  exact ⟨i.all x h1 h2,rch_invB fb i h2⟩
theorem served_invB {b a:List Res} (fb:Fit b) (i:InvB b a):served a=0:=by
 rw [served_ok,reach_invB fb i]
 obtain ⟨h1,h2⟩:=served_ok.1 fb.serves
 refine ⟨fun r hr k hk=>?_,h2⟩
 obtain ⟨hr1,hr2⟩:=(mem_reachR (up_nodup fb.up) r).1 hr
 have hkb:=fb.miss r hr1 k hk
 obtain ⟨y,hy,ey⟩:=List.mem_map.1 hkb
 rw [← ey]
 exact List.mem_map_of_mem (i.all y hy (ey▸.step r k hr1 hr2 hk hkb))
theorem part_stays {a b A:List Res} {G:List Key} (h:Part a b A G) {y:Res} (hb:y∈b) (ha:y∈a):y∈patchR a A G:=by
 refine h.mem.2 (.inr ⟨ha,fun hg=>(h.memG hg).2 (List.mem_map_of_mem hb),fun hk=>?_⟩)
 obtain ⟨z,hz,e⟩:=List.mem_map.1 hk
 have:=h.memA hz
 rw [key_inj (up_nodup h.hb) this.1 hb e] at this
 exact this.2 ha
theorem part_key {a b A:List Res} {G:List Key} (h:Part a b A G) {k:Key} (hk:k∈a.map keyOf) (hg:k ∉ G):k∈(patchR a A G).map keyOf:=by
 obtain ⟨x,hx,rfl⟩:=List.mem_map.1 hk
 by_cases hA:keyOf x∈A.map keyOf
 ·obtain ⟨z,hz,e⟩:=List.mem_map.1 hA
  rw [← e]; exact List.mem_map_of_mem (h.mem.2 (.inl hz))
 ·exact List.mem_map_of_mem (h.mem.2 (.inr ⟨hx,hg,hA⟩))
theorem invB_part {b a A:List Res} {G:List Key} (h:Part a b A G) (i:InvB b a):InvB b (patchR a A G):=by
 refine ⟨h.up,fun x h0=>⟨fun hx=>?_,fun hx=>part_stays h hx ((i.zero x h0).2 hx)⟩,fun y hy hr=>part_stays h hy (i.all y hy hr)⟩
 rcases h.mem.1 hx with h1|h1
 ·exact (h.memA h1).1
 ·exact (i.zero x h0).1 h1.1
theorem invA_add {h b a A:List Res} {k:Int} (hp:Part a b A []) (i:InvA h b a) (hk:k≠0) (hA:∀ x∈A,x.kind=k∧Rch b (keyOf x)) (he:∀ y∈b,Rch b (keyOf y)→k < y.kind→y∈a):InvA h b (patchR a A []):=by
 refine ⟨hp.up,fun x hx=>?_,fun q hq=>part_key hp (i.has q hq) (by simp),fun x h0=>?_⟩
 ·rcases hp.mem.1 hx with h1|h1
  ·obtain ⟨q1,q2⟩:=hA x h1
   exact .inr ⟨(hp.memA h1).1,q2,by omega,fun y hy hr hlt=>part_stays hp hy (he y hy hr (by omega))⟩
  ·rcases i.mem x h1.1 with h2|⟨h2,h3,h4,h5⟩
   ·exact .inl h2
   ·exact .inr ⟨h2,h3,h4,fun y hy hr hlt=>part_stays hp hy (h5 y hy hr hlt)⟩
 ·rw [← i.zero x h0,hp.mem]
  constructor
  ·rintro (h1|h1)
   ·have:=(hA x h1).1; omega
   ·exact h1.1
  ·intro hx
   refine .inr ⟨hx,by simp,fun hk'=>?_⟩
   obtain ⟨z,hz,e⟩:=List.mem_map.1 hk'
   have:=(hA z hz).1
   have e':z.kind=x.kind:=congrArg Key.kind e
   omega
theorem early_all {a b:List Res} {held:List Key} (ha:Up (a.map keyOf)) (fb:Fit b) {j:Nat} (hj:j≤3) (h:∀ m,m < j→fullP (candAt a b held m)=false) {y:Res} (hy:y∈b) (hr:Rch b (keyOf y)) (hk:(3:Int) - j < y.kind):y∈a:=Classical.byContradiction fun hn=>by
 have hD:=(mem_diffA ha).2 ⟨hy,hn⟩
 have hkk:=fb.kin y hy
 have:=no_early (i:=(3 - y.kind).toNat) (by omega) (h _ (by omega)) hD (by omega)
 exact this (rch_key (up_nodup fb.up) hr)
theorem invA_doors {h b a A:List Res} {G:List Key} (fb:Fit b) (hp:Part a b A G) (i:InvA h b a) (he:∀ y∈b,Rch b (keyOf y)→0 < y.kind→y∈a) (hA:∀ r∈diffA a b,r.kind=0→r∈A) (hG:∀ k∈diffG a b,k.kind=0→k∈G):InvB b (patchR a A G):=by
 have hz:∀ x:Res,x.kind=0→(x∈patchR a A G↔x∈b):=fun x h0=>by
  constructor
  ·intro hx
   rcases hp.mem.1 hx with h1|⟨h1,h2,h3⟩
   ·exact (hp.memA h1).1
   ·have hkb:keyOf x∈b.map keyOf:=Classical.byContradiction fun hn=>h2 (hG _ (mem_diffG.2 ⟨List.mem_map_of_mem h1,hn⟩) h0)
    obtain ⟨y,hy,e⟩:=List.mem_map.1 hkb
    by_cases hya:y∈a
    ·rw [← key_inj (up_nodup hp.ha) hya h1 e]; exact hy
    ·have hyk:y.kind=0:=(congrArg Key.kind e).trans h0
     exact absurd (List.mem_map.2 ⟨y,hA y ((mem_diffA hp.ha).2 ⟨hy,hya⟩) hyk,e⟩) h3
  ·intro hx
   by_cases hxa:x∈a
   ·exact part_stays hp hx hxa
   ·exact hp.mem.2 (.inl (hA x ((mem_diffA hp.ha).2 ⟨hx,hxa⟩) h0))
 refine ⟨hp.up,hz,fun y hy hr=>?_⟩
 by_cases h0:y.kind=0
 ·exact (hz y h0).2 hy
 ·have:=fb.kin y hy
  exact part_stays hp hy (he y hy hr (by omega))
theorem inv_step {h b a:List Res} {held:List Key} {s:Step} (fb:Fit b) (i:InvA h b a∨InvB b a) (hs:nextP a b held=some s):InvA h b (applyP a s)∨InvB b (applyP a s):=by
 rcases i with i|i
 ·obtain ⟨j,h1,h2,h3,h4⟩:=next_some hs
  have hp:=next_part i.up fb.up hs
  have hev:=fun (hj:3≤j)=>fun (y:Res) (hy:y∈b) (hr:Rch b (keyOf y)) (hk:0 < y.kind)=>early_all (held:=held) i.up fb (j:=3) (by omega) (fun m hm=>h4 m (by omega)) hy hr (by omega)
  by_cases hj:j < 3
  ·left
   have he:∀ y∈b,Rch b (keyOf y)→(3:Int) - j < y.kind→y∈a:=fun y hy hr hk=>early_all (held:=held) i.up fb (j:=j) (by omega) h4 hy hr hk
   rw [candAt,if_pos hj] at h2
   subst h2
   exact invA_add hp i (by omega) (fun x hx=>by
    obtain ⟨_,q1,q2⟩:=mem_early.1 hx
    obtain ⟨z,hz,e⟩:=List.mem_map.1 q2
    exact ⟨q1,by rw [← e]; exact ((mem_reachR (up_nodup fb.up) z).1 hz).2⟩) he
  ·right
   by_cases hj3:j=3
   ·refine invA_doors fb hp i (hev (by omega)) (fun r hr h0=>?_) (fun k hk h0=>?_)
    ·rw [h2,hj3,candAt,if_neg (by omega),if_pos rfl]; exact mem_tkind.2 ⟨hr,h0⟩
    ·rw [h2,hj3,candAt,if_neg (by omega),if_pos rfl]; exact mem_off.2 ⟨hk,h0⟩
   ·have hd:=no_door (h4 3 (by omega))
    have hB:InvB b (patchR a [] []):=invA_doors fb ⟨i.up,fb.up,List.nil_sublist _,List.nil_sublist _⟩ i (hev (by omega)) (fun r hr h0=>absurd h0 (hd.1 r hr)) (fun k hk h0=>absurd h0 (hd.2 k hk))
    exact invB_part hp hB
 ·exact .inr (invB_part (next_part i.up fb.up hs) i)
theorem inv_served {h b a:List Res} (fh:Fit h) (fb:Fit b) (i:InvA h b a∨InvB b a):served a=0:=i.elim (served_invA fh fb) (served_invB fb)
theorem cand_done {a b:List Res} {s:Step} (ha:Up (a.map keyOf)) (hb:Up (b.map keyOf)) (kb:Kin b) {j:Nat} (hj:j < 10) (hs:s=candAt a b [] j) (h4:∀ m,m < j→fullP (candAt a b [] m)=false):∀ m,m≤j→fullP (candAt (applyP a s) b [] m)=false:=by
 have hp:Part a b s.adds s.gone:=by rw [hs]; exact cand_part ha hb [] j
 intro m hm
 rw [fullP_no]
 have hD:∀ r,r∈diffA (applyP a s) b→r∈diffA a b∧r ∉ s.adds:=fun r hr=>hp.stepA.1 hr
 have hGd:∀ k,k∈diffG (applyP a s) b→k∈diffG a b∧k ∉ s.gone:=fun k hk=>hp.stepG.1 hk
 by_cases m3:m < 3
 ·rw [candAt,if_pos m3]
  refine ⟨List.eq_nil_iff_forall_not_mem.2 fun r hr=>?_,rfl⟩
  obtain ⟨q1,q2,q3⟩:=mem_early.1 hr
  obtain ⟨p1,p2⟩:=hD r q1
  by_cases e:m=j
  ·subst e
   rw [hs,candAt,if_pos m3] at p2
   exact p2 (mem_early.2 ⟨p1,q2,q3⟩)
  ·exact no_early m3 (h4 m (by omega)) p1 q2 q3
 ·by_cases m4:m=3
  ·subst m4
   rw [candAt,if_neg (by omega),if_pos rfl]
   refine ⟨List.eq_nil_iff_forall_not_mem.2 fun r hr=>?_,List.eq_nil_iff_forall_not_mem.2 fun k hk=>?_⟩
   ·obtain ⟨q1,q2⟩:=mem_tkind.1 hr
    obtain ⟨p1,p2⟩:=hD r q1
    by_cases e:3=j
    ·rw [hs,← e,candAt,if_neg (by omega),if_pos rfl] at p2
     exact p2 (mem_tkind.2 ⟨p1,q2⟩)
    ·exact (no_door (h4 3 (by omega))).1 r p1 q2
   ·obtain ⟨q1,q2⟩:=mem_off.1 hk
    obtain ⟨p1,p2⟩:=hGd k q1
    by_cases e:3=j
    ·rw [hs,← e,candAt,if_neg (by omega),if_pos rfl] at p2
     exact p2 (mem_off.2 ⟨p1,q2⟩)
    ·exact (no_door (h4 3 (by omega))).2 k p1 q2
  ·by_cases m7:m < 7
   ·rw [candAt,if_neg m3,if_neg m4,if_pos m7]
    refine ⟨List.eq_nil_iff_forall_not_mem.2 fun r hr=>?_,rfl⟩
    obtain ⟨q1,q2⟩:=mem_tkind.1 hr
    obtain ⟨p1,p2⟩:=hD r q1
    by_cases e:m=j
    ·subst e
     rw [hs,candAt,if_neg m3,if_neg m4,if_pos m7] at p2
     exact p2 (mem_tkind.2 ⟨p1,q2⟩)
    ·exact no_late ⟨by omega,m7⟩ (h4 m (by omega)) p1 q2
   ·rw [candAt,if_neg m3,if_neg m4,if_neg m7]
    refine ⟨rfl,List.eq_nil_iff_forall_not_mem.2 fun k hk=>?_⟩
    obtain ⟨q1,q2,_,q4⟩:=mem_free.1 hk
    obtain ⟨p1,p2⟩:=hGd k q1
    have hsj:s=⟨j - 6,[],freeK a [] (diffG a b) (j - 6)⟩:=by rw [hs,candAt,if_neg (by omega),if_neg (by omega),if_neg (by omega)]
    have hname:k∈([]:List Key)∨∃ r∈a,k∈refsR r:=by
     by_cases e:m=j
     ·subst e
      rw [hsj] at p2
      refine .inr (Classical.byContradiction fun hn=>p2 (mem_free.2 ⟨p1,q2,by simp,hn⟩))
     ·exact no_free (by omega) (h4 m (by omega)) p1 q2
    rcases hname with h'|⟨r,hr,hrk⟩
    ·simp at h'
    ·refine q4 ⟨r,hp.mem.2 (.inr ⟨hr,fun hg=>?_,by rw [hsj]; simp⟩),hrk⟩
     rw [hsj] at hg
     have e1:(keyOf r).kind=j - 6:=(mem_free.1 hg).2.1
     have e2:r.kind=j - 6:=e1
     have:=refs_lo hrk
     omega
theorem ten_steps {b:List Res} (hb:Up (b.map keyOf)) (kb:Kin b) {a e:List Res} {l:List Step} (h:Chain b [] a l e):Up (a.map keyOf)→∀ i:Nat,(∀ m,m < i→m < 10→fullP (candAt a b [] m)=false)→i≤10→l.length+i≤10:=by
 induction h with
 | nil a h=>intro _ i _ h2; simpa using h2
 | cons a s l e h1 _ ih =>
  intro ha i hi h10
  obtain ⟨j,j1,j2,j3,j4⟩:=next_some h1
  have hij:i≤j:=Classical.byContradiction fun hn=>by
   have:=hi j (by omega) j1
   rw [← j2,j3] at this; cases this
  have hup:=(next_less ha hb h1).2.2.2
  have:=ih hup (j+1) (fun m hm _=>cand_done ha hb kb j1 j2 j4 m (by omega)) (by omega)
  simp only [List.length_cons]; omega
def fewP (a b:List Res) (H:List Key):Bool:=fewAll a && (fewAll b && decide (H.length≤80))
theorem fewP_c (a b:List Res) (H:List Key) (hl:Small a.length) (hs:∀ r∈a,SmRes r) (hl2:Small b.length) (hs2:∀ r∈b,SmRes r):CallR Tryz.prog 31 [.slice false (avs a),.slice false (avs b),.slice false (avs H)] (.val (.bool (fewP a b H))):=by
 have w1:=few4_c a hl hs
 have w2:=few4_c b hl2 hs2
 unfold fewP
 clear hs hs2
 generalize fewAll a=x at *
 generalize fewAll b=y at *
 cases x
 ·refine CallR.go3 (T:=T) Tryz.call31 Tryz.func31 rfl Tryz.ntmps31 (congrArg Array.toList Tryz.results31) (by decide) fun ts hn h0 h1 h2=>?_
  (repeat' (first
 | (with_reducible first|refine callX.by (w1) ?_|refine callX.by (w2) ?_|refine callX.by (few4_c _ ?_ ?_) ?_|assumption|(refine Qw hK _ ?_; clear hK K)|refine Qw ‹_› _ ?_|refine Qx ‹_› ?_|refine Qi fun K hK=>?_|refine Qj T fun K hK=>?_|refine Ql fun A B hA hB=>?_|refine Qn ?_|refine Qr ?_)
 | ((with_reducible first|apply Qy|apply Qz|apply QA)<;>intro hb<;>try simp only [nr] at hb)
 | simp only [go_sem,↓reduceIte,reduceIte,Qa,Qh,Qb,Qc,Qd,Qe,Qf,Qg,reduceCtorEq, *,-w1,-w2]
 | with_reducible refine fun (bn:Bool) hbn=>?_))
  all_goals trace_state
 ·cases y
  ·refine CallR.go3 (T:=T) Tryz.call31 Tryz.func31 rfl Tryz.ntmps31 (congrArg Array.toList Tryz.results31) (by decide) fun ts hn h0 h1 h2=>?_
   (repeat' (first
 | (with_reducible first|refine callX.by (w1) ?_|refine callX.by (w2) ?_|refine callX.by (few4_c _ ?_ ?_) ?_|assumption|(refine Qw hK _ ?_; clear hK K)|refine Qw ‹_› _ ?_|refine Qx ‹_› ?_|refine Qi fun K hK=>?_|refine Qj T fun K hK=>?_|refine Ql fun A B hA hB=>?_|refine Qn ?_|refine Qr ?_)
 | ((with_reducible first|apply Qy|apply Qz|apply QA)<;>intro hb<;>try simp only [nr] at hb)
 | simp only [go_sem,↓reduceIte,reduceIte,Qa,Qh,Qb,Qc,Qd,Qe,Qf,Qg,reduceCtorEq, *,-w1,-w2]
 | with_reducible refine fun (bn:Bool) hbn=>?_))
   all_goals trace_state
  ·refine CallR.go3 (T:=T) Tryz.call31 Tryz.func31 rfl Tryz.ntmps31 (congrArg Array.toList Tryz.results31) (by decide) fun ts hn h0 h1 h2=>?_
   (repeat' (first
 | (with_reducible first|refine callX.by (w1) ?_|refine callX.by (w2) ?_|refine callX.by (few4_c _ ?_ ?_) ?_|assumption|(refine Qw hK _ ?_; clear hK K)|refine Qw ‹_› _ ?_|refine Qx ‹_› ?_|refine Qi fun K hK=>?_|refine Qj T fun K hK=>?_|refine Ql fun A B hA hB=>?_|refine Qn ?_|refine Qr ?_)
 | ((with_reducible first|apply Qy|apply Qz|apply QA)<;>intro hb<;>try simp only [nr] at hb)
 | simp only [go_sem,↓reduceIte,reduceIte,Qa,Qh,Qb,Qc,Qd,Qe,Qf,Qg,reduceCtorEq, *,-w1,-w2]
 | with_reducible refine fun (bn:Bool) hbn=>?_))
   all_goals (rw [Bool.eq_iff_iff]; simp; try omega)
def l5:Res:=⟨0,[108],0,80,[114],[],[]⟩
def r5:Res:=⟨1,[114],0,0,[],[⟨[42],[47],[⟨[99],1⟩]⟩],[]⟩
def c5:Res:=⟨2,[99],0,0,[101],[],[]⟩
def e5:Res:=⟨3,[101],0,0,[],[],[7]⟩
def s5:List Res:=[l5,r5,c5,e5]
set_option maxHeartbeats 4000000 in
theorem small15_c:CallR Tryz.prog 95 [] (.own 7 (avs s5)):=by
 refine CallR.go0 (T:=T) Tryz.call95 Tryz.func95 rfl Tryz.ntmps95 (congrArg Array.toList Tryz.results95) fun ts hn=>?_
 (repeat' (first
 | (with_reducible first|assumption|(refine Qw hK _ ?_; clear hK K)|refine Qw ‹_› _ ?_|refine Qx ‹_› ?_|refine Qi fun K hK=>?_|refine Qj T fun K hK=>?_|refine Ql fun A B hA hB=>?_|refine Qn ?_)
 | ((with_reducible first|apply Qy|apply Qz|apply QA)<;>intro hb<;>try simp only [nr] at hb)
 | simp only [go_sem,↓reduceIte,reduceIte,Qa,Qh,Qb,Qc,Qd,Qe,Qf,Qg,reduceCtorEq, *,Int.le_refl]
 | with_reducible refine fun (bn:Bool) hbn=>?_))
 refine SpecC.ent (Ent.frzA2 5 0 2 3 ?_) ?_
 ·simp only [go_sem,↓reduceIte,reduceIte,Qa,Qh,Qb,Qc,Qd,Qe,Qf,Qg,reduceCtorEq, *,List.getD_cons_zero,AV.cells]
 refine SpecC.ent (Ent.frzA2 10 1 5 5 ?_) ?_
 ·simp only [go_sem,↓reduceIte,reduceIte,Qa,Qh,Qb,Qc,Qd,Qe,Qf,Qg,reduceCtorEq, *,List.getD_cons_zero,AV.cells]
 refine SpecC.ent (Ent.frzA2 10 3 6 8 ?_) ?_
 ·simp only [go_sem,↓reduceIte,reduceIte,Qa,Qh,Qb,Qc,Qd,Qe,Qf,Qg,reduceCtorEq, *,List.getD_cons_zero,AV.cells]
 (repeat' (first
 | (with_reducible first|assumption|(refine Qw hK _ ?_; clear hK K)|refine Qw ‹_› _ ?_|refine Qx ‹_› ?_|refine Qi fun K hK=>?_|refine Qj T fun K hK=>?_|refine Ql fun A B hA hB=>?_|refine Qn ?_|refine Qr ?_)
 | ((with_reducible first|apply Qy|apply Qz|apply QA)<;>intro hb<;>try simp only [nr] at hb)
 | simp only [go_sem,↓reduceIte,reduceIte,Qa,Qh,Qb,Qc,Qd,Qe,Qf,Qg,reduceCtorEq, *,List.getD_cons_zero,AV.cells]
 | with_reducible refine fun (bn:Bool) hbn=>?_))
 all_goals rfl
theorem s5s:∀ r∈s5,saneR r=0:=by
 intro r hr
 simp only [s5,List.mem_cons,List.not_mem_nil,or_false] at hr
 rcases hr with rfl|rfl|rfl|rfl<;>decide
theorem s5sm:∀ r∈s5,SmRes r:=by
 intro r hr
 simp only [s5,List.mem_cons,List.not_mem_nil,or_false] at hr
 rcases hr with rfl|rfl|rfl|rfl<;>simp [SmRes,Small,SmRule,SmWeight,l5,r5,c5,e5]
theorem s5up:Up (s5.map keyOf):=(upR_iff s5).1 (by decide)
theorem l5r:refsR l5=[⟨1,[114]⟩]:=refs_one (s5s l5 (by simp [s5])) (.inl rfl)
theorem r5r:refsR r5=[⟨2,[99]⟩]:=by
 have hs:saneR r5=0:=s5s r5 (by simp [s5])
 have e:baseR r5++keysR r5.rules'=[⟨2,[99]⟩]:=by decide
 unfold refsR
 rw [if_pos hs,e]
 simp [ksort,kcompact,kcT]
theorem c5r:refsR c5=[⟨3,[101]⟩]:=refs_one (s5s c5 (by simp [s5])) (.inr rfl)
theorem e5r:refsR e5=[]:=refs_ends rfl
theorem s5n:namesM s5=[(⟨0,[108]⟩,[⟨1,[114]⟩]),(⟨1,[114]⟩,[⟨2,[99]⟩]),(⟨2,[99]⟩,[⟨3,[101]⟩]),(⟨3,[101]⟩,[])]:=by
 simp only [namesM,s5,List.map_cons,List.map_nil,l5r,r5r,c5r,e5r]; rfl
theorem s5reach:reachR s5=s5:=by unfold reachR reachedM; rw [s5n]; decide +kernel
def stp (k:Int) (r:Res):Step:=⟨k,[r],[]⟩
theorem s5early (D:List Res) (k:Int):earlyP s5 D k=(tkind D k).filter fun r=>decide (keyOf r∈s5.map keyOf):=by unfold earlyP; rw [s5reach]
theorem s5n1:nextP [] s5 []=some (stp 3 e5):=by simp only [nextP,firstC,candAt,s5early]; decide +kernel
theorem s5n2:nextP [e5] s5 []=some (stp 2 c5):=by simp only [nextP,firstC,candAt,s5early]; decide +kernel
theorem s5n3:nextP [c5,e5] s5 []=some (stp 1 r5):=by simp only [nextP,firstC,candAt,s5early]; decide +kernel
theorem s5n4:nextP [r5,c5,e5] s5 []=some (stp 0 l5):=by simp only [nextP,firstC,candAt,s5early]; decide +kernel
theorem s5n5:nextP s5 s5 []=none:=next_of_nil [] (diff_self s5up).1 (diff_self s5up).2
theorem s5a1:applyP [] (stp 3 e5)=[e5]:=by decide +kernel
theorem s5a2:applyP [e5] (stp 2 c5)=[c5,e5]:=by decide +kernel
theorem s5a3:applyP [c5,e5] (stp 1 r5)=[r5,c5,e5]:=by decide +kernel
theorem s5a4:applyP [r5,c5,e5] (stp 0 l5)=s5:=by decide +kernel
theorem s5run:runP s5 [] 400 []=[stp 3 e5,stp 2 c5,stp 1 r5,stp 0 l5]:=by
 rw [runP_some s5n1,s5a1,runP_some s5n2,s5a2,runP_some s5n3,s5a3,runP_some s5n4,s5a4,runP_none s5n5]
theorem s5waits:waitsP s5 s5 []=[]:=by unfold waitsP; rw [s5n5]; exact (diff_self s5up).2
theorem reachOk_of {l:List Res} (hl:l.length≤65536) (hs:∀ r∈l,SmRes r) (hu:Up (l.map keyOf)):ReachOk l:=reach_c l hl hs (up_nodup hu)
set_option maxHeartbeats 4000000 in
theorem awake15_c:CallR Tryz.prog 30 [] (.val (.bool true)):=by
 have hre:=reachOk_of (l:=s5) (by decide) s5sm s5up
 have w0:=small15_c.frz
 have w1:=allP_c [] s5 [] (by simp) (by decide) (by simp) s5sm (by simp [Small]) hre
 rw [s5run] at w1
 have w1:=w1.frz
 have w2:=nextPl_c [] s5 [] (by simp) (by simp [Small,s5]) (by simp) (by simp [Small]) hre
 rw [s5n1] at w2
 have w3:=waitsP_c s5 s5 [] (by decide) (by simp [Small,s5]) s5sm (by simp [Small]) hre
 rw [s5waits] at w3
 have w4:=applyP_c [] 3 [e5] [] (by simp [Small]) (by simp [Small]) (by simp [Small]) (by simp [Small])
 rw [show applyP [] ⟨3,[e5],[]⟩=[e5] from s5a1] at w4
 clear hre
 simp only [avs_nil,stp,Option.getD_some,Option.isSome_some] at w1 w2 w3 w4
 have hk:avs [(⟨3,[e5],[]⟩:Step),⟨2,[c5],[]⟩,⟨1,[r5],[]⟩,⟨0,[l5],[]⟩]=[.agg [.int .i64 3,.slice false (avs [e5]),.slice false []],.agg [.int .i64 2,.slice false (avs [c5]),.slice false []],.agg [.int .i64 1,.slice false (avs [r5]),.slice false []],.agg [.int .i64 0,.slice false (avs [l5]),.slice false []]]:=rfl
 rw [hk] at w1
 have g0:∀ a b c d:AV,[a,b,c,d].getD (Int.toNat 0) .any=a:=fun _ _ _ _=>rfl
 have g3:∀ a b c d:AV,[a,b,c,d].getD (Int.toNat 3) .any=d:=fun _ _ _ _=>rfl
 have z0:(0:Int) < 4:=by decide
 have z3:(3:Int) < 4:=by decide
 have z30:(0:Int)≤3:=by decide
 have e4:((4:Nat):Int)=4:=rfl
 refine CallR.go0 (T:=T) Tryz.call30 Tryz.func30 rfl Tryz.ntmps30 (congrArg Array.toList Tryz.results30) fun ts hn=>?_
 (repeat' (first
 | (with_reducible first|refine callX.by (w0) ?_|refine callX.by (w1) ?_|refine callX.by (w2) ?_|refine callX.by (w3) ?_|refine callX.by (w4) ?_|refine callX.by small15_c ?_|refine callX.by (allP_c _ _ _ ?_ ?_ ?_ ?_ ?_ ?_) ?_|refine callX.by (nextPl_c _ _ _ ?_ ?_ ?_ ?_ ?_) ?_|refine callX.by (waitsP_c _ _ _ ?_ ?_ ?_ ?_ ?_) ?_|refine callX.by (applyP_c _ _ _ _ ?_ ?_ ?_ ?_) ?_|assumption|(refine Qw hK _ ?_; clear hK K)|refine Qw ‹_› _ ?_|refine Qx ‹_› ?_|refine Qi fun K hK=>?_|refine Qj T fun K hK=>?_|refine Ql fun A B hA hB=>?_|refine Qn ?_|refine Qr ?_)
 | ((with_reducible first|apply Qy|apply Qz|apply QA)<;>intro hb<;>try simp only [nr] at hb)
 | simp only [go_sem,↓reduceIte,reduceIte,Qa,Qh,Qb,Qc,Qd,Qe,Qf,Qg,reduceCtorEq, *,-w0,-w1,-w2,-w3,-w4,g0,g3,Int.reduceEq,Int.le_refl,List.length_nil,List.length_cons,decide_true,Option.getD_some,Option.isSome_some]
 | with_reducible refine fun (bn:Bool) hbn=>?_))
 all_goals trace_state
theorem few_80 {l:List Res} (h:fewAll l=true):l.length≤80:=by
 simp only [fewAll,Bool.and_eq_true,decide_eq_true_eq] at h
 omega
theorem fewP_t {a b:List Res} {H:List Key} (h:fewP a b H=true):a.length≤80∧b.length≤80∧H.length≤80:=by
 simp only [fewP,Bool.and_eq_true,decide_eq_true_eq] at h
 exact ⟨few_80 h.1,few_80 h.2.1,h.2.2⟩
theorem Conf.kin {l:List Res} (h:Conf l):Kin l:=fun r hr=>by
 have:=h.sane r hr
 unfold saneR at this
 split at this
 ·cases this
 ·rename_i h1
  have h1:wIn r.kind 3=true:=by simpa using h1
  simpa [wIn] using h1
theorem kin_nil:Kin []:=fun r hr=>by simp at hr
theorem up_nil:Up (([]:List Res).map keyOf):=by simp [Up]
theorem sum_in {f:Step→Nat}:∀ {l:List Step} {s:Step},s∈l→f s≤(l.map f).sum
 | x :: l,s,h=>by
  rw [List.map_cons,List.sum_cons]
  rcases List.mem_cons.1 h with rfl|h
  ·omega
  ·have:=sum_in (f:=f) h; omega
theorem come_all {l:List Res} {H:List Key} (hc:Conf l):((runP l H 400 []).map fun s=>s.adds.length).sum=l.length∧∀ s∈runP l H 400 [],s.gone.length=0:=by
 have hD:(diffA [] l).length=l.length:=by
  have:diffA [] l=l:=List.filter_eq_self.2 fun r _=>by simp [tget]
  rw [this]
 have hG:(diffG [] l).length=0:=rfl
 have hlen:=hc.len
 obtain ⟨e,he⟩:=run_chain (held:=H) hc.up 400 [] up_nil (by omega)
 obtain ⟨h1,h2⟩:=chain_len hc.up he up_nil
 have hend:=none_A (chain_up hc.up he up_nil) hc.kin (chain_end he)
 rw [hend] at h1
 refine ⟨by simpa [hD] using h1,fun s hs=>?_⟩
 have:=sum_in (f:=fun s=>s.gone.length) hs
 omega
theorem left_all {l:List Res} (hc:Conf l):((runP [] [] 400 l).map fun s=>s.gone.length).sum=l.length∧∀ s∈runP [] [] 400 l,s.adds.length=0:=by
 have hD:(diffA l []).length=0:=rfl
 have hG:(diffG l []).length=l.length:=by
  have:diffG l []=l.map keyOf:=List.filter_eq_self.2 fun r _=>by simp [tget]
  rw [this,List.length_map]
 have hlen:=hc.len
 obtain ⟨e,he⟩:=run_chain (held:=[]) up_nil 400 l hc.up (by omega)
 obtain ⟨h1,h2⟩:=chain_len up_nil he hc.up
 have hk:Kin e:=chain_inv he (fun a=>Up (a.map keyOf)∧Kin a) (fun a s hi hs=>⟨(next_less hi.1 up_nil hs).2.2.2,kin_patch (next_part hi.1 up_nil hs) hi.2 kin_nil⟩) ⟨hc.up,hc.kin⟩ |>.2
 have hend:=end_eq (chain_up up_nil he hc.up) up_nil hk kin_nil (fun r hr=>by simp at hr) (chain_end he)
 rw [hend] at h2
 have h0:(diffG [] []).length=0:=rfl
 refine ⟨by omega,fun s hs=>?_⟩
 have:=sum_in (f:=fun s=>s.adds.length) hs
 omega
set_option maxHeartbeats 4000000 in
theorem planSame_c (l:List Res) (H:List Key) (hl:Small l.length) (hs:∀ r∈l,SmRes r) (hH:Small H.length):CallR Tryz.prog 7 [.slice false (avs l),.slice false (avs H)] (.val (.bool true)):=by
 have w0:=awake15_c
 have w1:CallR Tryz.prog 31 [.slice false (avs l),.slice false [],.slice false (avs H)] (.val (.bool (fewP l [] H))):=fewP_c l [] H hl hs (by simp [Small]) (by simp)
 by_cases hf:fewP l [] H=true
 rotate_left
 ·have hf:fewP l [] H=false:=by simpa using hf
  rw [hf] at w1
  refine CallR.go2 (T:=T) Tryz.call7 Tryz.func7 rfl Tryz.ntmps7 (congrArg Array.toList Tryz.results7) (by decide) fun ts hn h0 h1=>?_
  (repeat' (first
 | (with_reducible first|refine callX.by (w0) ?_|refine callX.by (w1) ?_|refine callX.by awake15_c ?_|refine callX.by (fewP_c _ _ _ ?_ ?_ ?_ ?_) ?_|refine callX.by (tsane_c _ ?_ ?_) ?_|refine callX.by (nextPl_c _ _ _ ?_ ?_ ?_ ?_ ?_) ?_|refine callX.by (allP_c _ _ _ ?_ ?_ ?_ ?_ ?_ ?_) ?_|refine callX.by (waitsP_c _ _ _ ?_ ?_ ?_ ?_ ?_) ?_|assumption|(refine Qw hK _ ?_; clear hK K)|refine Qw ‹_› _ ?_|refine Qx ‹_› ?_|refine Qi fun K hK=>?_|refine Qj T fun K hK=>?_|refine Ql fun A B hA hB=>?_|refine Qm ?_|refine Qn ?_|refine Qp ?_|refine Qr ?_)
 | ((with_reducible first|apply Qy|apply Qz|apply QA)<;>intro hb<;>try simp only [nr] at hb)
 | simp only [go_sem,↓reduceIte,reduceIte,Qa,Qh,Qb,Qc,Qd,Qe,Qf,Qg,reduceCtorEq, *,-hs,-w0,-w1]
 | with_reducible refine fun (bn:Bool) hbn=>?_))
 rw [hf] at w1
 obtain ⟨hl8,_,hH8⟩:=fewP_t hf
 have w2:=tsane_c l hl hs
 by_cases ht:tsane l=0
 rotate_left
 ·refine CallR.go2 (T:=T) Tryz.call7 Tryz.func7 rfl Tryz.ntmps7 (congrArg Array.toList Tryz.results7) (by decide) fun ts hn h0 h1=>?_
  (repeat' (first
 | (with_reducible first|refine callX.by (w0) ?_|refine callX.by (w1) ?_|refine callX.by (w2) ?_|refine callX.by awake15_c ?_|refine callX.by (fewP_c _ _ _ ?_ ?_ ?_ ?_) ?_|refine callX.by (tsane_c _ ?_ ?_) ?_|refine callX.by (nextPl_c _ _ _ ?_ ?_ ?_ ?_ ?_) ?_|refine callX.by (allP_c _ _ _ ?_ ?_ ?_ ?_ ?_ ?_) ?_|refine callX.by (waitsP_c _ _ _ ?_ ?_ ?_ ?_ ?_) ?_|assumption|(refine Qw hK _ ?_; clear hK K)|refine Qw ‹_› _ ?_|refine Qx ‹_› ?_|refine Qi fun K hK=>?_|refine Qj T fun K hK=>?_|refine Ql fun A B hA hB=>?_|refine Qm ?_|refine Qn ?_|refine Qp ?_|refine Qr ?_)
 | ((with_reducible first|apply Qy|apply Qz|apply QA)<;>intro hb<;>try simp only [nr] at hb)
 | simp only [go_sem,↓reduceIte,reduceIte,Qa,Qh,Qb,Qc,Qd,Qe,Qf,Qg,reduceCtorEq, *,-hs,-w0,-w1,-w2]
 | with_reducible refine fun (bn:Bool) hbn=>?_))
 rw [ht] at w2
 have hc:=conf_of ht
 have hre:=reachOk_of (l:=l) (by omega) hs hc.up
 have w3:=nextPl_c l l H (by omega) hl hs hH hre
 rw [next_of_nil H (diff_self hc.up).1 (diff_self hc.up).2] at w3
 have w4:=(allP_c [] l H (by simp) hl8 (by simp) hs hH hre).frz
 have w5:=(allP_c l [] [] hl8 (by simp) hs (by simp) (by simp [Small]) (reachOk_of (by simp) (by simp) up_nil)).frz
 have w6:=waitsP_c l l H (by omega) hl hs hH hre
 rw [show waitsP l l H=[] by unfold waitsP; rw [next_of_nil H (diff_self hc.up).1 (diff_self hc.up).2]; exact (diff_self hc.up).2] at w6
 obtain ⟨a1,a2⟩:=come_all (H:=H) hc
 obtain ⟨b1,b2⟩:=left_all hc
 have hA:(runP l H 400 []).length≤64:=by
  obtain ⟨e,he⟩:=run_chain (held:=H) hc.up 400 [] up_nil (by
   have:=(diffA_sub [] l).length_le; have h0:(diffG [] l).length=0:=rfl; omega)
  have:=chain_size hc.up he up_nil
  have:=(diffA_sub [] l).length_le; have h0:(diffG [] l).length=0:=rfl; have:=hc.len; omega
 have hB:(runP [] [] 400 l).length≤64:=by
  have h0:(diffA l []).length=0:=rfl
  have h1:=(diffG_sub l []).length_le
  rw [List.length_map] at h1
  obtain ⟨e,he⟩:=run_chain (held:=[]) up_nil 400 l hc.up (by omega)
  have:=chain_size up_nil he hc.up
  have:=hc.len; omega
 generalize runP l H 400 []=X at *
 generalize runP [] [] 400 l=Y at *
 clear hre hs hf
 have hXs:Small X.length:=by unfold Small; omega
 have hYs:Small Y.length:=by unfold Small; omega
 simp only [avs_nil,Option.getD_none,Option.isSome_none] at w3 w4 w5 w6
 have ez:zStep.kind=0∧zStep.adds=[]∧zStep.gone=[]:=⟨rfl,rfl,rfl⟩
 refine CallR.go2 (T:=T) Tryz.call7 Tryz.func7 rfl Tryz.ntmps7 (congrArg Array.toList Tryz.results7) (by decide) fun ts hn h0 h1=>?_
 (repeat' (first
 | (with_reducible first|refine callX.by (w0) ?_|refine callX.by (w1) ?_|refine callX.by (w2) ?_|refine callX.by (w3) ?_|refine callX.by (w4) ?_|refine callX.by (w5) ?_|refine callX.by awake15_c ?_|refine callX.by (fewP_c _ _ _ ?_ ?_ ?_ ?_) ?_|refine callX.by (tsane_c _ ?_ ?_) ?_|refine callX.by (nextPl_c _ _ _ ?_ ?_ ?_ ?_ ?_) ?_|refine callX.by (allP_c _ _ _ ?_ ?_ ?_ ?_ ?_ ?_) ?_|refine callX.by (waitsP_c _ _ _ ?_ ?_ ?_ ?_ ?_) ?_|assumption|(refine Qw hK _ ?_; clear hK K)|refine Qw ‹_› _ ?_|refine Qx ‹_› ?_|refine Qi fun K hK=>?_|refine Qj T fun K hK=>?_|refine Ql fun A B hA hB=>?_|refine Qm ?_|refine Qn ?_|refine Qp ?_|refine Qr ?_)
 | ((with_reducible first|apply Qy|apply Qz|apply QA)<;>intro hb<;>try simp only [nr] at hb)
 | simp only [go_sem,↓reduceIte,reduceIte,Qa,Qh,Qb,Qc,Qd,Qe,Qf,Qg,reduceCtorEq, *,-w0,-w1,-w2,-w3,-w4,-w5,-w6,-a1,-a2,-b1,-b2]
 | with_reducible refine fun (bn:Bool) hbn=>?_))
 refine Qs [0,1,5,7,8,9,11] (fun m ts'=>∃ (i:Nat),∃ (n:Nat),m=X.length - i∧i≤X.length∧n+((X.drop i).map fun s=>s.adds.length).sum=l.length∧ts'.tmp 10=.int .i64 n∧ts'.tmp 12=.int .i64 i) X.length ?_ ?_
 ·refine ⟨0,0,rfl,Nat.zero_le _,by rw [Nat.zero_add]; exact a1,?_⟩
  simp only [go_sem,↓reduceIte,reduceIte,Qa,Qh,Qb,Qc,Qd,Qe,Qf,Qg,reduceCtorEq, *,-w0,-w1,-w2,-w3,-w4,-w5,-w6,-a1,-a2,-b1,-b2]
 ·rintro m A hM ts' hk ⟨i,n,hm,f1,f2,s1,s2⟩
  simp only [go_sem,↓reduceIte,reduceIte,Qa,Qh,Qb,Qc,Qd,Qe,Qf,Qg,reduceCtorEq, *] at hk
  by_cases hlt:i < X.length
  ·rw [List.drop_eq_getElem_cons hlt,List.map_cons,List.sum_cons] at f2
   have g2:=a2 _ (List.getElem_mem hlt)
   have hw:=w64_addN (a:=n) (b:=X[i].adds.length) (n:=l.length) (by omega) hl
   (repeat' (first
 | (with_reducible first|refine callX.by awake15_c ?_|refine callX.by (fewP_c _ _ _ ?_ ?_ ?_ ?_) ?_|refine callX.by (tsane_c _ ?_ ?_) ?_|refine callX.by (nextPl_c _ _ _ ?_ ?_ ?_ ?_ ?_) ?_|refine callX.by (allP_c _ _ _ ?_ ?_ ?_ ?_ ?_ ?_) ?_|refine callX.by (waitsP_c _ _ _ ?_ ?_ ?_ ?_ ?_) ?_|assumption|(refine Qw hK _ ?_; clear hK K)|refine Qw ‹_› _ ?_|refine Qx ‹_› ?_|refine Qi fun K hK=>?_|refine Qj T fun K hK=>?_|refine Ql fun A B hA hB=>?_|refine Qm ?_|refine Qn ?_|refine Qp ?_|refine Qr ?_)
 | ((with_reducible first|apply Qy|apply Qz|apply QA)<;>intro hb<;>try simp only [nr] at hb)
 | simp only [go_sem,↓reduceIte,reduceIte,Qa,Qh,Qb,Qc,Qd,Qe,Qf,Qg,reduceCtorEq, *,-w0,-w1,-w2,-w3,-w4,-w5,-w6,-a1,-a2,-b1,-b2,-f2]
 | with_reducible refine fun (bn:Bool) hbn=>?_))
   all_goals ((repeat clear hK); (repeat clear hA); (repeat clear hB))
   all_goals first|exact absurd hb (by decide)|(refine hM.on (X.length - (i+1)) (by omega) (by simp only [go_sem,↓reduceIte,reduceIte,Qa,Qh,Qb,Qc,Qd,Qe,Qf,Qg,reduceCtorEq, *,w64_nat hlt hXs,-w0,-w1,-w2,-w3,-w4,-w5,-w6,-a1,-a2,-b1,-b2,-f2]) ⟨i+1,n+X[i].adds.length,rfl,by omega,by omega,?_⟩; simp only [go_sem,↓reduceIte,reduceIte,Qa,Qh,Qb,Qc,Qd,Qe,Qf,Qg,reduceCtorEq, *,w64_nat hlt hXs,-w0,-w1,-w2,-w3,-w4,-w5,-w6,-a1,-a2,-b1,-b2,-f2]; done)
  ·rw [List.drop_eq_nil_of_le (by omega)] at f2
   have e1:n=l.length:=f2
   clear f2
   subst e1
   (repeat' (first
 | (with_reducible first|refine callX.by awake15_c ?_|refine callX.by (fewP_c _ _ _ ?_ ?_ ?_ ?_) ?_|refine callX.by (tsane_c _ ?_ ?_) ?_|refine callX.by (nextPl_c _ _ _ ?_ ?_ ?_ ?_ ?_) ?_|refine callX.by (allP_c _ _ _ ?_ ?_ ?_ ?_ ?_ ?_) ?_|refine callX.by (waitsP_c _ _ _ ?_ ?_ ?_ ?_ ?_) ?_|assumption|(refine Qw hK _ ?_; clear hK K)|refine Qw ‹_› _ ?_|refine Qx ‹_› ?_|refine Qi fun K hK=>?_|refine Qj T fun K hK=>?_|refine Ql fun A B hA hB=>?_|refine Qm ?_|refine Qn ?_|refine Qp ?_|refine Qr ?_)
 | ((with_reducible first|apply Qy|apply Qz|apply QA)<;>intro hb<;>try simp only [nr] at hb)
 | simp only [go_sem,↓reduceIte,reduceIte,Qa,Qh,Qb,Qc,Qd,Qe,Qf,Qg,reduceCtorEq, *,-w0,-w1,-w2,-w3,-w4,-w5,-w6,-a1,-a2,-b1,-b2]
 | with_reducible refine fun (bn:Bool) hbn=>?_))
   clear hM hm
   refine Qs [0,1,5,7,9,10] (fun m ts'=>∃ (j:Nat),∃ (n:Nat),m=Y.length - j∧j≤Y.length∧n+((Y.drop j).map fun s=>s.gone.length).sum=l.length∧ts'.tmp 11=.int .i64 n∧ts'.tmp 13=.int .i64 j) Y.length ?_ ?_
   ·refine ⟨0,0,rfl,Nat.zero_le _,by rw [Nat.zero_add]; exact b1,?_⟩
    simp only [go_sem,↓reduceIte,reduceIte,Qa,Qh,Qb,Qc,Qd,Qe,Qf,Qg,reduceCtorEq, *,-w0,-w1,-w2,-w3,-w4,-w5,-w6,-a1,-a2,-b1,-b2]
   ·rintro m A hM ts' hk ⟨j,n,hm,f1,f2,s1,s2⟩
    simp only [go_sem,↓reduceIte,reduceIte,Qa,Qh,Qb,Qc,Qd,Qe,Qf,Qg,reduceCtorEq, *] at hk
    by_cases hlt2:j < Y.length
    ·rw [List.drop_eq_getElem_cons hlt2,List.map_cons,List.sum_cons] at f2
     have g2:=b2 _ (List.getElem_mem hlt2)
     have hw:=w64_addN (a:=n) (b:=Y[j].gone.length) (n:=l.length) (by omega) hl
     (repeat' (first
 | (with_reducible first|refine callX.by awake15_c ?_|refine callX.by (fewP_c _ _ _ ?_ ?_ ?_ ?_) ?_|refine callX.by (tsane_c _ ?_ ?_) ?_|refine callX.by (nextPl_c _ _ _ ?_ ?_ ?_ ?_ ?_) ?_|refine callX.by (allP_c _ _ _ ?_ ?_ ?_ ?_ ?_ ?_) ?_|refine callX.by (waitsP_c _ _ _ ?_ ?_ ?_ ?_ ?_) ?_|assumption|(refine Qw hK _ ?_; clear hK K)|refine Qw ‹_› _ ?_|refine Qx ‹_› ?_|refine Qi fun K hK=>?_|refine Qj T fun K hK=>?_|refine Ql fun A B hA hB=>?_|refine Qm ?_|refine Qn ?_|refine Qp ?_|refine Qr ?_)
 | ((with_reducible first|apply Qy|apply Qz|apply QA)<;>intro hb<;>try simp only [nr] at hb)
 | simp only [go_sem,↓reduceIte,reduceIte,Qa,Qh,Qb,Qc,Qd,Qe,Qf,Qg,reduceCtorEq, *,-w0,-w1,-w2,-w3,-w4,-w5,-w6,-a1,-a2,-b1,-b2,-f2]
 | with_reducible refine fun (bn:Bool) hbn=>?_))
     all_goals ((repeat clear hK); (repeat clear hA); (repeat clear hB))
     all_goals first|exact absurd hb (by decide)|(refine hM.on (Y.length - (j+1)) (by omega) (by simp only [go_sem,↓reduceIte,reduceIte,Qa,Qh,Qb,Qc,Qd,Qe,Qf,Qg,reduceCtorEq, *,w64_nat hlt2 hYs,-w0,-w1,-w2,-w3,-w4,-w5,-w6,-a1,-a2,-b1,-b2,-f2]) ⟨j+1,n+Y[j].gone.length,rfl,by omega,by omega,?_⟩; simp only [go_sem,↓reduceIte,reduceIte,Qa,Qh,Qb,Qc,Qd,Qe,Qf,Qg,reduceCtorEq, *,w64_nat hlt2 hYs,-w0,-w1,-w2,-w3,-w4,-w5,-w6,-a1,-a2,-b1,-b2,-f2]; done)
    ·rw [List.drop_eq_nil_of_le (by omega)] at f2
     have e1:n=l.length:=f2
     clear f2
     subst e1
     (repeat' (first
 | (with_reducible first|refine callX.by (w6) ?_|refine callX.by awake15_c ?_|refine callX.by (fewP_c _ _ _ ?_ ?_ ?_ ?_) ?_|refine callX.by (tsane_c _ ?_ ?_) ?_|refine callX.by (nextPl_c _ _ _ ?_ ?_ ?_ ?_ ?_) ?_|refine callX.by (allP_c _ _ _ ?_ ?_ ?_ ?_ ?_ ?_) ?_|refine callX.by (waitsP_c _ _ _ ?_ ?_ ?_ ?_ ?_) ?_|assumption|(refine Qw hK _ ?_; clear hK K)|refine Qw ‹_› _ ?_|refine Qx ‹_› ?_|refine Qi fun K hK=>?_|refine Qj T fun K hK=>?_|refine Ql fun A B hA hB=>?_|refine Qm ?_|refine Qn ?_|refine Qp ?_|refine Qr ?_)
 | ((with_reducible first|apply Qy|apply Qz|apply QA)<;>intro hb<;>try simp only [nr] at hb)
 | simp only [go_sem,↓reduceIte,reduceIte,Qa,Qh,Qb,Qc,Qd,Qe,Qf,Qg,reduceCtorEq, *,-w0,-w1,-w2,-w3,-w4,-w5,-w6,-a1,-a2,-b1,-b2]
 | with_reducible refine fun (bn:Bool) hbn=>?_))
     all_goals ((repeat clear hK); (repeat clear hA); (repeat clear hB))
     all_goals trace_state
end Go.Proofs.YtmjkjmoeicnbnaaGreatDoor.Lg
