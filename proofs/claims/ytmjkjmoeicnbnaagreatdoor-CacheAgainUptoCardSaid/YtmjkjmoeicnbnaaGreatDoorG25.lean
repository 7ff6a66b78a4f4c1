/- Parts of the proof, one behind the other. -/
import Derived.Test.YtmjkjmoeicnbnaaGreatDoorG24
namespace Go.Proofs.YtmjkjmoeicnbnaaGreatDoor.Lg
set_option maxRecDepth 100000
set_option linter.unusedVariables false
set_option linter.unusedSimpArgs false
open Go
open Nat renaming reduceEqDiff → Qa, reduceLT → Qb, reduceLeDiff → Qc, reduceAdd → Qd, reduceMul → Qe, reduceSub → Qf, reduceBEq → Qg
open String renaming reduceEq → Qh
open SpecC renaming seqW → Qi, regW → Qj, drawW → Qk, condW → Ql, block → Qm, skip → Qn, exit → Qp, ret → Qr
open NxK renaming out → Qw
open Nx renaming out → Qx
open condK renaming split → Qy
open gK renaming split_t → Qz, split_f → QA
open CallR renaming go1 → QD
structure Fit (l:List Res):Prop where
 up:Up (l.map keyOf)
 kin:Kin l
 serves:served l=0
 miss:∀ r∈l,∀ k∈refsR r,k∈l.map keyOf
structure InvA (h b a:List Res):Prop where
 up:Up (a.map keyOf)
 mem:∀ x∈a,x∈h∨(x∈b∧Rch b (keyOf x)∧x.kind≠0∧∀ y∈b,Rch b (keyOf y)→x.kind < y.kind→y∈a)
 has:∀ k∈h.map keyOf,k∈a.map keyOf
 zero:∀ x:Res,x.kind=0→(x∈a↔x∈h)
structure InvB (b a:List Res):Prop where
 up:Up (a.map keyOf)
 zero:∀ x:Res,x.kind=0→(x∈a↔x∈b)
 all:∀ y∈b,Rch b (keyOf y)→y∈a
theorem invA_refl {h b:List Res} (hh:Up (h.map keyOf)):InvA h b h:=⟨hh,fun x hx=>.inl hx,fun k hk=>hk,fun x _=>Iff.rfl⟩
theorem invA_rch {h b a:List Res} (fh:Fit h) (fb:Fit b) (i:InvA h b a) {k:Key} (hk:Rch a k):∀ x∈a,keyOf x=k→(x∈h∧Rch h k)∨(x∈b∧Rch b k∧∀ y∈b,Rch b (keyOf y)→x.kind < y.kind→y∈a):=by
 induction hk with
 | base r hr h0 =>
  intro x hx e
  have:=key_inj (up_nodup i.up) hx hr e
  subst this
  have hxh:=(i.zero x h0).1 hx
  exact .inl ⟨hxh,.base x hxh h0⟩
 | step r k hr hrr hk hka ih =>
  intro x hx e
  rcases ih r hr rfl with ⟨h1,h2⟩|⟨h1,h2,h3⟩
  ·have hkh:=fh.miss r h1 k hk
   have hkr:Rch h k:=.step r k h1 h2 hk hkh
   rcases i.mem x hx with h4|⟨h4,h5,_,h6⟩
   ·exact .inl ⟨h4,hkr⟩
   ·exact .inr ⟨h4,e▸h5,h6⟩
  ·have hkb:=fb.miss r h1 k hk
   have hkr:Rch b k:=.step r k h1 h2 hk hkb
   obtain ⟨y,hy,ey⟩:=List.mem_map.1 hkb
   have hl:=refs_lo hk
   have hyk:y.kind=k.kind:=congrArg Key.kind ey
   have hya:=h3 y hy (ey▸hkr) (by omega)
   have:=key_inj (up_nodup i.up) hx hya (e.trans ey.symm)
   subst this
   exact .inr ⟨hy,hkr,fun z hz hz1 hz2=>h3 z hz hz1 (by omega)⟩
theorem served_invA {h b a:List Res} (fh:Fit h) (fb:Fit b) (i:InvA h b a):served a=0:=by
 rw [served_ok]
 have key:∀ r∈reachR a,r∈a∧((r∈h∧Rch h (keyOf r))∨(r∈b∧Rch b (keyOf r)∧∀ y∈b,Rch b (keyOf y)→r.kind < y.kind→y∈a)):=fun r hr=>by
  obtain ⟨h1,h2⟩:=(mem_reachR (up_nodup i.up) r).1 hr
  exact ⟨h1,invA_rch fh fb i h2 r h1 rfl⟩
 refine ⟨fun r hr k hk=>?_,fun r hr=>?_⟩
 ·obtain ⟨_,⟨h1,h2⟩|⟨h1,h2,h3⟩⟩:=key r hr
  ·exact i.has k (fh.miss r h1 k hk)
  ·have hkb:=fb.miss r h1 k hk
   obtain ⟨y,hy,ey⟩:=List.mem_map.1 hkb
   have hl:=refs_lo hk
   have hyk:y.kind=k.kind:=congrArg Key.kind ey
   rw [← ey]
   exact List.mem_map_of_mem (h3 y hy (ey▸.step r k h1 h2 hk hkb) (by omega))
 ·obtain ⟨_,⟨h1,h2⟩|⟨h1,h2,h3⟩⟩:=key r hr
  ·exact (served_ok.1 fh.serves).2 r ((mem_reachR (up_nodup fh.up) r).2 ⟨h1,h2⟩)
  ·exact (served_ok.1 fb.serves).2 r ((mem_reachR (up_nodup fb.up) r).2 ⟨h1,h2⟩)
theorem invB_rch {b a:List Res} (fb:Fit b) (i:InvB b a) {k:Key} (hk:Rch a k):Rch b k∧∀ x∈a,keyOf x=k→x∈b:=by
 induction hk with
 | base r hr h0 =>
  have hb:=(i.zero r h0).1 hr
  exact ⟨.base r hb h0,fun x hx e=>by rw [key_inj (up_nodup i.up) hx hr e]; exact hb⟩
 | step r k hr hrr hk hka ih =>
  have h1:=ih.2 r hr rfl
  have hkb:=fb.miss r h1 k hk
  have hkr:Rch b k:=.step r k h1 ih.1 hk hkb
  obtain ⟨y,hy,ey⟩:=List.mem_map.1 hkb
  have hya:=i.all y hy (ey▸hkr)
  exact ⟨hkr,fun x hx e=>by rw [key_inj (up_nodup i.up) hx hya (e.trans ey.symm)]; exact hy⟩
theorem rch_invB {b a:List Res} (fb:Fit b) (i:InvB b a) {k:Key} (hk:Rch b k):Rch a k:=by
 induction hk with
 | base r hr h0=>exact .base r ((i.zero r h0).2 hr) h0
 | step r k hr hrr hk hkb ih =>
  have hkr:Rch b k:=.step r k hr hrr hk hkb
  obtain ⟨y,hy,ey⟩:=List.mem_map.1 hkb
  refine .step r k (i.all r hr hrr) ih hk ?_
  rw [← ey]; exact List.mem_map_of_mem (i.all y hy (ey▸hkr))
theorem reach_invB {b a:List Res} (fb:Fit b) (i:InvB b a):reachR a=reachR b:=by
 refine res_ext (up_sub i.up (reachR_sub a)) (up_sub fb.up (reachR_sub b)) fun x=>?_
 rw [mem_reachR (up_nodup i.up),mem_reachR (up_nodup fb.up)]
 constructor
 ·rintro ⟨h1,h2⟩
  have:=invB_rch fb i h2
  exact ⟨this.2 x h1 rfl,this.1⟩
 ·rintro ⟨h1,h2⟩
  exact ⟨i.all x h1 h2,rch_invB fb i h2⟩
theorem served_invB {b a:List Res} (fb:Fit b) (i:InvB b a):served a=0:=by
 rw [served_ok,reach_invB fb i]
 obtain ⟨h1,h2⟩:=served_ok.1 fb.serves
 refine ⟨fun r hr k hk=>?_,h2⟩
 obtain ⟨hr1,hr2⟩:=(mem_reachR (up_nodup fb.up) r).1 hr
 have hkb:=fb.miss r hr1 k hk
 obtain ⟨y,hy,ey⟩:=List.mem_map.1 hkb
 rw [← ey]
 exact List.mem_map_of_mem (i.all y hy (ey▸.step r k hr1 hr2 hk hkb))
theorem part_stays {a b A:List Res} {G:List Key} (h:Part a b A G) {y:Res} (hb:y∈b) (ha:y∈a):y∈patchR a A G:=by
 refine h.mem.2 (.inr ⟨ha,fun hg=>(h.memG hg).2 (List.mem_map_of_mem hb),fun hk=>?_⟩)
 obtain ⟨z,hz,e⟩:=List.mem_map.1 hk
 have:=h.memA hz
 rw [key_inj (up_nodup h.hb) this.1 hb e] at this
 exact this.2 ha
theorem part_key {a b A:List Res} {G:List Key} (h:Part a b A G) {k:Key} (hk:k∈a.map keyOf) (hg:k ∉ G):k∈(patchR a A G).map keyOf:=by
 obtain ⟨x,hx,rfl⟩:=List.mem_map.1 hk
 by_cases hA:keyOf x∈A.map keyOf
 ·obtain ⟨z,hz,e⟩:=List.mem_map.1 hA
  rw [← e]; exact List.mem_map_of_mem (h.mem.2 (.inl hz))
 ·exact List.mem_map_of_mem (h.mem.2 (.inr ⟨hx,hg,hA⟩))
theorem invB_part {b a A:List Res} {G:List Key} (h:Part a b A G) (i:InvB b a):InvB b (patchR a A G):=by
 refine ⟨h.up,fun x h0=>⟨fun hx=>?_,fun hx=>part_stays h hx ((i.zero x h0).2 hx)⟩,fun y hy hr=>part_stays h hy (i.all y hy hr)⟩
 rcases h.mem.1 hx with h1|h1
 ·exact (h.memA h1).1
 ·exact (i.zero x h0).1 h1.1
theorem invA_add {h b a A:List Res} {k:Int} (hp:Part a b A []) (i:InvA h b a) (hk:k≠0) (hA:∀ x∈A,x.kind=k∧Rch b (keyOf x)) (he:∀ y∈b,Rch b (keyOf y)→k < y.kind→y∈a):InvA h b (patchR a A []):=by
 refine ⟨hp.up,fun x hx=>?_,fun q hq=>part_key hp (i.has q hq) (by simp),fun x h0=>?_⟩
 ·rcases hp.mem.1 hx with h1|h1
  ·obtain ⟨q1,q2⟩:=hA x h1
   exact .inr ⟨(hp.memA h1).1,q2,by omega,fun y hy hr hlt=>part_stays hp hy (he y hy hr (by omega))⟩
  ·rcases i.mem x h1.1 with h2|⟨h2,h3,h4,h5⟩
   ·exact .inl h2
   ·exact .inr ⟨h2,h3,h4,fun y hy hr hlt=>part_stays hp hy (h5 y hy hr hlt)⟩
 ·rw [← i.zero x h0,hp.mem]
  constructor
  ·rintro (h1|h1)
   ·have:=(hA x h1).1; omega
   ·exact h1.1
  ·intro hx
   refine .inr ⟨hx,by simp,fun hk'=>?_⟩
   obtain ⟨z,hz,e⟩:=List.mem_map.1 hk'
   have:=(hA z hz).1
   have e':z.kind=x.kind:=congrArg Key.kind e
   omega
theorem early_all {a b:List Res} {held:List Key} (ha:Up (a.map keyOf)) (fb:Fit b) {j:Nat} (hj:j≤3) (h:∀ m,m < j→fullP (candAt a b held m)=false) {y:Res} (hy:y∈b) (hr:Rch b (keyOf y)) (hk:(3:Int) - j < y.kind):y∈a:=Classical.byContradiction fun hn=>by
 have hD:=(mem_diffA ha).2 ⟨hy,hn⟩
 have hkk:=fb.kin y hy
 have:=no_early (i:=(3 - y.kind).toNat) (by omega) (h _ (by omega)) hD (by omega)
 exact this (rch_key (up_nodup fb.up) hr)
theorem invA_doors {h b a A:List Res} {G:List Key} (fb:Fit b) (hp:Part a b A G) (i:InvA h b a) (he:∀ y∈b,Rch b (keyOf y)→0 < y.kind→y∈a) (hA:∀ r∈diffA a b,r.kind=0→r∈A) (hG:∀ k∈diffG a b,k.kind=0→k∈G):InvB b (patchR a A G):=by
 have hz:∀ x:Res,x.kind=0→(x∈patchR a A G↔x∈b):=fun x h0=>by
  constructor
  ·intro hx
   rcases hp.mem.1 hx with h1|⟨h1,h2,h3⟩
   ·exact (hp.memA h1).1
   ·have hkb:keyOf x∈b.map keyOf:=Classical.byContradiction fun hn=>h2 (hG _ (mem_diffG.2 ⟨List.mem_map_of_mem h1,hn⟩) h0)
    obtain ⟨y,hy,e⟩:=List.mem_map.1 hkb
    by_cases hya:y∈a
    ·rw [← key_inj (up_nodup hp.ha) hya h1 e]; exact hy
    ·have hyk:y.kind=0:=(congrArg Key.kind e).trans h0
     exact absurd (List.mem_map.2 ⟨y,hA y ((mem_diffA hp.ha).2 ⟨hy,hya⟩) hyk,e⟩) h3
  ·intro hx
   by_cases hxa:x∈a
   ·exact part_stays hp hx hxa
   ·exact hp.mem.2 (.inl (hA x ((mem_diffA hp.ha).2 ⟨hx,hxa⟩) h0))
 refine ⟨hp.up,hz,fun y hy hr=>?_⟩
 by_cases h0:y.kind=0
 ·exact (hz y h0).2 hy
 ·have:=fb.kin y hy
  exact part_stays hp hy (he y hy hr (by omega))
theorem inv_step {h b a:List Res} {held:List Key} {s:Step} (fb:Fit b) (i:InvA h b a∨InvB b a) (hs:nextP a b held=some s):InvA h b (applyP a s)∨InvB b (applyP a s):=by
 rcases i with i|i
 ·obtain ⟨j,h1,h2,h3,h4⟩:=next_some hs
  have hp:=next_part i.up fb.up hs
  have hev:=fun (hj:3≤j)=>fun (y:Res) (hy:y∈b) (hr:Rch b (keyOf y)) (hk:0 < y.kind)=>early_all (held:=held) i.up fb (j:=3) (by omega) (fun m hm=>h4 m (by omega)) hy hr (by omega)
  by_cases hj:j < 3
  ·left
   have he:∀ y∈b,Rch b (keyOf y)→(3:Int) - j < y.kind→y∈a:=fun y hy hr hk=>early_all (held:=held) i.up fb (j:=j) (by omega) h4 hy hr hk
   rw [candAt,if_pos hj] at h2
   subst h2
   exact invA_add hp i (by omega) (fun x hx=>by
    obtain ⟨_,q1,q2⟩:=mem_early.1 hx
    obtain ⟨z,hz,e⟩:=List.mem_map.1 q2
    exact ⟨q1,by rw [← e]; exact ((mem_reachR (up_nodup fb.up) z).1 hz).2⟩) he
  ·right
   by_cases hj3:j=3
   ·refine invA_doors fb hp i (hev (by omega)) (fun r hr h0=>?_) (fun k hk h0=>?_)
    ·rw [h2,hj3,candAt,if_neg (by omega),if_pos rfl]; exact mem_tkind.2 ⟨hr,h0⟩
    ·rw [h2,hj3,candAt,if_neg (by omega),if_pos rfl]; exact mem_off.2 ⟨hk,h0⟩
   ·have hd:=no_door (h4 3 (by omega))
    have hB:InvB b (patchR a [] []):=invA_doors fb ⟨i.up,fb.up,List.nil_sublist _,List.nil_sublist _⟩ i (hev (by omega)) (fun r hr h0=>absurd h0 (hd.1 r hr)) (fun k hk h0=>absurd h0 (hd.2 k hk))
    exact invB_part hp hB
 ·exact .inr (invB_part (next_part i.up fb.up hs) i)
theorem inv_served {h b a:List Res} (fh:Fit h) (fb:Fit b) (i:InvA h b a∨InvB b a):served a=0:=i.elim (served_invA fh fb) (served_invB fb)
theorem inv_up {h b a:List Res} (i:InvA h b a∨InvB b a):Up (a.map keyOf):=i.elim (·.up) (·.up)
def l5:Res:=⟨0,[108],0,80,[114],[],[]⟩
def r5:Res:=⟨1,[114],0,0,[],[⟨[42],[47],[⟨[99],1⟩]⟩],[]⟩
def c5:Res:=⟨2,[99],0,0,[101],[],[]⟩
def e5:Res:=⟨3,[101],0,0,[],[],[7]⟩
def s5:List Res:=[l5,r5,c5,e5]
theorem reachOk_of {l:List Res} (hl:l.length≤65536) (hs:∀ r∈l,SmRes r) (hu:Up (l.map keyOf)):ReachOk l:=reach_c l hl hs (up_nodup hu)
theorem Conf.kin {l:List Res} (h:Conf l):Kin l:=fun r hr=>by
 have:=h.sane r hr
 unfold saneR at this
 split at this
 ·cases this
 ·rename_i h1
  have h1:wIn r.kind 3=true:=by simpa using h1
  simpa [wIn] using h1
theorem kin_nil:Kin []:=fun r hr=>by simp at hr
theorem up_nil:Up (([]:List Res).map keyOf):=by simp [Up]
structure At (a b:List Res) (H:List Key) (e x:List Res) (l:List Step):Prop where
 chain:Chain b H x l e
 up:Up (x.map keyOf)
 len:x.length+(diffA x b).length≤a.length+b.length
 mem:∀ r∈x,r∈a∨r∈b
theorem At.start {a b:List Res} {H:List Key} (ha:Up (a.map keyOf)) (hb:Up (b.map keyOf)) (hl:a.length+b.length < 400):∃ e,At a b H e a (runP b H 400 a)∧(runP b H 400 a).length≤a.length+b.length:=by
 have h1:=(diffA_sub a b).length_le
 have h2:=(diffG_sub a b).length_le
 rw [List.length_map] at h2
 obtain ⟨e,he⟩:=run_chain (held:=H) hb 400 a ha (by omega)
 have:=chain_size hb he ha
 exact ⟨e,⟨he,ha,by omega,fun r hr=>.inl hr⟩,by omega⟩
theorem At.step {a b:List Res} {H:List Key} {e x:List Res} {s:Step} {l:List Step} (hb:Up (b.map keyOf)) (h:At a b H e x (s :: l)):nextP x b H=some s∧At a b H e (applyP x s) l:=by
 cases h.chain with
 | cons _ _ _ _ h1 h2 =>
  obtain ⟨q1,q2,q3,q4⟩:=next_less h.up hb h1
  have hl:(applyP x s).length≤x.length+s.adds.length:=patchR_len _ _ _
  have:=h.len
  exact ⟨h1,h2,q4,by omega,fun r hr=>(patchR_mem hr).elim (h.mem r) fun hr=>.inr ((next_sub h1).1.subset hr)⟩
theorem At.stop {a b:List Res} {H:List Key} {e x:List Res} (h:At a b H e x []):x=e∧nextP x b H=none:=by
 cases h.chain with
 | nil _ h1=>exact ⟨rfl,h1⟩
theorem At.kin {a b:List Res} {H:List Key} {e x:List Res} {l:List Step} (h:At a b H e x l) (ka:Kin a) (kb:Kin b):Kin x:=fun r hr=>(h.mem r hr).elim (ka r) (kb r)
theorem At.sm {a b:List Res} {H:List Key} {e x:List Res} {l:List Step} (h:At a b H e x l) (ha:∀ r∈a,SmRes r) (hb:∀ r∈b,SmRes r):∀ r∈x,SmRes r:=fun r hr=>(h.mem r hr).elim (ha r) (hb r)
@[go_sem] def Wd18:List (List Nat×List Nat):=[([3],[6,7,8,9,10,11,12,13,14,15,16,17,18,19,20,21]),([4],[7,8,9,10,11,12,13,14,15,16,17,18,19,20,21]),([5],[14,15,16,17,18,19,20,21]),([6],[3,15,16,17,18,19,20,21]),([7],[3,4,9,10,11,13,14,15,16,17,18,19,20,21]),([8],[3,4,9,10,11,15,16,17,18,19,20,21]),([9],[3,4,7,8,12,13,14,15,16,17,18,19,20,21]),([10],[3,4,7,8,13,14,15,16,17,18,19,20,21]),([11],[3,4,7,8,15,16,17,18,19,20,21]),([12],[3,4,9,18,19,20,21]),([13],[3,4,7,9,10,18,19,20,21]),([14],[3,4,5,7,9,10]),([15],[3,4,5,6,7,8,9,10,11,18,19,20,21]),([16],[3,4,5,6,7,8,9,10,11]),([17],[3,4,5,6,7,8,9,10,11]),([18],[3,4,5,6,7,8,9,10,11,12,13,15,21]),([19],[3,4,5,6,7,8,9,10,11,12,13,15]),([20],[3,4,5,6,7,8,9,10,11,12,13,15]),([21],[3,4,5,6,7,8,9,10,11,12,13,15,18])]
theorem eqFRes_c (fn:FuncId) (caps:List AV) (hc:Caps caps) (xs ys:List Res) (hp:∀ x∈xs,∀ y,CallR Tryz.prog fn (.agg [.int .i64 x.kind,.str x.name,.int .i64 x.ver,.int .i64 x.port,.str x.to',.slice false (avs x.rules'),.slice false (avs x.hosts)] :: .agg [.int .i64 y.kind,.str y.name,.int .i64 y.ver,.int .i64 y.port,.str y.to',.slice false (avs y.rules'),.slice false (avs y.hosts)] :: caps) (.val (.bool (decide (x=y))))) (hl:Small xs.length):CallR Tryz.prog 126 [.slice false (avs xs),.slice false (avs ys),.clo (.func fn) [] caps] (.val (.bool (decide (xs=ys)))):=by
 have hca:=hc.args
 have hcp:=hc.pure
 have hcn:=hc.nrm
 refine CallR.go3 (T:=T) Tryz.call126 Tryz.func126 rfl Tryz.ntmps126 (congrArg Array.toList Tryz.results126) (by decide) fun ts hn h0 h1 h2=>?_
 by_cases hll:xs.length=ys.length
 ·(repeat' (first
 | (with_reducible first|assumption|(refine Qw hK _ ?_; clear hK K)|refine Qw ‹_› _ ?_|refine Qx ‹_› ?_|refine Qi fun K hK=>?_|refine Qj T fun K hK=>?_|refine Ql fun A B hA hB=>?_|refine Qm ?_|refine Qn ?_|refine Qp ?_|refine Qr ?_)
 | ((with_reducible first|apply Qy|apply Qz|apply QA)<;>intro hb<;>try simp only [nr] at hb)
 | simp only [go_sem,↓reduceIte,reduceIte,Qa,Qh,Qb,Qc,Qd,Qe,Qf,Qg,reduceCtorEq, *,-hp]
 | with_reducible refine fun (bn:Bool) hbn=>?_))
  refine SpecC.loopF [1,2,15,16] (fun m ts'=>∃ (i:Nat),m=xs.length - i∧i≤xs.length∧xs.take i=ys.take i∧ts'.tmp 17=.int .i64 i) xs.length ?_ ?_
  ·refine ⟨0,?_⟩
   simp only [go_sem,↓reduceIte,reduceIte,Qa,Qh,Qb,Qc,Qd,Qe,Qf,Qg,reduceCtorEq, *,-hp]
  ·rintro m A hM ts' hk ⟨i,hm,f1,f2,s1⟩
   simp only [go_sem,↓reduceIte,reduceIte,Qa,Qh,Qb,Qc,Qd,Qe,Qf,Qg,reduceCtorEq, *] at hk
   by_cases hlt:i < xs.length
   ·have hlu:i < ys.length:=by omega
    have hne:=take_ne hlt hlu
    have hpi:=hp _ (List.getElem_mem hlt) ys[i]
    (repeat' (first
 | (with_reducible first|refine callX.by (hpi) ?_|assumption|(refine Qw hK _ ?_; clear hK K)|refine Qw ‹_› _ ?_|refine Qx ‹_› ?_|refine Qi fun K hK=>?_|refine Qj T fun K hK=>?_|refine Ql fun A B hA hB=>?_|refine Qm ?_|refine Qn ?_|refine Qp ?_|refine Qr ?_)
 | ((with_reducible first|apply Qy|apply Qz|apply QA)<;>intro hb<;>try simp only [nr] at hb)
 | simp only [go_sem,↓reduceIte,reduceIte,Qa,Qh,Qb,Qc,Qd,Qe,Qf,Qg,reduceCtorEq, *,-hp,-hpi]
 | with_reducible refine fun (bn:Bool) hbn=>?_))
    all_goals ((repeat clear hK); (repeat clear hA); (repeat clear hB))
    all_goals first
     | (refine hM.on (xs.length - (i+1)) (by omega) (by simp only [go_sem,↓reduceIte,reduceIte,Qa,Qh,Qb,Qc,Qd,Qe,Qf,Qg,reduceCtorEq, *,w64_nat hlt hl,-hp,-hpi]) ⟨i+1,rfl,by omega,take_get f2 hlt hlu (of_decide_eq_true hb),?_⟩; simp only [go_sem,↓reduceIte,reduceIte,Qa,Qh,Qb,Qc,Qd,Qe,Qf,Qg,reduceCtorEq, *,w64_nat hlt hl,-hp,-hpi]; done)
     | (clear hM hp hpi; grind)
   ·have:=take_all f2 hlt hll
    (repeat' (first
 | (with_reducible first|assumption|(refine Qw hK _ ?_; clear hK K)|refine Qw ‹_› _ ?_|refine Qx ‹_› ?_|refine Qi fun K hK=>?_|refine Qj T fun K hK=>?_|refine Ql fun A B hA hB=>?_|refine Qm ?_|refine Qn ?_|refine Qp ?_|refine Qr ?_)
 | ((with_reducible first|apply Qy|apply Qz|apply QA)<;>intro hb<;>try simp only [nr] at hb)
 | simp only [go_sem,↓reduceIte,reduceIte,Qa,Qh,Qb,Qc,Qd,Qe,Qf,Qg,reduceCtorEq, *,-hp]
 | with_reducible refine fun (bn:Bool) hbn=>?_))
    all_goals ((repeat clear hK); (repeat clear hA); (repeat clear hB))
    all_goals (clear hM hp; grind)
 ·have:¬ xs=ys:=by rintro rfl; exact hll rfl
  (repeat' (first
 | (with_reducible first|assumption|(refine Qw hK _ ?_; clear hK K)|refine Qw ‹_› _ ?_|refine Qx ‹_› ?_|refine Qi fun K hK=>?_|refine Qj T fun K hK=>?_|refine Ql fun A B hA hB=>?_|refine Qm ?_|refine Qn ?_|refine Qp ?_|refine Qr ?_)
 | ((with_reducible first|apply Qy|apply Qz|apply QA)<;>intro hb<;>try simp only [nr] at hb)
 | simp only [go_sem,↓reduceIte,reduceIte,Qa,Qh,Qb,Qc,Qd,Qe,Qf,Qg,reduceCtorEq, *,-hp]
 | with_reducible refine fun (bn:Bool) hbn=>?_))
  all_goals ((repeat clear hK); (repeat clear hA); (repeat clear hB))
  all_goals (clear hp; grind)
theorem tsame_c (xs ys:List Res) (hl:Small xs.length) (hs:∀ x∈xs,SmRes x):CallR Tryz.prog 65 [.slice false (avs xs),.slice false (avs ys)] (.val (.bool (decide (xs=ys)))):=by
 have w1:=eqFRes_c 120 [] Caps.nil xs ys (fun x hx y=>sameP_c x.kind x.name x.ver x.port x.to' x.rules' x.hosts y.kind y.name y.ver y.port y.to' y.rules' y.hosts (hs x hx).2.2.2.2 (hs x hx).2.2.1 (hs x hx).2.2.2.1) hl
 refine CallR.go2 (T:=T) Tryz.call65 Tryz.func65 rfl Tryz.ntmps65 (congrArg Array.toList Tryz.results65) (by decide) fun ts hn h0 h1=>?_
 (repeat' (first
 | (with_reducible first|refine callX.by (w1) ?_|refine callX.by (eqFRes_c _ _ ?_ _ _ ?_ ?_) ?_|refine callX.by (sameP_c _ _ _ _ _ _ _ _ _ _ _ _ _ _ ?_ ?_ ?_) ?_|refine callX.by awqm ?_|assumption|(refine Qw hK _ ?_; clear hK K)|refine Qw ‹_› _ ?_|refine Qx ‹_› ?_|refine Qi fun K hK=>?_|refine Qj T fun K hK=>?_|refine Ql fun A B hA hB=>?_|refine Qn ?_|refine Qr ?_)
 | ((with_reducible first|apply Qy|apply Qz|apply QA)<;>intro hb<;>try simp only [nr] at hb)
 | simp only [go_sem,↓reduceIte,reduceIte,Qa,Qh,Qb,Qc,Qd,Qe,Qf,Qg,reduceCtorEq, *,-hs,-w1]
 | with_reducible refine fun (bn:Bool) hbn=>?_))
theorem newW_c (n:Int):CallR Tryz.prog 52 [.int .i64 n] (.val (.agg [.int .i64 (bnd n),.slice false [],.bool false,.slice false []])):=by
 have w0:=newC_c n
 refine QD (T:=T) Tryz.call52 Tryz.func52 rfl Tryz.ntmps52 (congrArg Array.toList Tryz.results52) (by decide) fun ts hn h0=>?_
 (repeat' (first
 | (with_reducible first|refine callX.by (w0) ?_|refine callX.by (newC_c _) ?_|assumption|(refine Qw hK _ ?_; clear hK K)|refine Qw ‹_› _ ?_|refine Qx ‹_› ?_|refine Qi fun K hK=>?_|refine Qj T fun K hK=>?_|refine Ql fun A B hA hB=>?_|refine Qn ?_|refine Qr ?_)
 | ((with_reducible first|apply Qy|apply Qz|apply QA)<;>intro hb<;>try simp only [nr] at hb)
 | simp only [go_sem,↓reduceIte,reduceIte,Qa,Qh,Qb,Qc,Qd,Qe,Qf,Qg,reduceCtorEq, *,-w0]
 | with_reducible refine fun (bn:Bool) hbn=>?_))
def saneW (w:Warm):Bool:=saneC w.c && decide (w.shown=shownC w.c) && (w.ready || decide (w.shown=[]))
theorem saneW_c (w_c_cap:Int) (w_c_l:List Res) (w_ready:Bool) (w_shown:List Res) (hl:w_c_l.length≤65536) (hs:∀ r∈w_c_l,SmRes r) (hl2:Small w_shown.length) (hs2:∀ r∈w_shown,SmRes r):CallR Tryz.prog 48 [.agg [.int .i64 w_c_cap,.slice false (avs w_c_l),.bool w_ready,.slice false (avs w_shown)]] (.val (.bool (saneW (⟨⟨w_c_cap,w_c_l⟩,w_ready,w_shown⟩:Warm)))):=by
 have w1:=saneC_c w_c_cap w_c_l hl hs
 have w2:=(shownC_c w_c_cap w_c_l hl hs).frz
 have w3:=tsame_c w_shown (shownC ⟨w_c_cap,w_c_l⟩) hl2 hs2
 have hlen:decide ((w_shown.length:Int)=0)=decide (w_shown=[]):=by
  rw [Bool.eq_iff_iff]; simp
 unfold saneW
 simp only
 generalize shownC ⟨w_c_cap,w_c_l⟩=sh at *
 cases hb0:saneC ⟨w_c_cap,w_c_l⟩
 ·rw [hb0] at w1
  refine QD (T:=T) Tryz.call48 Tryz.func48 rfl Tryz.ntmps48 (congrArg Array.toList Tryz.results48) (by decide) fun ts hn h0=>?_
  (repeat' (first
 | (with_reducible first|refine callX.by (w1) ?_|refine callX.by (saneC_c _ _ ?_ ?_) ?_|refine callX.by (shownC_c _ _ ?_ ?_) ?_|refine callX.by (tsame_c _ _ ?_ ?_) ?_|assumption|(refine Qw hK _ ?_; clear hK K)|refine Qw ‹_› _ ?_|refine Qx ‹_› ?_|refine Qi fun K hK=>?_|refine Qj T fun K hK=>?_|refine Qk (id:=1) T mixed Wd18 (by kernel_rfl) fun K hK=>?_|refine Ql fun A B hA hB=>?_|refine Qn ?_|refine Qr ?_)
 | ((with_reducible first|apply Qy|apply Qz|apply QA)<;>intro hb<;>try simp only [nr] at hb)
 | simp only [go_sem,↓reduceIte,reduceIte,Qa,Qh,Qb,Qc,Qd,Qe,Qf,Qg,reduceCtorEq, *,-hs,-hs2,-w1,-w2,-w3]
 | with_reducible refine fun (bn:Bool) hbn=>?_))
 ·rw [hb0] at w1
  by_cases hsh:w_shown=sh
  ·rw [decide_eq_true hsh] at w3
   cases w_ready
   ·refine QD (T:=T) Tryz.call48 Tryz.func48 rfl Tryz.ntmps48 (congrArg Array.toList Tryz.results48) (by decide) fun ts hn h0=>?_
    (repeat' (first
 | (with_reducible first|refine callX.by (w1) ?_|refine callX.by (w2) ?_|refine callX.by (w3) ?_|refine callX.by (saneC_c _ _ ?_ ?_) ?_|refine callX.by (shownC_c _ _ ?_ ?_) ?_|refine callX.by (tsame_c _ _ ?_ ?_) ?_|assumption|(refine Qw hK _ ?_; clear hK K)|refine Qw ‹_› _ ?_|refine Qx ‹_› ?_|refine Qi fun K hK=>?_|refine Qj T fun K hK=>?_|refine Qk (id:=1) T mixed Wd18 (by kernel_rfl) fun K hK=>?_|refine Ql fun A B hA hB=>?_|refine Qn ?_|refine Qr ?_)
 | ((with_reducible first|apply Qy|apply Qz|apply QA)<;>intro hb<;>try simp only [nr] at hb)
 | simp only [go_sem,↓reduceIte,reduceIte,Qa,Qh,Qb,Qc,Qd,Qe,Qf,Qg,reduceCtorEq, *,-hs,-hs2,-w1,-w2,-w3,-hsh]
 | with_reducible refine fun (bn:Bool) hbn=>?_))
    all_goals simp_all
   ·refine QD (T:=T) Tryz.call48 Tryz.func48 rfl Tryz.ntmps48 (congrArg Array.toList Tryz.results48) (by decide) fun ts hn h0=>?_
    (repeat' (first
 | (with_reducible first|refine callX.by (w1) ?_|refine callX.by (w2) ?_|refine callX.by (w3) ?_|refine callX.by (saneC_c _ _ ?_ ?_) ?_|refine callX.by (shownC_c _ _ ?_ ?_) ?_|refine callX.by (tsame_c _ _ ?_ ?_) ?_|assumption|(refine Qw hK _ ?_; clear hK K)|refine Qw ‹_› _ ?_|refine Qx ‹_› ?_|refine Qi fun K hK=>?_|refine Qj T fun K hK=>?_|refine Qk (id:=1) T mixed Wd18 (by kernel_rfl) fun K hK=>?_|refine Ql fun A B hA hB=>?_|refine Qn ?_|refine Qr ?_)
 | ((with_reducible first|apply Qy|apply Qz|apply QA)<;>intro hb<;>try simp only [nr] at hb)
 | simp only [go_sem,↓reduceIte,reduceIte,Qa,Qh,Qb,Qc,Qd,Qe,Qf,Qg,reduceCtorEq, *,-hs,-hs2,-w1,-w2,-w3,-hsh]
 | with_reducible refine fun (bn:Bool) hbn=>?_))
    all_goals simp_all
  ·rw [decide_eq_false hsh] at w3
   refine QD (T:=T) Tryz.call48 Tryz.func48 rfl Tryz.ntmps48 (congrArg Array.toList Tryz.results48) (by decide) fun ts hn h0=>?_
   (repeat' (first
 | (with_reducible first|refine callX.by (w1) ?_|refine callX.by (w2) ?_|refine callX.by (w3) ?_|refine callX.by (saneC_c _ _ ?_ ?_) ?_|refine callX.by (shownC_c _ _ ?_ ?_) ?_|refine callX.by (tsame_c _ _ ?_ ?_) ?_|assumption|(refine Qw hK _ ?_; clear hK K)|refine Qw ‹_› _ ?_|refine Qx ‹_› ?_|refine Qi fun K hK=>?_|refine Qj T fun K hK=>?_|refine Qk (id:=1) T mixed Wd18 (by kernel_rfl) fun K hK=>?_|refine Ql fun A B hA hB=>?_|refine Qn ?_|refine Qr ?_)
 | ((with_reducible first|apply Qy|apply Qz|apply QA)<;>intro hb<;>try simp only [nr] at hb)
 | simp only [go_sem,↓reduceIte,reduceIte,Qa,Qh,Qb,Qc,Qd,Qe,Qf,Qg,reduceCtorEq, *,-hs,-hs2,-w1,-w2,-w3,-hsh]
 | with_reducible refine fun (bn:Bool) hbn=>?_))
   all_goals simp_all
def saneOfW (w:Warm):Warm:=if saneW w=true then w else ⟨⟨bnd w.c.cap,[]⟩,false,[]⟩
theorem saneOfW_c (w_c_cap:Int) (w_c_l:List Res) (w_ready:Bool) (w_shown:List Res) (hl:w_c_l.length≤65536) (hs:∀ r∈w_c_l,SmRes r) (hl2:Small w_shown.length) (hs2:∀ r∈w_shown,SmRes r):CallR Tryz.prog 104 [.agg [.int .i64 w_c_cap,.slice false (avs w_c_l),.bool w_ready,.slice false (avs w_shown)]] (.val (.agg [.int .i64 (saneOfW (⟨⟨w_c_cap,w_c_l⟩,w_ready,w_shown⟩:Warm)).c.cap,.slice false (avs (saneOfW (⟨⟨w_c_cap,w_c_l⟩,w_ready,w_shown⟩:Warm)).c.l),.bool (saneOfW (⟨⟨w_c_cap,w_c_l⟩,w_ready,w_shown⟩:Warm)).ready,.slice false (avs (saneOfW (⟨⟨w_c_cap,w_c_l⟩,w_ready,w_shown⟩:Warm)).shown)])):=by
 have w1:=saneW_c w_c_cap w_c_l w_ready w_shown hl hs hl2 hs2
 unfold saneOfW
 cases hb0:saneW (⟨⟨w_c_cap,w_c_l⟩,w_ready,w_shown⟩:Warm)
 ·rw [hb0] at w1
  refine QD (T:=T) Tryz.call104 Tryz.func104 rfl Tryz.ntmps104 (congrArg Array.toList Tryz.results104) (by decide) fun ts hn h0=>?_
  (repeat' (first
 | (with_reducible first|refine callX.by (w1) ?_|refine callX.by (saneW_c _ _ _ _ ?_ ?_ ?_ ?_) ?_|refine callX.by (newW_c _) ?_|assumption|(refine Qw hK _ ?_; clear hK K)|refine Qw ‹_› _ ?_|refine Qx ‹_› ?_|refine Qi fun K hK=>?_|refine Qj T fun K hK=>?_|refine Ql fun A B hA hB=>?_|refine Qn ?_|refine Qr ?_)
 | ((with_reducible first|apply Qy|apply Qz|apply QA)<;>intro hb<;>try simp only [nr] at hb)
 | simp only [go_sem,↓reduceIte,reduceIte,Qa,Qh,Qb,Qc,Qd,Qe,Qf,Qg,reduceCtorEq, *,-hs,-hs2,-w1]
 | with_reducible refine fun (bn:Bool) hbn=>?_))
  all_goals rfl
 ·rw [hb0] at w1
  refine QD (T:=T) Tryz.call104 Tryz.func104 rfl Tryz.ntmps104 (congrArg Array.toList Tryz.results104) (by decide) fun ts hn h0=>?_
  (repeat' (first
 | (with_reducible first|refine callX.by (w1) ?_|refine callX.by (saneW_c _ _ _ _ ?_ ?_ ?_ ?_) ?_|refine callX.by (newW_c _) ?_|assumption|(refine Qw hK _ ?_; clear hK K)|refine Qw ‹_› _ ?_|refine Qx ‹_› ?_|refine Qi fun K hK=>?_|refine Qj T fun K hK=>?_|refine Ql fun A B hA hB=>?_|refine Qn ?_|refine Qr ?_)
 | ((with_reducible first|apply Qy|apply Qz|apply QA)<;>intro hb<;>try simp only [nr] at hb)
 | simp only [go_sem,↓reduceIte,reduceIte,Qa,Qh,Qb,Qc,Qd,Qe,Qf,Qg,reduceCtorEq, *,-hs,-hs2,-w1]
 | with_reducible refine fun (bn:Bool) hbn=>?_))
  all_goals trace_state
theorem good_fit {l:List Res} (h:goodE l=true) (hm:missK l=[]):Fit l∧Conf l:=by
 unfold goodE at h
 simp only [Bool.and_eq_true,decide_eq_true_eq] at h
 have hc:=conf_of h.1
 refine ⟨⟨hc.up,hc.kin,h.2,fun r hr k hk=>Classical.byContradiction fun hn=>?_⟩,hc⟩
 have:=(mem_missK l k).2 ⟨⟨r,hr,hk⟩,hn⟩
 rw [hm] at this; simp at this
end Go.Proofs.YtmjkjmoeicnbnaaGreatDoor.Lg
