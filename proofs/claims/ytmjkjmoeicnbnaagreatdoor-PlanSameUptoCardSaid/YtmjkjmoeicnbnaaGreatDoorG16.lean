/- Parts of the proof, one behind the other. -/
import Derived.Tactics
import Derived.Tactics2
import Derived.Defers
import Derived.Recover
import Derived.Laws.Pointers
import Derived.Test.YtmjkjmoeicnbnaaGreatDoorG15
namespace Go.Proofs.YtmjkjmoeicnbnaaGreatDoor.Lg
set_option maxRecDepth 100000
set_option linter.unusedVariables false
set_option linter.unusedSimpArgs false
open Go
theorem mem_missK (l:List Res) (x:Key):x∈missK l↔(∃ r∈l,x∈refsR r)∧¬ x∈l.map keyOf:=by
 unfold missK
 rw [(kcompact_up (ksort_le _)).2,ksort_mem]
 unfold missR keepK
 rw [List.mem_flatMap]
 have hi:∀ k,(mget (ofR l []) k).getD false=decide (k∈l.map keyOf):=fun k=>isIn_of l k
 constructor
 ·rintro ⟨r,hr,hx⟩
  obtain ⟨h1,h2⟩:=List.mem_filter.1 hx
  rw [hi] at h2
  exact ⟨⟨r,hr,h1⟩,by simpa using h2⟩
 ·rintro ⟨⟨r,hr,h1⟩,h2⟩
  refine ⟨r,hr,List.mem_filter.2 ⟨h1,?_⟩⟩
  rw [hi,decide_eq_false h2]; rfl
theorem kcT_len:∀ l:List Key,(kcT l).length≤l.length - 1
 | []=>by simp [kcT]
 | [a]=>by simp [kcT]
 | a :: b :: l=>by
  have:=kcT_len (b :: l)
  unfold kcT
  split<;>simp only [List.length_cons] at *<;>omega
theorem kcompact_len (l:List Key):(kcompact l).length≤l.length:=by
 unfold kcompact
 have:=kcT_len l
 rw [List.length_append,List.length_take]
 omega
theorem missK_len (l:List Res):(missK l).length≤33 * l.length:=by
 unfold missK
 refine Nat.le_trans (kcompact_len _) ?_
 rw [ksort_length]
 unfold missR
 generalize ofR l []=M
 induction l with
 | nil=>simp
 | cons r l ih =>
  rw [List.flatMap_cons,List.length_append,List.length_cons]
  have h1:(keepK M (refsR r)).length≤(refsR r).length:=List.length_filter_le _ _
  have h2:=refs_len r
  omega
theorem ref_pos (l:List Res) (k:Key):0 < (referrers l k).length↔∃ r∈l,k∈refsR r:=by
 unfold referrers
 rw [List.length_map,List.length_pos_iff_exists_mem]
 constructor
 ·rintro ⟨r,hr⟩
  obtain ⟨h1,h2⟩:=List.mem_filter.1 hr
  obtain ⟨x,hx,he⟩:=List.any_eq_true.1 h2
  have:k=x:=by simpa using he
  subst this
  exact ⟨r,h1,hx⟩
 ·rintro ⟨r,hr,hx⟩
  exact ⟨r,List.mem_filter.2 ⟨hr,List.any_eq_true.2 ⟨k,hx,by simp⟩⟩⟩
theorem tget_is (l:List Res) (k:Key):(tget l k).isSome=decide (k∈l.map keyOf):=by
 unfold tget
 rw [Bool.eq_iff_iff,List.find?_isSome,decide_eq_true_eq,List.mem_map]
 simp
theorem tget_in {l:List Res} {k:Key} {r:Res} (h:tget l k=some r):r∈l∧keyOf r=k:=by
 unfold tget at h
 exact ⟨List.mem_of_find?_eq_some h,by simpa using List.find?_some h⟩
theorem tget_key {l:List Res} (h:(l.map keyOf).Nodup) {r:Res} (hr:r∈l):tget l (keyOf r)=some r:=by
 cases e:tget l (keyOf r) with
 | none =>
  have:=tget_is l (keyOf r)
  rw [e,decide_eq_true (List.mem_map_of_mem hr)] at this
  cases this
 | some q =>
  obtain ⟨h1,h2⟩:=tget_in e
  rw [key_inj h h1 hr h2]
theorem lacks_iff (l:List Res) (r:Res):lacks (ofR l []) r=true↔∃ k∈refsR r,¬ k∈l.map keyOf:=by
 unfold lacks
 rw [List.any_eq_true]
 constructor
 ·rintro ⟨k,hk,h⟩
  rw [isIn_of] at h
  exact ⟨k,hk,by simpa using h⟩
 ·rintro ⟨k,hk,h⟩
  refine ⟨k,hk,?_⟩
  rw [isIn_of,decide_eq_false h]; rfl
theorem mem_without {l:List Res} {k:Key} {r:Res}:r∈twithout l k↔r∈l∧keyOf r≠k:=by
 unfold twithout
 rw [List.mem_filter]
 simp
theorem served_ok {l:List Res}:served l=0↔(∀ r∈reachR l,∀ k∈refsR r,k∈l.map keyOf)∧∀ r∈reachR l,bare r=false:=by
 unfold served
 by_cases h1:(reachR l).any (lacks (ofR l []))=true
 ·rw [if_pos h1]
  obtain ⟨r,hr,hl⟩:=List.any_eq_true.1 h1
  obtain ⟨k,hk,hn⟩:=(lacks_iff l r).1 hl
  exact ⟨fun h=>absurd h (by decide),fun h=>absurd (h.1 r hr k hk) hn⟩
 ·rw [if_neg h1]
  have h1':∀ r∈reachR l,∀ k∈refsR r,k∈l.map keyOf:=fun r hr k hk=>by
   by_cases hn:k∈l.map keyOf
   ·exact hn
   ·exact absurd (List.any_eq_true.2 ⟨r,hr,(lacks_iff l r).2 ⟨k,hk,hn⟩⟩) h1
  by_cases h2:(reachR l).any bare=true
  ·rw [if_pos h2]
   obtain ⟨r,hr,hb⟩:=List.any_eq_true.1 h2
   exact ⟨fun h=>absurd h (by decide),fun h=>by rw [h.2 r hr] at hb; cases hb⟩
  ·rw [if_neg h2]
   exact ⟨fun _=>⟨h1',fun r hr=>by simpa using fun hb=>h2 (List.any_eq_true.2 ⟨r,hr,hb⟩)⟩,fun _=>rfl⟩
def upV (x:Int):Value:=.iface 165 (.agg #[.int .i64 x])
def upE (x:Int):List PanicEntry:=[{ v:=upV x,recovered:=false }]
end Go.Proofs.YtmjkjmoeicnbnaaGreatDoor.Lg
namespace Go.Proofs.YtmjkjmoeicnbnaaGreatDoor.Lg
set_option maxRecDepth 100000
set_option linter.unusedVariables false
set_option linter.unusedSimpArgs false
open Go
variable {P:Program}
theorem Rel.later {E:Env} {ts:TS} {G:Ghost} {a:Go.Act} {w w':World} (h:Rel E ts G a w) (hbel:Bel (fun _=>False) w w'):Rel E ts G a w':=by
 have hw:∀ i,i < w.heap.size→w'.heap[i]?=w.heap[i]?:=fun i hi=>hbel.block i hi (fun f=>f)
 have hle:(ctxOf E G ts w).Le (ctxOf E G ts w') :=
  {blk:=fun b' hMa hc=>⟨hw _ hc,hMa⟩,gen:=fun _=>Nat.le_refl _,kind:=fun e k _ hk'=>⟨hk',rfl,rfl⟩ }
 refine ⟨h.size,h.defers,fun t=>(h.tmp t).mono hle,fun d=>ObOk.mono hle rfl rfl (fun h1 h2=>hw _ (h.own d ⟨h1,h2⟩).2.2) (h.obj d),h.sep,fun d hd=>?_,fun b hb=>Nat.lt_of_lt_of_le (h.inF b hb) hbel.size,h.bel.trans ⟨hbel.os,hbel.tape,hbel.output,hbel.size,fun k hk' _=>hw k hk',hbel.drawn⟩,h.pin⟩
 obtain ⟨p,q,s⟩:=h.own d hd
 exact ⟨p,q,Nat.lt_of_lt_of_le s hbel.size⟩
def Done (f:FuncId) (args:List Arg) (x:Int) (U:(Nat→List AV)→Prop):Prop :=
 if x=0 then CallV Tryz.prog f args (fun r io=>r=.val (.tup [])∧U io) else CallUV Tryz.prog f args (upE x) U
theorem Done.calls {f:FuncId} {args:List Arg} {x:Int} {U:(Nat→List AV)→Prop} (h:Done f args x U) (hf:∀ (vals:Array Value) (w:World),(callFunc f vals).run Tryz.prog w=.ok (.enter f vals) w)
  {E:Env} {G:Ghost} {vals:Array Value} {w:World} (hw:E.w0=w) (hrel:Rel E (argTS args args.length) G ⟨vals,[]⟩ w) (hpin:∀ j,(∃ cs,args[j]?=some (.io cs))↔∃ b,E.pin j=some b) :
  Calls Tryz.prog f vals w fun e w'=>(if x=0 then e=.returned (.tuple #[]) else e=.panicked (upE x))∧∃ io ts' G' a',U io∧Rel E ts' G' a' w'∧∀ j b,E.pin j=some b→ts'.gen j=0∧ts'.obj j=.box (io j)∧AV.pure.pureL (io j)=true:=by
 unfold Done at h
 split at h
 ·have:=h E G vals w hw hrel hpin
  rw [hf] at this
  refine Calls.mono this ?_
  rintro e w' ⟨v,r,io,ts',G',rfl,⟨rfl,hU⟩,hr,hp,hret⟩
  obtain ⟨_,ht⟩:=hret
  have hv:=hr.tmp 0
  rw [ht] at hv
  have hv:Rep (ctxOf E G' ts' w') v (.tup []):=by simpa using hv
  have hv0:v=.tuple #[]:=by
   cases hv with
   | tup cs bs hl h=>rw [show cs=#[] from Array.eq_empty_of_size_eq_zero (by simpa using hl)]
  exact ⟨by rw [hv0,if_pos ‹_›],io,ts',G',_,hU,hr,hp⟩
 ·have:=h E G vals w hw hrel hpin
  rw [hf] at this
  refine Calls.mono this ?_
  rintro e w' ⟨io,ts',G',rfl,hU,hr,hp⟩
  exact ⟨by rw [if_neg ‹_›],io,ts',G',_,hU,hr,hp⟩
end Go.Proofs.YtmjkjmoeicnbnaaGreatDoor.Lg
namespace Go.Proofs.YtmjkjmoeicnbnaaGreatDoor.Lg
set_option maxRecDepth 100000
set_option linter.unusedVariables false
set_option linter.unusedSimpArgs false
open Go
open Nat renaming reduceEqDiff → Qa, reduceLT → Qb, reduceLeDiff → Qc, reduceAdd → Qd, reduceMul → Qe, reduceSub → Qf, reduceBEq → Qg
open String renaming reduceEq → Qh
open SpecC renaming seqW → Qi, regW → Qj, drawW → Qk, condW → Ql, block → Qm, skip → Qn, exit → Qp, ret → Qr, loopF → Qs
open NxK renaming out → Qw
open Nx renaming out → Qx
open condK renaming split → Qy
open gK renaming split_t → Qz, split_f → QA
theorem with11_c (r_kind:Int) (r_name:List UInt8) (r_ver:Int) (r_port:Int) (r_to:List UInt8) (r_rules:List Rule) (r_hosts:List Int) (k_kind:Int) (k_name:List UInt8) (c:Int):CallR Tryz.prog 185 [.agg [.int .i64 r_kind,.str r_name,.int .i64 r_ver,.int .i64 r_port,.str r_to,.slice false (avs r_rules),.slice false (avs r_hosts)],.ro [.int .i64 k_kind,.str k_name],.ro [.int .i64 c]] (.val (.bool (decide (kcmp (keyOf (⟨r_kind,r_name,r_ver,r_port,r_to,r_rules,r_hosts⟩:Res)) (⟨k_kind,k_name⟩:Key)=c)))):=by
 refine CallR.go3 (T:=T) Tryz.call185 Tryz.func185 rfl Tryz.ntmps185 (congrArg Array.toList Tryz.results185) (by decide) fun ts hn h0 h1 h2=>?_
 (repeat' (first
 | (with_reducible first|refine callX.by (rkey_c _ _ _ _ _ _ _) ?_|refine callX.by (kcmp_c _ _ _ _) ?_|assumption|(refine Qw hK _ ?_; clear hK K)|refine Qw ‹_› _ ?_|refine Qx ‹_› ?_|refine Qi fun K hK=>?_|refine Qj T fun K hK=>?_|refine Qk (id:=1) T mixed [([5],[7,9]),([6],[7,9]),([7],[5,6,9]),([8],[9]),([9],[5,6,7,8])] (by kernel_rfl) fun K hK=>?_|refine Ql fun A B hA hB=>?_|refine Qn ?_|refine Qr ?_)
 | ((with_reducible first|apply Qy|apply Qz|apply QA)<;>intro hb<;>try simp only [nr] at hb)
 | simp only [go_sem,↓reduceIte,reduceIte,Qa,Qh,Qb,Qc,Qd,Qe,Qf,Qg,reduceCtorEq, *]
 | with_reducible refine fun (bn:Bool) hbn=>?_))
 all_goals rfl
theorem caps_with (a:Int) (b:List UInt8) (c:Int):Caps [.ro [.int .i64 a,.str b],.ro [.int .i64 c]]:=⟨by simp only [go_sem,Bool.and_self],by simp only [go_sem]⟩
def sideR (l:List Res) (k:Key) (c:Int):List Res:=l.filter fun r=>decide (kcmp (keyOf r) k=c)
theorem with1_c (xs:List Res) (k_kind:Int) (k_name:List UInt8) (c:Int) (hl:Small xs.length):CallR Tryz.prog 184 [.int .i64 c,.ro [.slice false (avs xs)],.ro [.int .i64 k_kind,.str k_name]] (.own 7 (avs (sideR xs (⟨k_kind,k_name⟩:Key) c))):=by
 have hf:=tfilter_c 185 [.ro [.int .i64 k_kind,.str k_name],.ro [.int .i64 c]] (caps_with k_kind k_name c) (fun r=>decide (kcmp (keyOf r) (⟨k_kind,k_name⟩:Key)=c)) xs (fun x _=>with11_c x.kind x.name x.ver x.port x.to' x.rules' x.hosts k_kind k_name c) hl
 rw [show xs.filter (fun r=>decide (kcmp (keyOf r) (⟨k_kind,k_name⟩:Key)=c))=sideR xs (⟨k_kind,k_name⟩:Key) c from rfl] at hf
 refine CallR.go3 (T:=T) Tryz.call184 Tryz.func184 rfl Tryz.ntmps184 (congrArg Array.toList Tryz.results184) (by decide) fun ts hn h0 h1 h2=>?_
 (repeat' (first
 | (with_reducible first|refine callX.by (hf) ?_|refine callX.by (tfilter_c _ _ ?_ _ _ ?_ ?_) ?_|assumption|(refine Qw hK _ ?_; clear hK K)|refine Qw ‹_› _ ?_|refine Qx ‹_› ?_|refine Qi fun K hK=>?_|refine Qj T fun K hK=>?_|refine Ql fun A B hA hB=>?_|refine Qn ?_|refine Qr ?_)
 | ((with_reducible first|apply Qy|apply Qz|apply QA)<;>intro hb<;>try simp only [nr] at hb)
 | simp only [go_sem,↓reduceIte,reduceIte,Qa,Qh,Qb,Qc,Qd,Qe,Qf,Qg,reduceCtorEq, *,-hf]
 | with_reducible refine fun (bn:Bool) hbn=>?_))
def withR (l:List Res) (r:Res):List Res:=sideR l (keyOf r) (-1)++[r]++sideR l (keyOf r) 1
instance:Dat (List Res) where
 av x:=.slice false (avs x)
 sz:=1
 len _:=rfl
 pure x:=by simp only [go_sem,Bool.and_self]
 nrm x:=by simp only [go_sem]
 one x:=by simp only [go_sem,List.all_cons,List.all_nil,Bool.and_self]
 known _:=rfl
@[go_sem] theorem av_LRes (x:List Res):Dat.av x=.slice false (avs x):=rfl
@[go_sem] theorem sz_LRes:Dat.sz (List Res)=1:=rfl
theorem w64_sub0 {n:Nat} (hn:Small n):IntKind.i64.wrap ((n:Int) - IntKind.i64.wrap ((0:Int) - 0))=n:=by
 have e:IntKind.i64.wrap ((0:Int) - 0)=0:=by decide
 rw [e]
 unfold Small at hn
 simp only [IntKind.wrap,IntKind.signed,IntKind.bits]
 simp
 omega
theorem w64_addN {a b n:Nat} (h:a+b≤n) (hn:Small n):IntKind.i64.wrap ((a:Int)+(b:Int))=((a+b:Nat):Int):=by
 unfold Small at hn
 simp only [IntKind.wrap,IntKind.signed,IntKind.bits]
 simp
 omega
theorem tgrow_c (n:Nat) (hn:Small n):CallR Tryz.prog 218 [.slice true [],.int .i64 n] (.own 7 []):=by
 have hr:Room n 104:=room_small (by unfold Small at hn; omega) (by decide)
 have hr1:n * 104≤140737488355328:=hr.1
 have hr2:n≤9223372036854775807:=hr.2
 have hw:=w64_sub0 hn
 refine CallR.go2 (T:=T) Tryz.call218 Tryz.func218 rfl Tryz.ntmps218 (congrArg Array.toList Tryz.results218) (by decide) fun ts hn h0 h1=>?_
 have hz0:IntKind.i64.wrap ((0:Int) - IntKind.i64.wrap ((0:Int) - 0))=0:=by decide
 by_cases h00:n=0
 ·subst h00
  (repeat' (first
 | (with_reducible first|assumption|(refine Qw hK _ ?_; clear hK K)|refine Qw ‹_› _ ?_|refine Qx ‹_› ?_|refine Qi fun K hK=>?_|refine Qj T fun K hK=>?_|refine Ql fun A B hA hB=>?_|refine Qn ?_|refine Qr ?_)
 | ((with_reducible first|apply Qy|apply Qz|apply QA)<;>intro hb<;>try simp only [nr] at hb)
 | simp only [go_sem,↓reduceIte,reduceIte,Qa,Qh,Qb,Qc,Qd,Qe,Qf,Qg,reduceCtorEq, *,-hr,List.length_nil,Int.lt_irrefl,decide_false,Int.le_refl]
 | with_reducible refine fun (bn:Bool) hbn=>?_))
  all_goals first|(exfalso; simp_all; done)|trace_state
 ·have hd:(0:Int) < (n:Int):=by omega
  have hz:List.take 0 (List.replicate n (AV.agg (List.replicate 7 AV.any)))=[]:=rfl
  (repeat' (first
 | (with_reducible first|assumption|(refine Qw hK _ ?_; clear hK K)|refine Qw ‹_› _ ?_|refine Qx ‹_› ?_|refine Qi fun K hK=>?_|refine Qj T fun K hK=>?_|refine Ql fun A B hA hB=>?_|refine Qn ?_|refine Qr ?_)
 | ((with_reducible first|apply Qy|apply Qz|apply QA)<;>intro hb<;>try simp only [nr] at hb)
 | simp only [go_sem,↓reduceIte,reduceIte,Qa,Qh,Qb,Qc,Qd,Qe,Qf,Qg,reduceCtorEq, *,-hr,List.length_nil,Int.le_refl,Int.toNat_zero,List.drop_zero]
 | with_reducible refine fun (bn:Bool) hbn=>?_))
  all_goals trace_state
def flatN (xss:List (List Res)) (i:Nat):Nat:=(xss.drop i).flatten.length
theorem flatN_step {xss:List (List Res)} {i:Nat} (h:i < xss.length):flatN xss i=xss[i].length+flatN xss (i+1):=by
 unfold flatN
 rw [List.drop_eq_getElem_cons h,List.flatten_cons,List.length_append]
theorem concat_c (xss:List (List Res)) (hx:Small xss.length) (hl:Small xss.flatten.length):CallR Tryz.prog 186 [.slice false (avs xss)] (.own 7 (avs xss.flatten)):=by
 have hg:=tgrow_c xss.flatten.length hl
 refine CallR.go1 (T:=T) Tryz.call186 Tryz.func186 rfl Tryz.ntmps186 (congrArg Array.toList Tryz.results186) (by decide) fun ts hn h0=>?_
 (repeat' (first
 | (with_reducible first|refine callX.by (tgrow_c _ ?_) ?_|assumption|(refine Qw hK _ ?_; clear hK K)|refine Qw ‹_› _ ?_|refine Qx ‹_› ?_|refine Qi fun K hK=>?_|refine Qj T fun K hK=>?_|refine Ql fun A B hA hB=>?_|refine Qm ?_|refine Qn ?_|refine Qp ?_|refine Qr ?_)
 | ((with_reducible first|apply Qy|apply Qz|apply QA)<;>intro hb<;>try simp only [nr] at hb)
 | simp only [go_sem,↓reduceIte,reduceIte,Qa,Qh,Qb,Qc,Qd,Qe,Qf,Qg,reduceCtorEq, *,-hg]
 | with_reducible refine fun (bn:Bool) hbn=>?_))
 refine Qs [0,9,10] (fun m ts'=>∃ (i:Nat),∃ (n:Nat),m=xss.length - i∧i≤xss.length∧n+flatN xss i=xss.flatten.length∧ts'.tmp 3=.int .i64 n∧ts'.tmp 11=.int .i64 i) xss.length ?_ ?_
 ·refine ⟨0,0,rfl,Nat.zero_le _,by simp [flatN],?_⟩
  simp only [go_sem,↓reduceIte,reduceIte,Qa,Qh,Qb,Qc,Qd,Qe,Qf,Qg,reduceCtorEq, *,-hg]
 ·rintro m A hM ts' hk ⟨i,n,hm,f1,f2,s1,s2⟩
  simp only [go_sem,↓reduceIte,reduceIte,Qa,Qh,Qb,Qc,Qd,Qe,Qf,Qg,reduceCtorEq, *] at hk
  by_cases hlt:i < xss.length
  ·rw [flatN_step hlt] at f2
   have hw:=w64_addN (a:=n) (b:=xss[i].length) (n:=xss.flatten.length) (by omega) hl
   (repeat' (first
 | (with_reducible first|refine callX.by (tgrow_c _ ?_) ?_|assumption|(refine Qw hK _ ?_; clear hK K)|refine Qw ‹_› _ ?_|refine Qx ‹_› ?_|refine Qi fun K hK=>?_|refine Qj T fun K hK=>?_|refine Ql fun A B hA hB=>?_|refine Qm ?_|refine Qn ?_|refine Qp ?_|refine Qr ?_)
 | ((with_reducible first|apply Qy|apply Qz|apply QA)<;>intro hb<;>try simp only [nr] at hb)
 | simp only [go_sem,↓reduceIte,reduceIte,Qa,Qh,Qb,Qc,Qd,Qe,Qf,Qg,reduceCtorEq, *,-hg,-f2]
 | with_reducible refine fun (bn:Bool) hbn=>?_))
   all_goals ((repeat clear hK); (repeat clear hA); (repeat clear hB))
   all_goals (refine hM.on (xss.length - (i+1)) (by omega) (by simp only [go_sem,↓reduceIte,reduceIte,Qa,Qh,Qb,Qc,Qd,Qe,Qf,Qg,reduceCtorEq, *,w64_nat hlt hx,-hg,-f2]) ⟨i+1,n+xss[i].length,rfl,by omega,by omega,?_⟩; simp only [go_sem,↓reduceIte,reduceIte,Qa,Qh,Qb,Qc,Qd,Qe,Qf,Qg,reduceCtorEq, *,w64_nat hlt hx,-hg,-f2]; done)
  ·have hn:n=xss.flatten.length:=by
    have e:flatN xss i=0:=by unfold flatN; rw [List.drop_eq_nil_of_le (by omega)]; rfl
    omega
   clear f2
   subst hn
   (repeat' (first
 | (with_reducible first|refine callX.raw (hg) ?_|refine callX.by (tgrow_c _ ?_) ?_|assumption|(refine Qw hK _ ?_; clear hK K)|refine Qw ‹_› _ ?_|refine Qx ‹_› ?_|refine Qi fun K hK=>?_|refine Qj T fun K hK=>?_|refine Ql fun A B hA hB=>?_|refine Qm ?_|refine Qn ?_|refine Qp ?_|refine Qr ?_)
 | ((with_reducible first|apply Qy|apply Qz|apply QA)<;>intro hb<;>try simp only [nr] at hb)
 | simp only [go_sem,↓reduceIte,reduceIte,Qa,Qh,Qb,Qc,Qd,Qe,Qf,Qg,reduceCtorEq, *,-hg]
 | with_reducible refine fun (bn:Bool) hbn=>?_))
   refine SpecC.ent (Ent.ren 6 24 (by simp only [go_sem,↓reduceIte,reduceIte,Qa,Qh,Qb,Qc,Qd,Qe,Qf,Qg,reduceCtorEq, *,-hg]) (by simp only [go_sem,↓reduceIte,reduceIte,Qa,Qh,Qb,Qc,Qd,Qe,Qf,Qg,reduceCtorEq, *,-hg])) ?_
   refine Qs [25,26] (fun m ts'=>∃ (j:Nat),∃ (g:Nat),∃ (ys:List Res),m=xss.length - j∧j≤xss.length∧ys++(xss.drop j).flatten=xss.flatten∧ts'.tmp 6=.os 6 g ys.length∧ts'.gen 6=g∧ts'.obj 6=.arr 7 (avs ys)∧ts'.tmp 27=.int .i64 j) xss.length ?_ ?_
   ·refine ⟨0,ts'.gen 6+1,[],rfl,Nat.zero_le _,by simp,?_⟩
    simp only [go_sem,↓reduceIte,reduceIte,Qa,Qh,Qb,Qc,Qd,Qe,Qf,Qg,reduceCtorEq, *,-hg]
    rfl
   ·clear hM hm
    rintro m A hM ts' hk ⟨j,g,ys,hm,f1,f2,s1,s2,s3,s4⟩
    simp only [go_sem,↓reduceIte,reduceIte,Qa,Qh,Qb,Qc,Qd,Qe,Qf,Qg,reduceCtorEq, *] at hk
    by_cases hlt2:j < xss.length
    ·rw [List.drop_eq_getElem_cons hlt2,List.flatten_cons,← List.append_assoc] at f2
     have hle:ys.length+xss[j].length≤xss.flatten.length:=by rw [← f2]; simp
     have hr:Room (ys.length+xss[j].length) 104:=room_small (by unfold Small at hl; omega) (by decide)
     (repeat' (first
 | (with_reducible first|refine callX.by (tgrow_c _ ?_) ?_|assumption|(refine Qw hK _ ?_; clear hK K)|refine Qw ‹_› _ ?_|refine Qx ‹_› ?_|refine Qi fun K hK=>?_|refine Qj T fun K hK=>?_|refine Ql fun A B hA hB=>?_|refine Qm ?_|refine Qn ?_|refine Qp ?_|refine Qr ?_)
 | ((with_reducible first|apply Qy|apply Qz|apply QA)<;>intro hb<;>try simp only [nr] at hb)
 | simp only [go_sem,↓reduceIte,reduceIte,Qa,Qh,Qb,Qc,Qd,Qe,Qf,Qg,reduceCtorEq, *,-hg,-f2]
 | with_reducible refine fun (bn:Bool) hbn=>?_))
     all_goals ((repeat clear hK); (repeat clear hA); (repeat clear hB))
     all_goals (refine hM.onE (xss.length - (j+1)) (Ent.ren 6 33 ?_ ?_) ?_ ?_ ?_; (focus (simp only [go_sem,↓reduceIte,reduceIte,Qa,Qh,Qb,Qc,Qd,Qe,Qf,Qg,reduceCtorEq, *,w64_nat hlt2 hx,List.length_append,-hg,-f2]; first|done|rfl)); (focus (simp only [go_sem,↓reduceIte,reduceIte,Qa,Qh,Qb,Qc,Qd,Qe,Qf,Qg,reduceCtorEq, *,w64_nat hlt2 hx,List.length_append,-hg,-f2]; first|done|rfl)); omega; (focus (simp only [go_sem,↓reduceIte,reduceIte,Qa,Qh,Qb,Qc,Qd,Qe,Qf,Qg,reduceCtorEq, *,w64_nat hlt2 hx,List.length_append,-hg,-f2]; done)); refine ⟨j+1,ts'.gen 6+1,ys++xss[j],rfl,by omega,f2,?_⟩; simp only [go_sem,↓reduceIte,reduceIte,Qa,Qh,Qb,Qc,Qd,Qe,Qf,Qg,reduceCtorEq, *,w64_nat hlt2 hx,List.length_append,-hg,-f2]; done)
    ·rw [List.drop_eq_nil_of_le (by omega),List.flatten_nil,List.append_nil] at f2
     subst f2
     (repeat' (first
 | (with_reducible first|refine callX.by (tgrow_c _ ?_) ?_|assumption|(refine Qw hK _ ?_; clear hK K)|refine Qw ‹_› _ ?_|refine Qx ‹_› ?_|refine Qi fun K hK=>?_|refine Qj T fun K hK=>?_|refine Ql fun A B hA hB=>?_|refine Qm ?_|refine Qn ?_|refine Qp ?_|refine Qr ?_)
 | ((with_reducible first|apply Qy|apply Qz|apply QA)<;>intro hb<;>try simp only [nr] at hb)
 | simp only [go_sem,↓reduceIte,reduceIte,Qa,Qh,Qb,Qc,Qd,Qe,Qf,Qg,reduceCtorEq, *,-hg]
 | with_reducible refine fun (bn:Bool) hbn=>?_))
theorem with_c (xs:List Res) (r:Res) (hl:Small xs.length) (hl2:Small (withR xs r).length):CallR Tryz.prog 146 [.slice false (avs xs),.agg [.int .i64 r.kind,.str r.name,.int .i64 r.ver,.int .i64 r.port,.str r.to',.slice false (avs r.rules'),.slice false (avs r.hosts)]] (.own 7 (avs (withR xs r))):=by
 have w1:=(with1_c xs r.kind r.name (-1) hl).frz
 have w2:=(with1_c xs r.kind r.name 1 hl).frz
 have hcc:CallR Tryz.prog 186 [.slice false [.slice false (avs (sideR xs ⟨r.kind,r.name⟩ (-1))),.slice false [.agg [.int .i64 r.kind,.str r.name,.int .i64 r.ver,.int .i64 r.port,.str r.to',.slice false (avs r.rules'),.slice false (avs r.hosts)]],.slice false (avs (sideR xs ⟨r.kind,r.name⟩ 1))]] (.own 7 (avs (withR xs r))):=by
  have h:=concat_c [sideR xs (keyOf r) (-1),[r],sideR xs (keyOf r) 1] (by unfold Small; simp) (by simpa [withR] using hl2)
  have e:[sideR xs (keyOf r) (-1),[r],sideR xs (keyOf r) 1].flatten=withR xs r:=by simp [withR]
  rw [e] at h
  exact h
 refine CallR.go2 (T:=T.withF [13,16]) Tryz.call146 Tryz.func146 rfl Tryz.ntmps146 (congrArg Array.toList Tryz.results146) (by decide) fun ts hn h0 h1=>?_
 (repeat' (first
 | (with_reducible first|refine callX.by (w1) ?_|refine callX.by (w2) ?_|refine callX.by (hcc) ?_|refine callX.by (rkey_c _ _ _ _ _ _ _) ?_|refine callX.by (concat_c _ ?_ ?_) ?_|assumption|(refine Qw hK _ ?_; clear hK K)|refine Qw ‹_› _ ?_|refine Qx ‹_› ?_|refine Qi fun K hK=>?_|refine Qj (T.withF [13,16]) fun K hK=>?_|refine Qk (id:=3) (T.withF [13,16]) mixed [([10],[12,13,14]),([11],[12,13,14]),([12],[10,11,14,15]),([13],[10,11,14,15]),([14],[10,11,12,13]),([15],[12,13])] (by kernel_rfl) fun K hK=>?_|refine Ql fun A B hA hB=>?_|refine Qn ?_|refine Qr ?_)
 | ((with_reducible first|apply Qy|apply Qz|apply QA)<;>intro hb<;>try simp only [nr] at hb)
 | simp only [go_sem,↓reduceIte,reduceIte,Qa,Qh,Qb,Qc,Qd,Qe,Qf,Qg,reduceCtorEq, *,-w1,-w2,-hcc]
 | with_reducible refine fun (bn:Bool) hbn=>?_))
 all_goals trace_state
def patchR (l adds:List Res) (gone:List Key):List Res:=adds.foldl withR (gone.foldl twithout l)
theorem side_len (l:List Res) (k:Key):(sideR l k (-1)).length+(sideR l k 1).length≤l.length:=by
 induction l with
 | nil=>simp [sideR]
 | cons x l ih =>
  simp only [sideR,List.filter_cons] at ih ⊢
  by_cases h1:kcmp (keyOf x) k=-1
  ·have h2:¬ kcmp (keyOf x) k=1:=by omega
   simp [h1] at ih ⊢
   omega
  ·by_cases h2:kcmp (keyOf x) k=1
   ·simp [h2] at ih ⊢
    omega
   ·simp [h1,h2] at ih ⊢
    omega
theorem withR_len (l:List Res) (r:Res):(withR l r).length≤l.length+1:=by
 have:=side_len l (keyOf r)
 simp only [withR,List.length_append,List.length_singleton]
 omega
theorem withR_mem {l:List Res} {r x:Res} (h:x∈withR l r):x=r∨x∈l:=by
 simp only [withR,sideR,List.mem_append,List.mem_filter,List.mem_singleton] at h
 rcases h with (h|h)|h
 ·exact .inr h.1
 ·exact .inl h
 ·exact .inr h.1
theorem twithout_len (l:List Res) (k:Key):(twithout l k).length≤l.length:=by unfold twithout; exact List.length_filter_le _ _
theorem twithout_mem {l:List Res} {k:Key} {x:Res} (h:x∈twithout l k):x∈l:=by unfold twithout at h; exact (List.mem_filter.1 h).1
theorem withouts_len (l:List Res):∀ gone:List Key,(gone.foldl twithout l).length≤l.length
 | []=>Nat.le_refl _
 | k :: g=>Nat.le_trans (withouts_len (twithout l k) g) (twithout_len l k)
theorem withs_len (l:List Res):∀ adds:List Res,(adds.foldl withR l).length≤l.length+adds.length
 | []=>Nat.le_refl _
 | r :: a=>by
  have h1:=withs_len (withR l r) a
  have h2:=withR_len l r
  simp only [List.foldl_cons,List.length_cons]
  omega
theorem patchR_len (l adds:List Res) (gone:List Key):(patchR l adds gone).length≤l.length+adds.length:=Nat.le_trans (withs_len _ _) (Nat.add_le_add_right (withouts_len l gone) _)
theorem patchR_mem {l adds:List Res} {gone:List Key} {x:Res} (h:x∈patchR l adds gone):x∈l∨x∈adds:=by
 have h1:∀ (adds l:List Res),x∈adds.foldl withR l→x∈l∨x∈adds:=by
  intro adds
  induction adds with
  | nil=>exact fun l h=>.inl h
  | cons r a ih =>
   intro l h
   rcases ih _ h with h|h
   ·rcases withR_mem h with rfl|h
    ·exact .inr (by simp)
    ·exact .inl h
   ·exact .inr (List.mem_cons_of_mem _ h)
 have h2:∀ (gone:List Key) (l:List Res),x∈gone.foldl twithout l→x∈l:=by
  intro gone
  induction gone with
  | nil=>exact fun l h=>h
  | cons k g ih=>exact fun l h=>twithout_mem (ih _ h)
 rcases h1 _ _ h with h|h
 ·exact .inl (h2 _ _ h)
 ·exact .inr h
theorem tpatch_c (xs adds:List Res) (gone:List Key) (hx:Small xs.length) (ha:Small adds.length) (hg:Small gone.length) (hl:Small (xs.length+adds.length)) :
  CallR Tryz.prog 102 [.slice false (avs xs),.slice false (avs adds),.slice false (avs gone)] (.val (.slice false (avs (patchR xs adds gone)))):=by
 refine CallR.go3 (T:=T) Tryz.call102 Tryz.func102 rfl Tryz.ntmps102 (congrArg Array.toList Tryz.results102) (by decide) fun ts hn h0 h1 h2=>?_
 (repeat' (first
 | (with_reducible first|refine callX.by (twithout_c _ _ _ ?_) ?_|refine callX.by (with_c _ _ ?_ ?_) ?_|assumption|(refine Qw hK _ ?_; clear hK K)|refine Qw ‹_› _ ?_|refine Qx ‹_› ?_|refine Qi fun K hK=>?_|refine Qj T fun K hK=>?_|refine Ql fun A B hA hB=>?_|refine Qm ?_|refine Qn ?_|refine Qp ?_|refine Qr ?_)
 | ((with_reducible first|apply Qy|apply Qz|apply QA)<;>intro hb<;>try simp only [nr] at hb)
 | simp only [go_sem,↓reduceIte,reduceIte,Qa,Qh,Qb,Qc,Qd,Qe,Qf,Qg,reduceCtorEq, *]
 | with_reducible refine fun (bn:Bool) hbn=>?_))
 refine Qs [1,11,12] (fun m ts'=>∃ (i:Nat),∃ (ys:List Res),m=gone.length - i∧i≤gone.length∧ys.length≤xs.length∧(gone.drop i).foldl twithout ys=gone.foldl twithout xs∧ts'.tmp 0=.slice false (avs ys)∧ts'.tmp 13=.int .i64 i) gone.length ?_ ?_
 ·refine ⟨0,xs,rfl,Nat.zero_le _,Nat.le_refl _,rfl,?_⟩
  simp only [go_sem,↓reduceIte,reduceIte,Qa,Qh,Qb,Qc,Qd,Qe,Qf,Qg,reduceCtorEq, *]
 ·rintro m A hM ts' hk ⟨i,ys,hm,f1,f2,f3,s1,s2⟩
  simp only [go_sem,↓reduceIte,reduceIte,Qa,Qh,Qb,Qc,Qd,Qe,Qf,Qg,reduceCtorEq, *] at hk
  by_cases hlt:i < gone.length
  ·rw [List.drop_eq_getElem_cons hlt,List.foldl_cons] at f3
   have hys:Small ys.length:=by unfold Small at hx ⊢; omega
   have w1:=(twithout_c ys gone[i].kind gone[i].name hys).frz
   have hle:=twithout_len ys gone[i]
   (repeat' (first
 | (with_reducible first|refine callX.by (w1) ?_|refine callX.by (twithout_c _ _ _ ?_) ?_|refine callX.by (with_c _ _ ?_ ?_) ?_|assumption|(refine Qw hK _ ?_; clear hK K)|refine Qw ‹_› _ ?_|refine Qx ‹_› ?_|refine Qi fun K hK=>?_|refine Qj T fun K hK=>?_|refine Ql fun A B hA hB=>?_|refine Qm ?_|refine Qn ?_|refine Qp ?_|refine Qr ?_)
 | ((with_reducible first|apply Qy|apply Qz|apply QA)<;>intro hb<;>try simp only [nr] at hb)
 | simp only [go_sem,↓reduceIte,reduceIte,Qa,Qh,Qb,Qc,Qd,Qe,Qf,Qg,reduceCtorEq, *,-f3,-w1]
 | with_reducible refine fun (bn:Bool) hbn=>?_))
   all_goals ((repeat clear hK); (repeat clear hA); (repeat clear hB))
   all_goals (refine hM.on (gone.length - (i+1)) (by omega) (by simp only [go_sem,↓reduceIte,reduceIte,Qa,Qh,Qb,Qc,Qd,Qe,Qf,Qg,reduceCtorEq, *,w64_nat hlt hg,-f3,-w1]) ⟨i+1,twithout ys gone[i],rfl,by omega,by omega,f3,?_⟩; simp only [go_sem,↓reduceIte,reduceIte,Qa,Qh,Qb,Qc,Qd,Qe,Qf,Qg,reduceCtorEq, *,w64_nat hlt hg,-f3,-w1]; done)
  ·rw [List.drop_eq_nil_of_le (by omega),List.foldl_nil] at f3
   subst f3
   (repeat' (first
 | (with_reducible first|refine callX.by (twithout_c _ _ _ ?_) ?_|refine callX.by (with_c _ _ ?_ ?_) ?_|assumption|(refine Qw hK _ ?_; clear hK K)|refine Qw ‹_› _ ?_|refine Qx ‹_› ?_|refine Qi fun K hK=>?_|refine Qj T fun K hK=>?_|refine Ql fun A B hA hB=>?_|refine Qm ?_|refine Qn ?_|refine Qp ?_|refine Qr ?_)
 | ((with_reducible first|apply Qy|apply Qz|apply QA)<;>intro hb<;>try simp only [nr] at hb)
 | simp only [go_sem,↓reduceIte,reduceIte,Qa,Qh,Qb,Qc,Qd,Qe,Qf,Qg,reduceCtorEq, *]
 | with_reducible refine fun (bn:Bool) hbn=>?_))
   clear hM hm
   refine Qs [21,22] (fun m ts'=>∃ (j:Nat),∃ (zs:List Res),m=adds.length - j∧j≤adds.length∧zs.length≤xs.length+j∧(adds.drop j).foldl withR zs=patchR xs adds gone∧ts'.tmp 0=.slice false (avs zs)∧ts'.tmp 23=.int .i64 j) adds.length ?_ ?_
   ·refine ⟨0,gone.foldl twithout xs,rfl,Nat.zero_le _,by omega,rfl,?_⟩
    simp only [go_sem,↓reduceIte,reduceIte,Qa,Qh,Qb,Qc,Qd,Qe,Qf,Qg,reduceCtorEq, *]
   ·rintro m A hM ts' hk ⟨j,zs,hm,f1,f2,f3,s1,s2⟩
    simp only [go_sem,↓reduceIte,reduceIte,Qa,Qh,Qb,Qc,Qd,Qe,Qf,Qg,reduceCtorEq, *] at hk
    by_cases hlt2:j < adds.length
    ·rw [List.drop_eq_getElem_cons hlt2,List.foldl_cons] at f3
     have hle:=withR_len zs adds[j]
     have hzs:Small zs.length:=by unfold Small at hl ⊢; omega
     have hzr:Small (withR zs adds[j]).length:=by unfold Small at hl ⊢; omega
     have w1:=(with_c zs adds[j] hzs hzr).frz
     (repeat' (first
 | (with_reducible first|refine callX.by (w1) ?_|refine callX.by (twithout_c _ _ _ ?_) ?_|refine callX.by (with_c _ _ ?_ ?_) ?_|assumption|(refine Qw hK _ ?_; clear hK K)|refine Qw ‹_› _ ?_|refine Qx ‹_› ?_|refine Qi fun K hK=>?_|refine Qj T fun K hK=>?_|refine Ql fun A B hA hB=>?_|refine Qm ?_|refine Qn ?_|refine Qp ?_|refine Qr ?_)
 | ((with_reducible first|apply Qy|apply Qz|apply QA)<;>intro hb<;>try simp only [nr] at hb)
 | simp only [go_sem,↓reduceIte,reduceIte,Qa,Qh,Qb,Qc,Qd,Qe,Qf,Qg,reduceCtorEq, *,-f3,-w1]
 | with_reducible refine fun (bn:Bool) hbn=>?_))
     all_goals ((repeat clear hK); (repeat clear hA); (repeat clear hB))
     all_goals (refine hM.on (adds.length - (j+1)) (by omega) (by simp only [go_sem,↓reduceIte,reduceIte,Qa,Qh,Qb,Qc,Qd,Qe,Qf,Qg,reduceCtorEq, *,w64_nat hlt2 ha,-f3,-w1]) ⟨j+1,withR zs adds[j],rfl,by omega,by omega,f3,?_⟩; simp only [go_sem,↓reduceIte,reduceIte,Qa,Qh,Qb,Qc,Qd,Qe,Qf,Qg,reduceCtorEq, *,w64_nat hlt2 ha,-f3,-w1]; done)
    ·rw [List.drop_eq_nil_of_le (by omega),List.foldl_nil] at f3
     subst f3
     (repeat' (first
 | (with_reducible first|refine callX.by (twithout_c _ _ _ ?_) ?_|refine callX.by (with_c _ _ ?_ ?_) ?_|assumption|(refine Qw hK _ ?_; clear hK K)|refine Qw ‹_› _ ?_|refine Qx ‹_› ?_|refine Qi fun K hK=>?_|refine Qj T fun K hK=>?_|refine Ql fun A B hA hB=>?_|refine Qm ?_|refine Qn ?_|refine Qp ?_|refine Qr ?_)
 | ((with_reducible first|apply Qy|apply Qz|apply QA)<;>intro hb<;>try simp only [nr] at hb)
 | simp only [go_sem,↓reduceIte,reduceIte,Qa,Qh,Qb,Qc,Qd,Qe,Qf,Qg,reduceCtorEq, *]
 | with_reducible refine fun (bn:Bool) hbn=>?_))
end Go.Proofs.YtmjkjmoeicnbnaaGreatDoor.Lg
namespace Go.Proofs.YtmjkjmoeicnbnaaGreatDoor.Lg
set_option maxRecDepth 100000
set_option linter.unusedVariables false
set_option linter.unusedSimpArgs false
open Go
theorem kcmp_r1 (a b:Key):-1≤kcmp a b∧kcmp a b≤1:=by
 have:=cb_rng a.name b.name
 rw [kcmp_def]; repeat' split
 all_goals omega
theorem refs_lo {r:Res} {x:Key} (h:x∈refsR r):x.kind=r.kind+1∧0≤r.kind∧r.kind≤2:=by
 by_cases hs:saneR r=0
 ·refine ⟨(refs_kind hs x h).1,?_⟩
  obtain ⟨h1,h2,_⟩:=sane_parts hs
  rw [(refs_up hs).2] at h
  rcases List.mem_append.1 h with h|h
  ·have hto:r.to'≠[]:=by
    intro e
    unfold baseR at h
    rw [if_pos e] at h
    simp at h
   rcases h1 hto with e|e<;>omega
  ·have hru:r.rules'≠[]:=by
    intro e
    rw [e] at h
    simp [keysR] at h
   have:=h2 hru
   omega
 ·unfold refsR at h
  rw [if_neg hs] at h
  simp at h
theorem res_ext {l m:List Res} (hl:Up (l.map keyOf)) (hm:Up (m.map keyOf)) (h:∀ x,x∈l↔x∈m):l=m:=by
 have hk:l.map keyOf=m.map keyOf:=up_ext hl hm fun k=>by
  simp only [List.mem_map]
  exact ⟨fun ⟨r,h1,h2⟩=>⟨r,(h r).1 h1,h2⟩,fun ⟨r,h1,h2⟩=>⟨r,(h r).2 h1,h2⟩⟩
 have hlen:l.length=m.length:=by simpa using congrArg List.length hk
 refine List.ext_getElem hlen fun i h1 h2=>?_
 refine key_inj (up_nodup hm) ((h _).1 (List.getElem_mem h1)) (List.getElem_mem h2) ?_
 have e:(l.map keyOf)[i]'(by simpa using h1)=(m.map keyOf)[i]'(by simpa using h2):=by simp [hk]
 simpa using e
theorem up_sub {l m:List Res} (h:Up (l.map keyOf)) (hs:m.Sublist l):Up (m.map keyOf):=by
 unfold Up at *
 exact h.sublist (hs.map _)
theorem mem_with {l:List Res} {r x:Res}:x∈withR l r↔x=r∨(x∈l∧keyOf x≠keyOf r):=by
 have hr:=kcmp_r1 (keyOf x) (keyOf r)
 have hz:kcmp (keyOf x) (keyOf r)=0↔keyOf x=keyOf r:=⟨kcmp_zero _ _,fun e=>by rw [e]; have:=kcmp_swap (keyOf r) (keyOf r); omega⟩
 simp only [withR,sideR,List.mem_append,List.mem_filter,List.mem_singleton,decide_eq_true_eq]
 rw [show (keyOf x≠keyOf r)↔¬ kcmp (keyOf x) (keyOf r)=0 from (not_congr hz).symm]
 constructor
 ·rintro ((⟨h1,h2⟩|h)|⟨h1,h2⟩)
  ·exact .inr ⟨h1,by omega⟩
  ·exact .inl h
  ·exact .inr ⟨h1,by omega⟩
 ·rintro (h|⟨h1,h2⟩)
  ·exact .inl (.inr h)
  ·by_cases h3:kcmp (keyOf x) (keyOf r)=-1
   ·exact .inl (.inl ⟨h1,h3⟩)
   ·exact .inr ⟨h1,by omega⟩
theorem with_up {l:List Res} {r:Res} (h:Up (l.map keyOf)):Up ((withR l r).map keyOf):=by
 unfold Up at *
 unfold withR sideR
 rw [List.map_append,List.map_append,List.pairwise_append,List.pairwise_append]
 refine ⟨⟨h.sublist (List.filter_sublist.map _),by simp,?_⟩,h.sublist (List.filter_sublist.map _),?_⟩
 ·intro a ha b hb
  simp only [List.mem_map,List.mem_filter,decide_eq_true_eq] at ha
  obtain ⟨x,⟨_,hx⟩,rfl⟩:=ha
  have:b=keyOf r:=by simpa using hb
  subst this; omega
 ·intro a ha b hb
  simp only [List.mem_append,List.mem_map,List.mem_filter,decide_eq_true_eq,List.mem_singleton] at ha hb
  obtain ⟨y,⟨_,hy⟩,rfl⟩:=hb
  have hy':kcmp (keyOf r) (keyOf y) < 0:=by have:=kcmp_swap (keyOf y) (keyOf r); omega
  rcases ha with ⟨x,⟨_,hx⟩,rfl⟩|⟨x,rfl,rfl⟩
  ·exact kcmp_trans _ (keyOf r) _ (by omega) hy'
  ·exact hy'
theorem patch_up {l:List Res} (h:Up (l.map keyOf)) (adds:List Res) (gone:List Key):Up ((patchR l adds gone).map keyOf):=by
 have h1:∀ (gone:List Key) (l:List Res),Up (l.map keyOf)→Up ((gone.foldl twithout l).map keyOf):=by
  intro gone
  induction gone with
  | nil=>exact fun l h=>h
  | cons k g ih=>exact fun l h=>ih _ (up_sub h List.filter_sublist)
 have h2:∀ (adds:List Res) (l:List Res),Up (l.map keyOf)→Up ((adds.foldl withR l).map keyOf):=by
  intro adds
  induction adds with
  | nil=>exact fun l h=>h
  | cons r a ih=>exact fun l h=>ih _ (with_up h)
 exact h2 _ _ (h1 _ _ h)
theorem mem_withs {x:Res}:∀ (adds:List Res) (l:List Res),(adds.map keyOf).Nodup→(x∈adds.foldl withR l↔x∈adds∨(x∈l∧keyOf x ∉ adds.map keyOf))
 | [],l,_=>by simp
 | r :: a,l,h=>by
  rw [List.map_cons,List.nodup_cons] at h
  rw [List.foldl_cons,mem_withs a (withR l r) h.2,mem_with,List.mem_cons,List.map_cons,List.mem_cons,not_or]
  constructor
  ·rintro (h1|⟨h1|⟨h1,h2⟩,h3⟩)
   ·exact .inl (.inr h1)
   ·exact .inl (.inl h1)
   ·exact .inr ⟨h1,h2,h3⟩
  ·rintro ((h1|h1)|⟨h1,h2,h3⟩)
   ·subst h1; exact .inr ⟨.inl rfl,h.1⟩
   ·exact .inl h1
   ·exact .inr ⟨.inr ⟨h1,h2⟩,h3⟩
theorem mem_withouts {x:Res}:∀ (gone:List Key) (l:List Res),x∈gone.foldl twithout l↔x∈l∧keyOf x ∉ gone
 | [],l=>by simp
 | k :: g,l=>by
  rw [List.foldl_cons,mem_withouts g,mem_without,List.mem_cons,not_or,and_assoc]
theorem mem_patch {l adds:List Res} {gone:List Key} (h:(adds.map keyOf).Nodup) {x:Res}:x∈patchR l adds gone↔x∈adds∨(x∈l∧keyOf x ∉ gone∧keyOf x ∉ adds.map keyOf):=by
 unfold patchR
 rw [mem_withs _ _ h,mem_withouts,and_assoc]
def diffA (a b:List Res):List Res:=b.filter fun r=>!decide (tget a (keyOf r)=some r)
def diffG (a b:List Res):List Key:=(a.map keyOf).filter fun k=>!(tget b k).isSome
theorem tget_iff {a:List Res} (h:Up (a.map keyOf)) (r:Res):tget a (keyOf r)=some r↔r∈a:=⟨fun e=>(tget_in e).1,fun e=>tget_key (up_nodup h) e⟩
theorem mem_diffA {a b:List Res} (h:Up (a.map keyOf)) {r:Res}:r∈diffA a b↔r∈b∧r ∉ a:=by
 unfold diffA
 rw [List.mem_filter]
 simp only [Bool.not_eq_true',decide_eq_false_iff_not,tget_iff h]
theorem mem_diffG {a b:List Res} {k:Key}:k∈diffG a b↔k∈a.map keyOf∧k ∉ b.map keyOf:=by
 unfold diffG
 rw [List.mem_filter,tget_is]
 simp
theorem diffA_sub (a b:List Res):(diffA a b).Sublist b:=List.filter_sublist
theorem diffG_sub (a b:List Res):(diffG a b).Sublist (a.map keyOf):=List.filter_sublist
theorem sub_nodup {b m:List Res} (h:Up (b.map keyOf)) (hs:m.Sublist b):(m.map keyOf).Nodup:=up_nodup (up_sub h hs)
theorem filter_len {α:Type} [DecidableEq α] {l:List α} (h:l.Nodup) {G:List α} (hG:G.Sublist l):(l.filter fun k=>!decide (k∈G)).length+G.length=l.length:=by
 induction hG with
 | slnil=>simp
 | @cons l1 l2 a hs ih =>
  rw [List.nodup_cons] at h
  have hn:a ∉ l1:=fun hx=>h.1 (hs.subset hx)
  rw [List.filter_cons_of_pos (by simpa using hn)]
  have:=ih h.2
  simp only [List.length_cons]; omega
 | @cons_cons l1 l2 a hs ih =>
  rw [List.nodup_cons] at h
  rw [List.filter_cons_of_neg (by simp)]
  have e:(l2.filter fun k=>!decide (k∈a :: l1))=l2.filter fun k=>!decide (k∈l1):=List.filter_congr fun x hx=>by
   have:x≠a:=fun e=>h.1 (e▸hx)
   simp [this]
  rw [e]
  have:=ih h.2
  simp only [List.length_cons]; omega
structure Part (a b A:List Res) (G:List Key):Prop where
 ha:Up (a.map keyOf)
 hb:Up (b.map keyOf)
 hA:A.Sublist (diffA a b)
 hG:G.Sublist (diffG a b)
section step
variable {a b A:List Res} {G:List Key}
theorem Part.mem (h:Part a b A G) {x:Res}:x∈patchR a A G↔x∈A∨(x∈a∧keyOf x ∉ G∧keyOf x ∉ A.map keyOf):=mem_patch (sub_nodup h.hb (h.hA.trans (diffA_sub a b)))
theorem Part.up (h:Part a b A G):Up ((patchR a A G).map keyOf):=patch_up h.ha _ _
theorem Part.memA (h:Part a b A G) {r:Res} (hr:r∈A):r∈b∧r ∉ a:=(mem_diffA h.ha).1 (h.hA.subset hr)
theorem Part.memG (h:Part a b A G) {k:Key} (hk:k∈G):k∈a.map keyOf∧k ∉ b.map keyOf:=mem_diffG.1 (h.hG.subset hk)
theorem Part.stepA (h:Part a b A G) {r:Res}:r∈diffA (patchR a A G) b↔r∈diffA a b∧r ∉ A:=by
 rw [mem_diffA h.up,mem_diffA h.ha,h.mem]
 constructor
 ·rintro ⟨h1,h2⟩
  have hrA:r ∉ A:=fun h=>h2 (.inl h)
  refine ⟨⟨h1,fun hra=>h2 (.inr ⟨hra,fun hg=>(h.memG hg).2 (List.mem_map_of_mem h1),fun hk=>?_⟩)⟩,hrA⟩
  obtain ⟨y,hy,e⟩:=List.mem_map.1 hk
  rw [key_inj (up_nodup h.hb) (h.memA hy).1 h1 e] at hy
  exact hrA hy
 ·rintro ⟨⟨h1,h2⟩,h3⟩
  exact ⟨h1,fun h=>h.elim h3 fun h=>h2 h.1⟩
theorem Part.stepG (h:Part a b A G) {k:Key}:k∈diffG (patchR a A G) b↔k∈diffG a b∧k ∉ G:=by
 rw [mem_diffG,mem_diffG]
 simp only [List.mem_map (f:=keyOf),h.mem]
 constructor
 ·rintro ⟨⟨x,hx|⟨h1,h2,_⟩,rfl⟩,h4⟩
  ·exact absurd ⟨x,(h.memA hx).1,rfl⟩ h4
  ·exact ⟨⟨⟨x,h1,rfl⟩,h4⟩,h2⟩
 ·rintro ⟨⟨⟨x,h1,rfl⟩,h2⟩,h3⟩
  refine ⟨⟨x,.inr ⟨h1,h3,fun hk=>?_⟩,rfl⟩,h2⟩
  obtain ⟨y,hy,e⟩:=hk
  exact h2 ⟨y,(h.memA hy).1,e⟩
theorem Part.lenA (h:Part a b A G):(diffA (patchR a A G) b).length+A.length=(diffA a b).length:=by
 have e:diffA (patchR a A G) b=(diffA a b).filter fun r=>!decide (r∈A):=by
  refine res_ext (up_sub h.hb (diffA_sub _ _)) (up_sub h.hb (List.filter_sublist.trans (diffA_sub _ _))) fun x=>?_
  rw [h.stepA,List.mem_filter]
  simp
 rw [e]
 exact filter_len (List.Pairwise.of_map keyOf (fun _ _ h e=>h (congrArg keyOf e)) (sub_nodup h.hb (diffA_sub a b))) h.hA
theorem Part.lenG (h:Part a b A G):(diffG (patchR a A G) b).length+G.length=(diffG a b).length:=by
 have hu:Up (diffG a b):=List.Pairwise.sublist (diffG_sub a b) h.ha
 have e:diffG (patchR a A G) b=(diffG a b).filter fun k=>!decide (k∈G):=by
  refine up_ext (List.Pairwise.sublist (diffG_sub _ b) h.up) (List.Pairwise.sublist List.filter_sublist hu) fun k=>?_
  rw [h.stepG,List.mem_filter]
  simp
 rw [e]
 exact filter_len (up_nodup hu) h.hG
end step
end Go.Proofs.YtmjkjmoeicnbnaaGreatDoor.Lg
namespace Go.Proofs.YtmjkjmoeicnbnaaGreatDoor.Lg
set_option maxRecDepth 100000
set_option linter.unusedVariables false
set_option linter.unusedSimpArgs false
open Go
open Nat renaming reduceEqDiff → Qa, reduceLT → Qb, reduceLeDiff → Qc, reduceAdd → Qd, reduceMul → Qe, reduceSub → Qf, reduceBEq → Qg
open String renaming reduceEq → Qh
open SpecC renaming seqW → Qi, regW → Qj, drawW → Qk, condW → Ql, skip → Qn, ret → Qr
open NxK renaming out → Qw
open condK renaming split → Qy
open gK renaming split_t → Qz, split_f → QA
@[go_sem] def Wd9:List (List Nat×List Nat):=[([7],[8,9,11,12,4]),([8],[7,6,11,12,4]),([9],[7,11,12,4]),([10],[4]),([6],[8,4]),([11],[7,8,9,12,4]),([12],[7,8,9,11,4]),([4],[7,8,9,10,6,11,12]),([4],[12])]
theorem mget_idx (l:List Res) (k:Key):mget (idxM l) k=tget l k:=by
 induction l with
 | nil=>rfl
 | cons r l ih =>
  unfold idxM
  rw [mget_mput,ih]
  unfold tget
  rw [List.find?_cons]
  by_cases h:k=keyOf r
  ·subst h; simp
  ·have h':¬ keyOf r=k:=fun e=>h e.symm
   simp [h,h']
theorem caps_mapR (M:List (Key × Res)):Caps [.ro [.mp (mks M) (mvs M)]]:=⟨by simp only [go_sem,Bool.and_self],by simp only [go_sem]⟩
theorem diff1_c (M:List (Key × Res)) (r_kind:Int) (r_name:List UInt8) (r_ver:Int) (r_port:Int) (r_to:List UInt8) (r_rules:List Rule) (r_hosts:List Int) (hM:∀ p∈M,SmRes p.2):CallR Tryz.prog 119 [.agg [.int .i64 r_kind,.str r_name,.int .i64 r_ver,.int .i64 r_port,.str r_to,.slice false (avs r_rules),.slice false (avs r_hosts)],.ro [.mp (mks M) (mvs M)]] (.val (.bool (!decide (mget M (keyOf (⟨r_kind,r_name,r_ver,r_port,r_to,r_rules,r_hosts⟩:Res))=some (⟨r_kind,r_name,r_ver,r_port,r_to,r_rules,r_hosts⟩:Res))))):=by
 cases hix:ixOf (keyOf (⟨r_kind,r_name,r_ver,r_port,r_to,r_rules,r_hosts⟩:Res)) M with
 | some j =>
  obtain ⟨hj,hg⟩:=ix_get hix
  obtain ⟨q1,q2,q3,q4,q5⟩:=hM _ (List.getElem_mem hj)
  have w1:=sameP_c (M[j]).2.kind (M[j]).2.name (M[j]).2.ver (M[j]).2.port (M[j]).2.to' (M[j]).2.rules' (M[j]).2.hosts r_kind r_name r_ver r_port r_to r_rules r_hosts q5 q3 q4
  have hv:∀ z:AV,lookA false z (mvs M) (some j)=.agg [.int .i64 (M[j]).2.kind,.str (M[j]).2.name,.int .i64 (M[j]).2.ver,.int .i64 (M[j]).2.port,.str (M[j]).2.to',.slice false (avs (M[j]).2.rules'),.slice false (avs (M[j]).2.hosts)]:=fun z=>by
   have:(mvs M).getD j .any=Dat.av (M[j]).2:=by simp [mvs,avs,hj]
   exact this
  rw [hg]
  clear hM q1 q2 q3 q4 q5 hg
  have hix':ixOf (⟨r_kind,r_name⟩:Key) M=some j:=hix
  refine CallR.go2 (T:=T) Tryz.call119 Tryz.func119 rfl Tryz.ntmps119 (congrArg Array.toList Tryz.results119) (by decide) fun ts hn h0 h1=>?_
  (repeat' (first
 | (with_reducible first|refine callX.by (w1) ?_|refine callX.by (rkey_c _ _ _ _ _ _ _) ?_|refine callX.by (sameP_c _ _ _ _ _ _ _ _ _ _ _ _ _ _ ?_ ?_ ?_) ?_|refine callX.by awqm ?_|assumption|(refine Qw hK _ ?_; clear hK K)|refine Qw ‹_› _ ?_|refine Nx.out ‹_› ?_|refine Qi fun K hK=>?_|refine Qj T fun K hK=>?_|refine Qk (id:=1) T mixed Wd9 (by kernel_rfl) fun K hK=>?_|refine Ql fun A B hA hB=>?_|refine Qn ?_|refine Qr ?_)
 | ((with_reducible first|apply Qy|apply Qz|apply QA)<;>intro hb<;>try simp only [nr] at hb)
 | simp only [go_sem,↓reduceIte,reduceIte,Qa,Qh,Qb,Qc,Qd,Qe,Qf,Qg,reduceCtorEq, *,-w1,-hix]
 | with_reducible refine fun (bn:Bool) hbn=>?_))
  all_goals trace_state
 | none =>
  rw [ix_none hix]
  have hix':ixOf (⟨r_kind,r_name⟩:Key) M=none:=hix
  clear hM
  refine CallR.go2 (T:=T) Tryz.call119 Tryz.func119 rfl Tryz.ntmps119 (congrArg Array.toList Tryz.results119) (by decide) fun ts hn h0 h1=>?_
  (repeat' (first
 | (with_reducible first|refine callX.by (rkey_c _ _ _ _ _ _ _) ?_|refine callX.by (sameP_c _ _ _ _ _ _ _ _ _ _ _ _ _ _ ?_ ?_ ?_) ?_|refine callX.by awqm ?_|assumption|(refine Qw hK _ ?_; clear hK K)|refine Qw ‹_› _ ?_|refine Nx.out ‹_› ?_|refine Qi fun K hK=>?_|refine Qj T fun K hK=>?_|refine Qk (id:=1) T mixed Wd9 (by kernel_rfl) fun K hK=>?_|refine Ql fun A B hA hB=>?_|refine Qn ?_|refine Qr ?_)
 | ((with_reducible first|apply Qy|apply Qz|apply QA)<;>intro hb<;>try simp only [nr] at hb)
 | simp only [go_sem,↓reduceIte,reduceIte,Qa,Qh,Qb,Qc,Qd,Qe,Qf,Qg,reduceCtorEq, *,-hix]
 | with_reducible refine fun (bn:Bool) hbn=>?_))
  all_goals trace_state
theorem diff2_c (M:List (Key × Res)) (k_kind:Int) (k_name:List UInt8):CallR Tryz.prog 121 [.agg [.int .i64 k_kind,.str k_name],.ro [.mp (mks M) (mvs M)]] (.val (.bool (mget M (⟨k_kind,k_name⟩:Key)).isSome)):=by
 rw [← ix_isSome]
 cases hix:ixOf (⟨k_kind,k_name⟩:Key) M with
 | some j =>
  obtain ⟨hj,hg⟩:=ix_get hix
  have hv:∀ z:AV,lookA false z (mvs M) (some j)=.agg [.int .i64 (M[j]).2.kind,.str (M[j]).2.name,.int .i64 (M[j]).2.ver,.int .i64 (M[j]).2.port,.str (M[j]).2.to',.slice false (avs (M[j]).2.rules'),.slice false (avs (M[j]).2.hosts)]:=fun z=>by
   have:(mvs M).getD j .any=Dat.av (M[j]).2:=by simp [mvs,avs,hj]
   exact this
  refine CallR.go2 (T:=T) Tryz.call121 Tryz.func121 rfl Tryz.ntmps121 (congrArg Array.toList Tryz.results121) (by decide) fun ts hn h0 h1=>?_
  (repeat' (first
 | (with_reducible first|assumption|(refine Qw hK _ ?_; clear hK K)|refine Qw ‹_› _ ?_|refine Nx.out ‹_› ?_|refine Qi fun K hK=>?_|refine Qj T fun K hK=>?_|refine Ql fun A B hA hB=>?_|refine Qn ?_|refine Qr ?_)
 | ((with_reducible first|apply Qy|apply Qz|apply QA)<;>intro hb<;>try simp only [nr] at hb)
 | simp only [go_sem,↓reduceIte,reduceIte,Qa,Qh,Qb,Qc,Qd,Qe,Qf,Qg,reduceCtorEq, *,-hg]
 | with_reducible refine fun (bn:Bool) hbn=>?_))
  all_goals trace_state
 | none =>
  refine CallR.go2 (T:=T) Tryz.call121 Tryz.func121 rfl Tryz.ntmps121 (congrArg Array.toList Tryz.results121) (by decide) fun ts hn h0 h1=>?_
  (repeat' (first
 | (with_reducible first|assumption|(refine Qw hK _ ?_; clear hK K)|refine Qw ‹_› _ ?_|refine Nx.out ‹_› ?_|refine Qi fun K hK=>?_|refine Qj T fun K hK=>?_|refine Ql fun A B hA hB=>?_|refine Qn ?_|refine Qr ?_)
 | ((with_reducible first|apply Qy|apply Qz|apply QA)<;>intro hb<;>try simp only [nr] at hb)
 | simp only [go_sem,↓reduceIte,reduceIte,Qa,Qh,Qb,Qc,Qd,Qe,Qf,Qg,reduceCtorEq, *]
 | with_reducible refine fun (bn:Bool) hbn=>?_))
  all_goals trace_state
theorem idx_mem {l:List Res} {p:Key × Res} (h:p∈idxM l):p.2∈l:=by
 induction l with
 | nil=>simp [idxM] at h
 | cons r l ih =>
  unfold idxM mput at h
  split at h
  ·rcases List.mem_or_eq_of_mem_set h with h|rfl
   ·exact List.mem_cons_of_mem _ (ih h)
   ·exact List.mem_cons_self
  ·rcases List.mem_append.1 h with h|h
   ·exact List.mem_cons_of_mem _ (ih h)
   ·rw [List.mem_singleton] at h; subst h; exact List.mem_cons_self
theorem diff_c (xs ys:List Res) (hl:Small xs.length) (hl2:Small ys.length) (hs:∀ r∈xs,SmRes r):CallR Tryz.prog 58 [.slice false (avs xs),.slice false (avs ys)] (.val (.tup [.slice false (avs (diffA xs ys)),.slice false (avs (diffG xs ys))])):=by
 have w1:=index_c xs hl
 have w2:=index_c ys hl2
 have hf:=tfilter_c 119 [.ro [.mp (mks (idxM xs)) (mvs (idxM xs))]] (caps_mapR _) (fun r=>!decide (mget (idxM xs) (keyOf r)=some r)) ys (fun x _=>diff1_c (idxM xs) x.kind x.name x.ver x.port x.to' x.rules' x.hosts fun p hp=>hs _ (idx_mem hp)) hl2
 have hkl:Small (xs.map keyOf).length:=by simpa using hl
 have hlk:(xs.map keyOf).length=xs.length:=List.length_map _
 have hd:=deleteFKey_c 121 [.ro [.mp (mks (idxM ys)) (mvs (idxM ys))]] (caps_mapR _) (fun k=>(mget (idxM ys) k).isSome) (xs.map keyOf) (fun x _=>diff2_c (idxM ys) x.kind x.name) hkl
 have e1:ys.filter (fun r=>!decide (mget (idxM xs) (keyOf r)=some r))=diffA xs ys:=by unfold diffA; simp only [mget_idx]
 have e2:(xs.map keyOf).filter (fun x=>!(mget (idxM ys) x).isSome)=diffG xs ys:=by unfold diffG; simp only [mget_idx]
 rw [e1] at hf
 rw [e2] at hd
 have htk:(xs.map keyOf).take xs.length=xs.map keyOf:=List.take_of_length_le (by omega)
 clear e1 e2 hs
 generalize idxM xs=M1 at *
 generalize idxM ys=M2 at *
 refine CallR.go2 (T:=T) Tryz.call58 Tryz.func58 rfl Tryz.ntmps58 (congrArg Array.toList Tryz.results58) (by decide) fun ts hn h0 h1=>?_
 (repeat' (first
 | (with_reducible first|refine callX.by (w1) ?_|refine callX.by (w2) ?_|refine callX.by (hf) ?_)
 | (with_reducible refine callX.mv ?_ ?_ ?_ (hd); (focus (simp only [go_sem,↓reduceIte,reduceIte,Qa,Qh,Qb,Qc,Qd,Qe,Qf,Qg,reduceCtorEq, *,-w1,-w2,-hf,-hd]; first|done|rfl)); (focus (simp only [go_sem,↓reduceIte,reduceIte,Qa,Qh,Qb,Qc,Qd,Qe,Qf,Qg,reduceCtorEq, *,-w1,-w2,-hf,-hd]; first|done|rfl)))
 | (with_reducible first|refine callX.by (index_c _ ?_) ?_|refine callX.by (tfilter_c _ _ ?_ _ _ ?_ ?_) ?_|refine callX.by (tkeys_c _ ?_) ?_)
 | (with_reducible refine callX.mv ?_ ?_ ?_ (deleteFKey_c ?_ ?_ ?_ ?_ ?_ ?_ ?_); (focus (simp only [go_sem,↓reduceIte,reduceIte,Qa,Qh,Qb,Qc,Qd,Qe,Qf,Qg,reduceCtorEq, *,-w1,-w2,-hf,-hd]; first|done|rfl)); (focus (simp only [go_sem,↓reduceIte,reduceIte,Qa,Qh,Qb,Qc,Qd,Qe,Qf,Qg,reduceCtorEq, *,-w1,-w2,-hf,-hd]; first|done|rfl)))
 | (with_reducible first|assumption|(refine Qw hK _ ?_; clear hK K)|refine Qw ‹_› _ ?_|refine Nx.out ‹_› ?_|refine Qi fun K hK=>?_|refine Qj T fun K hK=>?_|refine Ql fun A B hA hB=>?_|refine Qn ?_|refine Qr ?_)
 | ((with_reducible first|apply Qy|apply Qz|apply QA)<;>intro hb<;>try simp only [nr] at hb)
 | simp only [go_sem,↓reduceIte,reduceIte,Qa,Qh,Qb,Qc,Qd,Qe,Qf,Qg,reduceCtorEq, *,-w1,-w2,-hf,-hd]
 | with_reducible refine fun (bn:Bool) hbn=>?_))
 all_goals trace_state
end Go.Proofs.YtmjkjmoeicnbnaaGreatDoor.Lg
