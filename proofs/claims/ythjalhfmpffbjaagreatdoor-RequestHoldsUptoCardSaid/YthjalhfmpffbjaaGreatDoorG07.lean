/- Parts of the proof, one behind the other. -/
import Derived.Test.YthjalhfmpffbjaaGreatDoorG06
set_option linter.unusedVariables false
set_option linter.unusedSimpArgs false
set_option maxRecDepth 100000
set_option maxHeartbeats 64000000
namespace Go.Proofs.YthjalhfmpffbjaaGreatDoor.Lg
open Go
variable {P:Program}
theorem CallR.calls{f:FuncId}{args:List AV}{x:AV}(hp:x.pure=true)(hE:∀(vals:Array Value) (w:World),(callFunc f vals).run P w=.ok (.enter f vals) w)
  (h:∀(vals:Array Value) (w:World) (c:Ctx),vals.size=args.length→(∀i,Rep c (vals.getD i undef) (args.getD i .any)) →
   Calls P f vals w fun e w'=>∃v,e=.returned v∧(∀c',Rep c' v x)∧Bel (fun _=>False) w w'):CallR P f args (.val x):=by
 intro E G vals w hw hrel hpin
 have hobj:∀d,(Jk (args.map Arg.v) (args.map Arg.v).length).obj d=.dead:=fun d=>by
  simp only[Jk,List.getElem?_map]
  cases args[d]?<;>rfl
 have hdead1:∀d,¬Jj (Zq x) G d:=fun d hl=>hl.1 rfl
 have hC:=h vals w (Jb E G (Jk (args.map Arg.v) (args.map Arg.v).length) w) (by have:=hrel.size;simpa[Jk] using this) fun i=>by
  have:=hrel.tmp i
  have e:(Jk (args.map Arg.v) (args.map Arg.v).length).tmp i=args.getD i .any:=by
   simp only[Jk,List.getElem?_map,List.getD_eq_getElem?_getD]
   cases args[i]?<;>rfl
  rwa [e] at this
 rw[hE]
 have hnp:∀j b,E.pin j=some b→False:=fun j b hj=>by
  obtain⟨cs,hcs⟩:=(hpin j).2 ⟨b,hj⟩
  simp only[List.getElem?_map] at hcs
  cases hh:args[j]?<;>rw[hh] at hcs<;>simp at hcs
 refine Calls.mono hC ?_
 rintro e w' ⟨v,rfl,hv,hb⟩
 refine⟨v,.val x,fun _=>[],Zq x,G,rfl,rfl,?_,fun j b hj=>(hnp j b hj).elim,hp,rfl⟩
 refine⟨rfl,rfl,fun t=>?_,fun d=>trivial,fun d d' h1 _ _=>absurd h1 (hdead1 d),fun d h1=>absurd h1 (hdead1 d),fun b hF=>Nat.lt_of_lt_of_le (hrel.inF b hF) hb.size,?_,fun j b hj _=>(hnp j b hj).elim⟩
 ·by_cases ht:t=0
  ·subst ht
   simpa[Zq] using hv _
  ·simp only[Zq,if_neg ht];exact .any _
 ·exact hrel.bel.trans ⟨hb.os,hb.tape,hb.output,hb.size,fun k hk _=>hb.block k hk (fun h=>h),hb.drawn⟩
end Go.Proofs.YthjalhfmpffbjaaGreatDoor.Lg
