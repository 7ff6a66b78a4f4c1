/- Parts of the proof, one behind the other. -/
import Derived.Test.YthjalhfmpffbjaaGreatDoorRows
import Derived.Carry
import Derived.OpenShut
import Derived.JoinedCond
import Derived.Test.YthjalhfmpffbjaaGreatDoorG30
set_option linter.unusedVariables false
set_option linter.unusedSimpArgs false
set_option maxRecDepth 100000
set_option maxHeartbeats 64000000
namespace Go.Proofs.YthjalhfmpffbjaaGreatDoor.Lg
open Go Go.ChangeShapes Go.WideShapes Go.RowKit
variable {P:Program}
structure RD(P:Program)(t:TypeId){β:Type}(f:β→AV)(sm:β→Prop):Prop where
 rd:∀ {H:Type} {enc:TypeId×Value→H} {w:World} {base:Nat} {spare:Nat→Bool} {held:Bool} {fuel:Nat} {cs:List Value} {x:DataW H×List MemPlace},
  DataW.trod enc P w base spare held fuel t cs=some x →
  ∃y:β,cs.length=(f y).cells.length∧(∀i,Rep (Vk w) (cs.getD i undef) ((f y).cells.getD i .any))∧(Rows.uptoBulk x.1≤1048576→sm y)
theorem Jbn{c:Ctx}{v:Value}{x:AV}(hx:x.cells=[x])(h:Rep c v x):[v].length=x.cells.length∧∀i,Rep c ([v].getD i undef) (x.cells.getD i .any):=by
 rw[hx]
 refine⟨rfl,fun i=>?_⟩
 cases i with
 |zero=>exact h
 |succ i=>simp;exact .any _
theorem RD.int{t:TypeId}(ht:P.underlying t=some (.int .i64)):RD P t (fun n:Int=>.int .i64 n) (fun _=>True):=by
 refine⟨?_⟩
 intro H enc w base spare held fuel cs x h
 obtain⟨n,rfl,rfl,_⟩:=DataW.trod_int ht h
 obtain⟨h1,h2⟩:=Jbn (c:=Vk w) (v:=.int .i64 n) (x:=.int .i64 n) rfl (.int _ _)
 exact⟨n,h1,h2,fun _=>trivial⟩
theorem RD.u8{t:TypeId}(ht:P.underlying t=some (.int .u8)):RD P t (Dat.av:UInt8→AV) (fun _=>True):=by
 refine⟨?_⟩
 intro H enc w base spare held fuel cs x h
 obtain⟨n,rfl,rfl,hw⟩:=DataW.trod_int ht h
 have hn:0≤n∧n≤255:=by simpa[Lit.wf,IntKind.min,IntKind.max,IntKind.signed,IntKind.bits] using hw
 have e:(((UInt8.ofNat n.toNat).toNat:Nat):Int)=n:=by
  rw[UInt8.toNat_ofNat'];omega
 refine⟨UInt8.ofNat n.toNat,rfl,?_,fun _=>trivial⟩
 have:=(Jbn (c:=Vk w) (v:=.int .u8 n) (x:=.int .u8 n) rfl (.int _ _)).2
 intro i
 show Rep _ _ ((AV.int .u8 ((UInt8.ofNat n.toNat).toNat:Int)).cells.getD i .any)
 rw[e];exact this i
theorem RD.bool{t:TypeId}(ht:P.underlying t=some .bool):RD P t (fun b:Bool=>.bool b) (fun _=>True):=by
 refine⟨?_⟩
 intro H enc w base spare held fuel cs x h
 obtain⟨n,rfl,rfl⟩:=DataW.trod_bool ht h
 obtain⟨h1,h2⟩:=Jbn (c:=Vk w) (v:=.bool n) (x:=.bool n) rfl (.bool _)
 exact⟨n,h1,h2,fun _=>trivial⟩
theorem RD.str{t:TypeId}(ht:P.underlying t=some .string):RD P t (fun s:List UInt8=>.str s) (fun s=>Jc s.length):=by
 refine⟨?_⟩
 intro H enc w base spare held fuel cs x h
 obtain⟨s,rfl,rfl,_⟩:=DataW.trod_string ht h
 obtain⟨h1,h2⟩:=Jbn (c:=Vk w) (v:=.string s) (x:=.str s.data.toList) rfl (.str _ _ rfl)
 refine⟨s.data.toList,h1,h2,fun hb=>?_⟩
 simp only[Rows.uptoBulk] at hb
 unfold Jc;omega
theorem Jnf{H:Type}{d:DataW H}{l:List (DataW H)}(h:d∈l):Rows.uptoBulk d≤Rows.uptoBulkAll l:=by
 induction l with
 |nil=>cases h
 |cons x r ih =>
  simp only[Rows.uptoBulkAll]
  rcases List.mem_cons.1 h with rfl|e
  ·omega
  ·have:=ih e;omega
theorem Jng{H:Type}(d:DataW H):1≤Rows.uptoBulk d:=by
 cases d with
 |lit l=>cases l<;>simp[Rows.uptoBulk]
 |nil=>simp[Rows.uptoBulk]
 |ptr d=>simp[Rows.uptoBulk]
 |slice elems spare=>simp[Rows.uptoBulk]
 |agg parts=>simp[Rows.uptoBulk]
 |iface t d=>simp[Rows.uptoBulk]
 |map entries=>simp[Rows.uptoBulk]
 |held h=>simp[Rows.uptoBulk]
theorem Jne{H:Type}(l:List (DataW H)):l.length≤Rows.uptoBulkAll l:=by
 induction l with
 |nil=>simp[Rows.uptoBulkAll]
 |cons x r ih=>have:=Jng x;simp only[Rows.uptoBulkAll,List.length_cons];omega
theorem JhL{w:World}{base:Nat}{a:Addr}{n:Nat}{cs:List Value}(h:w.cells? base a n=some cs):cs.length=n∧∀j,j<n→w.cell? (a.add j)=cs[j]?:=by
 unfold World.cells? at h
 split at h
 ·exact⟨by simpa using mapM_some_length h,fun j hj=>mapM_some_get h j j (by simp[hj])⟩
 ·simp at h
theorem Jns{w:World}{a:Addr}{v:Value}(h:w.cell? a=some v):a.spot=none:=by
 unfold World.cell? at h
 split at h
 ·split at h
  ·simp at h
  ·rename_i hs;simpa using hs
 ·simp at h
theorem RD.slice{t e:TypeId}{α:Type} [Dat α]{sm:α→Prop}(ht:P.underlying t=some (.slice e))(hsz:P.cellsOf e=Dat.sz α)(h0:0<Dat.sz α)(he:RD P e (Dat.av:α→AV) sm) :
  RD P t (fun xs:List α=>.slice false (Ja xs)) (fun xs=>Jc xs.length∧∀x∈xs,sm x):=by
 refine⟨?_⟩
 intro H enc w base spare held fuel cs x h
 rcases DataW.trod_slice ht h with ⟨rfl,rfl⟩|⟨a,len,cap,elems,rest,n,rfl,rfl,rfl,hba,hlc,hcm,hel,hrd,_,_⟩
 ·obtain⟨h1,h2⟩:=Jbn (c:=Vk w) (v:=.slice none 0 0) (x:=.slice false []) rfl (.slice0 _ _ _ (by simp))
  exact⟨[],h1,h2,fun _=>⟨by simp[Jc],by simp⟩⟩
 ·by_cases hz:len=0
  ·subst hz
   obtain⟨h1,h2⟩:=Jbn (c:=Vk w) (v:=.slice (some a) 0 cap) (x:=.slice false []) rfl (.slice0 _ _ _ (by simp))
   exact⟨[],h1,h2,fun _=>⟨by simp[Jc],by simp⟩⟩
  have hat:∀i,i<len→∃c1,w.cells? base (a.add (i*Dat.sz α)) (Dat.sz α)=some c1∧∃(z:DataW H×List MemPlace),z∈elems∧DataW.trod enc P w base spare held n e c1=some z:=by
   intro i hi
   have h1:=hrd i hi
   have hlt:i<elems.length:=by omega
   rw[List.getElem?_eq_getElem hlt,Option.bind_eq_some_iff] at h1
   obtain⟨c1,hc1,hx⟩:=h1
   exact⟨c1,by rw[←hsz];exact hc1,_,List.getElem_mem hlt,hx⟩
  have hsp:a.spot=none:=by
   obtain⟨c1,hc1,_⟩:=hat 0 (by omega)
   obtain⟨hl1,hl2⟩:=JhL hc1
   have:=hl2 0 h0
   rw[List.getElem?_eq_getElem (by omega)] at this
   have:=Jns this
   simpa[Addr.add] using this
  obtain⟨ab,ao,asp⟩:=a
  simp only at hsp
  subst hsp
  have key:∀i:Fin len,∃y:α,(∀j,j<Dat.sz α→∃u,w.cell? ⟨ab,ao+i*Dat.sz α+j,none⟩=some u∧Rep (Vk w) u ((Dat.av y).cells.getD j .any))∧(Rows.uptoBulk (DataW.slice (elems.map (·.1)) (rest.map (·.1)))≤1048576→sm y):=by
   intro i
   obtain⟨c1,hc1,z,hz1,hx⟩:=hat i.1 i.2
   obtain⟨y,hy1,hy2,hy3⟩:=he.rd hx
   obtain⟨hl1,hl2⟩:=JhL hc1
   refine⟨y,fun j hj=>?_,fun hb=>hy3 ?_⟩
   ·have hj2:j<c1.length:=by rw[hl1];exact hj
    refine⟨c1[j],?_,?_⟩
    ·have:=hl2 j hj
     rw[List.getElem?_eq_getElem hj2,Addr.add0,Addr.add0] at this
     exact this
    ·have:=hy2 j
     rwa [List.getD_eq_getElem?_getD,List.getElem?_eq_getElem hj2,Option.getD_some] at this
   ·have hm:z.1∈elems.map (·.1):=List.mem_map.2 ⟨_,hz1,rfl⟩
    have:=Jnf hm
    simp only[Rows.uptoBulk] at hb
    omega
  let ys:List α:=List.ofFn fun i:Fin len=>Classical.choose (key i)
  have hys:∀i (h:i<len),∃y,ys[i]?=some y∧(∀j,j<Dat.sz α→∃u,w.cell? ⟨ab,ao+i*Dat.sz α+j,none⟩=some u∧Rep (Vk w) u ((Dat.av y).cells.getD j .any))∧(Rows.uptoBulk (DataW.slice (elems.map (·.1)) (rest.map (·.1)))≤1048576→sm y):=by
   intro i hi
   refine⟨Classical.choose (key ⟨i,hi⟩),?_,Classical.choose_spec (key ⟨i,hi⟩)⟩
   simp[ys,hi]
  have hyl:ys.length=len:=by simp[ys]
  have hrep:Rep (Vk w) (.slice (some ⟨ab,ao,none⟩) len cap) (.slice false (Ja ys)):=by
   have hal:(Ja ys).length=len:=by rw[JiS,hyl]
   have key2:=Rep.slice (c:=Vk w) false ab ao cap (Dat.sz α) (Ja ys) (fun i j=>if i<len∧j<Dat.sz α then (w.cell? ⟨ab,ao+i*Dat.sz α+j,none⟩).getD undef else undef)
     (fun e=>hz (by rw[←hal,e];rfl)) h0 (fun h=>h) (by rw[hal];exact hlc) (by simp)
     (by
      intro x hx
      obtain⟨y,_,rfl⟩:=List.mem_map.1 hx
      exact Dat.len y)
     (by
      intro i j hi hj
      rw[hal] at hi
      obtain⟨y,_,hy,_⟩:=hys i hi
      obtain⟨u,hu,_⟩:=hy j hj
      show w.cell? _=_
      rw[hu];simp[hi,hj])
     (by
      intro i j
      by_cases hij:i<len∧j<Dat.sz α
      ·obtain⟨y,hyi,hy,_⟩:=hys i hij.1
       obtain⟨u,hu,hr⟩:=hy j hij.2
       simp only[if_pos hij,hu,Option.getD_some]
       rw[Jhs ys i y hyi];exact hr
      ·simp only[if_neg hij]
       have:((Ja ys).getD i .any).cells.getD j .any=.any:=by
        by_cases hi:i<len
        ·obtain⟨y,hyi,_⟩:=hys i hi
         rw[Jhs ys i y hyi]
         have hj:(Dat.av y).cells.length≤j:=by rw[Dat.len];omega
         simp[List.getElem?_eq_none hj]
        ·have:(Ja ys).getD i .any=.any:=by simp[List.getElem?_eq_none (show(Ja ys).length≤i by omega)]
         rw[this]
         simp only[AV.cells]
         cases j<;>simp
       rw[this];exact .any _)
   rw[hal] at key2
   exact key2
  obtain⟨h1,h2⟩:=Jbn (c:=Vk w) (v:=.slice (some ⟨ab,ao,none⟩) len cap) (x:=.slice false (Ja ys)) rfl hrep
  refine⟨ys,h1,h2,fun hb=>⟨?_,fun y hy=>?_⟩⟩
  ·have:=Jne (elems.map (·.1))
   rw[List.length_map,hel] at this
   simp only[Rows.uptoBulk] at hb
   unfold Jc;omega
  ·obtain⟨i,hi,rfl⟩:=List.getElem_of_mem hy
   obtain⟨y,hyi,_,hy2⟩:=hys i (by omega)
   rw[List.getElem?_eq_getElem hi] at hyi
   obtain rfl:=Option.some.inj hyi
   exact hy2 hb
structure RDs(P:Program)(fs:List Field)(off:Nat){β:Type}(f:β→List AV)(sm:β→Prop):Prop where
 rd:∀ {H:Type} {enc:TypeId×Value→H} {w:World} {base:Nat} {spare:Nat→Bool} {held:Bool} {fuel:Nat} {cs:List Value} {xs:List (DataW H×List MemPlace)},
  xs.length=fs.length→(∀(i:Nat) (g:Field),fs[i]?=some g→DataW.trod enc P w base spare held fuel g.type ((cs.drop g.offset).take (P.cellsOf g.type))=xs[i]?) →
  cs.length=off+(fs.map fun g=>P.cellsOf g.type).sum →
  ∃y:β,(cs.drop off).length=(f y).length∧(∀i,Rep (Vk w) ((cs.drop off).getD i undef) ((f y).getD i .any))∧(Rows.uptoBulkAll (xs.map (·.1))≤1048576→sm y)
theorem RDs.nil{off:Nat}:RDs P [] off (fun _:Unit=>[]) (fun _=>True):=by
 refine⟨?_⟩
 intro H enc w base spare held fuel cs xs hl hrd hc
 have:cs.drop off=[]:=List.drop_eq_nil_of_le (by simp at hc;omega)
 exact⟨(),by rw[this];rfl,fun i=>by rw[this];simp;exact .any _,fun _=>trivial⟩
theorem RDs.cons{g:Field}{r:List Field}{off n:Nat}{β γ:Type}{f1:β→AV}{s1:β→Prop}{f2:γ→List AV}{s2:γ→Prop}(ho:g.offset=off)(hn:P.cellsOf g.type=n)
  (h1:RD P g.type f1 s1) (h2:RDs P r (off+n) f2 s2):RDs P (g :: r) off (fun y:β×γ=>(f1 y.1).cells++f2 y.2) (fun y=>s1 y.1∧s2 y.2):=by
 refine⟨?_⟩
 intro H enc w base spare held fuel cs xs hl hrd hc
 cases xs with
 |nil=>simp at hl
 |cons x xs =>
  have e0:=hrd 0 g rfl
  rw[ho,hn] at e0
  obtain⟨y1,p1,p2,p3⟩:=h1.rd (x:=x) (by simpa using e0)
  obtain⟨y2,q1,q2,q3⟩:=h2.rd (xs:=xs) (cs:=cs) (by simpa using hl) (fun i g' hg=>by simpa using hrd (i+1) g' (by simpa using hg)) (by simp[hn] at hc;omega)
  have hcat:cs.drop off=(cs.drop off).take n++cs.drop (off+n):=by
   conv=>lhs;rw[←List.take_append_drop n (cs.drop off)]
   rw[List.drop_drop]
  refine⟨(y1,y2),?_,?_,?_⟩
  ·rw[hcat,List.length_append,List.length_append,p1,q1]
  ·intro i
   rw[hcat]
   by_cases hi:i<((cs.drop off).take n).length
   ·have a1:((cs.drop off).take n++cs.drop (off+n)).getD i undef=((cs.drop off).take n).getD i undef:=by simp only[List.getD_eq_getElem?_getD,List.getElem?_append_left hi]
    have a2:((f1 y1).cells++f2 y2).getD i .any=(f1 y1).cells.getD i .any:=by simp only[List.getD_eq_getElem?_getD,List.getElem?_append_left (p1▸hi)]
    rw[a1,a2];exact p2 i
   ·have hi':=Nat.le_of_not_lt hi
    have a1:((cs.drop off).take n++cs.drop (off+n)).getD i undef=(cs.drop (off+n)).getD (i-((cs.drop off).take n).length) undef:=by simp only[List.getD_eq_getElem?_getD,List.getElem?_append_right hi']
    have a2:((f1 y1).cells++f2 y2).getD i .any=(f2 y2).getD (i-((cs.drop off).take n).length) .any:=by rw[p1] at hi' ⊢;simp only[List.getD_eq_getElem?_getD,List.getElem?_append_right hi']
    rw[a1,a2];exact q2 _
  ·intro hb
   simp only[List.map_cons,Rows.uptoBulkAll] at hb
   exact⟨p3 (by omega),q3 (by omega)⟩
theorem RD.struct{t:TypeId}{fs:Array Field}{β:Type}{f:β→List AV}{sm:β→Prop}(ht:P.underlying t=some (.struct fs))(hs:P.cellsOf t=0+(fs.toList.map fun g=>P.cellsOf g.type).sum)(h:RDs P fs.toList 0 f sm) :
  RD P t (fun y=>.agg (f y)) sm:=by
 refine⟨?_⟩
 intro H enc w base spare held fuel cs x hx
 obtain⟨xs,n,rfl,rfl,hl,hxl,hrd⟩:=DataW.trod_struct ht hx
 obtain⟨y,h1,h2,h3⟩:=h.rd (xs:=xs) (cs:=cs) (by simpa using hxl) (fun i g hg=>hrd i g (by simpa using hg)) (by rw[hl,hs])
 refine⟨y,h1,h2,fun hb=>h3 ?_⟩
 simp only[Rows.uptoBulk] at hb
 omega
def af (e k : Nat) : Field := { name := "", type := e, offset := k, embedded := false, tag := "", pkgPath := "", byteOffset := 0 }
theorem RD.array{t e:TypeId}{n:Nat}{fs:List Field}{β:Type}{f:β→List AV}{sm:β→Prop}(ht:P.underlying t=some (.array n e))(hfs:fs=(List.range n).map (af e))(h1:P.cellsOf e=1)
  (hs:P.cellsOf t=0+(fs.map fun g=>P.cellsOf g.type).sum) (h:RDs P fs 0 f sm):RD P t (fun y=>.agg (f y)) sm:=by
 refine⟨?_⟩
 intro H enc w base spare held fuel cs x hx
 obtain⟨xs,m,rfl,rfl,hl,hxl,hrd⟩:=DataW.trod_array ht hx
 obtain⟨y,h1,h2,h3⟩:=h.rd (xs:=xs) (cs:=cs) (by rw[hfs,List.length_map,List.length_range,hxl]) (fun i g hg=>by
  rw[hfs,List.getElem?_map] at hg
  obtain⟨k,hk1,rfl⟩:=Option.map_eq_some_iff.1 hg
  obtain⟨hi,hk2⟩:=List.getElem?_eq_some_iff.1 hk1
  rw[List.length_range] at hi
  rw[List.getElem_range] at hk2
  subst hk2
  have:=hrd i hi
  rw[h1,Nat.mul_one] at this
  show DataW.trod _ _ _ _ _ _ _ e ((cs.drop i).take (P.cellsOf e))=_
  rw[h1]
  exact this) (by rw[hl,hs])
 refine⟨y,h1,h2,fun hb=>h3 ?_⟩
 simp only[Rows.uptoBulk] at hb
 omega
theorem RD.iso{t:TypeId}{β γ:Type}{f:β→AV}{s:β→Prop}{f':γ→AV}{s':γ→Prop}(h:RD P t f s)(hi:∀x,∃y,f x=f' y∧(s x→s' y)):RD P t f' s':=by
 refine⟨?_⟩
 intro H enc w base spare held fuel cs x hx
 obtain⟨y,h1,h2,h3⟩:=h.rd hx
 obtain⟨z,e,k⟩:=hi y
 rw[e] at h1 h2
 exact⟨z,h1,h2,fun hb=>k (h3 hb)⟩
section
variable {H:Type} {enc:TypeId×Value→H} {w:World} {base b0:Nat} {r:Reach} {spare:Nat→Bool} {held:Bool} {t:TypeId} {v:Value} {d:DataW H} {ps:List MemPlace} {β:Type} {f:β→AV} {sm:β→Prop}
theorem RD.arg_agg{fs:Array Field}(h:RD P t f sm)(ht:P.underlying t=some (.struct fs))(hf:∀y,∃l,f y=.agg l)(hv:Value.okWide P w r b0 t v)(hd:DataW.Trod enc P w base spare held t v d ps) :
  ∃y,Rep (Vk w) v (f y)∧(Rows.uptoBulk d≤1048576→sm y):=by
 obtain⟨cs,rfl,_⟩:=okWide_struct ht hv
 obtain⟨fuel,hf'⟩:=hd
 obtain⟨y,h1,h2,h3⟩:=h.rd hf'
 refine⟨y,?_,h3⟩
 obtain⟨l,e⟩:=hf y
 rw[e] at h1 h2 ⊢
 refine .agg cs l (by simpa[Value.cells,AV.cells] using h1) fun i=>?_
 have:=h2 i
 simp only[Value.cells,AV.cells] at this
 rwa [List.getD_eq_getElem?_getD,Array.getElem?_toList,←Array.getD_eq_getD_getElem?] at this
theorem RD.arg_one(h:RD P t f sm)(hf:∀y,(f y).cells=[f y])(hv:v.cells=#[v])(hd:DataW.Trod enc P w base spare held t v d ps) :
  ∃y,Rep (Vk w) v (f y)∧(Rows.uptoBulk d≤1048576→sm y):=by
 obtain⟨fuel,hf'⟩:=hd
 rw[hv] at hf'
 obtain⟨y,h1,h2,h3⟩:=h.rd hf'
 refine⟨y,?_,h3⟩
 have:=h2 0
 rw[hf y] at this
 simpa using this
theorem RD.arg_slice{e:TypeId}(h:RD P t f sm)(ht:P.underlying t=some (.slice e))(hf:∀y,(f y).cells=[f y])(hv:Value.okWide P w r b0 t v)(hd:DataW.Trod enc P w base spare held t v d ps) :
  ∃y,Rep (Vk w) v (f y)∧(Rows.uptoBulk d≤1048576→sm y):=by
 obtain⟨a,l,c,rfl⟩:=okWide_slice ht hv
 exact h.arg_one hf rfl hd
end
theorem JpA{H:Type}{enc:TypeId×Value→H}{f:Func}{s:ChangeSpec}{apart fresh handsOn again:Bool}{W W':World}{args:Array Value}{v:Value}{ds gs:List (DataW H)}{before pa pv:List MemPlace}
  (hW:DataW.Whole enc P f.params.toList s.vars apart W args.toList ds gs before)
  (hres:∀(b:Nat) (sp:Nat→Bool) (hd:Bool),DataW.TrodAll enc P W' b sp hd f.resultTypes.toList (v.resultList f.resultTypes.size) (s.fn H (ds++gs)).results [])
  (hargs:∀sp:Nat→Bool,(∀p∈before,sp p.block=true)→DataW.TrodAll enc P W' 0 sp true f.params.toList args.toList (s.fn H (ds++gs)).args pa)
  (hvars:∀sp:Nat→Bool,(∀p∈before,sp p.block=true)→DataW.TrodVars enc P W' sp s.vars (s.fn H (ds++gs)).vars pv)
  (hps:before=pa++pv) (hb:Below W.heap.size W W')
  (hok:∀(j:Nat) (t:TypeId) (r:Value),f.resultTypes[j]?=some t→(v.resultList f.resultTypes.size)[j]?=some r→Value.okWide P W' .any 0 t r) :
  s.post enc P f apart fresh handsOn again W args v W':=by
 have hold:∀p∈before,(fun b=>decide (b<W.heap.size)) p.block=true:=fun p hp=>by simpa using hW.lt p hp
 have hlt:=hW.lt
 refine⟨ds,gs,before,[],pa,pv,hW,hres _ _ _,hargs _ hold,hvars _ hold,hb.frame _,fun _=>?_⟩
 obtain⟨_,_,_,_,_,hz,hn⟩:=hW
 refine⟨hok,_,_,([]++pa)++pv,⟨[]++pa,pv,trodAll_append (hargs _ (fun _ _=>rfl)) (hres _ _ _),hvars _ (fun _ _=>rfl),rfl,?_,?_⟩,?_⟩
 ·intro b off hp
  have hp':MemPlace.cell b off∈before:=by rw[hps];simpa using hp
  rw[hb.frozen (p:=⟨b,off,none⟩) (hlt _ hp')]
  exact hz b off hp'
 ·intro ha
  have:=hn ha
  rw[hps] at this
  simpa using this
 ·intro p hp _
  rw[hps]
  simpa using hp
theorem JkB{H:Type}{enc:TypeId×Value→H}{W W':World}{sp:Nat→Bool}(hl:laidOutB P=true)(hb:Below W.heap.size W W'):∀ {ts:List TypeId} {vs:List Value} {ds:List (DataW H)} {ps:List MemPlace},
  DataW.TrodAll enc P W 0 (fun _=>true) true ts vs ds ps→ts.all (fun t=>P.readableRec t && decide (t<P.types.size))=true→(∀p∈ps,p.block<W.heap.size)→(∀p∈ps,sp p.block=true)→DataW.TrodAll enc P W' 0 sp true ts vs ds ps
 | [],_,_,_,h,_,_,_=>by
  obtain⟨rfl,rfl,rfl⟩:=trodAll_nil h
  exact trodAll_mk0
 |t :: ts,_,_,_,h,hr,hlt,hs=>by
  obtain⟨v,vs1,d,ds1,a,b,rfl,rfl,rfl,h1,h2⟩:=trodAll_cons h
  simp only[List.all_cons,Bool.and_eq_true,decide_eq_true_eq] at hr
  exact trodAll_cons_mk (WideElems.Trod_stays hl hr.1.1 hr.1.2 h1 (fun x hx=>hb.same (hlt x (by simp[hx]))) (fun x hx=>hs x (by simp[hx])))
   (JkB hl hb h2 hr.2 (fun p hp=>hlt p (by simp[hp])) (fun p hp=>hs p (by simp[hp])))
theorem Bel.below{w w':World}(h:Bel (fun _=>False) w w'):Below w.heap.size w w':=⟨h.os,h.tape,h.output,h.size,fun k hk=>h.block k hk (fun h=>h)⟩
theorem CallR.law{f:FuncId}{args:List AV}(h:CallR P f args (.val (.bool true))){vals:Array Value}{W:World}(hE:(callFunc f vals).run P W=.ok (.enter f vals) W)(hsz:vals.size=args.length)(hr:∀i,Rep (Vk W) (vals.getD i undef) (args.getD i .any)) :
  Calls P f vals W fun e W'=>e=.returned (.bool true)∧Below W.heap.size W W':=by
 have:=h.top vals W hsz hr
 rw[hE] at this
 refine Calls.mono this ?_
 rintro e W' ⟨v,rfl,hv,hb⟩
 cases hv with
 |bool=>exact⟨rfl,hb.below⟩
end Go.Proofs.YthjalhfmpffbjaaGreatDoor.Lg
namespace Go.Proofs.YthjalhfmpffbjaaGreatDoor.Lg
open Go
theorem rd_t23:RD Tryz.prog 23 (Dat.av:Ask→AV) JmI:=RD.iso (RD.struct Tryz.underlying23 (by kernel_rfl) (RDs.cons (n:=1) rfl (by kernel_rfl) (RD.int Tryz.underlying3) (RDs.cons (n:=1) rfl (by kernel_rfl) (RD.str Tryz.underlying9) (RDs.cons (n:=1) rfl (by kernel_rfl) (RD.str Tryz.underlying9) (RDs.cons (n:=1) rfl (by kernel_rfl) (RD.int Tryz.underlying3) (RDs.cons (n:=1) rfl (by kernel_rfl) (RD.int Tryz.underlying3) RDs.nil)))))) fun⟨a0,a1,a2,a3,a4,_⟩=>⟨⟨a0,a1,a2,a3,a4⟩,rfl,fun h=>⟨h.2.1,h.2.2.1⟩⟩
theorem JpS:RD Tryz.prog 28 (Dat.av:Four→AV) JdI:=RD.iso (RD.array (fs:=[af 3 0,af 3 1,af 3 2,af 3 3]) Tryz.underlying28 rfl (by kernel_rfl) (by kernel_rfl) (RDs.cons (n:=1) rfl (by kernel_rfl) (RD.int Tryz.underlying3) (RDs.cons (n:=1) rfl (by kernel_rfl) (RD.int Tryz.underlying3) (RDs.cons (n:=1) rfl (by kernel_rfl) (RD.int Tryz.underlying3) (RDs.cons (n:=1) rfl (by kernel_rfl) (RD.int Tryz.underlying3) RDs.nil))))) fun⟨a0,a1,a2,a3,_⟩=>⟨⟨a0,a1,a2,a3⟩,rfl,fun h=>trivial⟩
theorem JpT:RD Tryz.prog 30 (Dat.av:In→AV) Jhb:=RD.iso (RD.struct Tryz.underlying30 (by kernel_rfl) (RDs.cons (n:=4) rfl (by kernel_rfl) JpS (RDs.cons (n:=1) rfl (by kernel_rfl) (RD.int Tryz.underlying3) RDs.nil))) fun⟨a0,a1,_⟩=>⟨⟨a0,a1⟩,rfl,fun h=>h.1⟩
theorem JpU:RD Tryz.prog 32 (Dat.av:Four→AV) JdI:=RD.iso (RD.array (fs:=[af 31 0,af 31 1,af 31 2,af 31 3]) Tryz.underlying32 rfl (by kernel_rfl) (by kernel_rfl) (RDs.cons (n:=1) rfl (by kernel_rfl) (RD.int Tryz.underlying31) (RDs.cons (n:=1) rfl (by kernel_rfl) (RD.int Tryz.underlying31) (RDs.cons (n:=1) rfl (by kernel_rfl) (RD.int Tryz.underlying31) (RDs.cons (n:=1) rfl (by kernel_rfl) (RD.int Tryz.underlying31) RDs.nil))))) fun⟨a0,a1,a2,a3,_⟩=>⟨⟨a0,a1,a2,a3⟩,rfl,fun h=>trivial⟩
theorem JpR:RD Tryz.prog 167 (Dat.av:Weight→AV) JdK:=RD.iso (RD.struct Tryz.underlying167 (by kernel_rfl) (RDs.cons (n:=1) rfl (by kernel_rfl) (RD.str Tryz.underlying9) (RDs.cons (n:=1) rfl (by kernel_rfl) (RD.int Tryz.underlying3) RDs.nil))) fun⟨a0,a1,_⟩=>⟨⟨a0,a1⟩,rfl,fun h=>h.1⟩
theorem JpO:RD Tryz.prog 121 (fun xs:List Weight=>.slice false (Ja xs)) (fun xs=>Jc xs.length∧∀x∈xs,JdK x):=RD.slice (α:=Weight) (sm:=fun x=>JdK x) Tryz.underlying121 (by kernel_rfl) (by decide) JpR
theorem JpP:RD Tryz.prog 123 (Dat.av:Rule→AV) VR:=RD.iso (RD.struct Tryz.underlying123 (by kernel_rfl) (RDs.cons (n:=1) rfl (by kernel_rfl) (RD.str Tryz.underlying9) (RDs.cons (n:=1) rfl (by kernel_rfl) (RD.str Tryz.underlying9) (RDs.cons (n:=1) rfl (by kernel_rfl) JpO RDs.nil)))) fun⟨a0,a1,a2,_⟩=>⟨⟨a0,a1,a2⟩,rfl,fun h=>⟨h.1,h.2.1,h.2.2.1.1,h.2.2.1.2⟩⟩
theorem JpL:RD Tryz.prog 115 (fun xs:List Rule=>.slice false (Ja xs)) (fun xs=>Jc xs.length∧∀x∈xs,VR x):=RD.slice (α:=Rule) (sm:=fun x=>VR x) Tryz.underlying115 (by kernel_rfl) (by decide) JpP
theorem JpM:RD Tryz.prog 116 (fun xs:List Int=>.slice false (Ja xs)) (fun xs=>Jc xs.length∧∀x∈xs,True):=RD.slice (α:=Int) (sm:=fun x=>True) Tryz.underlying116 (by kernel_rfl) (by decide) (RD.int Tryz.underlying3)
theorem JpN:RD Tryz.prog 118 (Dat.av:Res→AV) Jy:=RD.iso (RD.struct Tryz.underlying118 (by kernel_rfl) (RDs.cons (n:=1) rfl (by kernel_rfl) (RD.int Tryz.underlying3) (RDs.cons (n:=1) rfl (by kernel_rfl) (RD.str Tryz.underlying9) (RDs.cons (n:=1) rfl (by kernel_rfl) (RD.int Tryz.underlying3) (RDs.cons (n:=1) rfl (by kernel_rfl) (RD.int Tryz.underlying3) (RDs.cons (n:=1) rfl (by kernel_rfl) (RD.str Tryz.underlying9) (RDs.cons (n:=1) rfl (by kernel_rfl) JpL (RDs.cons (n:=1) rfl (by kernel_rfl) JpM RDs.nil)))))))) fun⟨a0,a1,a2,a3,a4,a5,a6,_⟩=>⟨⟨a0,a1,a2,a3,a4,a5,a6⟩,rfl,fun h=>⟨h.2.1,h.2.2.2.2.1,h.2.2.2.2.2.1.1,h.2.2.2.2.2.1.2,h.2.2.2.2.2.2.1.1⟩⟩
theorem JeF:RD Tryz.prog 33 (fun xs:List Res=>.slice false (Ja xs)) (fun xs=>Jc xs.length∧∀x∈xs,Jy x):=RD.slice (α:=Res) (sm:=fun x=>Jy x) Tryz.underlying33 (by kernel_rfl) (by decide) JpN
theorem JpV:RD Tryz.prog 35 (Dat.av:Cache→AV) Jha:=RD.iso (RD.struct Tryz.underlying35 (by kernel_rfl) (RDs.cons (n:=1) rfl (by kernel_rfl) (RD.int Tryz.underlying3) (RDs.cons (n:=1) rfl (by kernel_rfl) JeF RDs.nil))) fun⟨a0,a1,_⟩=>⟨⟨a0,a1⟩,rfl,fun h=>⟨h.2.1.1,h.2.1.2⟩⟩
theorem JpW:RD Tryz.prog 37 (Dat.av:Warm→AV) JaY:=RD.iso (RD.struct Tryz.underlying37 (by kernel_rfl) (RDs.cons (n:=2) rfl (by kernel_rfl) JpV (RDs.cons (n:=1) rfl (by kernel_rfl) (RD.bool Tryz.underlying4) (RDs.cons (n:=1) rfl (by kernel_rfl) JeF RDs.nil)))) fun⟨a0,a1,a2,_⟩=>⟨⟨a0,a1,a2⟩,rfl,fun h=>⟨h.1,h.2.2.1.1,h.2.2.1.2⟩⟩
theorem JpZ:RD Tryz.prog 72 (Dat.av:Snap→AV) Yp:=RD.iso (RD.struct Tryz.underlying72 (by kernel_rfl) (RDs.cons (n:=1) rfl (by kernel_rfl) (RD.int Tryz.underlying3) (RDs.cons (n:=1) rfl (by kernel_rfl) (RD.int Tryz.underlying3) (RDs.cons (n:=1) rfl (by kernel_rfl) JeF RDs.nil)))) fun⟨a0,a1,a2,_⟩=>⟨⟨a0,a1,a2⟩,rfl,fun h=>⟨h.2.2.1.1,h.2.2.1.2⟩⟩
theorem JpX:RD Tryz.prog 38 (fun xs:List Snap=>.slice false (Ja xs)) (fun xs=>Jc xs.length∧∀x∈xs,Yp x):=RD.slice (α:=Snap) (sm:=fun x=>Yp x) Tryz.underlying38 (by kernel_rfl) (by decide) JpZ
theorem JpY:RD Tryz.prog 40 (Dat.av:Pins→AV) Jhc:=RD.iso (RD.struct Tryz.underlying40 (by kernel_rfl) (RDs.cons (n:=1) rfl (by kernel_rfl) (RD.int Tryz.underlying3) (RDs.cons (n:=1) rfl (by kernel_rfl) JpX RDs.nil))) fun⟨a0,a1,_⟩=>⟨⟨a0,a1⟩,rfl,fun h=>⟨h.2.1.1,h.2.1.2⟩⟩
theorem rd_t42:RD Tryz.prog 42 (Dat.av:Side→AV) JmJ:=RD.iso (RD.struct Tryz.underlying42 (by kernel_rfl) (RDs.cons (n:=1) rfl (by kernel_rfl) (RD.int Tryz.underlying3) (RDs.cons (n:=1) rfl (by kernel_rfl) (RD.int Tryz.underlying3) (RDs.cons (n:=1) rfl (by kernel_rfl) (RD.bool Tryz.underlying4) (RDs.cons (n:=5) rfl (by kernel_rfl) JpT (RDs.cons (n:=4) rfl (by kernel_rfl) JpU (RDs.cons (n:=4) rfl (by kernel_rfl) JpW (RDs.cons (n:=2) rfl (by kernel_rfl) JpY RDs.nil)))))))) fun⟨a0,a1,a2,a3,a4,a5,a6,_⟩=>⟨⟨a0,a1,a2,a3,a4,a5,a6⟩,rfl,fun h=>⟨h.2.2.2.1,h.2.2.2.2.1,h.2.2.2.2.2.1,h.2.2.2.2.2.2.1⟩⟩
theorem JjH:RD Tryz.prog 134 (Dat.av:Key→AV) JaX:=RD.iso (RD.struct Tryz.underlying134 (by kernel_rfl) (RDs.cons (n:=1) rfl (by kernel_rfl) (RD.int Tryz.underlying3) (RDs.cons (n:=1) rfl (by kernel_rfl) (RD.str Tryz.underlying9) RDs.nil))) fun⟨a0,a1,_⟩=>⟨⟨a0,a1⟩,rfl,fun h=>h.2.1⟩
theorem JjI:RD Tryz.prog 77 (fun xs:List Key=>.slice false (Ja xs)) (fun xs=>Jc xs.length∧∀x∈xs,JaX x):=RD.slice (α:=Key) (sm:=fun x=>JaX x) Tryz.underlying77 (by kernel_rfl) (by decide) JjH
theorem JpQ:RD Tryz.prog 136 (Dat.av:Mark→AV) JdJ:=RD.iso (RD.struct Tryz.underlying136 (by kernel_rfl) (RDs.cons (n:=2) rfl (by kernel_rfl) JjH (RDs.cons (n:=1) rfl (by kernel_rfl) (RD.int Tryz.underlying3) RDs.nil))) fun⟨a0,a1,_⟩=>⟨⟨a0,a1⟩,rfl,fun h=>h.1⟩
theorem Jp0:RD Tryz.prog 78 (fun xs:List Mark=>.slice false (Ja xs)) (fun xs=>Jc xs.length∧∀x∈xs,JdJ x):=RD.slice (α:=Mark) (sm:=fun x=>JdJ x) Tryz.underlying78 (by kernel_rfl) (by decide) JpQ
theorem Jp1:RD Tryz.prog 80 (Dat.av:Frame→AV) V4:=RD.iso (RD.struct Tryz.underlying80 (by kernel_rfl) (RDs.cons (n:=1) rfl (by kernel_rfl) (RD.int Tryz.underlying3) (RDs.cons (n:=1) rfl (by kernel_rfl) (RD.int Tryz.underlying3) (RDs.cons (n:=1) rfl (by kernel_rfl) (RD.int Tryz.underlying3) (RDs.cons (n:=1) rfl (by kernel_rfl) (RD.int Tryz.underlying3) (RDs.cons (n:=1) rfl (by kernel_rfl) (RD.int Tryz.underlying3) (RDs.cons (n:=1) rfl (by kernel_rfl) JeF (RDs.cons (n:=1) rfl (by kernel_rfl) JjI (RDs.cons (n:=1) rfl (by kernel_rfl) (RD.int Tryz.underlying31) (RDs.cons (n:=1) rfl (by kernel_rfl) Jp0 (RDs.cons (n:=1) rfl (by kernel_rfl) JjI RDs.nil))))))))))) fun⟨a0,a1,a2,a3,a4,a5,a6,a7,a8,a9,_⟩=>⟨⟨a0,a1,a2,a3,a4,a5,a6,a7,a8,a9⟩,rfl,fun h=>⟨h.2.2.2.2.2.1.1,h.2.2.2.2.2.1.2,h.2.2.2.2.2.2.1.1,h.2.2.2.2.2.2.1.2,h.2.2.2.2.2.2.2.2.1.1,h.2.2.2.2.2.2.2.2.1.2,h.2.2.2.2.2.2.2.2.2.1.1,h.2.2.2.2.2.2.2.2.2.1.2⟩⟩
theorem rd_t75:RD Tryz.prog 75 (fun xs:List Frame=>.slice false (Ja xs)) (fun xs=>Jc xs.length∧∀x∈xs,V4 x):=RD.slice (α:=Frame) (sm:=fun x=>V4 x) Tryz.underlying75 (by kernel_rfl) (by decide) Jp1
end Go.Proofs.YthjalhfmpffbjaaGreatDoor.Lg
