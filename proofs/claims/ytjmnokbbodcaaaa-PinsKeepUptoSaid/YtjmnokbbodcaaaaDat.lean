/- Lean types for the structs of this seat: made by program (dat.py) off the translation. -/
import Derived.Test.YtjmnokbbodcaaaaTy
namespace Go.Proofs.Ytjmnokbbodcaaaa.Lg
open Go
set_option linter.unusedVariables false
set_option linter.unusedSimpArgs false

/-- groyne api.Weight -/
@[ext] structure Weight where
  cluster : List UInt8
  w : Int
  deriving Inhabited, DecidableEq
instance : Dat Weight where
  av x := .agg [.str x.cluster, .int .i64 x.w]
  sz := 2
  len _ := rfl
  pure x := by simp only [go_sem, Bool.and_self]
  nrm x := by simp only [go_sem]
  one x := by simp only [go_sem, List.all_cons, List.all_nil, Bool.and_self]
  known x := rfl
@[go_sem] theorem av_Weight (x : Weight) : Dat.av x = .agg [.str x.cluster, .int .i64 x.w] := rfl
@[go_sem] theorem sz_Weight : Dat.sz Weight = 2 := rfl
@[go_sem] theorem set_Weight (l : List Weight) (n : Nat) (f0 : List UInt8) (f1 : Int) : (avs l).set n (.agg [.str f0, .int .i64 f1]) = avs (l.set n ⟨f0, f1⟩) := avs_set l n (⟨f0, f1⟩ : Weight)
@[go_sem] theorem snoc_Weight (l : List Weight) (f0 : List UInt8) (f1 : Int) : avs l ++ [.agg [.str f0, .int .i64 f1]] = avs (l ++ [⟨f0, f1⟩]) := by rw [avs_append]; rfl
@[go_sem] theorem flatL_Weight : ∀ l : List Weight, AV.flat.flatL (avs l) = true
  | [] => rfl
  | _ :: r => by simp only [avs_cons, AV.flat.flatL, flatL_Weight r, av_Weight, AV.flat, Bool.and_self]
theorem ext_Weight (x y : Weight) : x = y ↔ x.cluster = y.cluster ∧ x.w = y.w := by cases x; cases y; simp
@[go_sem] theorem eta_Weight (x : Weight) : Weight.mk x.cluster x.w = x := rfl

/-- groyne api.Rule -/
@[ext] structure Rule where
  host : List UInt8
  pfx : List UInt8
  split : List Weight
  deriving Inhabited, DecidableEq
instance : Dat Rule where
  av x := .agg [.str x.host, .str x.pfx, .slice false (avs x.split)]
  sz := 3
  len _ := rfl
  pure x := by simp only [go_sem, Bool.and_self]
  nrm x := by simp only [go_sem]
  one x := by simp only [go_sem, List.all_cons, List.all_nil, Bool.and_self]
  known x := rfl
@[go_sem] theorem av_Rule (x : Rule) : Dat.av x = .agg [.str x.host, .str x.pfx, .slice false (avs x.split)] := rfl
@[go_sem] theorem sz_Rule : Dat.sz Rule = 3 := rfl
@[go_sem] theorem set_Rule (l : List Rule) (n : Nat) (f0 : List UInt8) (f1 : List UInt8) (f2 : List Weight) : (avs l).set n (.agg [.str f0, .str f1, .slice false (avs f2)]) = avs (l.set n ⟨f0, f1, f2⟩) := avs_set l n (⟨f0, f1, f2⟩ : Rule)
@[go_sem] theorem snoc_Rule (l : List Rule) (f0 : List UInt8) (f1 : List UInt8) (f2 : List Weight) : avs l ++ [.agg [.str f0, .str f1, .slice false (avs f2)]] = avs (l ++ [⟨f0, f1, f2⟩]) := by rw [avs_append]; rfl
theorem ext_Rule (x y : Rule) : x = y ↔ x.host = y.host ∧ x.pfx = y.pfx ∧ x.split = y.split := by cases x; cases y; simp
@[go_sem] theorem eta_Rule (x : Rule) : Rule.mk x.host x.pfx x.split = x := rfl

/-- groyne api.Res -/
@[ext] structure Res where
  kind : Int
  name : List UInt8
  ver : Int
  port : Int
  to' : List UInt8
  rules' : List Rule
  hosts : List Int
  deriving Inhabited, DecidableEq
instance : Dat Res where
  av x := .agg [.int .i64 x.kind, .str x.name, .int .i64 x.ver, .int .i64 x.port, .str x.to', .slice false (avs x.rules'), .slice false (avs x.hosts)]
  sz := 7
  len _ := rfl
  pure x := by simp only [go_sem, Bool.and_self]
  nrm x := by simp only [go_sem]
  one x := by simp only [go_sem, List.all_cons, List.all_nil, Bool.and_self]
  known x := rfl
@[go_sem] theorem av_Res (x : Res) : Dat.av x = .agg [.int .i64 x.kind, .str x.name, .int .i64 x.ver, .int .i64 x.port, .str x.to', .slice false (avs x.rules'), .slice false (avs x.hosts)] := rfl
@[go_sem] theorem sz_Res : Dat.sz Res = 7 := rfl
@[go_sem] theorem set_Res (l : List Res) (n : Nat) (f0 : Int) (f1 : List UInt8) (f2 : Int) (f3 : Int) (f4 : List UInt8) (f5 : List Rule) (f6 : List Int) : (avs l).set n (.agg [.int .i64 f0, .str f1, .int .i64 f2, .int .i64 f3, .str f4, .slice false (avs f5), .slice false (avs f6)]) = avs (l.set n ⟨f0, f1, f2, f3, f4, f5, f6⟩) := avs_set l n (⟨f0, f1, f2, f3, f4, f5, f6⟩ : Res)
@[go_sem] theorem snoc_Res (l : List Res) (f0 : Int) (f1 : List UInt8) (f2 : Int) (f3 : Int) (f4 : List UInt8) (f5 : List Rule) (f6 : List Int) : avs l ++ [.agg [.int .i64 f0, .str f1, .int .i64 f2, .int .i64 f3, .str f4, .slice false (avs f5), .slice false (avs f6)]] = avs (l ++ [⟨f0, f1, f2, f3, f4, f5, f6⟩]) := by rw [avs_append]; rfl
theorem ext_Res (x y : Res) : x = y ↔ x.kind = y.kind ∧ x.name = y.name ∧ x.ver = y.ver ∧ x.port = y.port ∧ x.to' = y.to' ∧ x.rules' = y.rules' ∧ x.hosts = y.hosts := by cases x; cases y; simp
@[go_sem] theorem eta_Res (x : Res) : Res.mk x.kind x.name x.ver x.port x.to' x.rules' x.hosts = x := rfl

/-- groyne pins.Snap, groyne groyneref18.Snap -/
@[ext] structure Snap where
  id : Int
  pins : Int
  l : List Res
  deriving Inhabited, DecidableEq
instance : Dat Snap where
  av x := .agg [.int .i64 x.id, .int .i64 x.pins, .slice false (avs x.l)]
  sz := 3
  len _ := rfl
  pure x := by simp only [go_sem, Bool.and_self]
  nrm x := by simp only [go_sem]
  one x := by simp only [go_sem, List.all_cons, List.all_nil, Bool.and_self]
  known x := rfl
@[go_sem] theorem av_Snap (x : Snap) : Dat.av x = .agg [.int .i64 x.id, .int .i64 x.pins, .slice false (avs x.l)] := rfl
@[go_sem] theorem sz_Snap : Dat.sz Snap = 3 := rfl
@[go_sem] theorem set_Snap (l : List Snap) (n : Nat) (f0 : Int) (f1 : Int) (f2 : List Res) : (avs l).set n (.agg [.int .i64 f0, .int .i64 f1, .slice false (avs f2)]) = avs (l.set n ⟨f0, f1, f2⟩) := avs_set l n (⟨f0, f1, f2⟩ : Snap)
@[go_sem] theorem snoc_Snap (l : List Snap) (f0 : Int) (f1 : Int) (f2 : List Res) : avs l ++ [.agg [.int .i64 f0, .int .i64 f1, .slice false (avs f2)]] = avs (l ++ [⟨f0, f1, f2⟩]) := by rw [avs_append]; rfl
theorem ext_Snap (x y : Snap) : x = y ↔ x.id = y.id ∧ x.pins = y.pins ∧ x.l = y.l := by cases x; cases y; simp
@[go_sem] theorem eta_Snap (x : Snap) : Snap.mk x.id x.pins x.l = x := rfl

/-- runtime.boundsError -/
@[ext] structure BoundsError where
  x : Int
  y : Int
  signed : Bool
  code : UInt8
  deriving Inhabited, DecidableEq
instance : Dat BoundsError where
  av x := .agg [.int .i64 x.x, .int .i64 x.y, .bool x.signed, .int .u8 x.code.toNat]
  sz := 4
  len _ := rfl
  pure x := by simp only [go_sem, Bool.and_self]
  nrm x := by simp only [go_sem]
  one x := by simp only [go_sem, List.all_cons, List.all_nil, Bool.and_self]
  known x := rfl
@[go_sem] theorem av_BoundsError (x : BoundsError) : Dat.av x = .agg [.int .i64 x.x, .int .i64 x.y, .bool x.signed, .int .u8 x.code.toNat] := rfl
@[go_sem] theorem sz_BoundsError : Dat.sz BoundsError = 4 := rfl
@[go_sem] theorem set_BoundsError (l : List BoundsError) (n : Nat) (f0 : Int) (f1 : Int) (f2 : Bool) (f3 : UInt8) : (avs l).set n (.agg [.int .i64 f0, .int .i64 f1, .bool f2, .int .u8 f3.toNat]) = avs (l.set n ⟨f0, f1, f2, f3⟩) := avs_set l n (⟨f0, f1, f2, f3⟩ : BoundsError)
@[go_sem] theorem snoc_BoundsError (l : List BoundsError) (f0 : Int) (f1 : Int) (f2 : Bool) (f3 : UInt8) : avs l ++ [.agg [.int .i64 f0, .int .i64 f1, .bool f2, .int .u8 f3.toNat]] = avs (l ++ [⟨f0, f1, f2, f3⟩]) := by rw [avs_append]; rfl
@[go_sem] theorem flatL_BoundsError : ∀ l : List BoundsError, AV.flat.flatL (avs l) = true
  | [] => rfl
  | _ :: r => by simp only [avs_cons, AV.flat.flatL, flatL_BoundsError r, av_BoundsError, AV.flat, Bool.and_self]
theorem ext_BoundsError (x y : BoundsError) : x = y ↔ x.x = y.x ∧ x.y = y.y ∧ x.signed = y.signed ∧ x.code = y.code := by cases x; cases y; simp
@[go_sem] theorem eta_BoundsError (x : BoundsError) : BoundsError.mk x.x x.y x.signed x.code = x := rfl

/-- groyne groyneref18.Pins -/
@[ext] structure Pins where
  next' : Int
  snaps : List Snap
  deriving Inhabited, DecidableEq
instance : Dat Pins where
  av x := .agg [.int .i64 x.next', .slice false (avs x.snaps)]
  sz := 2
  len _ := rfl
  pure x := by simp only [go_sem, Bool.and_self]
  nrm x := by simp only [go_sem]
  one x := by simp only [go_sem, List.all_cons, List.all_nil, Bool.and_self]
  known x := rfl
@[go_sem] theorem av_Pins (x : Pins) : Dat.av x = .agg [.int .i64 x.next', .slice false (avs x.snaps)] := rfl
@[go_sem] theorem sz_Pins : Dat.sz Pins = 2 := rfl
@[go_sem] theorem set_Pins (l : List Pins) (n : Nat) (f0 : Int) (f1 : List Snap) : (avs l).set n (.agg [.int .i64 f0, .slice false (avs f1)]) = avs (l.set n ⟨f0, f1⟩) := avs_set l n (⟨f0, f1⟩ : Pins)
@[go_sem] theorem snoc_Pins (l : List Pins) (f0 : Int) (f1 : List Snap) : avs l ++ [.agg [.int .i64 f0, .slice false (avs f1)]] = avs (l ++ [⟨f0, f1⟩]) := by rw [avs_append]; rfl
theorem ext_Pins (x y : Pins) : x = y ↔ x.next' = y.next' ∧ x.snaps = y.snaps := by cases x; cases y; simp
@[go_sem] theorem eta_Pins (x : Pins) : Pins.mk x.next' x.snaps = x := rfl

/-- groyne api.Key -/
@[ext] structure Key where
  kind : Int
  name : List UInt8
  deriving Inhabited, DecidableEq
instance : Dat Key where
  av x := .agg [.int .i64 x.kind, .str x.name]
  sz := 2
  len _ := rfl
  pure x := by simp only [go_sem, Bool.and_self]
  nrm x := by simp only [go_sem]
  one x := by simp only [go_sem, List.all_cons, List.all_nil, Bool.and_self]
  known x := rfl
@[go_sem] theorem av_Key (x : Key) : Dat.av x = .agg [.int .i64 x.kind, .str x.name] := rfl
@[go_sem] theorem sz_Key : Dat.sz Key = 2 := rfl
@[go_sem] theorem set_Key (l : List Key) (n : Nat) (f0 : Int) (f1 : List UInt8) : (avs l).set n (.agg [.int .i64 f0, .str f1]) = avs (l.set n ⟨f0, f1⟩) := avs_set l n (⟨f0, f1⟩ : Key)
@[go_sem] theorem snoc_Key (l : List Key) (f0 : Int) (f1 : List UInt8) : avs l ++ [.agg [.int .i64 f0, .str f1]] = avs (l ++ [⟨f0, f1⟩]) := by rw [avs_append]; rfl
@[go_sem] theorem flatL_Key : ∀ l : List Key, AV.flat.flatL (avs l) = true
  | [] => rfl
  | _ :: r => by simp only [avs_cons, AV.flat.flatL, flatL_Key r, av_Key, AV.flat, Bool.and_self]
theorem ext_Key (x y : Key) : x = y ↔ x.kind = y.kind ∧ x.name = y.name := by cases x; cases y; simp
@[go_sem] theorem eta_Key (x : Key) : Key.mk x.kind x.name = x := rfl

/-- groyne groynelaw18.Act -/
@[ext] structure Act where
  what : Int
  id : Int
  l : List Res
  deriving Inhabited, DecidableEq
instance : Dat Act where
  av x := .agg [.int .i64 x.what, .int .i64 x.id, .slice false (avs x.l)]
  sz := 3
  len _ := rfl
  pure x := by simp only [go_sem, Bool.and_self]
  nrm x := by simp only [go_sem]
  one x := by simp only [go_sem, List.all_cons, List.all_nil, Bool.and_self]
  known x := rfl
@[go_sem] theorem av_Act (x : Act) : Dat.av x = .agg [.int .i64 x.what, .int .i64 x.id, .slice false (avs x.l)] := rfl
@[go_sem] theorem sz_Act : Dat.sz Act = 3 := rfl
@[go_sem] theorem set_Act (l : List Act) (n : Nat) (f0 : Int) (f1 : Int) (f2 : List Res) : (avs l).set n (.agg [.int .i64 f0, .int .i64 f1, .slice false (avs f2)]) = avs (l.set n ⟨f0, f1, f2⟩) := avs_set l n (⟨f0, f1, f2⟩ : Act)
@[go_sem] theorem snoc_Act (l : List Act) (f0 : Int) (f1 : Int) (f2 : List Res) : avs l ++ [.agg [.int .i64 f0, .int .i64 f1, .slice false (avs f2)]] = avs (l ++ [⟨f0, f1, f2⟩]) := by rw [avs_append]; rfl
theorem ext_Act (x y : Act) : x = y ↔ x.what = y.what ∧ x.id = y.id ∧ x.l = y.l := by cases x; cases y; simp
@[go_sem] theorem eta_Act (x : Act) : Act.mk x.what x.id x.l = x := rfl

def SmWeight (x : Weight) : Prop := Small x.cluster.length
def SmRule (x : Rule) : Prop := Small x.host.length ∧ Small x.pfx.length ∧ Small x.split.length ∧ (∀ y ∈ x.split, SmWeight y)
def SmRes (x : Res) : Prop := Small x.name.length ∧ Small x.to'.length ∧ Small x.rules'.length ∧ (∀ y ∈ x.rules', SmRule y) ∧ Small x.hosts.length
def SmSnap (x : Snap) : Prop := Small x.l.length ∧ (∀ y ∈ x.l, SmRes y)
def SmBoundsError (x : BoundsError) : Prop := True
def SmPins (x : Pins) : Prop := Small x.snaps.length ∧ (∀ y ∈ x.snaps, SmSnap y)
def SmKey (x : Key) : Prop := Small x.name.length
def SmAct (x : Act) : Prop := Small x.l.length ∧ (∀ y ∈ x.l, SmRes y)
end Go.Proofs.Ytjmnokbbodcaaaa.Lg
