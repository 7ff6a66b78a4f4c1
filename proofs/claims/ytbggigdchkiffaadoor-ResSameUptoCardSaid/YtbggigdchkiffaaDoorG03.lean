/- Parts of the proof, one behind the other. -/
import Derived.Test.YtbggigdchkiffaaDoorProg
import Derived.Test.YtbggigdchkiffaaDoorG02
/- What is known of this seat's types, with its proof: made by program (tys.py) off the translation. -/
namespace Go.Proofs.YtbggigdchkiffaaDoor.Lg
open Go
set_option linter.unusedVariables false
set_option linter.unusedSimpArgs false
theorem infoOf {i : Nat} {ti : TypeInfo} (h : Tryd.prog.types[i]? = some ti) : Tryd.prog.info? i = some ti := by
  have hlt : i < Tryd.prog.types.size := (Array.getElem?_eq_some_iff.1 h).1
  simp only [Tables.info?, if_pos hlt, h]


def ty1 : TyI := ⟨.func, 1, 8, [.nilf]⟩
theorem tyOk1 : TyOk Tryd.prog 1 ty1 := .inr ⟨Tryd.t1, infoOf Tryd.type1, rfl, rfl, ⟨_, rfl, rfl, rfl⟩, _, Tryd.underlying1, rfl⟩
def ty2 : TyI := ⟨.int .i64, 1, 8, [.int .i64 0]⟩
theorem tyOk2 : TyOk Tryd.prog 2 ty2 := .inr ⟨Tryd.t2, infoOf Tryd.type2, rfl, rfl, ⟨_, rfl, rfl, rfl⟩, _, Tryd.underlying2, rfl⟩
def ty3 : TyI := ⟨.int .i64, 1, 8, [.int .i64 0]⟩
theorem tyOk3 : TyOk Tryd.prog 3 ty3 := .inr ⟨Tryd.t3, infoOf Tryd.type3, rfl, rfl, ⟨_, rfl, rfl, rfl⟩, _, Tryd.underlying3, rfl⟩
def ty4 : TyI := ⟨.bool, 1, 1, [.bool false]⟩
theorem tyOk4 : TyOk Tryd.prog 4 ty4 := .inr ⟨Tryd.t4, infoOf Tryd.type4, rfl, rfl, ⟨_, rfl, rfl, rfl⟩, _, Tryd.underlying4, rfl⟩
def ty5 : TyI := ⟨.int .u8, 1, 1, [.int .u8 0]⟩
theorem tyOk5 : TyOk Tryd.prog 5 ty5 := .inr ⟨Tryd.t5, infoOf Tryd.type5, rfl, rfl, ⟨_, rfl, rfl, rfl⟩, _, Tryd.underlying5, rfl⟩
def ty6 : TyI := ⟨.int .u8, 1, 1, [.int .u8 0]⟩
theorem tyOk6 : TyOk Tryd.prog 6 ty6 := .inr ⟨Tryd.t6, infoOf Tryd.type6, rfl, rfl, ⟨_, rfl, rfl, rfl⟩, _, Tryd.underlying6, rfl⟩
def ty7 : TyI := ⟨.struct [(0, 2, "x"), (1, 3, "y"), (2, 4, "signed"), (3, 6, "code")], 4, 24, [.int .i64 0, .int .i64 0, .bool false, .int .u8 0]⟩
theorem tyOk7 : TyOk Tryd.prog 7 ty7 := .inr ⟨Tryd.t7, infoOf Tryd.type7, rfl, rfl, ⟨_, rfl, rfl, rfl⟩, _, Tryd.underlying7, rfl⟩
def ty8 : TyI := ⟨.struct [(0, 2, "x"), (1, 3, "y"), (2, 4, "signed"), (3, 6, "code")], 4, 24, [.int .i64 0, .int .i64 0, .bool false, .int .u8 0]⟩
theorem tyOk8 : TyOk Tryd.prog 8 ty8 := .inr ⟨Tryd.t8, infoOf Tryd.type8, rfl, rfl, ⟨_, rfl, rfl, rfl⟩, _, Tryd.underlying8, rfl⟩
def ty9 : TyI := ⟨.str, 1, 16, [.str []]⟩
theorem tyOk9 : TyOk Tryd.prog 9 ty9 := .inr ⟨Tryd.t9, infoOf Tryd.type9, rfl, rfl, ⟨_, rfl, rfl, rfl⟩, _, Tryd.underlying9, rfl⟩
def ty10 : TyI := ⟨.str, 1, 16, [.str []]⟩
theorem tyOk10 : TyOk Tryd.prog 10 ty10 := .inr ⟨Tryd.t10, infoOf Tryd.type10, rfl, rfl, ⟨_, rfl, rfl, rfl⟩, _, Tryd.underlying10, rfl⟩
def ty11 : TyI := ⟨.str, 1, 16, [.str []]⟩
theorem tyOk11 : TyOk Tryd.prog 11 ty11 := .inr ⟨Tryd.t11, infoOf Tryd.type11, rfl, rfl, ⟨_, rfl, rfl, rfl⟩, _, Tryd.underlying11, rfl⟩
def ty12 : TyI := ⟨.int .u64, 1, 8, [.int .u64 0]⟩
theorem tyOk12 : TyOk Tryd.prog 12 ty12 := .inr ⟨Tryd.t12, infoOf Tryd.type12, rfl, rfl, ⟨_, rfl, rfl, rfl⟩, _, Tryd.underlying12, rfl⟩
def ty13 : TyI := ⟨.struct [(0, 9, "msg"), (1, 12, "addr")], 2, 24, [.str [], .int .u64 0]⟩
theorem tyOk13 : TyOk Tryd.prog 13 ty13 := .inr ⟨Tryd.t13, infoOf Tryd.type13, rfl, rfl, ⟨_, rfl, rfl, rfl⟩, _, Tryd.underlying13, rfl⟩
def ty14 : TyI := ⟨.struct [(0, 9, "msg"), (1, 12, "addr")], 2, 24, [.str [], .int .u64 0]⟩
theorem tyOk14 : TyOk Tryd.prog 14 ty14 := .inr ⟨Tryd.t14, infoOf Tryd.type14, rfl, rfl, ⟨_, rfl, rfl, rfl⟩, _, Tryd.underlying14, rfl⟩
def ty15 : TyI := ⟨.ptr 112, 1, 8, [.nilp]⟩
theorem tyOk15 : TyOk Tryd.prog 15 ty15 := .inr ⟨Tryd.t15, infoOf Tryd.type15, rfl, rfl, ⟨_, rfl, rfl, rfl⟩, _, Tryd.underlying15, rfl⟩
def ty16 : TyI := ⟨.ptr 115, 1, 8, [.nilp]⟩
theorem tyOk16 : TyOk Tryd.prog 16 ty16 := .inr ⟨Tryd.t16, infoOf Tryd.type16, rfl, rfl, ⟨_, rfl, rfl, rfl⟩, _, Tryd.underlying16, rfl⟩
def ty17 : TyI := ⟨.ptr 124, 1, 8, [.nilp]⟩
theorem tyOk17 : TyOk Tryd.prog 17 ty17 := .inr ⟨Tryd.t17, infoOf Tryd.type17, rfl, rfl, ⟨_, rfl, rfl, rfl⟩, _, Tryd.underlying17, rfl⟩
def ty18 : TyI := ⟨.struct [(0, 17, "typ")], 1, 8, [.nilp]⟩
theorem tyOk18 : TyOk Tryd.prog 18 ty18 := .inr ⟨Tryd.t18, infoOf Tryd.type18, rfl, rfl, ⟨_, rfl, rfl, rfl⟩, _, Tryd.underlying18, rfl⟩
def ty19 : TyI := ⟨.struct [(0, 17, "typ")], 1, 8, [.nilp]⟩
theorem tyOk19 : TyOk Tryd.prog 19 ty19 := .inr ⟨Tryd.t19, infoOf Tryd.type19, rfl, rfl, ⟨_, rfl, rfl, rfl⟩, _, Tryd.underlying19, rfl⟩
def ty21 : TyI := ⟨.int .i32, 1, 4, [.int .i32 0]⟩
theorem tyOk21 : TyOk Tryd.prog 21 ty21 := .inr ⟨Tryd.t21, infoOf Tryd.type21, rfl, rfl, ⟨_, rfl, rfl, rfl⟩, _, Tryd.underlying21, rfl⟩
def ty22 : TyI := ⟨.slice 38, 1, 24, [.slice true []]⟩
theorem tyOk22 : TyOk Tryd.prog 22 ty22 := .inr ⟨Tryd.t22, infoOf Tryd.type22, rfl, rfl, ⟨_, rfl, rfl, rfl⟩, _, Tryd.underlying22, rfl⟩
def ty23 : TyI := ⟨.slice 3, 1, 24, [.slice true []]⟩
theorem tyOk23 : TyOk Tryd.prog 23 ty23 := .inr ⟨Tryd.t23, infoOf Tryd.type23, rfl, rfl, ⟨_, rfl, rfl, rfl⟩, _, Tryd.underlying23, rfl⟩
def ty24 : TyI := ⟨.struct [(0, 3, "Kind"), (1, 9, "Name"), (2, 3, "Ver"), (3, 3, "Port"), (4, 9, "To"), (5, 22, "Rules"), (6, 23, "Hosts")], 7, 104, [.int .i64 0, .str [], .int .i64 0, .int .i64 0, .str [], .slice true [], .slice true []]⟩
theorem tyOk24 : TyOk Tryd.prog 24 ty24 := .inr ⟨Tryd.t24, infoOf Tryd.type24, rfl, rfl, ⟨_, rfl, rfl, rfl⟩, _, Tryd.underlying24, rfl⟩
def ty25 : TyI := ⟨.struct [(0, 3, "Kind"), (1, 9, "Name"), (2, 3, "Ver"), (3, 3, "Port"), (4, 9, "To"), (5, 22, "Rules"), (6, 23, "Hosts")], 7, 104, [.int .i64 0, .str [], .int .i64 0, .int .i64 0, .str [], .slice true [], .slice true []]⟩
theorem tyOk25 : TyOk Tryd.prog 25 ty25 := .inr ⟨Tryd.t25, infoOf Tryd.type25, rfl, rfl, ⟨_, rfl, rfl, rfl⟩, _, Tryd.underlying25, rfl⟩
def ty26 : TyI := ⟨.func, 1, 8, [.nilf]⟩
theorem tyOk26 : TyOk Tryd.prog 26 ty26 := .inr ⟨Tryd.t26, infoOf Tryd.type26, rfl, rfl, ⟨_, rfl, rfl, rfl⟩, _, Tryd.underlying26, rfl⟩
def ty27 : TyI := ⟨.func, 1, 8, [.nilf]⟩
theorem tyOk27 : TyOk Tryd.prog 27 ty27 := .inr ⟨Tryd.t27, infoOf Tryd.type27, rfl, rfl, ⟨_, rfl, rfl, rfl⟩, _, Tryd.underlying27, rfl⟩
def ty28 : TyI := ⟨.slice 33, 1, 24, [.slice true []]⟩
theorem tyOk28 : TyOk Tryd.prog 28 ty28 := .inr ⟨Tryd.t28, infoOf Tryd.type28, rfl, rfl, ⟨_, rfl, rfl, rfl⟩, _, Tryd.underlying28, rfl⟩
def ty29 : TyI := ⟨.func, 1, 8, [.nilf]⟩
theorem tyOk29 : TyOk Tryd.prog 29 ty29 := .inr ⟨Tryd.t29, infoOf Tryd.type29, rfl, rfl, ⟨_, rfl, rfl, rfl⟩, _, Tryd.underlying29, rfl⟩
def ty30 : TyI := ⟨.int .i64, 1, 8, [.int .i64 0]⟩
theorem tyOk30 : TyOk Tryd.prog 30 ty30 := .inr ⟨Tryd.t30, infoOf Tryd.type30, rfl, rfl, ⟨_, rfl, rfl, rfl⟩, _, Tryd.underlying30, rfl⟩
def ty31 : TyI := ⟨.func, 1, 8, [.nilf]⟩
theorem tyOk31 : TyOk Tryd.prog 31 ty31 := .inr ⟨Tryd.t31, infoOf Tryd.type31, rfl, rfl, ⟨_, rfl, rfl, rfl⟩, _, Tryd.underlying31, rfl⟩
def ty32 : TyI := ⟨.struct [(0, 3, "Kind"), (1, 9, "Name")], 2, 24, [.int .i64 0, .str []]⟩
theorem tyOk32 : TyOk Tryd.prog 32 ty32 := .inr ⟨Tryd.t32, infoOf Tryd.type32, rfl, rfl, ⟨_, rfl, rfl, rfl⟩, _, Tryd.underlying32, rfl⟩
def ty33 : TyI := ⟨.struct [(0, 3, "Kind"), (1, 9, "Name")], 2, 24, [.int .i64 0, .str []]⟩
theorem tyOk33 : TyOk Tryd.prog 33 ty33 := .inr ⟨Tryd.t33, infoOf Tryd.type33, rfl, rfl, ⟨_, rfl, rfl, rfl⟩, _, Tryd.underlying33, rfl⟩
def ty34 : TyI := ⟨.func, 1, 8, [.nilf]⟩
theorem tyOk34 : TyOk Tryd.prog 34 ty34 := .inr ⟨Tryd.t34, infoOf Tryd.type34, rfl, rfl, ⟨_, rfl, rfl, rfl⟩, _, Tryd.underlying34, rfl⟩
def ty35 : TyI := ⟨.func, 1, 8, [.nilf]⟩
theorem tyOk35 : TyOk Tryd.prog 35 ty35 := .inr ⟨Tryd.t35, infoOf Tryd.type35, rfl, rfl, ⟨_, rfl, rfl, rfl⟩, _, Tryd.underlying35, rfl⟩
def ty36 : TyI := ⟨.slice 40, 1, 24, [.slice true []]⟩
theorem tyOk36 : TyOk Tryd.prog 36 ty36 := .inr ⟨Tryd.t36, infoOf Tryd.type36, rfl, rfl, ⟨_, rfl, rfl, rfl⟩, _, Tryd.underlying36, rfl⟩
def ty37 : TyI := ⟨.struct [(0, 9, "Host"), (1, 9, "Prefix"), (2, 36, "Split")], 3, 56, [.str [], .str [], .slice true []]⟩
theorem tyOk37 : TyOk Tryd.prog 37 ty37 := .inr ⟨Tryd.t37, infoOf Tryd.type37, rfl, rfl, ⟨_, rfl, rfl, rfl⟩, _, Tryd.underlying37, rfl⟩
def ty38 : TyI := ⟨.struct [(0, 9, "Host"), (1, 9, "Prefix"), (2, 36, "Split")], 3, 56, [.str [], .str [], .slice true []]⟩
theorem tyOk38 : TyOk Tryd.prog 38 ty38 := .inr ⟨Tryd.t38, infoOf Tryd.type38, rfl, rfl, ⟨_, rfl, rfl, rfl⟩, _, Tryd.underlying38, rfl⟩
def ty39 : TyI := ⟨.struct [(0, 9, "Cluster"), (1, 3, "W")], 2, 24, [.str [], .int .i64 0]⟩
theorem tyOk39 : TyOk Tryd.prog 39 ty39 := .inr ⟨Tryd.t39, infoOf Tryd.type39, rfl, rfl, ⟨_, rfl, rfl, rfl⟩, _, Tryd.underlying39, rfl⟩
def ty40 : TyI := ⟨.struct [(0, 9, "Cluster"), (1, 3, "W")], 2, 24, [.str [], .int .i64 0]⟩
theorem tyOk40 : TyOk Tryd.prog 40 ty40 := .inr ⟨Tryd.t40, infoOf Tryd.type40, rfl, rfl, ⟨_, rfl, rfl, rfl⟩, _, Tryd.underlying40, rfl⟩
def ty41 : TyI := ⟨.func, 1, 8, [.nilf]⟩
theorem tyOk41 : TyOk Tryd.prog 41 ty41 := .inr ⟨Tryd.t41, infoOf Tryd.type41, rfl, rfl, ⟨_, rfl, rfl, rfl⟩, _, Tryd.underlying41, rfl⟩
def ty42 : TyI := ⟨.func, 1, 8, [.nilf]⟩
theorem tyOk42 : TyOk Tryd.prog 42 ty42 := .inr ⟨Tryd.t42, infoOf Tryd.type42, rfl, rfl, ⟨_, rfl, rfl, rfl⟩, _, Tryd.underlying42, rfl⟩
def ty43 : TyI := ⟨.func, 1, 8, [.nilf]⟩
theorem tyOk43 : TyOk Tryd.prog 43 ty43 := .inr ⟨Tryd.t43, infoOf Tryd.type43, rfl, rfl, ⟨_, rfl, rfl, rfl⟩, _, Tryd.underlying43, rfl⟩
def ty44 : TyI := ⟨.func, 1, 8, [.nilf]⟩
theorem tyOk44 : TyOk Tryd.prog 44 ty44 := .inr ⟨Tryd.t44, infoOf Tryd.type44, rfl, rfl, ⟨_, rfl, rfl, rfl⟩, _, Tryd.underlying44, rfl⟩
def ty45 : TyI := ⟨.func, 1, 8, [.nilf]⟩
theorem tyOk45 : TyOk Tryd.prog 45 ty45 := .inr ⟨Tryd.t45, infoOf Tryd.type45, rfl, rfl, ⟨_, rfl, rfl, rfl⟩, _, Tryd.underlying45, rfl⟩
def ty46 : TyI := ⟨.func, 1, 8, [.nilf]⟩
theorem tyOk46 : TyOk Tryd.prog 46 ty46 := .inr ⟨Tryd.t46, infoOf Tryd.type46, rfl, rfl, ⟨_, rfl, rfl, rfl⟩, _, Tryd.underlying46, rfl⟩
def ty47 : TyI := ⟨.func, 1, 8, [.nilf]⟩
theorem tyOk47 : TyOk Tryd.prog 47 ty47 := .inr ⟨Tryd.t47, infoOf Tryd.type47, rfl, rfl, ⟨_, rfl, rfl, rfl⟩, _, Tryd.underlying47, rfl⟩
def ty48 : TyI := ⟨.func, 1, 8, [.nilf]⟩
theorem tyOk48 : TyOk Tryd.prog 48 ty48 := .inr ⟨Tryd.t48, infoOf Tryd.type48, rfl, rfl, ⟨_, rfl, rfl, rfl⟩, _, Tryd.underlying48, rfl⟩
def ty49 : TyI := ⟨.func, 1, 8, [.nilf]⟩
theorem tyOk49 : TyOk Tryd.prog 49 ty49 := .inr ⟨Tryd.t49, infoOf Tryd.type49, rfl, rfl, ⟨_, rfl, rfl, rfl⟩, _, Tryd.underlying49, rfl⟩
def ty50 : TyI := ⟨.func, 1, 8, [.nilf]⟩
theorem tyOk50 : TyOk Tryd.prog 50 ty50 := .inr ⟨Tryd.t50, infoOf Tryd.type50, rfl, rfl, ⟨_, rfl, rfl, rfl⟩, _, Tryd.underlying50, rfl⟩
def ty51 : TyI := ⟨.func, 1, 8, [.nilf]⟩
theorem tyOk51 : TyOk Tryd.prog 51 ty51 := .inr ⟨Tryd.t51, infoOf Tryd.type51, rfl, rfl, ⟨_, rfl, rfl, rfl⟩, _, Tryd.underlying51, rfl⟩
def ty52 : TyI := ⟨.func, 1, 8, [.nilf]⟩
theorem tyOk52 : TyOk Tryd.prog 52 ty52 := .inr ⟨Tryd.t52, infoOf Tryd.type52, rfl, rfl, ⟨_, rfl, rfl, rfl⟩, _, Tryd.underlying52, rfl⟩
def ty53 : TyI := ⟨.func, 1, 8, [.nilf]⟩
theorem tyOk53 : TyOk Tryd.prog 53 ty53 := .inr ⟨Tryd.t53, infoOf Tryd.type53, rfl, rfl, ⟨_, rfl, rfl, rfl⟩, _, Tryd.underlying53, rfl⟩
def ty54 : TyI := ⟨.func, 1, 8, [.nilf]⟩
theorem tyOk54 : TyOk Tryd.prog 54 ty54 := .inr ⟨Tryd.t54, infoOf Tryd.type54, rfl, rfl, ⟨_, rfl, rfl, rfl⟩, _, Tryd.underlying54, rfl⟩
def ty55 : TyI := ⟨.func, 1, 8, [.nilf]⟩
theorem tyOk55 : TyOk Tryd.prog 55 ty55 := .inr ⟨Tryd.t55, infoOf Tryd.type55, rfl, rfl, ⟨_, rfl, rfl, rfl⟩, _, Tryd.underlying55, rfl⟩
def ty56 : TyI := ⟨.func, 1, 8, [.nilf]⟩
theorem tyOk56 : TyOk Tryd.prog 56 ty56 := .inr ⟨Tryd.t56, infoOf Tryd.type56, rfl, rfl, ⟨_, rfl, rfl, rfl⟩, _, Tryd.underlying56, rfl⟩
def ty57 : TyI := ⟨.func, 1, 8, [.nilf]⟩
theorem tyOk57 : TyOk Tryd.prog 57 ty57 := .inr ⟨Tryd.t57, infoOf Tryd.type57, rfl, rfl, ⟨_, rfl, rfl, rfl⟩, _, Tryd.underlying57, rfl⟩
def ty58 : TyI := ⟨.func, 1, 8, [.nilf]⟩
theorem tyOk58 : TyOk Tryd.prog 58 ty58 := .inr ⟨Tryd.t58, infoOf Tryd.type58, rfl, rfl, ⟨_, rfl, rfl, rfl⟩, _, Tryd.underlying58, rfl⟩
def ty59 : TyI := ⟨.int .u64, 1, 8, [.int .u64 0]⟩
theorem tyOk59 : TyOk Tryd.prog 59 ty59 := .inr ⟨Tryd.t59, infoOf Tryd.type59, rfl, rfl, ⟨_, rfl, rfl, rfl⟩, _, Tryd.underlying59, rfl⟩
def ty60 : TyI := ⟨.func, 1, 8, [.nilf]⟩
theorem tyOk60 : TyOk Tryd.prog 60 ty60 := .inr ⟨Tryd.t60, infoOf Tryd.type60, rfl, rfl, ⟨_, rfl, rfl, rfl⟩, _, Tryd.underlying60, rfl⟩
def ty61 : TyI := ⟨.func, 1, 8, [.nilf]⟩
theorem tyOk61 : TyOk Tryd.prog 61 ty61 := .inr ⟨Tryd.t61, infoOf Tryd.type61, rfl, rfl, ⟨_, rfl, rfl, rfl⟩, _, Tryd.underlying61, rfl⟩
def ty62 : TyI := ⟨.struct [(0, 4, "port"), (1, 4, "to"), (2, 4, "rules"), (3, 4, "hosts")], 4, 4, [.bool false, .bool false, .bool false, .bool false]⟩
theorem tyOk62 : TyOk Tryd.prog 62 ty62 := .inr ⟨Tryd.t62, infoOf Tryd.type62, rfl, rfl, ⟨_, rfl, rfl, rfl⟩, _, Tryd.underlying62, rfl⟩
def ty63 : TyI := ⟨.struct [(0, 4, "port"), (1, 4, "to"), (2, 4, "rules"), (3, 4, "hosts")], 4, 4, [.bool false, .bool false, .bool false, .bool false]⟩
theorem tyOk63 : TyOk Tryd.prog 63 ty63 := .inr ⟨Tryd.t63, infoOf Tryd.type63, rfl, rfl, ⟨_, rfl, rfl, rfl⟩, _, Tryd.underlying63, rfl⟩
def ty64 : TyI := ⟨.func, 1, 8, [.nilf]⟩
theorem tyOk64 : TyOk Tryd.prog 64 ty64 := .inr ⟨Tryd.t64, infoOf Tryd.type64, rfl, rfl, ⟨_, rfl, rfl, rfl⟩, _, Tryd.underlying64, rfl⟩
def ty65 : TyI := ⟨.func, 1, 8, [.nilf]⟩
theorem tyOk65 : TyOk Tryd.prog 65 ty65 := .inr ⟨Tryd.t65, infoOf Tryd.type65, rfl, rfl, ⟨_, rfl, rfl, rfl⟩, _, Tryd.underlying65, rfl⟩
def ty66 : TyI := ⟨.func, 1, 8, [.nilf]⟩
theorem tyOk66 : TyOk Tryd.prog 66 ty66 := .inr ⟨Tryd.t66, infoOf Tryd.type66, rfl, rfl, ⟨_, rfl, rfl, rfl⟩, _, Tryd.underlying66, rfl⟩
def ty67 : TyI := ⟨.func, 1, 8, [.nilf]⟩
theorem tyOk67 : TyOk Tryd.prog 67 ty67 := .inr ⟨Tryd.t67, infoOf Tryd.type67, rfl, rfl, ⟨_, rfl, rfl, rfl⟩, _, Tryd.underlying67, rfl⟩
def ty68 : TyI := ⟨.func, 1, 8, [.nilf]⟩
theorem tyOk68 : TyOk Tryd.prog 68 ty68 := .inr ⟨Tryd.t68, infoOf Tryd.type68, rfl, rfl, ⟨_, rfl, rfl, rfl⟩, _, Tryd.underlying68, rfl⟩
def ty69 : TyI := ⟨.func, 1, 8, [.nilf]⟩
theorem tyOk69 : TyOk Tryd.prog 69 ty69 := .inr ⟨Tryd.t69, infoOf Tryd.type69, rfl, rfl, ⟨_, rfl, rfl, rfl⟩, _, Tryd.underlying69, rfl⟩
def ty70 : TyI := ⟨.func, 1, 8, [.nilf]⟩
theorem tyOk70 : TyOk Tryd.prog 70 ty70 := .inr ⟨Tryd.t70, infoOf Tryd.type70, rfl, rfl, ⟨_, rfl, rfl, rfl⟩, _, Tryd.underlying70, rfl⟩
def ty71 : TyI := ⟨.int .i64, 1, 8, [.int .i64 0]⟩
theorem tyOk71 : TyOk Tryd.prog 71 ty71 := .inr ⟨Tryd.t71, infoOf Tryd.type71, rfl, rfl, ⟨_, rfl, rfl, rfl⟩, _, Tryd.underlying71, rfl⟩
def ty73 : TyI := ⟨.func, 1, 8, [.nilf]⟩
theorem tyOk73 : TyOk Tryd.prog 73 ty73 := .inr ⟨Tryd.t73, infoOf Tryd.type73, rfl, rfl, ⟨_, rfl, rfl, rfl⟩, _, Tryd.underlying73, rfl⟩
def ty74 : TyI := ⟨.func, 1, 8, [.nilf]⟩
theorem tyOk74 : TyOk Tryd.prog 74 ty74 := .inr ⟨Tryd.t74, infoOf Tryd.type74, rfl, rfl, ⟨_, rfl, rfl, rfl⟩, _, Tryd.underlying74, rfl⟩
def ty75 : TyI := ⟨.func, 1, 8, [.nilf]⟩
theorem tyOk75 : TyOk Tryd.prog 75 ty75 := .inr ⟨Tryd.t75, infoOf Tryd.type75, rfl, rfl, ⟨_, rfl, rfl, rfl⟩, _, Tryd.underlying75, rfl⟩
def ty77 : TyI := ⟨.func, 1, 8, [.nilf]⟩
theorem tyOk77 : TyOk Tryd.prog 77 ty77 := .inr ⟨Tryd.t77, infoOf Tryd.type77, rfl, rfl, ⟨_, rfl, rfl, rfl⟩, _, Tryd.underlying77, rfl⟩
def ty78 : TyI := ⟨.func, 1, 8, [.nilf]⟩
theorem tyOk78 : TyOk Tryd.prog 78 ty78 := .inr ⟨Tryd.t78, infoOf Tryd.type78, rfl, rfl, ⟨_, rfl, rfl, rfl⟩, _, Tryd.underlying78, rfl⟩
def ty79 : TyI := ⟨.int .u32, 1, 4, [.int .u32 0]⟩
theorem tyOk79 : TyOk Tryd.prog 79 ty79 := .inr ⟨Tryd.t79, infoOf Tryd.type79, rfl, rfl, ⟨_, rfl, rfl, rfl⟩, _, Tryd.underlying79, rfl⟩
def ty80 : TyI := ⟨.func, 1, 8, [.nilf]⟩
theorem tyOk80 : TyOk Tryd.prog 80 ty80 := .inr ⟨Tryd.t80, infoOf Tryd.type80, rfl, rfl, ⟨_, rfl, rfl, rfl⟩, _, Tryd.underlying80, rfl⟩
def ty81 : TyI := ⟨.int .u64, 1, 8, [.int .u64 0]⟩
theorem tyOk81 : TyOk Tryd.prog 81 ty81 := .inr ⟨Tryd.t81, infoOf Tryd.type81, rfl, rfl, ⟨_, rfl, rfl, rfl⟩, _, Tryd.underlying81, rfl⟩
def ty82 : TyI := ⟨.func, 1, 8, [.nilf]⟩
theorem tyOk82 : TyOk Tryd.prog 82 ty82 := .inr ⟨Tryd.t82, infoOf Tryd.type82, rfl, rfl, ⟨_, rfl, rfl, rfl⟩, _, Tryd.underlying82, rfl⟩
def ty83 : TyI := ⟨.func, 1, 8, [.nilf]⟩
theorem tyOk83 : TyOk Tryd.prog 83 ty83 := .inr ⟨Tryd.t83, infoOf Tryd.type83, rfl, rfl, ⟨_, rfl, rfl, rfl⟩, _, Tryd.underlying83, rfl⟩
def ty84 : TyI := ⟨.func, 1, 8, [.nilf]⟩
theorem tyOk84 : TyOk Tryd.prog 84 ty84 := .inr ⟨Tryd.t84, infoOf Tryd.type84, rfl, rfl, ⟨_, rfl, rfl, rfl⟩, _, Tryd.underlying84, rfl⟩
def ty85 : TyI := ⟨.int .u64, 1, 8, [.int .u64 0]⟩
theorem tyOk85 : TyOk Tryd.prog 85 ty85 := .inr ⟨Tryd.t85, infoOf Tryd.type85, rfl, rfl, ⟨_, rfl, rfl, rfl⟩, _, Tryd.underlying85, rfl⟩
def ty86 : TyI := ⟨.func, 1, 8, [.nilf]⟩
theorem tyOk86 : TyOk Tryd.prog 86 ty86 := .inr ⟨Tryd.t86, infoOf Tryd.type86, rfl, rfl, ⟨_, rfl, rfl, rfl⟩, _, Tryd.underlying86, rfl⟩
def ty87 : TyI := ⟨.func, 1, 8, [.nilf]⟩
theorem tyOk87 : TyOk Tryd.prog 87 ty87 := .inr ⟨Tryd.t87, infoOf Tryd.type87, rfl, rfl, ⟨_, rfl, rfl, rfl⟩, _, Tryd.underlying87, rfl⟩
def ty88 : TyI := ⟨.func, 1, 8, [.nilf]⟩
theorem tyOk88 : TyOk Tryd.prog 88 ty88 := .inr ⟨Tryd.t88, infoOf Tryd.type88, rfl, rfl, ⟨_, rfl, rfl, rfl⟩, _, Tryd.underlying88, rfl⟩
def ty89 : TyI := ⟨.ptr 3, 1, 8, [.nilp]⟩
theorem tyOk89 : TyOk Tryd.prog 89 ty89 := .inr ⟨Tryd.t89, infoOf Tryd.type89, rfl, rfl, ⟨_, rfl, rfl, rfl⟩, _, Tryd.underlying89, rfl⟩
def ty90 : TyI := ⟨.func, 1, 8, [.nilf]⟩
theorem tyOk90 : TyOk Tryd.prog 90 ty90 := .inr ⟨Tryd.t90, infoOf Tryd.type90, rfl, rfl, ⟨_, rfl, rfl, rfl⟩, _, Tryd.underlying90, rfl⟩
def ty91 : TyI := ⟨.func, 1, 8, [.nilf]⟩
theorem tyOk91 : TyOk Tryd.prog 91 ty91 := .inr ⟨Tryd.t91, infoOf Tryd.type91, rfl, rfl, ⟨_, rfl, rfl, rfl⟩, _, Tryd.underlying91, rfl⟩
def ty92 : TyI := ⟨.func, 1, 8, [.nilf]⟩
theorem tyOk92 : TyOk Tryd.prog 92 ty92 := .inr ⟨Tryd.t92, infoOf Tryd.type92, rfl, rfl, ⟨_, rfl, rfl, rfl⟩, _, Tryd.underlying92, rfl⟩
def ty93 : TyI := ⟨.ptr 85, 1, 8, [.nilp]⟩
theorem tyOk93 : TyOk Tryd.prog 93 ty93 := .inr ⟨Tryd.t93, infoOf Tryd.type93, rfl, rfl, ⟨_, rfl, rfl, rfl⟩, _, Tryd.underlying93, rfl⟩
def ty95 : TyI := ⟨.func, 1, 8, [.nilf]⟩
theorem tyOk95 : TyOk Tryd.prog 95 ty95 := .inr ⟨Tryd.t95, infoOf Tryd.type95, rfl, rfl, ⟨_, rfl, rfl, rfl⟩, _, Tryd.underlying95, rfl⟩
def ty96 : TyI := ⟨.func, 1, 8, [.nilf]⟩
theorem tyOk96 : TyOk Tryd.prog 96 ty96 := .inr ⟨Tryd.t96, infoOf Tryd.type96, rfl, rfl, ⟨_, rfl, rfl, rfl⟩, _, Tryd.underlying96, rfl⟩
def ty97 : TyI := ⟨.func, 1, 8, [.nilf]⟩
theorem tyOk97 : TyOk Tryd.prog 97 ty97 := .inr ⟨Tryd.t97, infoOf Tryd.type97, rfl, rfl, ⟨_, rfl, rfl, rfl⟩, _, Tryd.underlying97, rfl⟩
def ty98 : TyI := ⟨.func, 1, 8, [.nilf]⟩
theorem tyOk98 : TyOk Tryd.prog 98 ty98 := .inr ⟨Tryd.t98, infoOf Tryd.type98, rfl, rfl, ⟨_, rfl, rfl, rfl⟩, _, Tryd.underlying98, rfl⟩
def ty99 : TyI := ⟨.func, 1, 8, [.nilf]⟩
theorem tyOk99 : TyOk Tryd.prog 99 ty99 := .inr ⟨Tryd.t99, infoOf Tryd.type99, rfl, rfl, ⟨_, rfl, rfl, rfl⟩, _, Tryd.underlying99, rfl⟩
def ty101 : TyI := ⟨.func, 1, 8, [.nilf]⟩
theorem tyOk101 : TyOk Tryd.prog 101 ty101 := .inr ⟨Tryd.t101, infoOf Tryd.type101, rfl, rfl, ⟨_, rfl, rfl, rfl⟩, _, Tryd.underlying101, rfl⟩
def ty103 : TyI := ⟨.struct [(0, 5, "lo"), (1, 5, "hi")], 2, 2, [.int .u8 0, .int .u8 0]⟩
theorem tyOk103 : TyOk Tryd.prog 103 ty103 := .inr ⟨Tryd.t103, infoOf Tryd.type103, rfl, rfl, ⟨_, rfl, rfl, rfl⟩, _, Tryd.underlying103, rfl⟩
def ty104 : TyI := ⟨.struct [(0, 5, "lo"), (1, 5, "hi")], 2, 2, [.int .u8 0, .int .u8 0]⟩
theorem tyOk104 : TyOk Tryd.prog 104 ty104 := .inr ⟨Tryd.t104, infoOf Tryd.type104, rfl, rfl, ⟨_, rfl, rfl, rfl⟩, _, Tryd.underlying104, rfl⟩
def ty105 : TyI := ⟨.array 16 104, 32, 32, [.int .u8 0, .int .u8 0, .int .u8 0, .int .u8 0, .int .u8 0, .int .u8 0, .int .u8 0, .int .u8 0, .int .u8 0, .int .u8 0, .int .u8 0, .int .u8 0, .int .u8 0, .int .u8 0, .int .u8 0, .int .u8 0, .int .u8 0, .int .u8 0, .int .u8 0, .int .u8 0, .int .u8 0, .int .u8 0, .int .u8 0, .int .u8 0, .int .u8 0, .int .u8 0, .int .u8 0, .int .u8 0, .int .u8 0, .int .u8 0, .int .u8 0, .int .u8 0]⟩
theorem tyOk105 : TyOk Tryd.prog 105 ty105 := .inr ⟨Tryd.t105, infoOf Tryd.type105, rfl, rfl, ⟨_, rfl, rfl, rfl⟩, _, Tryd.underlying105, rfl⟩
def ty106 : TyI := ⟨.func, 1, 8, [.nilf]⟩
theorem tyOk106 : TyOk Tryd.prog 106 ty106 := .inr ⟨Tryd.t106, infoOf Tryd.type106, rfl, rfl, ⟨_, rfl, rfl, rfl⟩, _, Tryd.underlying106, rfl⟩
def ty107 : TyI := ⟨.func, 1, 8, [.nilf]⟩
theorem tyOk107 : TyOk Tryd.prog 107 ty107 := .inr ⟨Tryd.t107, infoOf Tryd.type107, rfl, rfl, ⟨_, rfl, rfl, rfl⟩, _, Tryd.underlying107, rfl⟩
def ty109 : TyI := ⟨.func, 1, 8, [.nilf]⟩
theorem tyOk109 : TyOk Tryd.prog 109 ty109 := .inr ⟨Tryd.t109, infoOf Tryd.type109, rfl, rfl, ⟨_, rfl, rfl, rfl⟩, _, Tryd.underlying109, rfl⟩
def ty110 : TyI := ⟨.func, 1, 8, [.nilf]⟩
theorem tyOk110 : TyOk Tryd.prog 110 ty110 := .inr ⟨Tryd.t110, infoOf Tryd.type110, rfl, rfl, ⟨_, rfl, rfl, rfl⟩, _, Tryd.underlying110, rfl⟩
def ty111 : TyI := ⟨.struct [(0, 17, "_interface"), (1, 17, "concrete"), (2, 17, "asserted"), (3, 9, "missingMethod")], 4, 40, [.nilp, .nilp, .nilp, .str []]⟩
theorem tyOk111 : TyOk Tryd.prog 111 ty111 := .inr ⟨Tryd.t111, infoOf Tryd.type111, rfl, rfl, ⟨_, rfl, rfl, rfl⟩, _, Tryd.underlying111, rfl⟩
def ty112 : TyI := ⟨.struct [(0, 17, "_interface"), (1, 17, "concrete"), (2, 17, "asserted"), (3, 9, "missingMethod")], 4, 40, [.nilp, .nilp, .nilp, .str []]⟩
theorem tyOk112 : TyOk Tryd.prog 112 ty112 := .inr ⟨Tryd.t112, infoOf Tryd.type112, rfl, rfl, ⟨_, rfl, rfl, rfl⟩, _, Tryd.underlying112, rfl⟩
def ty113 : TyI := ⟨.array 0 16, 0, 0, []⟩
theorem tyOk113 : TyOk Tryd.prog 113 ty113 := .inr ⟨Tryd.t113, infoOf Tryd.type113, rfl, rfl, ⟨_, rfl, rfl, rfl⟩, _, Tryd.underlying113, rfl⟩
def ty114 : TyI := ⟨.struct [(0, 113, "_")], 0, 0, []⟩
theorem tyOk114 : TyOk Tryd.prog 114 ty114 := .inr ⟨Tryd.t114, infoOf Tryd.type114, rfl, rfl, ⟨_, rfl, rfl, rfl⟩, _, Tryd.underlying114, rfl⟩
def ty115 : TyI := ⟨.struct [(0, 113, "_")], 0, 0, []⟩
theorem tyOk115 : TyOk Tryd.prog 115 ty115 := .inr ⟨Tryd.t115, infoOf Tryd.type115, rfl, rfl, ⟨_, rfl, rfl, rfl⟩, _, Tryd.underlying115, rfl⟩
def ty116 : TyI := ⟨.func, 1, 8, [.nilf]⟩
theorem tyOk116 : TyOk Tryd.prog 116 ty116 := .inr ⟨Tryd.t116, infoOf Tryd.type116, rfl, rfl, ⟨_, rfl, rfl, rfl⟩, _, Tryd.underlying116, rfl⟩
def ty117 : TyI := ⟨.int .u8, 1, 1, [.int .u8 0]⟩
theorem tyOk117 : TyOk Tryd.prog 117 ty117 := .inr ⟨Tryd.t117, infoOf Tryd.type117, rfl, rfl, ⟨_, rfl, rfl, rfl⟩, _, Tryd.underlying117, rfl⟩
def ty118 : TyI := ⟨.int .u8, 1, 1, [.int .u8 0]⟩
theorem tyOk118 : TyOk Tryd.prog 118 ty118 := .inr ⟨Tryd.t118, infoOf Tryd.type118, rfl, rfl, ⟨_, rfl, rfl, rfl⟩, _, Tryd.underlying118, rfl⟩
def ty119 : TyI := ⟨.func, 1, 8, [.nilf]⟩
theorem tyOk119 : TyOk Tryd.prog 119 ty119 := .inr ⟨Tryd.t119, infoOf Tryd.type119, rfl, rfl, ⟨_, rfl, rfl, rfl⟩, _, Tryd.underlying119, rfl⟩
def ty120 : TyI := ⟨.ptr 5, 1, 8, [.nilp]⟩
theorem tyOk120 : TyOk Tryd.prog 120 ty120 := .inr ⟨Tryd.t120, infoOf Tryd.type120, rfl, rfl, ⟨_, rfl, rfl, rfl⟩, _, Tryd.underlying120, rfl⟩
def ty121 : TyI := ⟨.int .i32, 1, 4, [.int .i32 0]⟩
theorem tyOk121 : TyOk Tryd.prog 121 ty121 := .inr ⟨Tryd.t121, infoOf Tryd.type121, rfl, rfl, ⟨_, rfl, rfl, rfl⟩, _, Tryd.underlying121, rfl⟩
def ty122 : TyI := ⟨.int .i32, 1, 4, [.int .i32 0]⟩
theorem tyOk122 : TyOk Tryd.prog 122 ty122 := .inr ⟨Tryd.t122, infoOf Tryd.type122, rfl, rfl, ⟨_, rfl, rfl, rfl⟩, _, Tryd.underlying122, rfl⟩
def ty123 : TyI := ⟨.struct [(0, 12, "Size_"), (1, 12, "PtrBytes"), (2, 79, "Hash"), (3, 117, "TFlag"), (4, 5, "Align_"), (5, 5, "FieldAlign_"), (6, 118, "Kind_"), (7, 119, "Equal"), (8, 120, "GCData"), (9, 121, "Str"), (10, 122, "PtrToThis")], 11, 48, [.int .u64 0, .int .u64 0, .int .u32 0, .int .u8 0, .int .u8 0, .int .u8 0, .int .u8 0, .nilf, .nilp, .int .i32 0, .int .i32 0]⟩
theorem tyOk123 : TyOk Tryd.prog 123 ty123 := .inr ⟨Tryd.t123, infoOf Tryd.type123, rfl, rfl, ⟨_, rfl, rfl, rfl⟩, _, Tryd.underlying123, rfl⟩
def ty124 : TyI := ⟨.struct [(0, 12, "Size_"), (1, 12, "PtrBytes"), (2, 79, "Hash"), (3, 117, "TFlag"), (4, 5, "Align_"), (5, 5, "FieldAlign_"), (6, 118, "Kind_"), (7, 119, "Equal"), (8, 120, "GCData"), (9, 121, "Str"), (10, 122, "PtrToThis")], 11, 48, [.int .u64 0, .int .u64 0, .int .u32 0, .int .u8 0, .int .u8 0, .int .u8 0, .int .u8 0, .nilf, .nilp, .int .i32 0, .int .i32 0]⟩
theorem tyOk124 : TyOk Tryd.prog 124 ty124 := .inr ⟨Tryd.t124, infoOf Tryd.type124, rfl, rfl, ⟨_, rfl, rfl, rfl⟩, _, Tryd.underlying124, rfl⟩
def tyL : List (Nat × TyI) := [(1, ty1), (2, ty2), (3, ty3), (4, ty4), (5, ty5), (6, ty6), (7, ty7), (8, ty8), (9, ty9), (10, ty10), (11, ty11), (12, ty12), (13, ty13), (14, ty14), (15, ty15), (16, ty16), (17, ty17), (18, ty18), (19, ty19), (21, ty21), (22, ty22), (23, ty23), (24, ty24), (25, ty25), (26, ty26), (27, ty27), (28, ty28), (29, ty29), (30, ty30), (31, ty31), (32, ty32), (33, ty33), (34, ty34), (35, ty35), (36, ty36), (37, ty37), (38, ty38), (39, ty39), (40, ty40), (41, ty41), (42, ty42), (43, ty43), (44, ty44), (45, ty45), (46, ty46), (47, ty47), (48, ty48), (49, ty49), (50, ty50), (51, ty51), (52, ty52), (53, ty53), (54, ty54), (55, ty55), (56, ty56), (57, ty57), (58, ty58), (59, ty59), (60, ty60), (61, ty61), (62, ty62), (63, ty63), (64, ty64), (65, ty65), (66, ty66), (67, ty67), (68, ty68), (69, ty69), (70, ty70), (71, ty71), (73, ty73), (74, ty74), (75, ty75), (77, ty77), (78, ty78), (79, ty79), (80, ty80), (81, ty81), (82, ty82), (83, ty83), (84, ty84), (85, ty85), (86, ty86), (87, ty87), (88, ty88), (89, ty89), (90, ty90), (91, ty91), (92, ty92), (93, ty93), (95, ty95), (96, ty96), (97, ty97), (98, ty98), (99, ty99), (101, ty101), (103, ty103), (104, ty104), (105, ty105), (106, ty106), (107, ty107), (109, ty109), (110, ty110), (111, ty111), (112, ty112), (113, ty113), (114, ty114), (115, ty115), (116, ty116), (117, ty117), (118, ty118), (119, ty119), (120, ty120), (121, ty121), (122, ty122), (123, ty123), (124, ty124)]
def AllOk (P : Program) : List (Nat × TyI) → Prop
  | [] => True
  | p :: r => TyOk P p.1 p.2 ∧ AllOk P r
def tyOf (l : List (Nat × TyI)) (t : Nat) : TyI := (l.lookup t).getD ⟨.unk, 0, 0, []⟩
theorem allOk_ok {P : Program} : ∀ (l : List (Nat × TyI)), AllOk P l → ∀ t, TyOk P t (tyOf l t)
  | [], _, t => .inl rfl
  | (i, x) :: r, h, t => by
    unfold tyOf
    by_cases e : t = i
    · subst e; simpa [List.lookup] using h.1
    · have e' : (t == i) = false := by simpa using e
      have : ((i, x) :: r).lookup t = r.lookup t := by simp [List.lookup, e']
      rw [this]; exact allOk_ok r h.2 t
theorem tyL_ok : AllOk Tryd.prog tyL := ⟨tyOk1, tyOk2, tyOk3, tyOk4, tyOk5, tyOk6, tyOk7, tyOk8, tyOk9, tyOk10, tyOk11, tyOk12, tyOk13, tyOk14, tyOk15, tyOk16, tyOk17, tyOk18, tyOk19, tyOk21, tyOk22, tyOk23, tyOk24, tyOk25, tyOk26, tyOk27, tyOk28, tyOk29, tyOk30, tyOk31, tyOk32, tyOk33, tyOk34, tyOk35, tyOk36, tyOk37, tyOk38, tyOk39, tyOk40, tyOk41, tyOk42, tyOk43, tyOk44, tyOk45, tyOk46, tyOk47, tyOk48, tyOk49, tyOk50, tyOk51, tyOk52, tyOk53, tyOk54, tyOk55, tyOk56, tyOk57, tyOk58, tyOk59, tyOk60, tyOk61, tyOk62, tyOk63, tyOk64, tyOk65, tyOk66, tyOk67, tyOk68, tyOk69, tyOk70, tyOk71, tyOk73, tyOk74, tyOk75, tyOk77, tyOk78, tyOk79, tyOk80, tyOk81, tyOk82, tyOk83, tyOk84, tyOk85, tyOk86, tyOk87, tyOk88, tyOk89, tyOk90, tyOk91, tyOk92, tyOk93, tyOk95, tyOk96, tyOk97, tyOk98, tyOk99, tyOk101, tyOk103, tyOk104, tyOk105, tyOk106, tyOk107, tyOk109, tyOk110, tyOk111, tyOk112, tyOk113, tyOk114, tyOk115, tyOk116, tyOk117, tyOk118, tyOk119, tyOk120, tyOk121, tyOk122, tyOk123, tyOk124, trivial⟩
def T : Tys Tryd.prog := ⟨tyOf tyL, allOk_ok tyL tyL_ok⟩
@[go_sem] theorem T_1 : T.ty 1 = ty1 := rfl
@[go_sem] theorem k_1 : ty1.k = .func := rfl
@[go_sem] theorem sz_1 : ty1.sz = 1 := rfl
@[go_sem] theorem by_1 : ty1.bytes = 8 := rfl
@[go_sem] theorem zero_1 : ty1.zero = [.nilf] := rfl
@[go_sem] theorem T_2 : T.ty 2 = ty2 := rfl
@[go_sem] theorem k_2 : ty2.k = .int .i64 := rfl
@[go_sem] theorem sz_2 : ty2.sz = 1 := rfl
@[go_sem] theorem by_2 : ty2.bytes = 8 := rfl
@[go_sem] theorem zero_2 : ty2.zero = [.int .i64 0] := rfl
@[go_sem] theorem T_3 : T.ty 3 = ty3 := rfl
@[go_sem] theorem k_3 : ty3.k = .int .i64 := rfl
@[go_sem] theorem sz_3 : ty3.sz = 1 := rfl
@[go_sem] theorem by_3 : ty3.bytes = 8 := rfl
@[go_sem] theorem zero_3 : ty3.zero = [.int .i64 0] := rfl
@[go_sem] theorem T_4 : T.ty 4 = ty4 := rfl
@[go_sem] theorem k_4 : ty4.k = .bool := rfl
@[go_sem] theorem sz_4 : ty4.sz = 1 := rfl
@[go_sem] theorem by_4 : ty4.bytes = 1 := rfl
@[go_sem] theorem zero_4 : ty4.zero = [.bool false] := rfl
@[go_sem] theorem T_5 : T.ty 5 = ty5 := rfl
@[go_sem] theorem k_5 : ty5.k = .int .u8 := rfl
@[go_sem] theorem sz_5 : ty5.sz = 1 := rfl
@[go_sem] theorem by_5 : ty5.bytes = 1 := rfl
@[go_sem] theorem zero_5 : ty5.zero = [.int .u8 0] := rfl
@[go_sem] theorem T_6 : T.ty 6 = ty6 := rfl
@[go_sem] theorem k_6 : ty6.k = .int .u8 := rfl
@[go_sem] theorem sz_6 : ty6.sz = 1 := rfl
@[go_sem] theorem by_6 : ty6.bytes = 1 := rfl
@[go_sem] theorem zero_6 : ty6.zero = [.int .u8 0] := rfl
@[go_sem] theorem T_7 : T.ty 7 = ty7 := rfl
@[go_sem] theorem k_7 : ty7.k = .struct [(0, 2, "x"), (1, 3, "y"), (2, 4, "signed"), (3, 6, "code")] := rfl
@[go_sem] theorem sz_7 : ty7.sz = 4 := rfl
@[go_sem] theorem by_7 : ty7.bytes = 24 := rfl
@[go_sem] theorem zero_7 : ty7.zero = [.int .i64 0, .int .i64 0, .bool false, .int .u8 0] := rfl
@[go_sem] theorem T_8 : T.ty 8 = ty8 := rfl
@[go_sem] theorem k_8 : ty8.k = .struct [(0, 2, "x"), (1, 3, "y"), (2, 4, "signed"), (3, 6, "code")] := rfl
@[go_sem] theorem sz_8 : ty8.sz = 4 := rfl
@[go_sem] theorem by_8 : ty8.bytes = 24 := rfl
@[go_sem] theorem zero_8 : ty8.zero = [.int .i64 0, .int .i64 0, .bool false, .int .u8 0] := rfl
@[go_sem] theorem T_9 : T.ty 9 = ty9 := rfl
@[go_sem] theorem k_9 : ty9.k = .str := rfl
@[go_sem] theorem sz_9 : ty9.sz = 1 := rfl
@[go_sem] theorem by_9 : ty9.bytes = 16 := rfl
@[go_sem] theorem zero_9 : ty9.zero = [.str []] := rfl
@[go_sem] theorem T_10 : T.ty 10 = ty10 := rfl
@[go_sem] theorem k_10 : ty10.k = .str := rfl
@[go_sem] theorem sz_10 : ty10.sz = 1 := rfl
@[go_sem] theorem by_10 : ty10.bytes = 16 := rfl
@[go_sem] theorem zero_10 : ty10.zero = [.str []] := rfl
@[go_sem] theorem T_11 : T.ty 11 = ty11 := rfl
@[go_sem] theorem k_11 : ty11.k = .str := rfl
@[go_sem] theorem sz_11 : ty11.sz = 1 := rfl
@[go_sem] theorem by_11 : ty11.bytes = 16 := rfl
@[go_sem] theorem zero_11 : ty11.zero = [.str []] := rfl
@[go_sem] theorem T_12 : T.ty 12 = ty12 := rfl
@[go_sem] theorem k_12 : ty12.k = .int .u64 := rfl
@[go_sem] theorem sz_12 : ty12.sz = 1 := rfl
@[go_sem] theorem by_12 : ty12.bytes = 8 := rfl
@[go_sem] theorem zero_12 : ty12.zero = [.int .u64 0] := rfl
@[go_sem] theorem T_13 : T.ty 13 = ty13 := rfl
@[go_sem] theorem k_13 : ty13.k = .struct [(0, 9, "msg"), (1, 12, "addr")] := rfl
@[go_sem] theorem sz_13 : ty13.sz = 2 := rfl
@[go_sem] theorem by_13 : ty13.bytes = 24 := rfl
@[go_sem] theorem zero_13 : ty13.zero = [.str [], .int .u64 0] := rfl
@[go_sem] theorem T_14 : T.ty 14 = ty14 := rfl
@[go_sem] theorem k_14 : ty14.k = .struct [(0, 9, "msg"), (1, 12, "addr")] := rfl
@[go_sem] theorem sz_14 : ty14.sz = 2 := rfl
@[go_sem] theorem by_14 : ty14.bytes = 24 := rfl
@[go_sem] theorem zero_14 : ty14.zero = [.str [], .int .u64 0] := rfl
@[go_sem] theorem T_15 : T.ty 15 = ty15 := rfl
@[go_sem] theorem k_15 : ty15.k = .ptr 112 := rfl
@[go_sem] theorem sz_15 : ty15.sz = 1 := rfl
@[go_sem] theorem by_15 : ty15.bytes = 8 := rfl
@[go_sem] theorem zero_15 : ty15.zero = [.nilp] := rfl
@[go_sem] theorem T_16 : T.ty 16 = ty16 := rfl
@[go_sem] theorem k_16 : ty16.k = .ptr 115 := rfl
@[go_sem] theorem sz_16 : ty16.sz = 1 := rfl
@[go_sem] theorem by_16 : ty16.bytes = 8 := rfl
@[go_sem] theorem zero_16 : ty16.zero = [.nilp] := rfl
@[go_sem] theorem T_17 : T.ty 17 = ty17 := rfl
@[go_sem] theorem k_17 : ty17.k = .ptr 124 := rfl
@[go_sem] theorem sz_17 : ty17.sz = 1 := rfl
@[go_sem] theorem by_17 : ty17.bytes = 8 := rfl
@[go_sem] theorem zero_17 : ty17.zero = [.nilp] := rfl
@[go_sem] theorem T_18 : T.ty 18 = ty18 := rfl
@[go_sem] theorem k_18 : ty18.k = .struct [(0, 17, "typ")] := rfl
@[go_sem] theorem sz_18 : ty18.sz = 1 := rfl
@[go_sem] theorem by_18 : ty18.bytes = 8 := rfl
@[go_sem] theorem zero_18 : ty18.zero = [.nilp] := rfl
@[go_sem] theorem T_19 : T.ty 19 = ty19 := rfl
@[go_sem] theorem k_19 : ty19.k = .struct [(0, 17, "typ")] := rfl
@[go_sem] theorem sz_19 : ty19.sz = 1 := rfl
@[go_sem] theorem by_19 : ty19.bytes = 8 := rfl
@[go_sem] theorem zero_19 : ty19.zero = [.nilp] := rfl
@[go_sem] theorem T_21 : T.ty 21 = ty21 := rfl
@[go_sem] theorem k_21 : ty21.k = .int .i32 := rfl
@[go_sem] theorem sz_21 : ty21.sz = 1 := rfl
@[go_sem] theorem by_21 : ty21.bytes = 4 := rfl
@[go_sem] theorem zero_21 : ty21.zero = [.int .i32 0] := rfl
@[go_sem] theorem T_22 : T.ty 22 = ty22 := rfl
@[go_sem] theorem k_22 : ty22.k = .slice 38 := rfl
@[go_sem] theorem sz_22 : ty22.sz = 1 := rfl
@[go_sem] theorem by_22 : ty22.bytes = 24 := rfl
@[go_sem] theorem zero_22 : ty22.zero = [.slice true []] := rfl
@[go_sem] theorem T_23 : T.ty 23 = ty23 := rfl
@[go_sem] theorem k_23 : ty23.k = .slice 3 := rfl
@[go_sem] theorem sz_23 : ty23.sz = 1 := rfl
@[go_sem] theorem by_23 : ty23.bytes = 24 := rfl
@[go_sem] theorem zero_23 : ty23.zero = [.slice true []] := rfl
@[go_sem] theorem T_24 : T.ty 24 = ty24 := rfl
@[go_sem] theorem k_24 : ty24.k = .struct [(0, 3, "Kind"), (1, 9, "Name"), (2, 3, "Ver"), (3, 3, "Port"), (4, 9, "To"), (5, 22, "Rules"), (6, 23, "Hosts")] := rfl
@[go_sem] theorem sz_24 : ty24.sz = 7 := rfl
@[go_sem] theorem by_24 : ty24.bytes = 104 := rfl
@[go_sem] theorem zero_24 : ty24.zero = [.int .i64 0, .str [], .int .i64 0, .int .i64 0, .str [], .slice true [], .slice true []] := rfl
@[go_sem] theorem T_25 : T.ty 25 = ty25 := rfl
@[go_sem] theorem k_25 : ty25.k = .struct [(0, 3, "Kind"), (1, 9, "Name"), (2, 3, "Ver"), (3, 3, "Port"), (4, 9, "To"), (5, 22, "Rules"), (6, 23, "Hosts")] := rfl
@[go_sem] theorem sz_25 : ty25.sz = 7 := rfl
@[go_sem] theorem by_25 : ty25.bytes = 104 := rfl
@[go_sem] theorem zero_25 : ty25.zero = [.int .i64 0, .str [], .int .i64 0, .int .i64 0, .str [], .slice true [], .slice true []] := rfl
@[go_sem] theorem T_26 : T.ty 26 = ty26 := rfl
@[go_sem] theorem k_26 : ty26.k = .func := rfl
@[go_sem] theorem sz_26 : ty26.sz = 1 := rfl
@[go_sem] theorem by_26 : ty26.bytes = 8 := rfl
@[go_sem] theorem zero_26 : ty26.zero = [.nilf] := rfl
@[go_sem] theorem T_27 : T.ty 27 = ty27 := rfl
@[go_sem] theorem k_27 : ty27.k = .func := rfl
@[go_sem] theorem sz_27 : ty27.sz = 1 := rfl
@[go_sem] theorem by_27 : ty27.bytes = 8 := rfl
@[go_sem] theorem zero_27 : ty27.zero = [.nilf] := rfl
@[go_sem] theorem T_28 : T.ty 28 = ty28 := rfl
@[go_sem] theorem k_28 : ty28.k = .slice 33 := rfl
@[go_sem] theorem sz_28 : ty28.sz = 1 := rfl
@[go_sem] theorem by_28 : ty28.bytes = 24 := rfl
@[go_sem] theorem zero_28 : ty28.zero = [.slice true []] := rfl
@[go_sem] theorem T_29 : T.ty 29 = ty29 := rfl
@[go_sem] theorem k_29 : ty29.k = .func := rfl
@[go_sem] theorem sz_29 : ty29.sz = 1 := rfl
@[go_sem] theorem by_29 : ty29.bytes = 8 := rfl
@[go_sem] theorem zero_29 : ty29.zero = [.nilf] := rfl
@[go_sem] theorem T_30 : T.ty 30 = ty30 := rfl
@[go_sem] theorem k_30 : ty30.k = .int .i64 := rfl
@[go_sem] theorem sz_30 : ty30.sz = 1 := rfl
@[go_sem] theorem by_30 : ty30.bytes = 8 := rfl
@[go_sem] theorem zero_30 : ty30.zero = [.int .i64 0] := rfl
@[go_sem] theorem T_31 : T.ty 31 = ty31 := rfl
@[go_sem] theorem k_31 : ty31.k = .func := rfl
@[go_sem] theorem sz_31 : ty31.sz = 1 := rfl
@[go_sem] theorem by_31 : ty31.bytes = 8 := rfl
@[go_sem] theorem zero_31 : ty31.zero = [.nilf] := rfl
@[go_sem] theorem T_32 : T.ty 32 = ty32 := rfl
@[go_sem] theorem k_32 : ty32.k = .struct [(0, 3, "Kind"), (1, 9, "Name")] := rfl
@[go_sem] theorem sz_32 : ty32.sz = 2 := rfl
@[go_sem] theorem by_32 : ty32.bytes = 24 := rfl
@[go_sem] theorem zero_32 : ty32.zero = [.int .i64 0, .str []] := rfl
@[go_sem] theorem T_33 : T.ty 33 = ty33 := rfl
@[go_sem] theorem k_33 : ty33.k = .struct [(0, 3, "Kind"), (1, 9, "Name")] := rfl
@[go_sem] theorem sz_33 : ty33.sz = 2 := rfl
@[go_sem] theorem by_33 : ty33.bytes = 24 := rfl
@[go_sem] theorem zero_33 : ty33.zero = [.int .i64 0, .str []] := rfl
@[go_sem] theorem T_34 : T.ty 34 = ty34 := rfl
@[go_sem] theorem k_34 : ty34.k = .func := rfl
@[go_sem] theorem sz_34 : ty34.sz = 1 := rfl
@[go_sem] theorem by_34 : ty34.bytes = 8 := rfl
@[go_sem] theorem zero_34 : ty34.zero = [.nilf] := rfl
@[go_sem] theorem T_35 : T.ty 35 = ty35 := rfl
@[go_sem] theorem k_35 : ty35.k = .func := rfl
@[go_sem] theorem sz_35 : ty35.sz = 1 := rfl
@[go_sem] theorem by_35 : ty35.bytes = 8 := rfl
@[go_sem] theorem zero_35 : ty35.zero = [.nilf] := rfl
@[go_sem] theorem T_36 : T.ty 36 = ty36 := rfl
@[go_sem] theorem k_36 : ty36.k = .slice 40 := rfl
@[go_sem] theorem sz_36 : ty36.sz = 1 := rfl
@[go_sem] theorem by_36 : ty36.bytes = 24 := rfl
@[go_sem] theorem zero_36 : ty36.zero = [.slice true []] := rfl
@[go_sem] theorem T_37 : T.ty 37 = ty37 := rfl
@[go_sem] theorem k_37 : ty37.k = .struct [(0, 9, "Host"), (1, 9, "Prefix"), (2, 36, "Split")] := rfl
@[go_sem] theorem sz_37 : ty37.sz = 3 := rfl
@[go_sem] theorem by_37 : ty37.bytes = 56 := rfl
@[go_sem] theorem zero_37 : ty37.zero = [.str [], .str [], .slice true []] := rfl
@[go_sem] theorem T_38 : T.ty 38 = ty38 := rfl
@[go_sem] theorem k_38 : ty38.k = .struct [(0, 9, "Host"), (1, 9, "Prefix"), (2, 36, "Split")] := rfl
@[go_sem] theorem sz_38 : ty38.sz = 3 := rfl
@[go_sem] theorem by_38 : ty38.bytes = 56 := rfl
@[go_sem] theorem zero_38 : ty38.zero = [.str [], .str [], .slice true []] := rfl
@[go_sem] theorem T_39 : T.ty 39 = ty39 := rfl
@[go_sem] theorem k_39 : ty39.k = .struct [(0, 9, "Cluster"), (1, 3, "W")] := rfl
@[go_sem] theorem sz_39 : ty39.sz = 2 := rfl
@[go_sem] theorem by_39 : ty39.bytes = 24 := rfl
@[go_sem] theorem zero_39 : ty39.zero = [.str [], .int .i64 0] := rfl
@[go_sem] theorem T_40 : T.ty 40 = ty40 := rfl
@[go_sem] theorem k_40 : ty40.k = .struct [(0, 9, "Cluster"), (1, 3, "W")] := rfl
@[go_sem] theorem sz_40 : ty40.sz = 2 := rfl
@[go_sem] theorem by_40 : ty40.bytes = 24 := rfl
@[go_sem] theorem zero_40 : ty40.zero = [.str [], .int .i64 0] := rfl
@[go_sem] theorem T_41 : T.ty 41 = ty41 := rfl
@[go_sem] theorem k_41 : ty41.k = .func := rfl
@[go_sem] theorem sz_41 : ty41.sz = 1 := rfl
@[go_sem] theorem by_41 : ty41.bytes = 8 := rfl
@[go_sem] theorem zero_41 : ty41.zero = [.nilf] := rfl
@[go_sem] theorem T_42 : T.ty 42 = ty42 := rfl
@[go_sem] theorem k_42 : ty42.k = .func := rfl
@[go_sem] theorem sz_42 : ty42.sz = 1 := rfl
@[go_sem] theorem by_42 : ty42.bytes = 8 := rfl
@[go_sem] theorem zero_42 : ty42.zero = [.nilf] := rfl
@[go_sem] theorem T_43 : T.ty 43 = ty43 := rfl
@[go_sem] theorem k_43 : ty43.k = .func := rfl
@[go_sem] theorem sz_43 : ty43.sz = 1 := rfl
@[go_sem] theorem by_43 : ty43.bytes = 8 := rfl
@[go_sem] theorem zero_43 : ty43.zero = [.nilf] := rfl
@[go_sem] theorem T_44 : T.ty 44 = ty44 := rfl
@[go_sem] theorem k_44 : ty44.k = .func := rfl
@[go_sem] theorem sz_44 : ty44.sz = 1 := rfl
@[go_sem] theorem by_44 : ty44.bytes = 8 := rfl
@[go_sem] theorem zero_44 : ty44.zero = [.nilf] := rfl
@[go_sem] theorem T_45 : T.ty 45 = ty45 := rfl
@[go_sem] theorem k_45 : ty45.k = .func := rfl
@[go_sem] theorem sz_45 : ty45.sz = 1 := rfl
@[go_sem] theorem by_45 : ty45.bytes = 8 := rfl
@[go_sem] theorem zero_45 : ty45.zero = [.nilf] := rfl
@[go_sem] theorem T_46 : T.ty 46 = ty46 := rfl
@[go_sem] theorem k_46 : ty46.k = .func := rfl
@[go_sem] theorem sz_46 : ty46.sz = 1 := rfl
@[go_sem] theorem by_46 : ty46.bytes = 8 := rfl
@[go_sem] theorem zero_46 : ty46.zero = [.nilf] := rfl
@[go_sem] theorem T_47 : T.ty 47 = ty47 := rfl
@[go_sem] theorem k_47 : ty47.k = .func := rfl
@[go_sem] theorem sz_47 : ty47.sz = 1 := rfl
@[go_sem] theorem by_47 : ty47.bytes = 8 := rfl
@[go_sem] theorem zero_47 : ty47.zero = [.nilf] := rfl
@[go_sem] theorem T_48 : T.ty 48 = ty48 := rfl
@[go_sem] theorem k_48 : ty48.k = .func := rfl
@[go_sem] theorem sz_48 : ty48.sz = 1 := rfl
@[go_sem] theorem by_48 : ty48.bytes = 8 := rfl
@[go_sem] theorem zero_48 : ty48.zero = [.nilf] := rfl
@[go_sem] theorem T_49 : T.ty 49 = ty49 := rfl
@[go_sem] theorem k_49 : ty49.k = .func := rfl
@[go_sem] theorem sz_49 : ty49.sz = 1 := rfl
@[go_sem] theorem by_49 : ty49.bytes = 8 := rfl
@[go_sem] theorem zero_49 : ty49.zero = [.nilf] := rfl
@[go_sem] theorem T_50 : T.ty 50 = ty50 := rfl
@[go_sem] theorem k_50 : ty50.k = .func := rfl
@[go_sem] theorem sz_50 : ty50.sz = 1 := rfl
@[go_sem] theorem by_50 : ty50.bytes = 8 := rfl
@[go_sem] theorem zero_50 : ty50.zero = [.nilf] := rfl
@[go_sem] theorem T_51 : T.ty 51 = ty51 := rfl
@[go_sem] theorem k_51 : ty51.k = .func := rfl
@[go_sem] theorem sz_51 : ty51.sz = 1 := rfl
@[go_sem] theorem by_51 : ty51.bytes = 8 := rfl
@[go_sem] theorem zero_51 : ty51.zero = [.nilf] := rfl
@[go_sem] theorem T_52 : T.ty 52 = ty52 := rfl
@[go_sem] theorem k_52 : ty52.k = .func := rfl
@[go_sem] theorem sz_52 : ty52.sz = 1 := rfl
@[go_sem] theorem by_52 : ty52.bytes = 8 := rfl
@[go_sem] theorem zero_52 : ty52.zero = [.nilf] := rfl
@[go_sem] theorem T_53 : T.ty 53 = ty53 := rfl
@[go_sem] theorem k_53 : ty53.k = .func := rfl
@[go_sem] theorem sz_53 : ty53.sz = 1 := rfl
@[go_sem] theorem by_53 : ty53.bytes = 8 := rfl
@[go_sem] theorem zero_53 : ty53.zero = [.nilf] := rfl
@[go_sem] theorem T_54 : T.ty 54 = ty54 := rfl
@[go_sem] theorem k_54 : ty54.k = .func := rfl
@[go_sem] theorem sz_54 : ty54.sz = 1 := rfl
@[go_sem] theorem by_54 : ty54.bytes = 8 := rfl
@[go_sem] theorem zero_54 : ty54.zero = [.nilf] := rfl
@[go_sem] theorem T_55 : T.ty 55 = ty55 := rfl
@[go_sem] theorem k_55 : ty55.k = .func := rfl
@[go_sem] theorem sz_55 : ty55.sz = 1 := rfl
@[go_sem] theorem by_55 : ty55.bytes = 8 := rfl
@[go_sem] theorem zero_55 : ty55.zero = [.nilf] := rfl
@[go_sem] theorem T_56 : T.ty 56 = ty56 := rfl
@[go_sem] theorem k_56 : ty56.k = .func := rfl
@[go_sem] theorem sz_56 : ty56.sz = 1 := rfl
@[go_sem] theorem by_56 : ty56.bytes = 8 := rfl
@[go_sem] theorem zero_56 : ty56.zero = [.nilf] := rfl
@[go_sem] theorem T_57 : T.ty 57 = ty57 := rfl
@[go_sem] theorem k_57 : ty57.k = .func := rfl
@[go_sem] theorem sz_57 : ty57.sz = 1 := rfl
@[go_sem] theorem by_57 : ty57.bytes = 8 := rfl
@[go_sem] theorem zero_57 : ty57.zero = [.nilf] := rfl
@[go_sem] theorem T_58 : T.ty 58 = ty58 := rfl
@[go_sem] theorem k_58 : ty58.k = .func := rfl
@[go_sem] theorem sz_58 : ty58.sz = 1 := rfl
@[go_sem] theorem by_58 : ty58.bytes = 8 := rfl
@[go_sem] theorem zero_58 : ty58.zero = [.nilf] := rfl
@[go_sem] theorem T_59 : T.ty 59 = ty59 := rfl
@[go_sem] theorem k_59 : ty59.k = .int .u64 := rfl
@[go_sem] theorem sz_59 : ty59.sz = 1 := rfl
@[go_sem] theorem by_59 : ty59.bytes = 8 := rfl
@[go_sem] theorem zero_59 : ty59.zero = [.int .u64 0] := rfl
@[go_sem] theorem T_60 : T.ty 60 = ty60 := rfl
@[go_sem] theorem k_60 : ty60.k = .func := rfl
@[go_sem] theorem sz_60 : ty60.sz = 1 := rfl
@[go_sem] theorem by_60 : ty60.bytes = 8 := rfl
@[go_sem] theorem zero_60 : ty60.zero = [.nilf] := rfl
@[go_sem] theorem T_61 : T.ty 61 = ty61 := rfl
@[go_sem] theorem k_61 : ty61.k = .func := rfl
@[go_sem] theorem sz_61 : ty61.sz = 1 := rfl
@[go_sem] theorem by_61 : ty61.bytes = 8 := rfl
@[go_sem] theorem zero_61 : ty61.zero = [.nilf] := rfl
@[go_sem] theorem T_62 : T.ty 62 = ty62 := rfl
@[go_sem] theorem k_62 : ty62.k = .struct [(0, 4, "port"), (1, 4, "to"), (2, 4, "rules"), (3, 4, "hosts")] := rfl
@[go_sem] theorem sz_62 : ty62.sz = 4 := rfl
@[go_sem] theorem by_62 : ty62.bytes = 4 := rfl
@[go_sem] theorem zero_62 : ty62.zero = [.bool false, .bool false, .bool false, .bool false] := rfl
@[go_sem] theorem T_63 : T.ty 63 = ty63 := rfl
@[go_sem] theorem k_63 : ty63.k = .struct [(0, 4, "port"), (1, 4, "to"), (2, 4, "rules"), (3, 4, "hosts")] := rfl
@[go_sem] theorem sz_63 : ty63.sz = 4 := rfl
@[go_sem] theorem by_63 : ty63.bytes = 4 := rfl
@[go_sem] theorem zero_63 : ty63.zero = [.bool false, .bool false, .bool false, .bool false] := rfl
@[go_sem] theorem T_64 : T.ty 64 = ty64 := rfl
@[go_sem] theorem k_64 : ty64.k = .func := rfl
@[go_sem] theorem sz_64 : ty64.sz = 1 := rfl
@[go_sem] theorem by_64 : ty64.bytes = 8 := rfl
@[go_sem] theorem zero_64 : ty64.zero = [.nilf] := rfl
@[go_sem] theorem T_65 : T.ty 65 = ty65 := rfl
@[go_sem] theorem k_65 : ty65.k = .func := rfl
@[go_sem] theorem sz_65 : ty65.sz = 1 := rfl
@[go_sem] theorem by_65 : ty65.bytes = 8 := rfl
@[go_sem] theorem zero_65 : ty65.zero = [.nilf] := rfl
@[go_sem] theorem T_66 : T.ty 66 = ty66 := rfl
@[go_sem] theorem k_66 : ty66.k = .func := rfl
@[go_sem] theorem sz_66 : ty66.sz = 1 := rfl
@[go_sem] theorem by_66 : ty66.bytes = 8 := rfl
@[go_sem] theorem zero_66 : ty66.zero = [.nilf] := rfl
@[go_sem] theorem T_67 : T.ty 67 = ty67 := rfl
@[go_sem] theorem k_67 : ty67.k = .func := rfl
@[go_sem] theorem sz_67 : ty67.sz = 1 := rfl
@[go_sem] theorem by_67 : ty67.bytes = 8 := rfl
@[go_sem] theorem zero_67 : ty67.zero = [.nilf] := rfl
@[go_sem] theorem T_68 : T.ty 68 = ty68 := rfl
@[go_sem] theorem k_68 : ty68.k = .func := rfl
@[go_sem] theorem sz_68 : ty68.sz = 1 := rfl
@[go_sem] theorem by_68 : ty68.bytes = 8 := rfl
@[go_sem] theorem zero_68 : ty68.zero = [.nilf] := rfl
@[go_sem] theorem T_69 : T.ty 69 = ty69 := rfl
@[go_sem] theorem k_69 : ty69.k = .func := rfl
@[go_sem] theorem sz_69 : ty69.sz = 1 := rfl
@[go_sem] theorem by_69 : ty69.bytes = 8 := rfl
@[go_sem] theorem zero_69 : ty69.zero = [.nilf] := rfl
@[go_sem] theorem T_70 : T.ty 70 = ty70 := rfl
@[go_sem] theorem k_70 : ty70.k = .func := rfl
@[go_sem] theorem sz_70 : ty70.sz = 1 := rfl
@[go_sem] theorem by_70 : ty70.bytes = 8 := rfl
@[go_sem] theorem zero_70 : ty70.zero = [.nilf] := rfl
@[go_sem] theorem T_71 : T.ty 71 = ty71 := rfl
@[go_sem] theorem k_71 : ty71.k = .int .i64 := rfl
@[go_sem] theorem sz_71 : ty71.sz = 1 := rfl
@[go_sem] theorem by_71 : ty71.bytes = 8 := rfl
@[go_sem] theorem zero_71 : ty71.zero = [.int .i64 0] := rfl
@[go_sem] theorem T_73 : T.ty 73 = ty73 := rfl
@[go_sem] theorem k_73 : ty73.k = .func := rfl
@[go_sem] theorem sz_73 : ty73.sz = 1 := rfl
@[go_sem] theorem by_73 : ty73.bytes = 8 := rfl
@[go_sem] theorem zero_73 : ty73.zero = [.nilf] := rfl
@[go_sem] theorem T_74 : T.ty 74 = ty74 := rfl
@[go_sem] theorem k_74 : ty74.k = .func := rfl
@[go_sem] theorem sz_74 : ty74.sz = 1 := rfl
@[go_sem] theorem by_74 : ty74.bytes = 8 := rfl
@[go_sem] theorem zero_74 : ty74.zero = [.nilf] := rfl
@[go_sem] theorem T_75 : T.ty 75 = ty75 := rfl
@[go_sem] theorem k_75 : ty75.k = .func := rfl
@[go_sem] theorem sz_75 : ty75.sz = 1 := rfl
@[go_sem] theorem by_75 : ty75.bytes = 8 := rfl
@[go_sem] theorem zero_75 : ty75.zero = [.nilf] := rfl
@[go_sem] theorem T_77 : T.ty 77 = ty77 := rfl
@[go_sem] theorem k_77 : ty77.k = .func := rfl
@[go_sem] theorem sz_77 : ty77.sz = 1 := rfl
@[go_sem] theorem by_77 : ty77.bytes = 8 := rfl
@[go_sem] theorem zero_77 : ty77.zero = [.nilf] := rfl
@[go_sem] theorem T_78 : T.ty 78 = ty78 := rfl
@[go_sem] theorem k_78 : ty78.k = .func := rfl
@[go_sem] theorem sz_78 : ty78.sz = 1 := rfl
@[go_sem] theorem by_78 : ty78.bytes = 8 := rfl
@[go_sem] theorem zero_78 : ty78.zero = [.nilf] := rfl
@[go_sem] theorem T_79 : T.ty 79 = ty79 := rfl
@[go_sem] theorem k_79 : ty79.k = .int .u32 := rfl
@[go_sem] theorem sz_79 : ty79.sz = 1 := rfl
@[go_sem] theorem by_79 : ty79.bytes = 4 := rfl
@[go_sem] theorem zero_79 : ty79.zero = [.int .u32 0] := rfl
@[go_sem] theorem T_80 : T.ty 80 = ty80 := rfl
@[go_sem] theorem k_80 : ty80.k = .func := rfl
@[go_sem] theorem sz_80 : ty80.sz = 1 := rfl
@[go_sem] theorem by_80 : ty80.bytes = 8 := rfl
@[go_sem] theorem zero_80 : ty80.zero = [.nilf] := rfl
@[go_sem] theorem T_81 : T.ty 81 = ty81 := rfl
@[go_sem] theorem k_81 : ty81.k = .int .u64 := rfl
@[go_sem] theorem sz_81 : ty81.sz = 1 := rfl
@[go_sem] theorem by_81 : ty81.bytes = 8 := rfl
@[go_sem] theorem zero_81 : ty81.zero = [.int .u64 0] := rfl
@[go_sem] theorem T_82 : T.ty 82 = ty82 := rfl
@[go_sem] theorem k_82 : ty82.k = .func := rfl
@[go_sem] theorem sz_82 : ty82.sz = 1 := rfl
@[go_sem] theorem by_82 : ty82.bytes = 8 := rfl
@[go_sem] theorem zero_82 : ty82.zero = [.nilf] := rfl
@[go_sem] theorem T_83 : T.ty 83 = ty83 := rfl
@[go_sem] theorem k_83 : ty83.k = .func := rfl
@[go_sem] theorem sz_83 : ty83.sz = 1 := rfl
@[go_sem] theorem by_83 : ty83.bytes = 8 := rfl
@[go_sem] theorem zero_83 : ty83.zero = [.nilf] := rfl
@[go_sem] theorem T_84 : T.ty 84 = ty84 := rfl
@[go_sem] theorem k_84 : ty84.k = .func := rfl
@[go_sem] theorem sz_84 : ty84.sz = 1 := rfl
@[go_sem] theorem by_84 : ty84.bytes = 8 := rfl
@[go_sem] theorem zero_84 : ty84.zero = [.nilf] := rfl
@[go_sem] theorem T_85 : T.ty 85 = ty85 := rfl
@[go_sem] theorem k_85 : ty85.k = .int .u64 := rfl
@[go_sem] theorem sz_85 : ty85.sz = 1 := rfl
@[go_sem] theorem by_85 : ty85.bytes = 8 := rfl
@[go_sem] theorem zero_85 : ty85.zero = [.int .u64 0] := rfl
@[go_sem] theorem T_86 : T.ty 86 = ty86 := rfl
@[go_sem] theorem k_86 : ty86.k = .func := rfl
@[go_sem] theorem sz_86 : ty86.sz = 1 := rfl
@[go_sem] theorem by_86 : ty86.bytes = 8 := rfl
@[go_sem] theorem zero_86 : ty86.zero = [.nilf] := rfl
@[go_sem] theorem T_87 : T.ty 87 = ty87 := rfl
@[go_sem] theorem k_87 : ty87.k = .func := rfl
@[go_sem] theorem sz_87 : ty87.sz = 1 := rfl
@[go_sem] theorem by_87 : ty87.bytes = 8 := rfl
@[go_sem] theorem zero_87 : ty87.zero = [.nilf] := rfl
@[go_sem] theorem T_88 : T.ty 88 = ty88 := rfl
@[go_sem] theorem k_88 : ty88.k = .func := rfl
@[go_sem] theorem sz_88 : ty88.sz = 1 := rfl
@[go_sem] theorem by_88 : ty88.bytes = 8 := rfl
@[go_sem] theorem zero_88 : ty88.zero = [.nilf] := rfl
@[go_sem] theorem T_89 : T.ty 89 = ty89 := rfl
@[go_sem] theorem k_89 : ty89.k = .ptr 3 := rfl
@[go_sem] theorem sz_89 : ty89.sz = 1 := rfl
@[go_sem] theorem by_89 : ty89.bytes = 8 := rfl
@[go_sem] theorem zero_89 : ty89.zero = [.nilp] := rfl
@[go_sem] theorem T_90 : T.ty 90 = ty90 := rfl
@[go_sem] theorem k_90 : ty90.k = .func := rfl
@[go_sem] theorem sz_90 : ty90.sz = 1 := rfl
@[go_sem] theorem by_90 : ty90.bytes = 8 := rfl
@[go_sem] theorem zero_90 : ty90.zero = [.nilf] := rfl
@[go_sem] theorem T_91 : T.ty 91 = ty91 := rfl
@[go_sem] theorem k_91 : ty91.k = .func := rfl
@[go_sem] theorem sz_91 : ty91.sz = 1 := rfl
@[go_sem] theorem by_91 : ty91.bytes = 8 := rfl
@[go_sem] theorem zero_91 : ty91.zero = [.nilf] := rfl
@[go_sem] theorem T_92 : T.ty 92 = ty92 := rfl
@[go_sem] theorem k_92 : ty92.k = .func := rfl
@[go_sem] theorem sz_92 : ty92.sz = 1 := rfl
@[go_sem] theorem by_92 : ty92.bytes = 8 := rfl
@[go_sem] theorem zero_92 : ty92.zero = [.nilf] := rfl
@[go_sem] theorem T_93 : T.ty 93 = ty93 := rfl
@[go_sem] theorem k_93 : ty93.k = .ptr 85 := rfl
@[go_sem] theorem sz_93 : ty93.sz = 1 := rfl
@[go_sem] theorem by_93 : ty93.bytes = 8 := rfl
@[go_sem] theorem zero_93 : ty93.zero = [.nilp] := rfl
@[go_sem] theorem T_95 : T.ty 95 = ty95 := rfl
@[go_sem] theorem k_95 : ty95.k = .func := rfl
@[go_sem] theorem sz_95 : ty95.sz = 1 := rfl
@[go_sem] theorem by_95 : ty95.bytes = 8 := rfl
@[go_sem] theorem zero_95 : ty95.zero = [.nilf] := rfl
@[go_sem] theorem T_96 : T.ty 96 = ty96 := rfl
@[go_sem] theorem k_96 : ty96.k = .func := rfl
@[go_sem] theorem sz_96 : ty96.sz = 1 := rfl
@[go_sem] theorem by_96 : ty96.bytes = 8 := rfl
@[go_sem] theorem zero_96 : ty96.zero = [.nilf] := rfl
@[go_sem] theorem T_97 : T.ty 97 = ty97 := rfl
@[go_sem] theorem k_97 : ty97.k = .func := rfl
@[go_sem] theorem sz_97 : ty97.sz = 1 := rfl
@[go_sem] theorem by_97 : ty97.bytes = 8 := rfl
@[go_sem] theorem zero_97 : ty97.zero = [.nilf] := rfl
@[go_sem] theorem T_98 : T.ty 98 = ty98 := rfl
@[go_sem] theorem k_98 : ty98.k = .func := rfl
@[go_sem] theorem sz_98 : ty98.sz = 1 := rfl
@[go_sem] theorem by_98 : ty98.bytes = 8 := rfl
@[go_sem] theorem zero_98 : ty98.zero = [.nilf] := rfl
@[go_sem] theorem T_99 : T.ty 99 = ty99 := rfl
@[go_sem] theorem k_99 : ty99.k = .func := rfl
@[go_sem] theorem sz_99 : ty99.sz = 1 := rfl
@[go_sem] theorem by_99 : ty99.bytes = 8 := rfl
@[go_sem] theorem zero_99 : ty99.zero = [.nilf] := rfl
@[go_sem] theorem T_101 : T.ty 101 = ty101 := rfl
@[go_sem] theorem k_101 : ty101.k = .func := rfl
@[go_sem] theorem sz_101 : ty101.sz = 1 := rfl
@[go_sem] theorem by_101 : ty101.bytes = 8 := rfl
@[go_sem] theorem zero_101 : ty101.zero = [.nilf] := rfl
@[go_sem] theorem T_103 : T.ty 103 = ty103 := rfl
@[go_sem] theorem k_103 : ty103.k = .struct [(0, 5, "lo"), (1, 5, "hi")] := rfl
@[go_sem] theorem sz_103 : ty103.sz = 2 := rfl
@[go_sem] theorem by_103 : ty103.bytes = 2 := rfl
@[go_sem] theorem zero_103 : ty103.zero = [.int .u8 0, .int .u8 0] := rfl
@[go_sem] theorem T_104 : T.ty 104 = ty104 := rfl
@[go_sem] theorem k_104 : ty104.k = .struct [(0, 5, "lo"), (1, 5, "hi")] := rfl
@[go_sem] theorem sz_104 : ty104.sz = 2 := rfl
@[go_sem] theorem by_104 : ty104.bytes = 2 := rfl
@[go_sem] theorem zero_104 : ty104.zero = [.int .u8 0, .int .u8 0] := rfl
@[go_sem] theorem T_105 : T.ty 105 = ty105 := rfl
@[go_sem] theorem k_105 : ty105.k = .array 16 104 := rfl
@[go_sem] theorem sz_105 : ty105.sz = 32 := rfl
@[go_sem] theorem by_105 : ty105.bytes = 32 := rfl
@[go_sem] theorem zero_105 : ty105.zero = [.int .u8 0, .int .u8 0, .int .u8 0, .int .u8 0, .int .u8 0, .int .u8 0, .int .u8 0, .int .u8 0, .int .u8 0, .int .u8 0, .int .u8 0, .int .u8 0, .int .u8 0, .int .u8 0, .int .u8 0, .int .u8 0, .int .u8 0, .int .u8 0, .int .u8 0, .int .u8 0, .int .u8 0, .int .u8 0, .int .u8 0, .int .u8 0, .int .u8 0, .int .u8 0, .int .u8 0, .int .u8 0, .int .u8 0, .int .u8 0, .int .u8 0, .int .u8 0] := rfl
@[go_sem] theorem T_106 : T.ty 106 = ty106 := rfl
@[go_sem] theorem k_106 : ty106.k = .func := rfl
@[go_sem] theorem sz_106 : ty106.sz = 1 := rfl
@[go_sem] theorem by_106 : ty106.bytes = 8 := rfl
@[go_sem] theorem zero_106 : ty106.zero = [.nilf] := rfl
@[go_sem] theorem T_107 : T.ty 107 = ty107 := rfl
@[go_sem] theorem k_107 : ty107.k = .func := rfl
@[go_sem] theorem sz_107 : ty107.sz = 1 := rfl
@[go_sem] theorem by_107 : ty107.bytes = 8 := rfl
@[go_sem] theorem zero_107 : ty107.zero = [.nilf] := rfl
@[go_sem] theorem T_109 : T.ty 109 = ty109 := rfl
@[go_sem] theorem k_109 : ty109.k = .func := rfl
@[go_sem] theorem sz_109 : ty109.sz = 1 := rfl
@[go_sem] theorem by_109 : ty109.bytes = 8 := rfl
@[go_sem] theorem zero_109 : ty109.zero = [.nilf] := rfl
@[go_sem] theorem T_110 : T.ty 110 = ty110 := rfl
@[go_sem] theorem k_110 : ty110.k = .func := rfl
@[go_sem] theorem sz_110 : ty110.sz = 1 := rfl
@[go_sem] theorem by_110 : ty110.bytes = 8 := rfl
@[go_sem] theorem zero_110 : ty110.zero = [.nilf] := rfl
@[go_sem] theorem T_111 : T.ty 111 = ty111 := rfl
@[go_sem] theorem k_111 : ty111.k = .struct [(0, 17, "_interface"), (1, 17, "concrete"), (2, 17, "asserted"), (3, 9, "missingMethod")] := rfl
@[go_sem] theorem sz_111 : ty111.sz = 4 := rfl
@[go_sem] theorem by_111 : ty111.bytes = 40 := rfl
@[go_sem] theorem zero_111 : ty111.zero = [.nilp, .nilp, .nilp, .str []] := rfl
@[go_sem] theorem T_112 : T.ty 112 = ty112 := rfl
@[go_sem] theorem k_112 : ty112.k = .struct [(0, 17, "_interface"), (1, 17, "concrete"), (2, 17, "asserted"), (3, 9, "missingMethod")] := rfl
@[go_sem] theorem sz_112 : ty112.sz = 4 := rfl
@[go_sem] theorem by_112 : ty112.bytes = 40 := rfl
@[go_sem] theorem zero_112 : ty112.zero = [.nilp, .nilp, .nilp, .str []] := rfl
@[go_sem] theorem T_113 : T.ty 113 = ty113 := rfl
@[go_sem] theorem k_113 : ty113.k = .array 0 16 := rfl
@[go_sem] theorem sz_113 : ty113.sz = 0 := rfl
@[go_sem] theorem by_113 : ty113.bytes = 0 := rfl
@[go_sem] theorem zero_113 : ty113.zero = [] := rfl
@[go_sem] theorem T_114 : T.ty 114 = ty114 := rfl
@[go_sem] theorem k_114 : ty114.k = .struct [(0, 113, "_")] := rfl
@[go_sem] theorem sz_114 : ty114.sz = 0 := rfl
@[go_sem] theorem by_114 : ty114.bytes = 0 := rfl
@[go_sem] theorem zero_114 : ty114.zero = [] := rfl
@[go_sem] theorem T_115 : T.ty 115 = ty115 := rfl
@[go_sem] theorem k_115 : ty115.k = .struct [(0, 113, "_")] := rfl
@[go_sem] theorem sz_115 : ty115.sz = 0 := rfl
@[go_sem] theorem by_115 : ty115.bytes = 0 := rfl
@[go_sem] theorem zero_115 : ty115.zero = [] := rfl
@[go_sem] theorem T_116 : T.ty 116 = ty116 := rfl
@[go_sem] theorem k_116 : ty116.k = .func := rfl
@[go_sem] theorem sz_116 : ty116.sz = 1 := rfl
@[go_sem] theorem by_116 : ty116.bytes = 8 := rfl
@[go_sem] theorem zero_116 : ty116.zero = [.nilf] := rfl
@[go_sem] theorem T_117 : T.ty 117 = ty117 := rfl
@[go_sem] theorem k_117 : ty117.k = .int .u8 := rfl
@[go_sem] theorem sz_117 : ty117.sz = 1 := rfl
@[go_sem] theorem by_117 : ty117.bytes = 1 := rfl
@[go_sem] theorem zero_117 : ty117.zero = [.int .u8 0] := rfl
@[go_sem] theorem T_118 : T.ty 118 = ty118 := rfl
@[go_sem] theorem k_118 : ty118.k = .int .u8 := rfl
@[go_sem] theorem sz_118 : ty118.sz = 1 := rfl
@[go_sem] theorem by_118 : ty118.bytes = 1 := rfl
@[go_sem] theorem zero_118 : ty118.zero = [.int .u8 0] := rfl
@[go_sem] theorem T_119 : T.ty 119 = ty119 := rfl
@[go_sem] theorem k_119 : ty119.k = .func := rfl
@[go_sem] theorem sz_119 : ty119.sz = 1 := rfl
@[go_sem] theorem by_119 : ty119.bytes = 8 := rfl
@[go_sem] theorem zero_119 : ty119.zero = [.nilf] := rfl
@[go_sem] theorem T_120 : T.ty 120 = ty120 := rfl
@[go_sem] theorem k_120 : ty120.k = .ptr 5 := rfl
@[go_sem] theorem sz_120 : ty120.sz = 1 := rfl
@[go_sem] theorem by_120 : ty120.bytes = 8 := rfl
@[go_sem] theorem zero_120 : ty120.zero = [.nilp] := rfl
@[go_sem] theorem T_121 : T.ty 121 = ty121 := rfl
@[go_sem] theorem k_121 : ty121.k = .int .i32 := rfl
@[go_sem] theorem sz_121 : ty121.sz = 1 := rfl
@[go_sem] theorem by_121 : ty121.bytes = 4 := rfl
@[go_sem] theorem zero_121 : ty121.zero = [.int .i32 0] := rfl
@[go_sem] theorem T_122 : T.ty 122 = ty122 := rfl
@[go_sem] theorem k_122 : ty122.k = .int .i32 := rfl
@[go_sem] theorem sz_122 : ty122.sz = 1 := rfl
@[go_sem] theorem by_122 : ty122.bytes = 4 := rfl
@[go_sem] theorem zero_122 : ty122.zero = [.int .i32 0] := rfl
@[go_sem] theorem T_123 : T.ty 123 = ty123 := rfl
@[go_sem] theorem k_123 : ty123.k = .struct [(0, 12, "Size_"), (1, 12, "PtrBytes"), (2, 79, "Hash"), (3, 117, "TFlag"), (4, 5, "Align_"), (5, 5, "FieldAlign_"), (6, 118, "Kind_"), (7, 119, "Equal"), (8, 120, "GCData"), (9, 121, "Str"), (10, 122, "PtrToThis")] := rfl
@[go_sem] theorem sz_123 : ty123.sz = 11 := rfl
@[go_sem] theorem by_123 : ty123.bytes = 48 := rfl
@[go_sem] theorem zero_123 : ty123.zero = [.int .u64 0, .int .u64 0, .int .u32 0, .int .u8 0, .int .u8 0, .int .u8 0, .int .u8 0, .nilf, .nilp, .int .i32 0, .int .i32 0] := rfl
@[go_sem] theorem T_124 : T.ty 124 = ty124 := rfl
@[go_sem] theorem k_124 : ty124.k = .struct [(0, 12, "Size_"), (1, 12, "PtrBytes"), (2, 79, "Hash"), (3, 117, "TFlag"), (4, 5, "Align_"), (5, 5, "FieldAlign_"), (6, 118, "Kind_"), (7, 119, "Equal"), (8, 120, "GCData"), (9, 121, "Str"), (10, 122, "PtrToThis")] := rfl
@[go_sem] theorem sz_124 : ty124.sz = 11 := rfl
@[go_sem] theorem by_124 : ty124.bytes = 48 := rfl
@[go_sem] theorem zero_124 : ty124.zero = [.int .u64 0, .int .u64 0, .int .u32 0, .int .u8 0, .int .u8 0, .int .u8 0, .int .u8 0, .nilf, .nilp, .int .i32 0, .int .i32 0] := rfl
@[go_sem] theorem eqg_33 : Tryd.prog.eqGuardType Tryd.prog.depth 33 = false := by kernel_rfl
@[go_sem] theorem sth_33 : Tryd.prog.stoodInHeld 33 = false := by kernel_rfl
@[go_sem] theorem eqg_40 : Tryd.prog.eqGuardType Tryd.prog.depth 40 = false := by kernel_rfl
@[go_sem] theorem sth_40 : Tryd.prog.stoodInHeld 40 = false := by kernel_rfl
@[go_sem] theorem eqg_63 : Tryd.prog.eqGuardType Tryd.prog.depth 63 = false := by kernel_rfl
@[go_sem] theorem sth_63 : Tryd.prog.stoodInHeld 63 = false := by kernel_rfl
theorem mixed : Tryd.prog.follows .mixedOrders = true := by kernel_rfl
end Go.Proofs.YtbggigdchkiffaaDoor.Lg

/- Lean types for the structs of this seat: made by program (dat.py) off the translation. -/
namespace Go.Proofs.YtbggigdchkiffaaDoor.Lg
open Go
set_option linter.unusedVariables false
set_option linter.unusedSimpArgs false

/-- groyne api.Weight -/
@[ext] structure Weight where
  cluster : List UInt8
  w : Int
  deriving Inhabited, DecidableEq
instance : Dat Weight where
  av x := .agg [.str x.cluster, .int .i64 x.w]
  sz := 2
  len _ := rfl
  pure x := by simp only [go_sem, Bool.and_self]
  nrm x := by simp only [go_sem]
  one x := by simp only [go_sem, List.all_cons, List.all_nil, Bool.and_self]
  known x := rfl
@[go_sem] theorem av_Weight (x : Weight) : Dat.av x = .agg [.str x.cluster, .int .i64 x.w] := rfl
@[go_sem] theorem sz_Weight : Dat.sz Weight = 2 := rfl
@[go_sem] theorem set_Weight (l : List Weight) (n : Nat) (f0 : List UInt8) (f1 : Int) : (avs l).set n (.agg [.str f0, .int .i64 f1]) = avs (l.set n ⟨f0, f1⟩) := avs_set l n (⟨f0, f1⟩ : Weight)
@[go_sem] theorem snoc_Weight (l : List Weight) (f0 : List UInt8) (f1 : Int) : avs l ++ [.agg [.str f0, .int .i64 f1]] = avs (l ++ [⟨f0, f1⟩]) := by rw [avs_append]; rfl
@[go_sem] theorem flatL_Weight : ∀ l : List Weight, AV.flat.flatL (avs l) = true
  | [] => rfl
  | _ :: r => by simp only [avs_cons, AV.flat.flatL, flatL_Weight r, av_Weight, AV.flat, Bool.and_self]
theorem ext_Weight (x y : Weight) : x = y ↔ x.cluster = y.cluster ∧ x.w = y.w := by cases x; cases y; simp
@[go_sem] theorem eta_Weight (x : Weight) : Weight.mk x.cluster x.w = x := rfl

/-- groyne api.Rule -/
@[ext] structure Rule where
  host : List UInt8
  pfx : List UInt8
  split : List Weight
  deriving Inhabited, DecidableEq
instance : Dat Rule where
  av x := .agg [.str x.host, .str x.pfx, .slice false (avs x.split)]
  sz := 3
  len _ := rfl
  pure x := by simp only [go_sem, Bool.and_self]
  nrm x := by simp only [go_sem]
  one x := by simp only [go_sem, List.all_cons, List.all_nil, Bool.and_self]
  known x := rfl
@[go_sem] theorem av_Rule (x : Rule) : Dat.av x = .agg [.str x.host, .str x.pfx, .slice false (avs x.split)] := rfl
@[go_sem] theorem sz_Rule : Dat.sz Rule = 3 := rfl
@[go_sem] theorem set_Rule (l : List Rule) (n : Nat) (f0 : List UInt8) (f1 : List UInt8) (f2 : List Weight) : (avs l).set n (.agg [.str f0, .str f1, .slice false (avs f2)]) = avs (l.set n ⟨f0, f1, f2⟩) := avs_set l n (⟨f0, f1, f2⟩ : Rule)
@[go_sem] theorem snoc_Rule (l : List Rule) (f0 : List UInt8) (f1 : List UInt8) (f2 : List Weight) : avs l ++ [.agg [.str f0, .str f1, .slice false (avs f2)]] = avs (l ++ [⟨f0, f1, f2⟩]) := by rw [avs_append]; rfl
theorem ext_Rule (x y : Rule) : x = y ↔ x.host = y.host ∧ x.pfx = y.pfx ∧ x.split = y.split := by cases x; cases y; simp
@[go_sem] theorem eta_Rule (x : Rule) : Rule.mk x.host x.pfx x.split = x := rfl

/-- runtime.boundsError -/
@[ext] structure BoundsError where
  x : Int
  y : Int
  signed : Bool
  code : UInt8
  deriving Inhabited, DecidableEq
instance : Dat BoundsError where
  av x := .agg [.int .i64 x.x, .int .i64 x.y, .bool x.signed, .int .u8 x.code.toNat]
  sz := 4
  len _ := rfl
  pure x := by simp only [go_sem, Bool.and_self]
  nrm x := by simp only [go_sem]
  one x := by simp only [go_sem, List.all_cons, List.all_nil, Bool.and_self]
  known x := rfl
@[go_sem] theorem av_BoundsError (x : BoundsError) : Dat.av x = .agg [.int .i64 x.x, .int .i64 x.y, .bool x.signed, .int .u8 x.code.toNat] := rfl
@[go_sem] theorem sz_BoundsError : Dat.sz BoundsError = 4 := rfl
@[go_sem] theorem set_BoundsError (l : List BoundsError) (n : Nat) (f0 : Int) (f1 : Int) (f2 : Bool) (f3 : UInt8) : (avs l).set n (.agg [.int .i64 f0, .int .i64 f1, .bool f2, .int .u8 f3.toNat]) = avs (l.set n ⟨f0, f1, f2, f3⟩) := avs_set l n (⟨f0, f1, f2, f3⟩ : BoundsError)
@[go_sem] theorem snoc_BoundsError (l : List BoundsError) (f0 : Int) (f1 : Int) (f2 : Bool) (f3 : UInt8) : avs l ++ [.agg [.int .i64 f0, .int .i64 f1, .bool f2, .int .u8 f3.toNat]] = avs (l ++ [⟨f0, f1, f2, f3⟩]) := by rw [avs_append]; rfl
@[go_sem] theorem flatL_BoundsError : ∀ l : List BoundsError, AV.flat.flatL (avs l) = true
  | [] => rfl
  | _ :: r => by simp only [avs_cons, AV.flat.flatL, flatL_BoundsError r, av_BoundsError, AV.flat, Bool.and_self]
theorem ext_BoundsError (x y : BoundsError) : x = y ↔ x.x = y.x ∧ x.y = y.y ∧ x.signed = y.signed ∧ x.code = y.code := by cases x; cases y; simp
@[go_sem] theorem eta_BoundsError (x : BoundsError) : BoundsError.mk x.x x.y x.signed x.code = x := rfl

/-- groyne api.Res -/
@[ext] structure Res where
  kind : Int
  name : List UInt8
  ver : Int
  port : Int
  to' : List UInt8
  rules' : List Rule
  hosts : List Int
  deriving Inhabited, DecidableEq
instance : Dat Res where
  av x := .agg [.int .i64 x.kind, .str x.name, .int .i64 x.ver, .int .i64 x.port, .str x.to', .slice false (avs x.rules'), .slice false (avs x.hosts)]
  sz := 7
  len _ := rfl
  pure x := by simp only [go_sem, Bool.and_self]
  nrm x := by simp only [go_sem]
  one x := by simp only [go_sem, List.all_cons, List.all_nil, Bool.and_self]
  known x := rfl
@[go_sem] theorem av_Res (x : Res) : Dat.av x = .agg [.int .i64 x.kind, .str x.name, .int .i64 x.ver, .int .i64 x.port, .str x.to', .slice false (avs x.rules'), .slice false (avs x.hosts)] := rfl
@[go_sem] theorem sz_Res : Dat.sz Res = 7 := rfl
@[go_sem] theorem set_Res (l : List Res) (n : Nat) (f0 : Int) (f1 : List UInt8) (f2 : Int) (f3 : Int) (f4 : List UInt8) (f5 : List Rule) (f6 : List Int) : (avs l).set n (.agg [.int .i64 f0, .str f1, .int .i64 f2, .int .i64 f3, .str f4, .slice false (avs f5), .slice false (avs f6)]) = avs (l.set n ⟨f0, f1, f2, f3, f4, f5, f6⟩) := avs_set l n (⟨f0, f1, f2, f3, f4, f5, f6⟩ : Res)
@[go_sem] theorem snoc_Res (l : List Res) (f0 : Int) (f1 : List UInt8) (f2 : Int) (f3 : Int) (f4 : List UInt8) (f5 : List Rule) (f6 : List Int) : avs l ++ [.agg [.int .i64 f0, .str f1, .int .i64 f2, .int .i64 f3, .str f4, .slice false (avs f5), .slice false (avs f6)]] = avs (l ++ [⟨f0, f1, f2, f3, f4, f5, f6⟩]) := by rw [avs_append]; rfl
theorem ext_Res (x y : Res) : x = y ↔ x.kind = y.kind ∧ x.name = y.name ∧ x.ver = y.ver ∧ x.port = y.port ∧ x.to' = y.to' ∧ x.rules' = y.rules' ∧ x.hosts = y.hosts := by cases x; cases y; simp
@[go_sem] theorem eta_Res (x : Res) : Res.mk x.kind x.name x.ver x.port x.to' x.rules' x.hosts = x := rfl

/-- groyne api.Key -/
@[ext] structure Key where
  kind : Int
  name : List UInt8
  deriving Inhabited, DecidableEq
instance : Dat Key where
  av x := .agg [.int .i64 x.kind, .str x.name]
  sz := 2
  len _ := rfl
  pure x := by simp only [go_sem, Bool.and_self]
  nrm x := by simp only [go_sem]
  one x := by simp only [go_sem, List.all_cons, List.all_nil, Bool.and_self]
  known x := rfl
@[go_sem] theorem av_Key (x : Key) : Dat.av x = .agg [.int .i64 x.kind, .str x.name] := rfl
@[go_sem] theorem sz_Key : Dat.sz Key = 2 := rfl
@[go_sem] theorem set_Key (l : List Key) (n : Nat) (f0 : Int) (f1 : List UInt8) : (avs l).set n (.agg [.int .i64 f0, .str f1]) = avs (l.set n ⟨f0, f1⟩) := avs_set l n (⟨f0, f1⟩ : Key)
@[go_sem] theorem snoc_Key (l : List Key) (f0 : Int) (f1 : List UInt8) : avs l ++ [.agg [.int .i64 f0, .str f1]] = avs (l ++ [⟨f0, f1⟩]) := by rw [avs_append]; rfl
@[go_sem] theorem flatL_Key : ∀ l : List Key, AV.flat.flatL (avs l) = true
  | [] => rfl
  | _ :: r => by simp only [avs_cons, AV.flat.flatL, flatL_Key r, av_Key, AV.flat, Bool.and_self]
theorem ext_Key (x y : Key) : x = y ↔ x.kind = y.kind ∧ x.name = y.name := by cases x; cases y; simp
@[go_sem] theorem eta_Key (x : Key) : Key.mk x.kind x.name = x := rfl

/-- groyne res.has -/
@[ext] structure Has where
  port : Bool
  to' : Bool
  rules' : Bool
  hosts : Bool
  deriving Inhabited, DecidableEq
instance : Dat Has where
  av x := .agg [.bool x.port, .bool x.to', .bool x.rules', .bool x.hosts]
  sz := 4
  len _ := rfl
  pure x := by simp only [go_sem, Bool.and_self]
  nrm x := by simp only [go_sem]
  one x := by simp only [go_sem, List.all_cons, List.all_nil, Bool.and_self]
  known x := rfl
@[go_sem] theorem av_Has (x : Has) : Dat.av x = .agg [.bool x.port, .bool x.to', .bool x.rules', .bool x.hosts] := rfl
@[go_sem] theorem sz_Has : Dat.sz Has = 4 := rfl
@[go_sem] theorem set_Has (l : List Has) (n : Nat) (f0 : Bool) (f1 : Bool) (f2 : Bool) (f3 : Bool) : (avs l).set n (.agg [.bool f0, .bool f1, .bool f2, .bool f3]) = avs (l.set n ⟨f0, f1, f2, f3⟩) := avs_set l n (⟨f0, f1, f2, f3⟩ : Has)
@[go_sem] theorem snoc_Has (l : List Has) (f0 : Bool) (f1 : Bool) (f2 : Bool) (f3 : Bool) : avs l ++ [.agg [.bool f0, .bool f1, .bool f2, .bool f3]] = avs (l ++ [⟨f0, f1, f2, f3⟩]) := by rw [avs_append]; rfl
@[go_sem] theorem flatL_Has : ∀ l : List Has, AV.flat.flatL (avs l) = true
  | [] => rfl
  | _ :: r => by simp only [avs_cons, AV.flat.flatL, flatL_Has r, av_Has, AV.flat, Bool.and_self]
theorem ext_Has (x y : Has) : x = y ↔ x.port = y.port ∧ x.to' = y.to' ∧ x.rules' = y.rules' ∧ x.hosts = y.hosts := by cases x; cases y; simp
@[go_sem] theorem eta_Has (x : Has) : Has.mk x.port x.to' x.rules' x.hosts = x := rfl

/-- unicode utf8.acceptRange -/
@[ext] structure AcceptRange where
  lo : UInt8
  hi : UInt8
  deriving Inhabited, DecidableEq
instance : Dat AcceptRange where
  av x := .agg [.int .u8 x.lo.toNat, .int .u8 x.hi.toNat]
  sz := 2
  len _ := rfl
  pure x := by simp only [go_sem, Bool.and_self]
  nrm x := by simp only [go_sem]
  one x := by simp only [go_sem, List.all_cons, List.all_nil, Bool.and_self]
  known x := rfl
@[go_sem] theorem av_AcceptRange (x : AcceptRange) : Dat.av x = .agg [.int .u8 x.lo.toNat, .int .u8 x.hi.toNat] := rfl
@[go_sem] theorem sz_AcceptRange : Dat.sz AcceptRange = 2 := rfl
@[go_sem] theorem set_AcceptRange (l : List AcceptRange) (n : Nat) (f0 : UInt8) (f1 : UInt8) : (avs l).set n (.agg [.int .u8 f0.toNat, .int .u8 f1.toNat]) = avs (l.set n ⟨f0, f1⟩) := avs_set l n (⟨f0, f1⟩ : AcceptRange)
@[go_sem] theorem snoc_AcceptRange (l : List AcceptRange) (f0 : UInt8) (f1 : UInt8) : avs l ++ [.agg [.int .u8 f0.toNat, .int .u8 f1.toNat]] = avs (l ++ [⟨f0, f1⟩]) := by rw [avs_append]; rfl
@[go_sem] theorem flatL_AcceptRange : ∀ l : List AcceptRange, AV.flat.flatL (avs l) = true
  | [] => rfl
  | _ :: r => by simp only [avs_cons, AV.flat.flatL, flatL_AcceptRange r, av_AcceptRange, AV.flat, Bool.and_self]
theorem ext_AcceptRange (x y : AcceptRange) : x = y ↔ x.lo = y.lo ∧ x.hi = y.hi := by cases x; cases y; simp
@[go_sem] theorem eta_AcceptRange (x : AcceptRange) : AcceptRange.mk x.lo x.hi = x := rfl

def SmWeight (x : Weight) : Prop := Small x.cluster.length
def SmRule (x : Rule) : Prop := Small x.host.length ∧ Small x.pfx.length ∧ Small x.split.length ∧ (∀ y ∈ x.split, SmWeight y)
def SmBoundsError (x : BoundsError) : Prop := True
def SmRes (x : Res) : Prop := Small x.name.length ∧ Small x.to'.length ∧ Small x.rules'.length ∧ (∀ y ∈ x.rules', SmRule y) ∧ Small x.hosts.length
def SmKey (x : Key) : Prop := Small x.name.length
def SmHas (x : Has) : Prop := True
def SmAcceptRange (x : AcceptRange) : Prop := True
end Go.Proofs.YtbggigdchkiffaaDoor.Lg
