/- What is known of this seat's types, with its proof: made by program (tys.py) off the translation. -/
import Derived.Test.YtjmnokbbodcaaaaLg25
import Derived.Test.YtjmnokbbodcaaaaProg
namespace Go.Proofs.Ytjmnokbbodcaaaa.Lg
open Go
set_option linter.unusedVariables false
set_option linter.unusedSimpArgs false
theorem infoOf {i : Nat} {ti : TypeInfo} (h : Try.prog.types[i]? = some ti) : Try.prog.info? i = some ti := by
  have hlt : i < Try.prog.types.size := (Array.getElem?_eq_some_iff.1 h).1
  simp only [Tables.info?, if_pos hlt, h]


def ty1 : TyI := ⟨.func, 1, 8, [.nilf]⟩
theorem tyOk1 : TyOk Try.prog 1 ty1 := .inr ⟨Try.t1, infoOf Try.type1, rfl, rfl, ⟨_, rfl, rfl, rfl⟩, _, Try.underlying1, rfl⟩
def ty2 : TyI := ⟨.int .i64, 1, 8, [.int .i64 0]⟩
theorem tyOk2 : TyOk Try.prog 2 ty2 := .inr ⟨Try.t2, infoOf Try.type2, rfl, rfl, ⟨_, rfl, rfl, rfl⟩, _, Try.underlying2, rfl⟩
def ty3 : TyI := ⟨.int .i64, 1, 8, [.int .i64 0]⟩
theorem tyOk3 : TyOk Try.prog 3 ty3 := .inr ⟨Try.t3, infoOf Try.type3, rfl, rfl, ⟨_, rfl, rfl, rfl⟩, _, Try.underlying3, rfl⟩
def ty4 : TyI := ⟨.bool, 1, 1, [.bool false]⟩
theorem tyOk4 : TyOk Try.prog 4 ty4 := .inr ⟨Try.t4, infoOf Try.type4, rfl, rfl, ⟨_, rfl, rfl, rfl⟩, _, Try.underlying4, rfl⟩
def ty5 : TyI := ⟨.int .u8, 1, 1, [.int .u8 0]⟩
theorem tyOk5 : TyOk Try.prog 5 ty5 := .inr ⟨Try.t5, infoOf Try.type5, rfl, rfl, ⟨_, rfl, rfl, rfl⟩, _, Try.underlying5, rfl⟩
def ty6 : TyI := ⟨.int .u8, 1, 1, [.int .u8 0]⟩
theorem tyOk6 : TyOk Try.prog 6 ty6 := .inr ⟨Try.t6, infoOf Try.type6, rfl, rfl, ⟨_, rfl, rfl, rfl⟩, _, Try.underlying6, rfl⟩
def ty7 : TyI := ⟨.struct [(0, 2, "x"), (1, 3, "y"), (2, 4, "signed"), (3, 6, "code")], 4, 24, [.int .i64 0, .int .i64 0, .bool false, .int .u8 0]⟩
theorem tyOk7 : TyOk Try.prog 7 ty7 := .inr ⟨Try.t7, infoOf Try.type7, rfl, rfl, ⟨_, rfl, rfl, rfl⟩, _, Try.underlying7, rfl⟩
def ty8 : TyI := ⟨.struct [(0, 2, "x"), (1, 3, "y"), (2, 4, "signed"), (3, 6, "code")], 4, 24, [.int .i64 0, .int .i64 0, .bool false, .int .u8 0]⟩
theorem tyOk8 : TyOk Try.prog 8 ty8 := .inr ⟨Try.t8, infoOf Try.type8, rfl, rfl, ⟨_, rfl, rfl, rfl⟩, _, Try.underlying8, rfl⟩
def ty9 : TyI := ⟨.str, 1, 16, [.str []]⟩
theorem tyOk9 : TyOk Try.prog 9 ty9 := .inr ⟨Try.t9, infoOf Try.type9, rfl, rfl, ⟨_, rfl, rfl, rfl⟩, _, Try.underlying9, rfl⟩
def ty10 : TyI := ⟨.str, 1, 16, [.str []]⟩
theorem tyOk10 : TyOk Try.prog 10 ty10 := .inr ⟨Try.t10, infoOf Try.type10, rfl, rfl, ⟨_, rfl, rfl, rfl⟩, _, Try.underlying10, rfl⟩
def ty11 : TyI := ⟨.str, 1, 16, [.str []]⟩
theorem tyOk11 : TyOk Try.prog 11 ty11 := .inr ⟨Try.t11, infoOf Try.type11, rfl, rfl, ⟨_, rfl, rfl, rfl⟩, _, Try.underlying11, rfl⟩
def ty12 : TyI := ⟨.int .u64, 1, 8, [.int .u64 0]⟩
theorem tyOk12 : TyOk Try.prog 12 ty12 := .inr ⟨Try.t12, infoOf Try.type12, rfl, rfl, ⟨_, rfl, rfl, rfl⟩, _, Try.underlying12, rfl⟩
def ty13 : TyI := ⟨.struct [(0, 9, "msg"), (1, 12, "addr")], 2, 24, [.str [], .int .u64 0]⟩
theorem tyOk13 : TyOk Try.prog 13 ty13 := .inr ⟨Try.t13, infoOf Try.type13, rfl, rfl, ⟨_, rfl, rfl, rfl⟩, _, Try.underlying13, rfl⟩
def ty14 : TyI := ⟨.struct [(0, 9, "msg"), (1, 12, "addr")], 2, 24, [.str [], .int .u64 0]⟩
theorem tyOk14 : TyOk Try.prog 14 ty14 := .inr ⟨Try.t14, infoOf Try.type14, rfl, rfl, ⟨_, rfl, rfl, rfl⟩, _, Try.underlying14, rfl⟩
def ty15 : TyI := ⟨.ptr 130, 1, 8, [.nilp]⟩
theorem tyOk15 : TyOk Try.prog 15 ty15 := .inr ⟨Try.t15, infoOf Try.type15, rfl, rfl, ⟨_, rfl, rfl, rfl⟩, _, Try.underlying15, rfl⟩
def ty16 : TyI := ⟨.ptr 133, 1, 8, [.nilp]⟩
theorem tyOk16 : TyOk Try.prog 16 ty16 := .inr ⟨Try.t16, infoOf Try.type16, rfl, rfl, ⟨_, rfl, rfl, rfl⟩, _, Try.underlying16, rfl⟩
def ty17 : TyI := ⟨.ptr 141, 1, 8, [.nilp]⟩
theorem tyOk17 : TyOk Try.prog 17 ty17 := .inr ⟨Try.t17, infoOf Try.type17, rfl, rfl, ⟨_, rfl, rfl, rfl⟩, _, Try.underlying17, rfl⟩
def ty18 : TyI := ⟨.struct [(0, 17, "typ")], 1, 8, [.nilp]⟩
theorem tyOk18 : TyOk Try.prog 18 ty18 := .inr ⟨Try.t18, infoOf Try.type18, rfl, rfl, ⟨_, rfl, rfl, rfl⟩, _, Try.underlying18, rfl⟩
def ty19 : TyI := ⟨.struct [(0, 17, "typ")], 1, 8, [.nilp]⟩
theorem tyOk19 : TyOk Try.prog 19 ty19 := .inr ⟨Try.t19, infoOf Try.type19, rfl, rfl, ⟨_, rfl, rfl, rfl⟩, _, Try.underlying19, rfl⟩
def ty21 : TyI := ⟨.int .i32, 1, 4, [.int .i32 0]⟩
theorem tyOk21 : TyOk Try.prog 21 ty21 := .inr ⟨Try.t21, infoOf Try.type21, rfl, rfl, ⟨_, rfl, rfl, rfl⟩, _, Try.underlying21, rfl⟩
def ty22 : TyI := ⟨.slice 36, 1, 24, [.slice true []]⟩
theorem tyOk22 : TyOk Try.prog 22 ty22 := .inr ⟨Try.t22, infoOf Try.type22, rfl, rfl, ⟨_, rfl, rfl, rfl⟩, _, Try.underlying22, rfl⟩
def ty23 : TyI := ⟨.struct [(0, 3, "Next"), (1, 22, "Snaps")], 2, 32, [.int .i64 0, .slice true []]⟩
theorem tyOk23 : TyOk Try.prog 23 ty23 := .inr ⟨Try.t23, infoOf Try.type23, rfl, rfl, ⟨_, rfl, rfl, rfl⟩, _, Try.underlying23, rfl⟩
def ty24 : TyI := ⟨.struct [(0, 3, "Next"), (1, 22, "Snaps")], 2, 32, [.int .i64 0, .slice true []]⟩
theorem tyOk24 : TyOk Try.prog 24 ty24 := .inr ⟨Try.t24, infoOf Try.type24, rfl, rfl, ⟨_, rfl, rfl, rfl⟩, _, Try.underlying24, rfl⟩
def ty25 : TyI := ⟨.func, 1, 8, [.nilf]⟩
theorem tyOk25 : TyOk Try.prog 25 ty25 := .inr ⟨Try.t25, infoOf Try.type25, rfl, rfl, ⟨_, rfl, rfl, rfl⟩, _, Try.underlying25, rfl⟩
def ty26 : TyI := ⟨.func, 1, 8, [.nilf]⟩
theorem tyOk26 : TyOk Try.prog 26 ty26 := .inr ⟨Try.t26, infoOf Try.type26, rfl, rfl, ⟨_, rfl, rfl, rfl⟩, _, Try.underlying26, rfl⟩
def ty27 : TyI := ⟨.func, 1, 8, [.nilf]⟩
theorem tyOk27 : TyOk Try.prog 27 ty27 := .inr ⟨Try.t27, infoOf Try.type27, rfl, rfl, ⟨_, rfl, rfl, rfl⟩, _, Try.underlying27, rfl⟩
def ty28 : TyI := ⟨.slice 76, 1, 24, [.slice true []]⟩
theorem tyOk28 : TyOk Try.prog 28 ty28 := .inr ⟨Try.t28, infoOf Try.type28, rfl, rfl, ⟨_, rfl, rfl, rfl⟩, _, Try.underlying28, rfl⟩
def ty29 : TyI := ⟨.struct [(0, 3, "Next"), (1, 28, "Snaps")], 2, 32, [.int .i64 0, .slice true []]⟩
theorem tyOk29 : TyOk Try.prog 29 ty29 := .inr ⟨Try.t29, infoOf Try.type29, rfl, rfl, ⟨_, rfl, rfl, rfl⟩, _, Try.underlying29, rfl⟩
def ty30 : TyI := ⟨.struct [(0, 3, "Next"), (1, 28, "Snaps")], 2, 32, [.int .i64 0, .slice true []]⟩
theorem tyOk30 : TyOk Try.prog 30 ty30 := .inr ⟨Try.t30, infoOf Try.type30, rfl, rfl, ⟨_, rfl, rfl, rfl⟩, _, Try.underlying30, rfl⟩
def ty31 : TyI := ⟨.func, 1, 8, [.nilf]⟩
theorem tyOk31 : TyOk Try.prog 31 ty31 := .inr ⟨Try.t31, infoOf Try.type31, rfl, rfl, ⟨_, rfl, rfl, rfl⟩, _, Try.underlying31, rfl⟩
def ty32 : TyI := ⟨.slice 38, 1, 24, [.slice true []]⟩
theorem tyOk32 : TyOk Try.prog 32 ty32 := .inr ⟨Try.t32, infoOf Try.type32, rfl, rfl, ⟨_, rfl, rfl, rfl⟩, _, Try.underlying32, rfl⟩
def ty33 : TyI := ⟨.func, 1, 8, [.nilf]⟩
theorem tyOk33 : TyOk Try.prog 33 ty33 := .inr ⟨Try.t33, infoOf Try.type33, rfl, rfl, ⟨_, rfl, rfl, rfl⟩, _, Try.underlying33, rfl⟩
def ty34 : TyI := ⟨.slice 43, 1, 24, [.slice true []]⟩
theorem tyOk34 : TyOk Try.prog 34 ty34 := .inr ⟨Try.t34, infoOf Try.type34, rfl, rfl, ⟨_, rfl, rfl, rfl⟩, _, Try.underlying34, rfl⟩
def ty35 : TyI := ⟨.struct [(0, 3, "Id"), (1, 3, "Pins"), (2, 34, "L")], 3, 40, [.int .i64 0, .int .i64 0, .slice true []]⟩
theorem tyOk35 : TyOk Try.prog 35 ty35 := .inr ⟨Try.t35, infoOf Try.type35, rfl, rfl, ⟨_, rfl, rfl, rfl⟩, _, Try.underlying35, rfl⟩
def ty36 : TyI := ⟨.struct [(0, 3, "Id"), (1, 3, "Pins"), (2, 34, "L")], 3, 40, [.int .i64 0, .int .i64 0, .slice true []]⟩
theorem tyOk36 : TyOk Try.prog 36 ty36 := .inr ⟨Try.t36, infoOf Try.type36, rfl, rfl, ⟨_, rfl, rfl, rfl⟩, _, Try.underlying36, rfl⟩
def ty37 : TyI := ⟨.struct [(0, 3, "Kind"), (1, 9, "Name")], 2, 24, [.int .i64 0, .str []]⟩
theorem tyOk37 : TyOk Try.prog 37 ty37 := .inr ⟨Try.t37, infoOf Try.type37, rfl, rfl, ⟨_, rfl, rfl, rfl⟩, _, Try.underlying37, rfl⟩
def ty38 : TyI := ⟨.struct [(0, 3, "Kind"), (1, 9, "Name")], 2, 24, [.int .i64 0, .str []]⟩
theorem tyOk38 : TyOk Try.prog 38 ty38 := .inr ⟨Try.t38, infoOf Try.type38, rfl, rfl, ⟨_, rfl, rfl, rfl⟩, _, Try.underlying38, rfl⟩
def ty39 : TyI := ⟨.func, 1, 8, [.nilf]⟩
theorem tyOk39 : TyOk Try.prog 39 ty39 := .inr ⟨Try.t39, infoOf Try.type39, rfl, rfl, ⟨_, rfl, rfl, rfl⟩, _, Try.underlying39, rfl⟩
def ty40 : TyI := ⟨.slice 102, 1, 24, [.slice true []]⟩
theorem tyOk40 : TyOk Try.prog 40 ty40 := .inr ⟨Try.t40, infoOf Try.type40, rfl, rfl, ⟨_, rfl, rfl, rfl⟩, _, Try.underlying40, rfl⟩
def ty41 : TyI := ⟨.slice 3, 1, 24, [.slice true []]⟩
theorem tyOk41 : TyOk Try.prog 41 ty41 := .inr ⟨Try.t41, infoOf Try.type41, rfl, rfl, ⟨_, rfl, rfl, rfl⟩, _, Try.underlying41, rfl⟩
def ty42 : TyI := ⟨.struct [(0, 3, "Kind"), (1, 9, "Name"), (2, 3, "Ver"), (3, 3, "Port"), (4, 9, "To"), (5, 40, "Rules"), (6, 41, "Hosts")], 7, 104, [.int .i64 0, .str [], .int .i64 0, .int .i64 0, .str [], .slice true [], .slice true []]⟩
theorem tyOk42 : TyOk Try.prog 42 ty42 := .inr ⟨Try.t42, infoOf Try.type42, rfl, rfl, ⟨_, rfl, rfl, rfl⟩, _, Try.underlying42, rfl⟩
def ty43 : TyI := ⟨.struct [(0, 3, "Kind"), (1, 9, "Name"), (2, 3, "Ver"), (3, 3, "Port"), (4, 9, "To"), (5, 40, "Rules"), (6, 41, "Hosts")], 7, 104, [.int .i64 0, .str [], .int .i64 0, .int .i64 0, .str [], .slice true [], .slice true []]⟩
theorem tyOk43 : TyOk Try.prog 43 ty43 := .inr ⟨Try.t43, infoOf Try.type43, rfl, rfl, ⟨_, rfl, rfl, rfl⟩, _, Try.underlying43, rfl⟩
def ty44 : TyI := ⟨.func, 1, 8, [.nilf]⟩
theorem tyOk44 : TyOk Try.prog 44 ty44 := .inr ⟨Try.t44, infoOf Try.type44, rfl, rfl, ⟨_, rfl, rfl, rfl⟩, _, Try.underlying44, rfl⟩
def ty46 : TyI := ⟨.func, 1, 8, [.nilf]⟩
theorem tyOk46 : TyOk Try.prog 46 ty46 := .inr ⟨Try.t46, infoOf Try.type46, rfl, rfl, ⟨_, rfl, rfl, rfl⟩, _, Try.underlying46, rfl⟩
def ty47 : TyI := ⟨.func, 1, 8, [.nilf]⟩
theorem tyOk47 : TyOk Try.prog 47 ty47 := .inr ⟨Try.t47, infoOf Try.type47, rfl, rfl, ⟨_, rfl, rfl, rfl⟩, _, Try.underlying47, rfl⟩
def ty48 : TyI := ⟨.func, 1, 8, [.nilf]⟩
theorem tyOk48 : TyOk Try.prog 48 ty48 := .inr ⟨Try.t48, infoOf Try.type48, rfl, rfl, ⟨_, rfl, rfl, rfl⟩, _, Try.underlying48, rfl⟩
def ty49 : TyI := ⟨.func, 1, 8, [.nilf]⟩
theorem tyOk49 : TyOk Try.prog 49 ty49 := .inr ⟨Try.t49, infoOf Try.type49, rfl, rfl, ⟨_, rfl, rfl, rfl⟩, _, Try.underlying49, rfl⟩
def ty50 : TyI := ⟨.int .i64, 1, 8, [.int .i64 0]⟩
theorem tyOk50 : TyOk Try.prog 50 ty50 := .inr ⟨Try.t50, infoOf Try.type50, rfl, rfl, ⟨_, rfl, rfl, rfl⟩, _, Try.underlying50, rfl⟩
def ty52 : TyI := ⟨.func, 1, 8, [.nilf]⟩
theorem tyOk52 : TyOk Try.prog 52 ty52 := .inr ⟨Try.t52, infoOf Try.type52, rfl, rfl, ⟨_, rfl, rfl, rfl⟩, _, Try.underlying52, rfl⟩
def ty53 : TyI := ⟨.func, 1, 8, [.nilf]⟩
theorem tyOk53 : TyOk Try.prog 53 ty53 := .inr ⟨Try.t53, infoOf Try.type53, rfl, rfl, ⟨_, rfl, rfl, rfl⟩, _, Try.underlying53, rfl⟩
def ty55 : TyI := ⟨.func, 1, 8, [.nilf]⟩
theorem tyOk55 : TyOk Try.prog 55 ty55 := .inr ⟨Try.t55, infoOf Try.type55, rfl, rfl, ⟨_, rfl, rfl, rfl⟩, _, Try.underlying55, rfl⟩
def ty56 : TyI := ⟨.func, 1, 8, [.nilf]⟩
theorem tyOk56 : TyOk Try.prog 56 ty56 := .inr ⟨Try.t56, infoOf Try.type56, rfl, rfl, ⟨_, rfl, rfl, rfl⟩, _, Try.underlying56, rfl⟩
def ty57 : TyI := ⟨.func, 1, 8, [.nilf]⟩
theorem tyOk57 : TyOk Try.prog 57 ty57 := .inr ⟨Try.t57, infoOf Try.type57, rfl, rfl, ⟨_, rfl, rfl, rfl⟩, _, Try.underlying57, rfl⟩
def ty58 : TyI := ⟨.func, 1, 8, [.nilf]⟩
theorem tyOk58 : TyOk Try.prog 58 ty58 := .inr ⟨Try.t58, infoOf Try.type58, rfl, rfl, ⟨_, rfl, rfl, rfl⟩, _, Try.underlying58, rfl⟩
def ty60 : TyI := ⟨.func, 1, 8, [.nilf]⟩
theorem tyOk60 : TyOk Try.prog 60 ty60 := .inr ⟨Try.t60, infoOf Try.type60, rfl, rfl, ⟨_, rfl, rfl, rfl⟩, _, Try.underlying60, rfl⟩
def ty61 : TyI := ⟨.func, 1, 8, [.nilf]⟩
theorem tyOk61 : TyOk Try.prog 61 ty61 := .inr ⟨Try.t61, infoOf Try.type61, rfl, rfl, ⟨_, rfl, rfl, rfl⟩, _, Try.underlying61, rfl⟩
def ty63 : TyI := ⟨.func, 1, 8, [.nilf]⟩
theorem tyOk63 : TyOk Try.prog 63 ty63 := .inr ⟨Try.t63, infoOf Try.type63, rfl, rfl, ⟨_, rfl, rfl, rfl⟩, _, Try.underlying63, rfl⟩
def ty64 : TyI := ⟨.func, 1, 8, [.nilf]⟩
theorem tyOk64 : TyOk Try.prog 64 ty64 := .inr ⟨Try.t64, infoOf Try.type64, rfl, rfl, ⟨_, rfl, rfl, rfl⟩, _, Try.underlying64, rfl⟩
def ty66 : TyI := ⟨.func, 1, 8, [.nilf]⟩
theorem tyOk66 : TyOk Try.prog 66 ty66 := .inr ⟨Try.t66, infoOf Try.type66, rfl, rfl, ⟨_, rfl, rfl, rfl⟩, _, Try.underlying66, rfl⟩
def ty67 : TyI := ⟨.func, 1, 8, [.nilf]⟩
theorem tyOk67 : TyOk Try.prog 67 ty67 := .inr ⟨Try.t67, infoOf Try.type67, rfl, rfl, ⟨_, rfl, rfl, rfl⟩, _, Try.underlying67, rfl⟩
def ty68 : TyI := ⟨.func, 1, 8, [.nilf]⟩
theorem tyOk68 : TyOk Try.prog 68 ty68 := .inr ⟨Try.t68, infoOf Try.type68, rfl, rfl, ⟨_, rfl, rfl, rfl⟩, _, Try.underlying68, rfl⟩
def ty69 : TyI := ⟨.func, 1, 8, [.nilf]⟩
theorem tyOk69 : TyOk Try.prog 69 ty69 := .inr ⟨Try.t69, infoOf Try.type69, rfl, rfl, ⟨_, rfl, rfl, rfl⟩, _, Try.underlying69, rfl⟩
def ty70 : TyI := ⟨.func, 1, 8, [.nilf]⟩
theorem tyOk70 : TyOk Try.prog 70 ty70 := .inr ⟨Try.t70, infoOf Try.type70, rfl, rfl, ⟨_, rfl, rfl, rfl⟩, _, Try.underlying70, rfl⟩
def ty71 : TyI := ⟨.slice 73, 1, 24, [.slice true []]⟩
theorem tyOk71 : TyOk Try.prog 71 ty71 := .inr ⟨Try.t71, infoOf Try.type71, rfl, rfl, ⟨_, rfl, rfl, rfl⟩, _, Try.underlying71, rfl⟩
def ty72 : TyI := ⟨.struct [(0, 3, "What"), (1, 3, "Id"), (2, 34, "L")], 3, 40, [.int .i64 0, .int .i64 0, .slice true []]⟩
theorem tyOk72 : TyOk Try.prog 72 ty72 := .inr ⟨Try.t72, infoOf Try.type72, rfl, rfl, ⟨_, rfl, rfl, rfl⟩, _, Try.underlying72, rfl⟩
def ty73 : TyI := ⟨.struct [(0, 3, "What"), (1, 3, "Id"), (2, 34, "L")], 3, 40, [.int .i64 0, .int .i64 0, .slice true []]⟩
theorem tyOk73 : TyOk Try.prog 73 ty73 := .inr ⟨Try.t73, infoOf Try.type73, rfl, rfl, ⟨_, rfl, rfl, rfl⟩, _, Try.underlying73, rfl⟩
def ty74 : TyI := ⟨.func, 1, 8, [.nilf]⟩
theorem tyOk74 : TyOk Try.prog 74 ty74 := .inr ⟨Try.t74, infoOf Try.type74, rfl, rfl, ⟨_, rfl, rfl, rfl⟩, _, Try.underlying74, rfl⟩
def ty75 : TyI := ⟨.func, 1, 8, [.nilf]⟩
theorem tyOk75 : TyOk Try.prog 75 ty75 := .inr ⟨Try.t75, infoOf Try.type75, rfl, rfl, ⟨_, rfl, rfl, rfl⟩, _, Try.underlying75, rfl⟩
def ty76 : TyI := ⟨.struct [(0, 3, "Id"), (1, 3, "Pins"), (2, 34, "L")], 3, 40, [.int .i64 0, .int .i64 0, .slice true []]⟩
theorem tyOk76 : TyOk Try.prog 76 ty76 := .inr ⟨Try.t76, infoOf Try.type76, rfl, rfl, ⟨_, rfl, rfl, rfl⟩, _, Try.underlying76, rfl⟩
def ty77 : TyI := ⟨.func, 1, 8, [.nilf]⟩
theorem tyOk77 : TyOk Try.prog 77 ty77 := .inr ⟨Try.t77, infoOf Try.type77, rfl, rfl, ⟨_, rfl, rfl, rfl⟩, _, Try.underlying77, rfl⟩
def ty78 : TyI := ⟨.func, 1, 8, [.nilf]⟩
theorem tyOk78 : TyOk Try.prog 78 ty78 := .inr ⟨Try.t78, infoOf Try.type78, rfl, rfl, ⟨_, rfl, rfl, rfl⟩, _, Try.underlying78, rfl⟩
def ty79 : TyI := ⟨.func, 1, 8, [.nilf]⟩
theorem tyOk79 : TyOk Try.prog 79 ty79 := .inr ⟨Try.t79, infoOf Try.type79, rfl, rfl, ⟨_, rfl, rfl, rfl⟩, _, Try.underlying79, rfl⟩
def ty80 : TyI := ⟨.func, 1, 8, [.nilf]⟩
theorem tyOk80 : TyOk Try.prog 80 ty80 := .inr ⟨Try.t80, infoOf Try.type80, rfl, rfl, ⟨_, rfl, rfl, rfl⟩, _, Try.underlying80, rfl⟩
def ty81 : TyI := ⟨.func, 1, 8, [.nilf]⟩
theorem tyOk81 : TyOk Try.prog 81 ty81 := .inr ⟨Try.t81, infoOf Try.type81, rfl, rfl, ⟨_, rfl, rfl, rfl⟩, _, Try.underlying81, rfl⟩
def ty82 : TyI := ⟨.func, 1, 8, [.nilf]⟩
theorem tyOk82 : TyOk Try.prog 82 ty82 := .inr ⟨Try.t82, infoOf Try.type82, rfl, rfl, ⟨_, rfl, rfl, rfl⟩, _, Try.underlying82, rfl⟩
def ty83 : TyI := ⟨.func, 1, 8, [.nilf]⟩
theorem tyOk83 : TyOk Try.prog 83 ty83 := .inr ⟨Try.t83, infoOf Try.type83, rfl, rfl, ⟨_, rfl, rfl, rfl⟩, _, Try.underlying83, rfl⟩
def ty84 : TyI := ⟨.func, 1, 8, [.nilf]⟩
theorem tyOk84 : TyOk Try.prog 84 ty84 := .inr ⟨Try.t84, infoOf Try.type84, rfl, rfl, ⟨_, rfl, rfl, rfl⟩, _, Try.underlying84, rfl⟩
def ty85 : TyI := ⟨.func, 1, 8, [.nilf]⟩
theorem tyOk85 : TyOk Try.prog 85 ty85 := .inr ⟨Try.t85, infoOf Try.type85, rfl, rfl, ⟨_, rfl, rfl, rfl⟩, _, Try.underlying85, rfl⟩
def ty86 : TyI := ⟨.func, 1, 8, [.nilf]⟩
theorem tyOk86 : TyOk Try.prog 86 ty86 := .inr ⟨Try.t86, infoOf Try.type86, rfl, rfl, ⟨_, rfl, rfl, rfl⟩, _, Try.underlying86, rfl⟩
def ty87 : TyI := ⟨.func, 1, 8, [.nilf]⟩
theorem tyOk87 : TyOk Try.prog 87 ty87 := .inr ⟨Try.t87, infoOf Try.type87, rfl, rfl, ⟨_, rfl, rfl, rfl⟩, _, Try.underlying87, rfl⟩
def ty88 : TyI := ⟨.func, 1, 8, [.nilf]⟩
theorem tyOk88 : TyOk Try.prog 88 ty88 := .inr ⟨Try.t88, infoOf Try.type88, rfl, rfl, ⟨_, rfl, rfl, rfl⟩, _, Try.underlying88, rfl⟩
def ty89 : TyI := ⟨.func, 1, 8, [.nilf]⟩
theorem tyOk89 : TyOk Try.prog 89 ty89 := .inr ⟨Try.t89, infoOf Try.type89, rfl, rfl, ⟨_, rfl, rfl, rfl⟩, _, Try.underlying89, rfl⟩
def ty90 : TyI := ⟨.func, 1, 8, [.nilf]⟩
theorem tyOk90 : TyOk Try.prog 90 ty90 := .inr ⟨Try.t90, infoOf Try.type90, rfl, rfl, ⟨_, rfl, rfl, rfl⟩, _, Try.underlying90, rfl⟩
def ty91 : TyI := ⟨.func, 1, 8, [.nilf]⟩
theorem tyOk91 : TyOk Try.prog 91 ty91 := .inr ⟨Try.t91, infoOf Try.type91, rfl, rfl, ⟨_, rfl, rfl, rfl⟩, _, Try.underlying91, rfl⟩
def ty92 : TyI := ⟨.func, 1, 8, [.nilf]⟩
theorem tyOk92 : TyOk Try.prog 92 ty92 := .inr ⟨Try.t92, infoOf Try.type92, rfl, rfl, ⟨_, rfl, rfl, rfl⟩, _, Try.underlying92, rfl⟩
def ty93 : TyI := ⟨.func, 1, 8, [.nilf]⟩
theorem tyOk93 : TyOk Try.prog 93 ty93 := .inr ⟨Try.t93, infoOf Try.type93, rfl, rfl, ⟨_, rfl, rfl, rfl⟩, _, Try.underlying93, rfl⟩
def ty94 : TyI := ⟨.func, 1, 8, [.nilf]⟩
theorem tyOk94 : TyOk Try.prog 94 ty94 := .inr ⟨Try.t94, infoOf Try.type94, rfl, rfl, ⟨_, rfl, rfl, rfl⟩, _, Try.underlying94, rfl⟩
def ty95 : TyI := ⟨.func, 1, 8, [.nilf]⟩
theorem tyOk95 : TyOk Try.prog 95 ty95 := .inr ⟨Try.t95, infoOf Try.type95, rfl, rfl, ⟨_, rfl, rfl, rfl⟩, _, Try.underlying95, rfl⟩
def ty96 : TyI := ⟨.func, 1, 8, [.nilf]⟩
theorem tyOk96 : TyOk Try.prog 96 ty96 := .inr ⟨Try.t96, infoOf Try.type96, rfl, rfl, ⟨_, rfl, rfl, rfl⟩, _, Try.underlying96, rfl⟩
def ty97 : TyI := ⟨.func, 1, 8, [.nilf]⟩
theorem tyOk97 : TyOk Try.prog 97 ty97 := .inr ⟨Try.t97, infoOf Try.type97, rfl, rfl, ⟨_, rfl, rfl, rfl⟩, _, Try.underlying97, rfl⟩
def ty98 : TyI := ⟨.int .u64, 1, 8, [.int .u64 0]⟩
theorem tyOk98 : TyOk Try.prog 98 ty98 := .inr ⟨Try.t98, infoOf Try.type98, rfl, rfl, ⟨_, rfl, rfl, rfl⟩, _, Try.underlying98, rfl⟩
def ty99 : TyI := ⟨.func, 1, 8, [.nilf]⟩
theorem tyOk99 : TyOk Try.prog 99 ty99 := .inr ⟨Try.t99, infoOf Try.type99, rfl, rfl, ⟨_, rfl, rfl, rfl⟩, _, Try.underlying99, rfl⟩
def ty100 : TyI := ⟨.slice 124, 1, 24, [.slice true []]⟩
theorem tyOk100 : TyOk Try.prog 100 ty100 := .inr ⟨Try.t100, infoOf Try.type100, rfl, rfl, ⟨_, rfl, rfl, rfl⟩, _, Try.underlying100, rfl⟩
def ty101 : TyI := ⟨.struct [(0, 9, "Host"), (1, 9, "Prefix"), (2, 100, "Split")], 3, 56, [.str [], .str [], .slice true []]⟩
theorem tyOk101 : TyOk Try.prog 101 ty101 := .inr ⟨Try.t101, infoOf Try.type101, rfl, rfl, ⟨_, rfl, rfl, rfl⟩, _, Try.underlying101, rfl⟩
def ty102 : TyI := ⟨.struct [(0, 9, "Host"), (1, 9, "Prefix"), (2, 100, "Split")], 3, 56, [.str [], .str [], .slice true []]⟩
theorem tyOk102 : TyOk Try.prog 102 ty102 := .inr ⟨Try.t102, infoOf Try.type102, rfl, rfl, ⟨_, rfl, rfl, rfl⟩, _, Try.underlying102, rfl⟩
def ty103 : TyI := ⟨.func, 1, 8, [.nilf]⟩
theorem tyOk103 : TyOk Try.prog 103 ty103 := .inr ⟨Try.t103, infoOf Try.type103, rfl, rfl, ⟨_, rfl, rfl, rfl⟩, _, Try.underlying103, rfl⟩
def ty104 : TyI := ⟨.func, 1, 8, [.nilf]⟩
theorem tyOk104 : TyOk Try.prog 104 ty104 := .inr ⟨Try.t104, infoOf Try.type104, rfl, rfl, ⟨_, rfl, rfl, rfl⟩, _, Try.underlying104, rfl⟩
def ty105 : TyI := ⟨.int .i64, 1, 8, [.int .i64 0]⟩
theorem tyOk105 : TyOk Try.prog 105 ty105 := .inr ⟨Try.t105, infoOf Try.type105, rfl, rfl, ⟨_, rfl, rfl, rfl⟩, _, Try.underlying105, rfl⟩
def ty107 : TyI := ⟨.func, 1, 8, [.nilf]⟩
theorem tyOk107 : TyOk Try.prog 107 ty107 := .inr ⟨Try.t107, infoOf Try.type107, rfl, rfl, ⟨_, rfl, rfl, rfl⟩, _, Try.underlying107, rfl⟩
def ty108 : TyI := ⟨.func, 1, 8, [.nilf]⟩
theorem tyOk108 : TyOk Try.prog 108 ty108 := .inr ⟨Try.t108, infoOf Try.type108, rfl, rfl, ⟨_, rfl, rfl, rfl⟩, _, Try.underlying108, rfl⟩
def ty109 : TyI := ⟨.func, 1, 8, [.nilf]⟩
theorem tyOk109 : TyOk Try.prog 109 ty109 := .inr ⟨Try.t109, infoOf Try.type109, rfl, rfl, ⟨_, rfl, rfl, rfl⟩, _, Try.underlying109, rfl⟩
def ty111 : TyI := ⟨.func, 1, 8, [.nilf]⟩
theorem tyOk111 : TyOk Try.prog 111 ty111 := .inr ⟨Try.t111, infoOf Try.type111, rfl, rfl, ⟨_, rfl, rfl, rfl⟩, _, Try.underlying111, rfl⟩
def ty112 : TyI := ⟨.func, 1, 8, [.nilf]⟩
theorem tyOk112 : TyOk Try.prog 112 ty112 := .inr ⟨Try.t112, infoOf Try.type112, rfl, rfl, ⟨_, rfl, rfl, rfl⟩, _, Try.underlying112, rfl⟩
def ty113 : TyI := ⟨.int .u32, 1, 4, [.int .u32 0]⟩
theorem tyOk113 : TyOk Try.prog 113 ty113 := .inr ⟨Try.t113, infoOf Try.type113, rfl, rfl, ⟨_, rfl, rfl, rfl⟩, _, Try.underlying113, rfl⟩
def ty114 : TyI := ⟨.func, 1, 8, [.nilf]⟩
theorem tyOk114 : TyOk Try.prog 114 ty114 := .inr ⟨Try.t114, infoOf Try.type114, rfl, rfl, ⟨_, rfl, rfl, rfl⟩, _, Try.underlying114, rfl⟩
def ty115 : TyI := ⟨.int .u64, 1, 8, [.int .u64 0]⟩
theorem tyOk115 : TyOk Try.prog 115 ty115 := .inr ⟨Try.t115, infoOf Try.type115, rfl, rfl, ⟨_, rfl, rfl, rfl⟩, _, Try.underlying115, rfl⟩
def ty116 : TyI := ⟨.func, 1, 8, [.nilf]⟩
theorem tyOk116 : TyOk Try.prog 116 ty116 := .inr ⟨Try.t116, infoOf Try.type116, rfl, rfl, ⟨_, rfl, rfl, rfl⟩, _, Try.underlying116, rfl⟩
def ty117 : TyI := ⟨.int .u64, 1, 8, [.int .u64 0]⟩
theorem tyOk117 : TyOk Try.prog 117 ty117 := .inr ⟨Try.t117, infoOf Try.type117, rfl, rfl, ⟨_, rfl, rfl, rfl⟩, _, Try.underlying117, rfl⟩
def ty118 : TyI := ⟨.func, 1, 8, [.nilf]⟩
theorem tyOk118 : TyOk Try.prog 118 ty118 := .inr ⟨Try.t118, infoOf Try.type118, rfl, rfl, ⟨_, rfl, rfl, rfl⟩, _, Try.underlying118, rfl⟩
def ty119 : TyI := ⟨.func, 1, 8, [.nilf]⟩
theorem tyOk119 : TyOk Try.prog 119 ty119 := .inr ⟨Try.t119, infoOf Try.type119, rfl, rfl, ⟨_, rfl, rfl, rfl⟩, _, Try.underlying119, rfl⟩
def ty120 : TyI := ⟨.func, 1, 8, [.nilf]⟩
theorem tyOk120 : TyOk Try.prog 120 ty120 := .inr ⟨Try.t120, infoOf Try.type120, rfl, rfl, ⟨_, rfl, rfl, rfl⟩, _, Try.underlying120, rfl⟩
def ty121 : TyI := ⟨.ptr 3, 1, 8, [.nilp]⟩
theorem tyOk121 : TyOk Try.prog 121 ty121 := .inr ⟨Try.t121, infoOf Try.type121, rfl, rfl, ⟨_, rfl, rfl, rfl⟩, _, Try.underlying121, rfl⟩
def ty122 : TyI := ⟨.func, 1, 8, [.nilf]⟩
theorem tyOk122 : TyOk Try.prog 122 ty122 := .inr ⟨Try.t122, infoOf Try.type122, rfl, rfl, ⟨_, rfl, rfl, rfl⟩, _, Try.underlying122, rfl⟩
def ty123 : TyI := ⟨.struct [(0, 9, "Cluster"), (1, 3, "W")], 2, 24, [.str [], .int .i64 0]⟩
theorem tyOk123 : TyOk Try.prog 123 ty123 := .inr ⟨Try.t123, infoOf Try.type123, rfl, rfl, ⟨_, rfl, rfl, rfl⟩, _, Try.underlying123, rfl⟩
def ty124 : TyI := ⟨.struct [(0, 9, "Cluster"), (1, 3, "W")], 2, 24, [.str [], .int .i64 0]⟩
theorem tyOk124 : TyOk Try.prog 124 ty124 := .inr ⟨Try.t124, infoOf Try.type124, rfl, rfl, ⟨_, rfl, rfl, rfl⟩, _, Try.underlying124, rfl⟩
def ty125 : TyI := ⟨.ptr 117, 1, 8, [.nilp]⟩
theorem tyOk125 : TyOk Try.prog 125 ty125 := .inr ⟨Try.t125, infoOf Try.type125, rfl, rfl, ⟨_, rfl, rfl, rfl⟩, _, Try.underlying125, rfl⟩
def ty127 : TyI := ⟨.func, 1, 8, [.nilf]⟩
theorem tyOk127 : TyOk Try.prog 127 ty127 := .inr ⟨Try.t127, infoOf Try.type127, rfl, rfl, ⟨_, rfl, rfl, rfl⟩, _, Try.underlying127, rfl⟩
def ty128 : TyI := ⟨.func, 1, 8, [.nilf]⟩
theorem tyOk128 : TyOk Try.prog 128 ty128 := .inr ⟨Try.t128, infoOf Try.type128, rfl, rfl, ⟨_, rfl, rfl, rfl⟩, _, Try.underlying128, rfl⟩
def ty129 : TyI := ⟨.struct [(0, 17, "_interface"), (1, 17, "concrete"), (2, 17, "asserted"), (3, 9, "missingMethod")], 4, 40, [.nilp, .nilp, .nilp, .str []]⟩
theorem tyOk129 : TyOk Try.prog 129 ty129 := .inr ⟨Try.t129, infoOf Try.type129, rfl, rfl, ⟨_, rfl, rfl, rfl⟩, _, Try.underlying129, rfl⟩
def ty130 : TyI := ⟨.struct [(0, 17, "_interface"), (1, 17, "concrete"), (2, 17, "asserted"), (3, 9, "missingMethod")], 4, 40, [.nilp, .nilp, .nilp, .str []]⟩
theorem tyOk130 : TyOk Try.prog 130 ty130 := .inr ⟨Try.t130, infoOf Try.type130, rfl, rfl, ⟨_, rfl, rfl, rfl⟩, _, Try.underlying130, rfl⟩
def ty131 : TyI := ⟨.array 0 16, 0, 0, []⟩
theorem tyOk131 : TyOk Try.prog 131 ty131 := .inr ⟨Try.t131, infoOf Try.type131, rfl, rfl, ⟨_, rfl, rfl, rfl⟩, _, Try.underlying131, rfl⟩
def ty132 : TyI := ⟨.struct [(0, 131, "_")], 0, 0, []⟩
theorem tyOk132 : TyOk Try.prog 132 ty132 := .inr ⟨Try.t132, infoOf Try.type132, rfl, rfl, ⟨_, rfl, rfl, rfl⟩, _, Try.underlying132, rfl⟩
def ty133 : TyI := ⟨.struct [(0, 131, "_")], 0, 0, []⟩
theorem tyOk133 : TyOk Try.prog 133 ty133 := .inr ⟨Try.t133, infoOf Try.type133, rfl, rfl, ⟨_, rfl, rfl, rfl⟩, _, Try.underlying133, rfl⟩
def ty134 : TyI := ⟨.int .u8, 1, 1, [.int .u8 0]⟩
theorem tyOk134 : TyOk Try.prog 134 ty134 := .inr ⟨Try.t134, infoOf Try.type134, rfl, rfl, ⟨_, rfl, rfl, rfl⟩, _, Try.underlying134, rfl⟩
def ty135 : TyI := ⟨.int .u8, 1, 1, [.int .u8 0]⟩
theorem tyOk135 : TyOk Try.prog 135 ty135 := .inr ⟨Try.t135, infoOf Try.type135, rfl, rfl, ⟨_, rfl, rfl, rfl⟩, _, Try.underlying135, rfl⟩
def ty136 : TyI := ⟨.func, 1, 8, [.nilf]⟩
theorem tyOk136 : TyOk Try.prog 136 ty136 := .inr ⟨Try.t136, infoOf Try.type136, rfl, rfl, ⟨_, rfl, rfl, rfl⟩, _, Try.underlying136, rfl⟩
def ty137 : TyI := ⟨.ptr 5, 1, 8, [.nilp]⟩
theorem tyOk137 : TyOk Try.prog 137 ty137 := .inr ⟨Try.t137, infoOf Try.type137, rfl, rfl, ⟨_, rfl, rfl, rfl⟩, _, Try.underlying137, rfl⟩
def ty138 : TyI := ⟨.int .i32, 1, 4, [.int .i32 0]⟩
theorem tyOk138 : TyOk Try.prog 138 ty138 := .inr ⟨Try.t138, infoOf Try.type138, rfl, rfl, ⟨_, rfl, rfl, rfl⟩, _, Try.underlying138, rfl⟩
def ty139 : TyI := ⟨.int .i32, 1, 4, [.int .i32 0]⟩
theorem tyOk139 : TyOk Try.prog 139 ty139 := .inr ⟨Try.t139, infoOf Try.type139, rfl, rfl, ⟨_, rfl, rfl, rfl⟩, _, Try.underlying139, rfl⟩
def ty140 : TyI := ⟨.struct [(0, 12, "Size_"), (1, 12, "PtrBytes"), (2, 113, "Hash"), (3, 134, "TFlag"), (4, 5, "Align_"), (5, 5, "FieldAlign_"), (6, 135, "Kind_"), (7, 136, "Equal"), (8, 137, "GCData"), (9, 138, "Str"), (10, 139, "PtrToThis")], 11, 48, [.int .u64 0, .int .u64 0, .int .u32 0, .int .u8 0, .int .u8 0, .int .u8 0, .int .u8 0, .nilf, .nilp, .int .i32 0, .int .i32 0]⟩
theorem tyOk140 : TyOk Try.prog 140 ty140 := .inr ⟨Try.t140, infoOf Try.type140, rfl, rfl, ⟨_, rfl, rfl, rfl⟩, _, Try.underlying140, rfl⟩
def ty141 : TyI := ⟨.struct [(0, 12, "Size_"), (1, 12, "PtrBytes"), (2, 113, "Hash"), (3, 134, "TFlag"), (4, 5, "Align_"), (5, 5, "FieldAlign_"), (6, 135, "Kind_"), (7, 136, "Equal"), (8, 137, "GCData"), (9, 138, "Str"), (10, 139, "PtrToThis")], 11, 48, [.int .u64 0, .int .u64 0, .int .u32 0, .int .u8 0, .int .u8 0, .int .u8 0, .int .u8 0, .nilf, .nilp, .int .i32 0, .int .i32 0]⟩
theorem tyOk141 : TyOk Try.prog 141 ty141 := .inr ⟨Try.t141, infoOf Try.type141, rfl, rfl, ⟨_, rfl, rfl, rfl⟩, _, Try.underlying141, rfl⟩
def tyL : List (Nat × TyI) := [(1, ty1), (2, ty2), (3, ty3), (4, ty4), (5, ty5), (6, ty6), (7, ty7), (8, ty8), (9, ty9), (10, ty10), (11, ty11), (12, ty12), (13, ty13), (14, ty14), (15, ty15), (16, ty16), (17, ty17), (18, ty18), (19, ty19), (21, ty21), (22, ty22), (23, ty23), (24, ty24), (25, ty25), (26, ty26), (27, ty27), (28, ty28), (29, ty29), (30, ty30), (31, ty31), (32, ty32), (33, ty33), (34, ty34), (35, ty35), (36, ty36), (37, ty37), (38, ty38), (39, ty39), (40, ty40), (41, ty41), (42, ty42), (43, ty43), (44, ty44), (46, ty46), (47, ty47), (48, ty48), (49, ty49), (50, ty50), (52, ty52), (53, ty53), (55, ty55), (56, ty56), (57, ty57), (58, ty58), (60, ty60), (61, ty61), (63, ty63), (64, ty64), (66, ty66), (67, ty67), (68, ty68), (69, ty69), (70, ty70), (71, ty71), (72, ty72), (73, ty73), (74, ty74), (75, ty75), (76, ty76), (77, ty77), (78, ty78), (79, ty79), (80, ty80), (81, ty81), (82, ty82), (83, ty83), (84, ty84), (85, ty85), (86, ty86), (87, ty87), (88, ty88), (89, ty89), (90, ty90), (91, ty91), (92, ty92), (93, ty93), (94, ty94), (95, ty95), (96, ty96), (97, ty97), (98, ty98), (99, ty99), (100, ty100), (101, ty101), (102, ty102), (103, ty103), (104, ty104), (105, ty105), (107, ty107), (108, ty108), (109, ty109), (111, ty111), (112, ty112), (113, ty113), (114, ty114), (115, ty115), (116, ty116), (117, ty117), (118, ty118), (119, ty119), (120, ty120), (121, ty121), (122, ty122), (123, ty123), (124, ty124), (125, ty125), (127, ty127), (128, ty128), (129, ty129), (130, ty130), (131, ty131), (132, ty132), (133, ty133), (134, ty134), (135, ty135), (136, ty136), (137, ty137), (138, ty138), (139, ty139), (140, ty140), (141, ty141)]
def AllOk (P : Program) : List (Nat × TyI) → Prop
  | [] => True
  | p :: r => TyOk P p.1 p.2 ∧ AllOk P r
def tyOf (l : List (Nat × TyI)) (t : Nat) : TyI := (l.lookup t).getD ⟨.unk, 0, 0, []⟩
theorem allOk_ok {P : Program} : ∀ (l : List (Nat × TyI)), AllOk P l → ∀ t, TyOk P t (tyOf l t)
  | [], _, t => .inl rfl
  | (i, x) :: r, h, t => by
    unfold tyOf
    by_cases e : t = i
    · subst e; simpa [List.lookup] using h.1
    · have e' : (t == i) = false := by simpa using e
      have : ((i, x) :: r).lookup t = r.lookup t := by simp [List.lookup, e']
      rw [this]; exact allOk_ok r h.2 t
theorem tyL_ok : AllOk Try.prog tyL := ⟨tyOk1, tyOk2, tyOk3, tyOk4, tyOk5, tyOk6, tyOk7, tyOk8, tyOk9, tyOk10, tyOk11, tyOk12, tyOk13, tyOk14, tyOk15, tyOk16, tyOk17, tyOk18, tyOk19, tyOk21, tyOk22, tyOk23, tyOk24, tyOk25, tyOk26, tyOk27, tyOk28, tyOk29, tyOk30, tyOk31, tyOk32, tyOk33, tyOk34, tyOk35, tyOk36, tyOk37, tyOk38, tyOk39, tyOk40, tyOk41, tyOk42, tyOk43, tyOk44, tyOk46, tyOk47, tyOk48, tyOk49, tyOk50, tyOk52, tyOk53, tyOk55, tyOk56, tyOk57, tyOk58, tyOk60, tyOk61, tyOk63, tyOk64, tyOk66, tyOk67, tyOk68, tyOk69, tyOk70, tyOk71, tyOk72, tyOk73, tyOk74, tyOk75, tyOk76, tyOk77, tyOk78, tyOk79, tyOk80, tyOk81, tyOk82, tyOk83, tyOk84, tyOk85, tyOk86, tyOk87, tyOk88, tyOk89, tyOk90, tyOk91, tyOk92, tyOk93, tyOk94, tyOk95, tyOk96, tyOk97, tyOk98, tyOk99, tyOk100, tyOk101, tyOk102, tyOk103, tyOk104, tyOk105, tyOk107, tyOk108, tyOk109, tyOk111, tyOk112, tyOk113, tyOk114, tyOk115, tyOk116, tyOk117, tyOk118, tyOk119, tyOk120, tyOk121, tyOk122, tyOk123, tyOk124, tyOk125, tyOk127, tyOk128, tyOk129, tyOk130, tyOk131, tyOk132, tyOk133, tyOk134, tyOk135, tyOk136, tyOk137, tyOk138, tyOk139, tyOk140, tyOk141, trivial⟩
def T : Tys Try.prog := ⟨tyOf tyL, allOk_ok tyL tyL_ok⟩
@[go_sem] theorem T_1 : T.ty 1 = ty1 := rfl
@[go_sem] theorem k_1 : ty1.k = .func := rfl
@[go_sem] theorem sz_1 : ty1.sz = 1 := rfl
@[go_sem] theorem by_1 : ty1.bytes = 8 := rfl
@[go_sem] theorem zero_1 : ty1.zero = [.nilf] := rfl
@[go_sem] theorem T_2 : T.ty 2 = ty2 := rfl
@[go_sem] theorem k_2 : ty2.k = .int .i64 := rfl
@[go_sem] theorem sz_2 : ty2.sz = 1 := rfl
@[go_sem] theorem by_2 : ty2.bytes = 8 := rfl
@[go_sem] theorem zero_2 : ty2.zero = [.int .i64 0] := rfl
@[go_sem] theorem T_3 : T.ty 3 = ty3 := rfl
@[go_sem] theorem k_3 : ty3.k = .int .i64 := rfl
@[go_sem] theorem sz_3 : ty3.sz = 1 := rfl
@[go_sem] theorem by_3 : ty3.bytes = 8 := rfl
@[go_sem] theorem zero_3 : ty3.zero = [.int .i64 0] := rfl
@[go_sem] theorem T_4 : T.ty 4 = ty4 := rfl
@[go_sem] theorem k_4 : ty4.k = .bool := rfl
@[go_sem] theorem sz_4 : ty4.sz = 1 := rfl
@[go_sem] theorem by_4 : ty4.bytes = 1 := rfl
@[go_sem] theorem zero_4 : ty4.zero = [.bool false] := rfl
@[go_sem] theorem T_5 : T.ty 5 = ty5 := rfl
@[go_sem] theorem k_5 : ty5.k = .int .u8 := rfl
@[go_sem] theorem sz_5 : ty5.sz = 1 := rfl
@[go_sem] theorem by_5 : ty5.bytes = 1 := rfl
@[go_sem] theorem zero_5 : ty5.zero = [.int .u8 0] := rfl
@[go_sem] theorem T_6 : T.ty 6 = ty6 := rfl
@[go_sem] theorem k_6 : ty6.k = .int .u8 := rfl
@[go_sem] theorem sz_6 : ty6.sz = 1 := rfl
@[go_sem] theorem by_6 : ty6.bytes = 1 := rfl
@[go_sem] theorem zero_6 : ty6.zero = [.int .u8 0] := rfl
@[go_sem] theorem T_7 : T.ty 7 = ty7 := rfl
@[go_sem] theorem k_7 : ty7.k = .struct [(0, 2, "x"), (1, 3, "y"), (2, 4, "signed"), (3, 6, "code")] := rfl
@[go_sem] theorem sz_7 : ty7.sz = 4 := rfl
@[go_sem] theorem by_7 : ty7.bytes = 24 := rfl
@[go_sem] theorem zero_7 : ty7.zero = [.int .i64 0, .int .i64 0, .bool false, .int .u8 0] := rfl
@[go_sem] theorem T_8 : T.ty 8 = ty8 := rfl
@[go_sem] theorem k_8 : ty8.k = .struct [(0, 2, "x"), (1, 3, "y"), (2, 4, "signed"), (3, 6, "code")] := rfl
@[go_sem] theorem sz_8 : ty8.sz = 4 := rfl
@[go_sem] theorem by_8 : ty8.bytes = 24 := rfl
@[go_sem] theorem zero_8 : ty8.zero = [.int .i64 0, .int .i64 0, .bool false, .int .u8 0] := rfl
@[go_sem] theorem T_9 : T.ty 9 = ty9 := rfl
@[go_sem] theorem k_9 : ty9.k = .str := rfl
@[go_sem] theorem sz_9 : ty9.sz = 1 := rfl
@[go_sem] theorem by_9 : ty9.bytes = 16 := rfl
@[go_sem] theorem zero_9 : ty9.zero = [.str []] := rfl
@[go_sem] theorem T_10 : T.ty 10 = ty10 := rfl
@[go_sem] theorem k_10 : ty10.k = .str := rfl
@[go_sem] theorem sz_10 : ty10.sz = 1 := rfl
@[go_sem] theorem by_10 : ty10.bytes = 16 := rfl
@[go_sem] theorem zero_10 : ty10.zero = [.str []] := rfl
@[go_sem] theorem T_11 : T.ty 11 = ty11 := rfl
@[go_sem] theorem k_11 : ty11.k = .str := rfl
@[go_sem] theorem sz_11 : ty11.sz = 1 := rfl
@[go_sem] theorem by_11 : ty11.bytes = 16 := rfl
@[go_sem] theorem zero_11 : ty11.zero = [.str []] := rfl
@[go_sem] theorem T_12 : T.ty 12 = ty12 := rfl
@[go_sem] theorem k_12 : ty12.k = .int .u64 := rfl
@[go_sem] theorem sz_12 : ty12.sz = 1 := rfl
@[go_sem] theorem by_12 : ty12.bytes = 8 := rfl
@[go_sem] theorem zero_12 : ty12.zero = [.int .u64 0] := rfl
@[go_sem] theorem T_13 : T.ty 13 = ty13 := rfl
@[go_sem] theorem k_13 : ty13.k = .struct [(0, 9, "msg"), (1, 12, "addr")] := rfl
@[go_sem] theorem sz_13 : ty13.sz = 2 := rfl
@[go_sem] theorem by_13 : ty13.bytes = 24 := rfl
@[go_sem] theorem zero_13 : ty13.zero = [.str [], .int .u64 0] := rfl
@[go_sem] theorem T_14 : T.ty 14 = ty14 := rfl
@[go_sem] theorem k_14 : ty14.k = .struct [(0, 9, "msg"), (1, 12, "addr")] := rfl
@[go_sem] theorem sz_14 : ty14.sz = 2 := rfl
@[go_sem] theorem by_14 : ty14.bytes = 24 := rfl
@[go_sem] theorem zero_14 : ty14.zero = [.str [], .int .u64 0] := rfl
@[go_sem] theorem T_15 : T.ty 15 = ty15 := rfl
@[go_sem] theorem k_15 : ty15.k = .ptr 130 := rfl
@[go_sem] theorem sz_15 : ty15.sz = 1 := rfl
@[go_sem] theorem by_15 : ty15.bytes = 8 := rfl
@[go_sem] theorem zero_15 : ty15.zero = [.nilp] := rfl
@[go_sem] theorem T_16 : T.ty 16 = ty16 := rfl
@[go_sem] theorem k_16 : ty16.k = .ptr 133 := rfl
@[go_sem] theorem sz_16 : ty16.sz = 1 := rfl
@[go_sem] theorem by_16 : ty16.bytes = 8 := rfl
@[go_sem] theorem zero_16 : ty16.zero = [.nilp] := rfl
@[go_sem] theorem T_17 : T.ty 17 = ty17 := rfl
@[go_sem] theorem k_17 : ty17.k = .ptr 141 := rfl
@[go_sem] theorem sz_17 : ty17.sz = 1 := rfl
@[go_sem] theorem by_17 : ty17.bytes = 8 := rfl
@[go_sem] theorem zero_17 : ty17.zero = [.nilp] := rfl
@[go_sem] theorem T_18 : T.ty 18 = ty18 := rfl
@[go_sem] theorem k_18 : ty18.k = .struct [(0, 17, "typ")] := rfl
@[go_sem] theorem sz_18 : ty18.sz = 1 := rfl
@[go_sem] theorem by_18 : ty18.bytes = 8 := rfl
@[go_sem] theorem zero_18 : ty18.zero = [.nilp] := rfl
@[go_sem] theorem T_19 : T.ty 19 = ty19 := rfl
@[go_sem] theorem k_19 : ty19.k = .struct [(0, 17, "typ")] := rfl
@[go_sem] theorem sz_19 : ty19.sz = 1 := rfl
@[go_sem] theorem by_19 : ty19.bytes = 8 := rfl
@[go_sem] theorem zero_19 : ty19.zero = [.nilp] := rfl
@[go_sem] theorem T_21 : T.ty 21 = ty21 := rfl
@[go_sem] theorem k_21 : ty21.k = .int .i32 := rfl
@[go_sem] theorem sz_21 : ty21.sz = 1 := rfl
@[go_sem] theorem by_21 : ty21.bytes = 4 := rfl
@[go_sem] theorem zero_21 : ty21.zero = [.int .i32 0] := rfl
@[go_sem] theorem T_22 : T.ty 22 = ty22 := rfl
@[go_sem] theorem k_22 : ty22.k = .slice 36 := rfl
@[go_sem] theorem sz_22 : ty22.sz = 1 := rfl
@[go_sem] theorem by_22 : ty22.bytes = 24 := rfl
@[go_sem] theorem zero_22 : ty22.zero = [.slice true []] := rfl
@[go_sem] theorem T_23 : T.ty 23 = ty23 := rfl
@[go_sem] theorem k_23 : ty23.k = .struct [(0, 3, "Next"), (1, 22, "Snaps")] := rfl
@[go_sem] theorem sz_23 : ty23.sz = 2 := rfl
@[go_sem] theorem by_23 : ty23.bytes = 32 := rfl
@[go_sem] theorem zero_23 : ty23.zero = [.int .i64 0, .slice true []] := rfl
@[go_sem] theorem T_24 : T.ty 24 = ty24 := rfl
@[go_sem] theorem k_24 : ty24.k = .struct [(0, 3, "Next"), (1, 22, "Snaps")] := rfl
@[go_sem] theorem sz_24 : ty24.sz = 2 := rfl
@[go_sem] theorem by_24 : ty24.bytes = 32 := rfl
@[go_sem] theorem zero_24 : ty24.zero = [.int .i64 0, .slice true []] := rfl
@[go_sem] theorem T_25 : T.ty 25 = ty25 := rfl
@[go_sem] theorem k_25 : ty25.k = .func := rfl
@[go_sem] theorem sz_25 : ty25.sz = 1 := rfl
@[go_sem] theorem by_25 : ty25.bytes = 8 := rfl
@[go_sem] theorem zero_25 : ty25.zero = [.nilf] := rfl
@[go_sem] theorem T_26 : T.ty 26 = ty26 := rfl
@[go_sem] theorem k_26 : ty26.k = .func := rfl
@[go_sem] theorem sz_26 : ty26.sz = 1 := rfl
@[go_sem] theorem by_26 : ty26.bytes = 8 := rfl
@[go_sem] theorem zero_26 : ty26.zero = [.nilf] := rfl
@[go_sem] theorem T_27 : T.ty 27 = ty27 := rfl
@[go_sem] theorem k_27 : ty27.k = .func := rfl
@[go_sem] theorem sz_27 : ty27.sz = 1 := rfl
@[go_sem] theorem by_27 : ty27.bytes = 8 := rfl
@[go_sem] theorem zero_27 : ty27.zero = [.nilf] := rfl
@[go_sem] theorem T_28 : T.ty 28 = ty28 := rfl
@[go_sem] theorem k_28 : ty28.k = .slice 76 := rfl
@[go_sem] theorem sz_28 : ty28.sz = 1 := rfl
@[go_sem] theorem by_28 : ty28.bytes = 24 := rfl
@[go_sem] theorem zero_28 : ty28.zero = [.slice true []] := rfl
@[go_sem] theorem T_29 : T.ty 29 = ty29 := rfl
@[go_sem] theorem k_29 : ty29.k = .struct [(0, 3, "Next"), (1, 28, "Snaps")] := rfl
@[go_sem] theorem sz_29 : ty29.sz = 2 := rfl
@[go_sem] theorem by_29 : ty29.bytes = 32 := rfl
@[go_sem] theorem zero_29 : ty29.zero = [.int .i64 0, .slice true []] := rfl
@[go_sem] theorem T_30 : T.ty 30 = ty30 := rfl
@[go_sem] theorem k_30 : ty30.k = .struct [(0, 3, "Next"), (1, 28, "Snaps")] := rfl
@[go_sem] theorem sz_30 : ty30.sz = 2 := rfl
@[go_sem] theorem by_30 : ty30.bytes = 32 := rfl
@[go_sem] theorem zero_30 : ty30.zero = [.int .i64 0, .slice true []] := rfl
@[go_sem] theorem T_31 : T.ty 31 = ty31 := rfl
@[go_sem] theorem k_31 : ty31.k = .func := rfl
@[go_sem] theorem sz_31 : ty31.sz = 1 := rfl
@[go_sem] theorem by_31 : ty31.bytes = 8 := rfl
@[go_sem] theorem zero_31 : ty31.zero = [.nilf] := rfl
@[go_sem] theorem T_32 : T.ty 32 = ty32 := rfl
@[go_sem] theorem k_32 : ty32.k = .slice 38 := rfl
@[go_sem] theorem sz_32 : ty32.sz = 1 := rfl
@[go_sem] theorem by_32 : ty32.bytes = 24 := rfl
@[go_sem] theorem zero_32 : ty32.zero = [.slice true []] := rfl
@[go_sem] theorem T_33 : T.ty 33 = ty33 := rfl
@[go_sem] theorem k_33 : ty33.k = .func := rfl
@[go_sem] theorem sz_33 : ty33.sz = 1 := rfl
@[go_sem] theorem by_33 : ty33.bytes = 8 := rfl
@[go_sem] theorem zero_33 : ty33.zero = [.nilf] := rfl
@[go_sem] theorem T_34 : T.ty 34 = ty34 := rfl
@[go_sem] theorem k_34 : ty34.k = .slice 43 := rfl
@[go_sem] theorem sz_34 : ty34.sz = 1 := rfl
@[go_sem] theorem by_34 : ty34.bytes = 24 := rfl
@[go_sem] theorem zero_34 : ty34.zero = [.slice true []] := rfl
@[go_sem] theorem T_35 : T.ty 35 = ty35 := rfl
@[go_sem] theorem k_35 : ty35.k = .struct [(0, 3, "Id"), (1, 3, "Pins"), (2, 34, "L")] := rfl
@[go_sem] theorem sz_35 : ty35.sz = 3 := rfl
@[go_sem] theorem by_35 : ty35.bytes = 40 := rfl
@[go_sem] theorem zero_35 : ty35.zero = [.int .i64 0, .int .i64 0, .slice true []] := rfl
@[go_sem] theorem T_36 : T.ty 36 = ty36 := rfl
@[go_sem] theorem k_36 : ty36.k = .struct [(0, 3, "Id"), (1, 3, "Pins"), (2, 34, "L")] := rfl
@[go_sem] theorem sz_36 : ty36.sz = 3 := rfl
@[go_sem] theorem by_36 : ty36.bytes = 40 := rfl
@[go_sem] theorem zero_36 : ty36.zero = [.int .i64 0, .int .i64 0, .slice true []] := rfl
@[go_sem] theorem T_37 : T.ty 37 = ty37 := rfl
@[go_sem] theorem k_37 : ty37.k = .struct [(0, 3, "Kind"), (1, 9, "Name")] := rfl
@[go_sem] theorem sz_37 : ty37.sz = 2 := rfl
@[go_sem] theorem by_37 : ty37.bytes = 24 := rfl
@[go_sem] theorem zero_37 : ty37.zero = [.int .i64 0, .str []] := rfl
@[go_sem] theorem T_38 : T.ty 38 = ty38 := rfl
@[go_sem] theorem k_38 : ty38.k = .struct [(0, 3, "Kind"), (1, 9, "Name")] := rfl
@[go_sem] theorem sz_38 : ty38.sz = 2 := rfl
@[go_sem] theorem by_38 : ty38.bytes = 24 := rfl
@[go_sem] theorem zero_38 : ty38.zero = [.int .i64 0, .str []] := rfl
@[go_sem] theorem T_39 : T.ty 39 = ty39 := rfl
@[go_sem] theorem k_39 : ty39.k = .func := rfl
@[go_sem] theorem sz_39 : ty39.sz = 1 := rfl
@[go_sem] theorem by_39 : ty39.bytes = 8 := rfl
@[go_sem] theorem zero_39 : ty39.zero = [.nilf] := rfl
@[go_sem] theorem T_40 : T.ty 40 = ty40 := rfl
@[go_sem] theorem k_40 : ty40.k = .slice 102 := rfl
@[go_sem] theorem sz_40 : ty40.sz = 1 := rfl
@[go_sem] theorem by_40 : ty40.bytes = 24 := rfl
@[go_sem] theorem zero_40 : ty40.zero = [.slice true []] := rfl
@[go_sem] theorem T_41 : T.ty 41 = ty41 := rfl
@[go_sem] theorem k_41 : ty41.k = .slice 3 := rfl
@[go_sem] theorem sz_41 : ty41.sz = 1 := rfl
@[go_sem] theorem by_41 : ty41.bytes = 24 := rfl
@[go_sem] theorem zero_41 : ty41.zero = [.slice true []] := rfl
@[go_sem] theorem T_42 : T.ty 42 = ty42 := rfl
@[go_sem] theorem k_42 : ty42.k = .struct [(0, 3, "Kind"), (1, 9, "Name"), (2, 3, "Ver"), (3, 3, "Port"), (4, 9, "To"), (5, 40, "Rules"), (6, 41, "Hosts")] := rfl
@[go_sem] theorem sz_42 : ty42.sz = 7 := rfl
@[go_sem] theorem by_42 : ty42.bytes = 104 := rfl
@[go_sem] theorem zero_42 : ty42.zero = [.int .i64 0, .str [], .int .i64 0, .int .i64 0, .str [], .slice true [], .slice true []] := rfl
@[go_sem] theorem T_43 : T.ty 43 = ty43 := rfl
@[go_sem] theorem k_43 : ty43.k = .struct [(0, 3, "Kind"), (1, 9, "Name"), (2, 3, "Ver"), (3, 3, "Port"), (4, 9, "To"), (5, 40, "Rules"), (6, 41, "Hosts")] := rfl
@[go_sem] theorem sz_43 : ty43.sz = 7 := rfl
@[go_sem] theorem by_43 : ty43.bytes = 104 := rfl
@[go_sem] theorem zero_43 : ty43.zero = [.int .i64 0, .str [], .int .i64 0, .int .i64 0, .str [], .slice true [], .slice true []] := rfl
@[go_sem] theorem T_44 : T.ty 44 = ty44 := rfl
@[go_sem] theorem k_44 : ty44.k = .func := rfl
@[go_sem] theorem sz_44 : ty44.sz = 1 := rfl
@[go_sem] theorem by_44 : ty44.bytes = 8 := rfl
@[go_sem] theorem zero_44 : ty44.zero = [.nilf] := rfl
@[go_sem] theorem T_46 : T.ty 46 = ty46 := rfl
@[go_sem] theorem k_46 : ty46.k = .func := rfl
@[go_sem] theorem sz_46 : ty46.sz = 1 := rfl
@[go_sem] theorem by_46 : ty46.bytes = 8 := rfl
@[go_sem] theorem zero_46 : ty46.zero = [.nilf] := rfl
@[go_sem] theorem T_47 : T.ty 47 = ty47 := rfl
@[go_sem] theorem k_47 : ty47.k = .func := rfl
@[go_sem] theorem sz_47 : ty47.sz = 1 := rfl
@[go_sem] theorem by_47 : ty47.bytes = 8 := rfl
@[go_sem] theorem zero_47 : ty47.zero = [.nilf] := rfl
@[go_sem] theorem T_48 : T.ty 48 = ty48 := rfl
@[go_sem] theorem k_48 : ty48.k = .func := rfl
@[go_sem] theorem sz_48 : ty48.sz = 1 := rfl
@[go_sem] theorem by_48 : ty48.bytes = 8 := rfl
@[go_sem] theorem zero_48 : ty48.zero = [.nilf] := rfl
@[go_sem] theorem T_49 : T.ty 49 = ty49 := rfl
@[go_sem] theorem k_49 : ty49.k = .func := rfl
@[go_sem] theorem sz_49 : ty49.sz = 1 := rfl
@[go_sem] theorem by_49 : ty49.bytes = 8 := rfl
@[go_sem] theorem zero_49 : ty49.zero = [.nilf] := rfl
@[go_sem] theorem T_50 : T.ty 50 = ty50 := rfl
@[go_sem] theorem k_50 : ty50.k = .int .i64 := rfl
@[go_sem] theorem sz_50 : ty50.sz = 1 := rfl
@[go_sem] theorem by_50 : ty50.bytes = 8 := rfl
@[go_sem] theorem zero_50 : ty50.zero = [.int .i64 0] := rfl
@[go_sem] theorem T_52 : T.ty 52 = ty52 := rfl
@[go_sem] theorem k_52 : ty52.k = .func := rfl
@[go_sem] theorem sz_52 : ty52.sz = 1 := rfl
@[go_sem] theorem by_52 : ty52.bytes = 8 := rfl
@[go_sem] theorem zero_52 : ty52.zero = [.nilf] := rfl
@[go_sem] theorem T_53 : T.ty 53 = ty53 := rfl
@[go_sem] theorem k_53 : ty53.k = .func := rfl
@[go_sem] theorem sz_53 : ty53.sz = 1 := rfl
@[go_sem] theorem by_53 : ty53.bytes = 8 := rfl
@[go_sem] theorem zero_53 : ty53.zero = [.nilf] := rfl
@[go_sem] theorem T_55 : T.ty 55 = ty55 := rfl
@[go_sem] theorem k_55 : ty55.k = .func := rfl
@[go_sem] theorem sz_55 : ty55.sz = 1 := rfl
@[go_sem] theorem by_55 : ty55.bytes = 8 := rfl
@[go_sem] theorem zero_55 : ty55.zero = [.nilf] := rfl
@[go_sem] theorem T_56 : T.ty 56 = ty56 := rfl
@[go_sem] theorem k_56 : ty56.k = .func := rfl
@[go_sem] theorem sz_56 : ty56.sz = 1 := rfl
@[go_sem] theorem by_56 : ty56.bytes = 8 := rfl
@[go_sem] theorem zero_56 : ty56.zero = [.nilf] := rfl
@[go_sem] theorem T_57 : T.ty 57 = ty57 := rfl
@[go_sem] theorem k_57 : ty57.k = .func := rfl
@[go_sem] theorem sz_57 : ty57.sz = 1 := rfl
@[go_sem] theorem by_57 : ty57.bytes = 8 := rfl
@[go_sem] theorem zero_57 : ty57.zero = [.nilf] := rfl
@[go_sem] theorem T_58 : T.ty 58 = ty58 := rfl
@[go_sem] theorem k_58 : ty58.k = .func := rfl
@[go_sem] theorem sz_58 : ty58.sz = 1 := rfl
@[go_sem] theorem by_58 : ty58.bytes = 8 := rfl
@[go_sem] theorem zero_58 : ty58.zero = [.nilf] := rfl
@[go_sem] theorem T_60 : T.ty 60 = ty60 := rfl
@[go_sem] theorem k_60 : ty60.k = .func := rfl
@[go_sem] theorem sz_60 : ty60.sz = 1 := rfl
@[go_sem] theorem by_60 : ty60.bytes = 8 := rfl
@[go_sem] theorem zero_60 : ty60.zero = [.nilf] := rfl
@[go_sem] theorem T_61 : T.ty 61 = ty61 := rfl
@[go_sem] theorem k_61 : ty61.k = .func := rfl
@[go_sem] theorem sz_61 : ty61.sz = 1 := rfl
@[go_sem] theorem by_61 : ty61.bytes = 8 := rfl
@[go_sem] theorem zero_61 : ty61.zero = [.nilf] := rfl
@[go_sem] theorem T_63 : T.ty 63 = ty63 := rfl
@[go_sem] theorem k_63 : ty63.k = .func := rfl
@[go_sem] theorem sz_63 : ty63.sz = 1 := rfl
@[go_sem] theorem by_63 : ty63.bytes = 8 := rfl
@[go_sem] theorem zero_63 : ty63.zero = [.nilf] := rfl
@[go_sem] theorem T_64 : T.ty 64 = ty64 := rfl
@[go_sem] theorem k_64 : ty64.k = .func := rfl
@[go_sem] theorem sz_64 : ty64.sz = 1 := rfl
@[go_sem] theorem by_64 : ty64.bytes = 8 := rfl
@[go_sem] theorem zero_64 : ty64.zero = [.nilf] := rfl
@[go_sem] theorem T_66 : T.ty 66 = ty66 := rfl
@[go_sem] theorem k_66 : ty66.k = .func := rfl
@[go_sem] theorem sz_66 : ty66.sz = 1 := rfl
@[go_sem] theorem by_66 : ty66.bytes = 8 := rfl
@[go_sem] theorem zero_66 : ty66.zero = [.nilf] := rfl
@[go_sem] theorem T_67 : T.ty 67 = ty67 := rfl
@[go_sem] theorem k_67 : ty67.k = .func := rfl
@[go_sem] theorem sz_67 : ty67.sz = 1 := rfl
@[go_sem] theorem by_67 : ty67.bytes = 8 := rfl
@[go_sem] theorem zero_67 : ty67.zero = [.nilf] := rfl
@[go_sem] theorem T_68 : T.ty 68 = ty68 := rfl
@[go_sem] theorem k_68 : ty68.k = .func := rfl
@[go_sem] theorem sz_68 : ty68.sz = 1 := rfl
@[go_sem] theorem by_68 : ty68.bytes = 8 := rfl
@[go_sem] theorem zero_68 : ty68.zero = [.nilf] := rfl
@[go_sem] theorem T_69 : T.ty 69 = ty69 := rfl
@[go_sem] theorem k_69 : ty69.k = .func := rfl
@[go_sem] theorem sz_69 : ty69.sz = 1 := rfl
@[go_sem] theorem by_69 : ty69.bytes = 8 := rfl
@[go_sem] theorem zero_69 : ty69.zero = [.nilf] := rfl
@[go_sem] theorem T_70 : T.ty 70 = ty70 := rfl
@[go_sem] theorem k_70 : ty70.k = .func := rfl
@[go_sem] theorem sz_70 : ty70.sz = 1 := rfl
@[go_sem] theorem by_70 : ty70.bytes = 8 := rfl
@[go_sem] theorem zero_70 : ty70.zero = [.nilf] := rfl
@[go_sem] theorem T_71 : T.ty 71 = ty71 := rfl
@[go_sem] theorem k_71 : ty71.k = .slice 73 := rfl
@[go_sem] theorem sz_71 : ty71.sz = 1 := rfl
@[go_sem] theorem by_71 : ty71.bytes = 24 := rfl
@[go_sem] theorem zero_71 : ty71.zero = [.slice true []] := rfl
@[go_sem] theorem T_72 : T.ty 72 = ty72 := rfl
@[go_sem] theorem k_72 : ty72.k = .struct [(0, 3, "What"), (1, 3, "Id"), (2, 34, "L")] := rfl
@[go_sem] theorem sz_72 : ty72.sz = 3 := rfl
@[go_sem] theorem by_72 : ty72.bytes = 40 := rfl
@[go_sem] theorem zero_72 : ty72.zero = [.int .i64 0, .int .i64 0, .slice true []] := rfl
@[go_sem] theorem T_73 : T.ty 73 = ty73 := rfl
@[go_sem] theorem k_73 : ty73.k = .struct [(0, 3, "What"), (1, 3, "Id"), (2, 34, "L")] := rfl
@[go_sem] theorem sz_73 : ty73.sz = 3 := rfl
@[go_sem] theorem by_73 : ty73.bytes = 40 := rfl
@[go_sem] theorem zero_73 : ty73.zero = [.int .i64 0, .int .i64 0, .slice true []] := rfl
@[go_sem] theorem T_74 : T.ty 74 = ty74 := rfl
@[go_sem] theorem k_74 : ty74.k = .func := rfl
@[go_sem] theorem sz_74 : ty74.sz = 1 := rfl
@[go_sem] theorem by_74 : ty74.bytes = 8 := rfl
@[go_sem] theorem zero_74 : ty74.zero = [.nilf] := rfl
@[go_sem] theorem T_75 : T.ty 75 = ty75 := rfl
@[go_sem] theorem k_75 : ty75.k = .func := rfl
@[go_sem] theorem sz_75 : ty75.sz = 1 := rfl
@[go_sem] theorem by_75 : ty75.bytes = 8 := rfl
@[go_sem] theorem zero_75 : ty75.zero = [.nilf] := rfl
@[go_sem] theorem T_76 : T.ty 76 = ty76 := rfl
@[go_sem] theorem k_76 : ty76.k = .struct [(0, 3, "Id"), (1, 3, "Pins"), (2, 34, "L")] := rfl
@[go_sem] theorem sz_76 : ty76.sz = 3 := rfl
@[go_sem] theorem by_76 : ty76.bytes = 40 := rfl
@[go_sem] theorem zero_76 : ty76.zero = [.int .i64 0, .int .i64 0, .slice true []] := rfl
@[go_sem] theorem T_77 : T.ty 77 = ty77 := rfl
@[go_sem] theorem k_77 : ty77.k = .func := rfl
@[go_sem] theorem sz_77 : ty77.sz = 1 := rfl
@[go_sem] theorem by_77 : ty77.bytes = 8 := rfl
@[go_sem] theorem zero_77 : ty77.zero = [.nilf] := rfl
@[go_sem] theorem T_78 : T.ty 78 = ty78 := rfl
@[go_sem] theorem k_78 : ty78.k = .func := rfl
@[go_sem] theorem sz_78 : ty78.sz = 1 := rfl
@[go_sem] theorem by_78 : ty78.bytes = 8 := rfl
@[go_sem] theorem zero_78 : ty78.zero = [.nilf] := rfl
@[go_sem] theorem T_79 : T.ty 79 = ty79 := rfl
@[go_sem] theorem k_79 : ty79.k = .func := rfl
@[go_sem] theorem sz_79 : ty79.sz = 1 := rfl
@[go_sem] theorem by_79 : ty79.bytes = 8 := rfl
@[go_sem] theorem zero_79 : ty79.zero = [.nilf] := rfl
@[go_sem] theorem T_80 : T.ty 80 = ty80 := rfl
@[go_sem] theorem k_80 : ty80.k = .func := rfl
@[go_sem] theorem sz_80 : ty80.sz = 1 := rfl
@[go_sem] theorem by_80 : ty80.bytes = 8 := rfl
@[go_sem] theorem zero_80 : ty80.zero = [.nilf] := rfl
@[go_sem] theorem T_81 : T.ty 81 = ty81 := rfl
@[go_sem] theorem k_81 : ty81.k = .func := rfl
@[go_sem] theorem sz_81 : ty81.sz = 1 := rfl
@[go_sem] theorem by_81 : ty81.bytes = 8 := rfl
@[go_sem] theorem zero_81 : ty81.zero = [.nilf] := rfl
@[go_sem] theorem T_82 : T.ty 82 = ty82 := rfl
@[go_sem] theorem k_82 : ty82.k = .func := rfl
@[go_sem] theorem sz_82 : ty82.sz = 1 := rfl
@[go_sem] theorem by_82 : ty82.bytes = 8 := rfl
@[go_sem] theorem zero_82 : ty82.zero = [.nilf] := rfl
@[go_sem] theorem T_83 : T.ty 83 = ty83 := rfl
@[go_sem] theorem k_83 : ty83.k = .func := rfl
@[go_sem] theorem sz_83 : ty83.sz = 1 := rfl
@[go_sem] theorem by_83 : ty83.bytes = 8 := rfl
@[go_sem] theorem zero_83 : ty83.zero = [.nilf] := rfl
@[go_sem] theorem T_84 : T.ty 84 = ty84 := rfl
@[go_sem] theorem k_84 : ty84.k = .func := rfl
@[go_sem] theorem sz_84 : ty84.sz = 1 := rfl
@[go_sem] theorem by_84 : ty84.bytes = 8 := rfl
@[go_sem] theorem zero_84 : ty84.zero = [.nilf] := rfl
@[go_sem] theorem T_85 : T.ty 85 = ty85 := rfl
@[go_sem] theorem k_85 : ty85.k = .func := rfl
@[go_sem] theorem sz_85 : ty85.sz = 1 := rfl
@[go_sem] theorem by_85 : ty85.bytes = 8 := rfl
@[go_sem] theorem zero_85 : ty85.zero = [.nilf] := rfl
@[go_sem] theorem T_86 : T.ty 86 = ty86 := rfl
@[go_sem] theorem k_86 : ty86.k = .func := rfl
@[go_sem] theorem sz_86 : ty86.sz = 1 := rfl
@[go_sem] theorem by_86 : ty86.bytes = 8 := rfl
@[go_sem] theorem zero_86 : ty86.zero = [.nilf] := rfl
@[go_sem] theorem T_87 : T.ty 87 = ty87 := rfl
@[go_sem] theorem k_87 : ty87.k = .func := rfl
@[go_sem] theorem sz_87 : ty87.sz = 1 := rfl
@[go_sem] theorem by_87 : ty87.bytes = 8 := rfl
@[go_sem] theorem zero_87 : ty87.zero = [.nilf] := rfl
@[go_sem] theorem T_88 : T.ty 88 = ty88 := rfl
@[go_sem] theorem k_88 : ty88.k = .func := rfl
@[go_sem] theorem sz_88 : ty88.sz = 1 := rfl
@[go_sem] theorem by_88 : ty88.bytes = 8 := rfl
@[go_sem] theorem zero_88 : ty88.zero = [.nilf] := rfl
@[go_sem] theorem T_89 : T.ty 89 = ty89 := rfl
@[go_sem] theorem k_89 : ty89.k = .func := rfl
@[go_sem] theorem sz_89 : ty89.sz = 1 := rfl
@[go_sem] theorem by_89 : ty89.bytes = 8 := rfl
@[go_sem] theorem zero_89 : ty89.zero = [.nilf] := rfl
@[go_sem] theorem T_90 : T.ty 90 = ty90 := rfl
@[go_sem] theorem k_90 : ty90.k = .func := rfl
@[go_sem] theorem sz_90 : ty90.sz = 1 := rfl
@[go_sem] theorem by_90 : ty90.bytes = 8 := rfl
@[go_sem] theorem zero_90 : ty90.zero = [.nilf] := rfl
@[go_sem] theorem T_91 : T.ty 91 = ty91 := rfl
@[go_sem] theorem k_91 : ty91.k = .func := rfl
@[go_sem] theorem sz_91 : ty91.sz = 1 := rfl
@[go_sem] theorem by_91 : ty91.bytes = 8 := rfl
@[go_sem] theorem zero_91 : ty91.zero = [.nilf] := rfl
@[go_sem] theorem T_92 : T.ty 92 = ty92 := rfl
@[go_sem] theorem k_92 : ty92.k = .func := rfl
@[go_sem] theorem sz_92 : ty92.sz = 1 := rfl
@[go_sem] theorem by_92 : ty92.bytes = 8 := rfl
@[go_sem] theorem zero_92 : ty92.zero = [.nilf] := rfl
@[go_sem] theorem T_93 : T.ty 93 = ty93 := rfl
@[go_sem] theorem k_93 : ty93.k = .func := rfl
@[go_sem] theorem sz_93 : ty93.sz = 1 := rfl
@[go_sem] theorem by_93 : ty93.bytes = 8 := rfl
@[go_sem] theorem zero_93 : ty93.zero = [.nilf] := rfl
@[go_sem] theorem T_94 : T.ty 94 = ty94 := rfl
@[go_sem] theorem k_94 : ty94.k = .func := rfl
@[go_sem] theorem sz_94 : ty94.sz = 1 := rfl
@[go_sem] theorem by_94 : ty94.bytes = 8 := rfl
@[go_sem] theorem zero_94 : ty94.zero = [.nilf] := rfl
@[go_sem] theorem T_95 : T.ty 95 = ty95 := rfl
@[go_sem] theorem k_95 : ty95.k = .func := rfl
@[go_sem] theorem sz_95 : ty95.sz = 1 := rfl
@[go_sem] theorem by_95 : ty95.bytes = 8 := rfl
@[go_sem] theorem zero_95 : ty95.zero = [.nilf] := rfl
@[go_sem] theorem T_96 : T.ty 96 = ty96 := rfl
@[go_sem] theorem k_96 : ty96.k = .func := rfl
@[go_sem] theorem sz_96 : ty96.sz = 1 := rfl
@[go_sem] theorem by_96 : ty96.bytes = 8 := rfl
@[go_sem] theorem zero_96 : ty96.zero = [.nilf] := rfl
@[go_sem] theorem T_97 : T.ty 97 = ty97 := rfl
@[go_sem] theorem k_97 : ty97.k = .func := rfl
@[go_sem] theorem sz_97 : ty97.sz = 1 := rfl
@[go_sem] theorem by_97 : ty97.bytes = 8 := rfl
@[go_sem] theorem zero_97 : ty97.zero = [.nilf] := rfl
@[go_sem] theorem T_98 : T.ty 98 = ty98 := rfl
@[go_sem] theorem k_98 : ty98.k = .int .u64 := rfl
@[go_sem] theorem sz_98 : ty98.sz = 1 := rfl
@[go_sem] theorem by_98 : ty98.bytes = 8 := rfl
@[go_sem] theorem zero_98 : ty98.zero = [.int .u64 0] := rfl
@[go_sem] theorem T_99 : T.ty 99 = ty99 := rfl
@[go_sem] theorem k_99 : ty99.k = .func := rfl
@[go_sem] theorem sz_99 : ty99.sz = 1 := rfl
@[go_sem] theorem by_99 : ty99.bytes = 8 := rfl
@[go_sem] theorem zero_99 : ty99.zero = [.nilf] := rfl
@[go_sem] theorem T_100 : T.ty 100 = ty100 := rfl
@[go_sem] theorem k_100 : ty100.k = .slice 124 := rfl
@[go_sem] theorem sz_100 : ty100.sz = 1 := rfl
@[go_sem] theorem by_100 : ty100.bytes = 24 := rfl
@[go_sem] theorem zero_100 : ty100.zero = [.slice true []] := rfl
@[go_sem] theorem T_101 : T.ty 101 = ty101 := rfl
@[go_sem] theorem k_101 : ty101.k = .struct [(0, 9, "Host"), (1, 9, "Prefix"), (2, 100, "Split")] := rfl
@[go_sem] theorem sz_101 : ty101.sz = 3 := rfl
@[go_sem] theorem by_101 : ty101.bytes = 56 := rfl
@[go_sem] theorem zero_101 : ty101.zero = [.str [], .str [], .slice true []] := rfl
@[go_sem] theorem T_102 : T.ty 102 = ty102 := rfl
@[go_sem] theorem k_102 : ty102.k = .struct [(0, 9, "Host"), (1, 9, "Prefix"), (2, 100, "Split")] := rfl
@[go_sem] theorem sz_102 : ty102.sz = 3 := rfl
@[go_sem] theorem by_102 : ty102.bytes = 56 := rfl
@[go_sem] theorem zero_102 : ty102.zero = [.str [], .str [], .slice true []] := rfl
@[go_sem] theorem T_103 : T.ty 103 = ty103 := rfl
@[go_sem] theorem k_103 : ty103.k = .func := rfl
@[go_sem] theorem sz_103 : ty103.sz = 1 := rfl
@[go_sem] theorem by_103 : ty103.bytes = 8 := rfl
@[go_sem] theorem zero_103 : ty103.zero = [.nilf] := rfl
@[go_sem] theorem T_104 : T.ty 104 = ty104 := rfl
@[go_sem] theorem k_104 : ty104.k = .func := rfl
@[go_sem] theorem sz_104 : ty104.sz = 1 := rfl
@[go_sem] theorem by_104 : ty104.bytes = 8 := rfl
@[go_sem] theorem zero_104 : ty104.zero = [.nilf] := rfl
@[go_sem] theorem T_105 : T.ty 105 = ty105 := rfl
@[go_sem] theorem k_105 : ty105.k = .int .i64 := rfl
@[go_sem] theorem sz_105 : ty105.sz = 1 := rfl
@[go_sem] theorem by_105 : ty105.bytes = 8 := rfl
@[go_sem] theorem zero_105 : ty105.zero = [.int .i64 0] := rfl
@[go_sem] theorem T_107 : T.ty 107 = ty107 := rfl
@[go_sem] theorem k_107 : ty107.k = .func := rfl
@[go_sem] theorem sz_107 : ty107.sz = 1 := rfl
@[go_sem] theorem by_107 : ty107.bytes = 8 := rfl
@[go_sem] theorem zero_107 : ty107.zero = [.nilf] := rfl
@[go_sem] theorem T_108 : T.ty 108 = ty108 := rfl
@[go_sem] theorem k_108 : ty108.k = .func := rfl
@[go_sem] theorem sz_108 : ty108.sz = 1 := rfl
@[go_sem] theorem by_108 : ty108.bytes = 8 := rfl
@[go_sem] theorem zero_108 : ty108.zero = [.nilf] := rfl
@[go_sem] theorem T_109 : T.ty 109 = ty109 := rfl
@[go_sem] theorem k_109 : ty109.k = .func := rfl
@[go_sem] theorem sz_109 : ty109.sz = 1 := rfl
@[go_sem] theorem by_109 : ty109.bytes = 8 := rfl
@[go_sem] theorem zero_109 : ty109.zero = [.nilf] := rfl
@[go_sem] theorem T_111 : T.ty 111 = ty111 := rfl
@[go_sem] theorem k_111 : ty111.k = .func := rfl
@[go_sem] theorem sz_111 : ty111.sz = 1 := rfl
@[go_sem] theorem by_111 : ty111.bytes = 8 := rfl
@[go_sem] theorem zero_111 : ty111.zero = [.nilf] := rfl
@[go_sem] theorem T_112 : T.ty 112 = ty112 := rfl
@[go_sem] theorem k_112 : ty112.k = .func := rfl
@[go_sem] theorem sz_112 : ty112.sz = 1 := rfl
@[go_sem] theorem by_112 : ty112.bytes = 8 := rfl
@[go_sem] theorem zero_112 : ty112.zero = [.nilf] := rfl
@[go_sem] theorem T_113 : T.ty 113 = ty113 := rfl
@[go_sem] theorem k_113 : ty113.k = .int .u32 := rfl
@[go_sem] theorem sz_113 : ty113.sz = 1 := rfl
@[go_sem] theorem by_113 : ty113.bytes = 4 := rfl
@[go_sem] theorem zero_113 : ty113.zero = [.int .u32 0] := rfl
@[go_sem] theorem T_114 : T.ty 114 = ty114 := rfl
@[go_sem] theorem k_114 : ty114.k = .func := rfl
@[go_sem] theorem sz_114 : ty114.sz = 1 := rfl
@[go_sem] theorem by_114 : ty114.bytes = 8 := rfl
@[go_sem] theorem zero_114 : ty114.zero = [.nilf] := rfl
@[go_sem] theorem T_115 : T.ty 115 = ty115 := rfl
@[go_sem] theorem k_115 : ty115.k = .int .u64 := rfl
@[go_sem] theorem sz_115 : ty115.sz = 1 := rfl
@[go_sem] theorem by_115 : ty115.bytes = 8 := rfl
@[go_sem] theorem zero_115 : ty115.zero = [.int .u64 0] := rfl
@[go_sem] theorem T_116 : T.ty 116 = ty116 := rfl
@[go_sem] theorem k_116 : ty116.k = .func := rfl
@[go_sem] theorem sz_116 : ty116.sz = 1 := rfl
@[go_sem] theorem by_116 : ty116.bytes = 8 := rfl
@[go_sem] theorem zero_116 : ty116.zero = [.nilf] := rfl
@[go_sem] theorem T_117 : T.ty 117 = ty117 := rfl
@[go_sem] theorem k_117 : ty117.k = .int .u64 := rfl
@[go_sem] theorem sz_117 : ty117.sz = 1 := rfl
@[go_sem] theorem by_117 : ty117.bytes = 8 := rfl
@[go_sem] theorem zero_117 : ty117.zero = [.int .u64 0] := rfl
@[go_sem] theorem T_118 : T.ty 118 = ty118 := rfl
@[go_sem] theorem k_118 : ty118.k = .func := rfl
@[go_sem] theorem sz_118 : ty118.sz = 1 := rfl
@[go_sem] theorem by_118 : ty118.bytes = 8 := rfl
@[go_sem] theorem zero_118 : ty118.zero = [.nilf] := rfl
@[go_sem] theorem T_119 : T.ty 119 = ty119 := rfl
@[go_sem] theorem k_119 : ty119.k = .func := rfl
@[go_sem] theorem sz_119 : ty119.sz = 1 := rfl
@[go_sem] theorem by_119 : ty119.bytes = 8 := rfl
@[go_sem] theorem zero_119 : ty119.zero = [.nilf] := rfl
@[go_sem] theorem T_120 : T.ty 120 = ty120 := rfl
@[go_sem] theorem k_120 : ty120.k = .func := rfl
@[go_sem] theorem sz_120 : ty120.sz = 1 := rfl
@[go_sem] theorem by_120 : ty120.bytes = 8 := rfl
@[go_sem] theorem zero_120 : ty120.zero = [.nilf] := rfl
@[go_sem] theorem T_121 : T.ty 121 = ty121 := rfl
@[go_sem] theorem k_121 : ty121.k = .ptr 3 := rfl
@[go_sem] theorem sz_121 : ty121.sz = 1 := rfl
@[go_sem] theorem by_121 : ty121.bytes = 8 := rfl
@[go_sem] theorem zero_121 : ty121.zero = [.nilp] := rfl
@[go_sem] theorem T_122 : T.ty 122 = ty122 := rfl
@[go_sem] theorem k_122 : ty122.k = .func := rfl
@[go_sem] theorem sz_122 : ty122.sz = 1 := rfl
@[go_sem] theorem by_122 : ty122.bytes = 8 := rfl
@[go_sem] theorem zero_122 : ty122.zero = [.nilf] := rfl
@[go_sem] theorem T_123 : T.ty 123 = ty123 := rfl
@[go_sem] theorem k_123 : ty123.k = .struct [(0, 9, "Cluster"), (1, 3, "W")] := rfl
@[go_sem] theorem sz_123 : ty123.sz = 2 := rfl
@[go_sem] theorem by_123 : ty123.bytes = 24 := rfl
@[go_sem] theorem zero_123 : ty123.zero = [.str [], .int .i64 0] := rfl
@[go_sem] theorem T_124 : T.ty 124 = ty124 := rfl
@[go_sem] theorem k_124 : ty124.k = .struct [(0, 9, "Cluster"), (1, 3, "W")] := rfl
@[go_sem] theorem sz_124 : ty124.sz = 2 := rfl
@[go_sem] theorem by_124 : ty124.bytes = 24 := rfl
@[go_sem] theorem zero_124 : ty124.zero = [.str [], .int .i64 0] := rfl
@[go_sem] theorem T_125 : T.ty 125 = ty125 := rfl
@[go_sem] theorem k_125 : ty125.k = .ptr 117 := rfl
@[go_sem] theorem sz_125 : ty125.sz = 1 := rfl
@[go_sem] theorem by_125 : ty125.bytes = 8 := rfl
@[go_sem] theorem zero_125 : ty125.zero = [.nilp] := rfl
@[go_sem] theorem T_127 : T.ty 127 = ty127 := rfl
@[go_sem] theorem k_127 : ty127.k = .func := rfl
@[go_sem] theorem sz_127 : ty127.sz = 1 := rfl
@[go_sem] theorem by_127 : ty127.bytes = 8 := rfl
@[go_sem] theorem zero_127 : ty127.zero = [.nilf] := rfl
@[go_sem] theorem T_128 : T.ty 128 = ty128 := rfl
@[go_sem] theorem k_128 : ty128.k = .func := rfl
@[go_sem] theorem sz_128 : ty128.sz = 1 := rfl
@[go_sem] theorem by_128 : ty128.bytes = 8 := rfl
@[go_sem] theorem zero_128 : ty128.zero = [.nilf] := rfl
@[go_sem] theorem T_129 : T.ty 129 = ty129 := rfl
@[go_sem] theorem k_129 : ty129.k = .struct [(0, 17, "_interface"), (1, 17, "concrete"), (2, 17, "asserted"), (3, 9, "missingMethod")] := rfl
@[go_sem] theorem sz_129 : ty129.sz = 4 := rfl
@[go_sem] theorem by_129 : ty129.bytes = 40 := rfl
@[go_sem] theorem zero_129 : ty129.zero = [.nilp, .nilp, .nilp, .str []] := rfl
@[go_sem] theorem T_130 : T.ty 130 = ty130 := rfl
@[go_sem] theorem k_130 : ty130.k = .struct [(0, 17, "_interface"), (1, 17, "concrete"), (2, 17, "asserted"), (3, 9, "missingMethod")] := rfl
@[go_sem] theorem sz_130 : ty130.sz = 4 := rfl
@[go_sem] theorem by_130 : ty130.bytes = 40 := rfl
@[go_sem] theorem zero_130 : ty130.zero = [.nilp, .nilp, .nilp, .str []] := rfl
@[go_sem] theorem T_131 : T.ty 131 = ty131 := rfl
@[go_sem] theorem k_131 : ty131.k = .array 0 16 := rfl
@[go_sem] theorem sz_131 : ty131.sz = 0 := rfl
@[go_sem] theorem by_131 : ty131.bytes = 0 := rfl
@[go_sem] theorem zero_131 : ty131.zero = [] := rfl
@[go_sem] theorem T_132 : T.ty 132 = ty132 := rfl
@[go_sem] theorem k_132 : ty132.k = .struct [(0, 131, "_")] := rfl
@[go_sem] theorem sz_132 : ty132.sz = 0 := rfl
@[go_sem] theorem by_132 : ty132.bytes = 0 := rfl
@[go_sem] theorem zero_132 : ty132.zero = [] := rfl
@[go_sem] theorem T_133 : T.ty 133 = ty133 := rfl
@[go_sem] theorem k_133 : ty133.k = .struct [(0, 131, "_")] := rfl
@[go_sem] theorem sz_133 : ty133.sz = 0 := rfl
@[go_sem] theorem by_133 : ty133.bytes = 0 := rfl
@[go_sem] theorem zero_133 : ty133.zero = [] := rfl
@[go_sem] theorem T_134 : T.ty 134 = ty134 := rfl
@[go_sem] theorem k_134 : ty134.k = .int .u8 := rfl
@[go_sem] theorem sz_134 : ty134.sz = 1 := rfl
@[go_sem] theorem by_134 : ty134.bytes = 1 := rfl
@[go_sem] theorem zero_134 : ty134.zero = [.int .u8 0] := rfl
@[go_sem] theorem T_135 : T.ty 135 = ty135 := rfl
@[go_sem] theorem k_135 : ty135.k = .int .u8 := rfl
@[go_sem] theorem sz_135 : ty135.sz = 1 := rfl
@[go_sem] theorem by_135 : ty135.bytes = 1 := rfl
@[go_sem] theorem zero_135 : ty135.zero = [.int .u8 0] := rfl
@[go_sem] theorem T_136 : T.ty 136 = ty136 := rfl
@[go_sem] theorem k_136 : ty136.k = .func := rfl
@[go_sem] theorem sz_136 : ty136.sz = 1 := rfl
@[go_sem] theorem by_136 : ty136.bytes = 8 := rfl
@[go_sem] theorem zero_136 : ty136.zero = [.nilf] := rfl
@[go_sem] theorem T_137 : T.ty 137 = ty137 := rfl
@[go_sem] theorem k_137 : ty137.k = .ptr 5 := rfl
@[go_sem] theorem sz_137 : ty137.sz = 1 := rfl
@[go_sem] theorem by_137 : ty137.bytes = 8 := rfl
@[go_sem] theorem zero_137 : ty137.zero = [.nilp] := rfl
@[go_sem] theorem T_138 : T.ty 138 = ty138 := rfl
@[go_sem] theorem k_138 : ty138.k = .int .i32 := rfl
@[go_sem] theorem sz_138 : ty138.sz = 1 := rfl
@[go_sem] theorem by_138 : ty138.bytes = 4 := rfl
@[go_sem] theorem zero_138 : ty138.zero = [.int .i32 0] := rfl
@[go_sem] theorem T_139 : T.ty 139 = ty139 := rfl
@[go_sem] theorem k_139 : ty139.k = .int .i32 := rfl
@[go_sem] theorem sz_139 : ty139.sz = 1 := rfl
@[go_sem] theorem by_139 : ty139.bytes = 4 := rfl
@[go_sem] theorem zero_139 : ty139.zero = [.int .i32 0] := rfl
@[go_sem] theorem T_140 : T.ty 140 = ty140 := rfl
@[go_sem] theorem k_140 : ty140.k = .struct [(0, 12, "Size_"), (1, 12, "PtrBytes"), (2, 113, "Hash"), (3, 134, "TFlag"), (4, 5, "Align_"), (5, 5, "FieldAlign_"), (6, 135, "Kind_"), (7, 136, "Equal"), (8, 137, "GCData"), (9, 138, "Str"), (10, 139, "PtrToThis")] := rfl
@[go_sem] theorem sz_140 : ty140.sz = 11 := rfl
@[go_sem] theorem by_140 : ty140.bytes = 48 := rfl
@[go_sem] theorem zero_140 : ty140.zero = [.int .u64 0, .int .u64 0, .int .u32 0, .int .u8 0, .int .u8 0, .int .u8 0, .int .u8 0, .nilf, .nilp, .int .i32 0, .int .i32 0] := rfl
@[go_sem] theorem T_141 : T.ty 141 = ty141 := rfl
@[go_sem] theorem k_141 : ty141.k = .struct [(0, 12, "Size_"), (1, 12, "PtrBytes"), (2, 113, "Hash"), (3, 134, "TFlag"), (4, 5, "Align_"), (5, 5, "FieldAlign_"), (6, 135, "Kind_"), (7, 136, "Equal"), (8, 137, "GCData"), (9, 138, "Str"), (10, 139, "PtrToThis")] := rfl
@[go_sem] theorem sz_141 : ty141.sz = 11 := rfl
@[go_sem] theorem by_141 : ty141.bytes = 48 := rfl
@[go_sem] theorem zero_141 : ty141.zero = [.int .u64 0, .int .u64 0, .int .u32 0, .int .u8 0, .int .u8 0, .int .u8 0, .int .u8 0, .nilf, .nilp, .int .i32 0, .int .i32 0] := rfl
@[go_sem] theorem eqg_38 : Try.prog.eqGuardType Try.prog.depth 38 = false := by kernel_rfl
@[go_sem] theorem sth_38 : Try.prog.stoodInHeld 38 = false := by kernel_rfl
@[go_sem] theorem eqg_124 : Try.prog.eqGuardType Try.prog.depth 124 = false := by kernel_rfl
@[go_sem] theorem sth_124 : Try.prog.stoodInHeld 124 = false := by kernel_rfl
theorem mixed : Try.prog.follows .mixedOrders = true := by kernel_rfl
end Go.Proofs.Ytjmnokbbodcaaaa.Lg
