/- Parts of the proof, one behind the other. -/
import Derived.Test.YthjalhfmpffbjaaGreatDoorProg
import Derived.Test.YthjalhfmpffbjaaGreatDoorG02
namespace Go.Proofs.YthjalhfmpffbjaaGreatDoor.Lg
open Go
set_option linter.unusedVariables false
set_option linter.unusedSimpArgs false
set_option maxRecDepth 100000
theorem Jd{i:Nat}{ti:TypeInfo}(h:Tryz.prog.types[i]?=some ti):Tryz.prog.info? i=some ti:=by
 have hlt:i<Tryz.prog.types.size:=(Array.getElem?_eq_some_iff.1 h).1
 simp only[Tables.info?,if_pos hlt,h]
def ty1:TyI:=⟨.func,1,8,[.nilf]⟩
theorem Jov:Jl Tryz.prog 1 ty1:=.inr ⟨Tryz.t1,Jd Tryz.type1,rfl,rfl,⟨_,rfl,rfl,rfl⟩,_,Tryz.underlying1,rfl⟩
theorem Jp5:Jm Tryz.prog 1 ty1:=.inr ⟨Tryz.t1,_,Jd Tryz.type1,rfl,rfl⟩
def ty2:TyI:=⟨.int .i64,1,8,[.int .i64 0]⟩
theorem JoW:Jl Tryz.prog 2 ty2:=.inr ⟨Tryz.t2,Jd Tryz.type2,rfl,rfl,⟨_,rfl,rfl,rfl⟩,_,Tryz.underlying2,rfl⟩
theorem Jqw:Jm Tryz.prog 2 ty2:=.inr ⟨Tryz.t2,_,Jd Tryz.type2,rfl,rfl⟩
def ty3:TyI:=⟨.int .i64,1,8,[.int .i64 0]⟩
theorem Jpm:Jl Tryz.prog 3 ty3:=.inr ⟨Tryz.t3,Jd Tryz.type3,rfl,rfl,⟨_,rfl,rfl,rfl⟩,_,Tryz.underlying3,rfl⟩
theorem JqW:Jm Tryz.prog 3 ty3:=.inr ⟨Tryz.t3,_,Jd Tryz.type3,rfl,rfl⟩
def ty4:TyI:=⟨.bool,1,1,[.bool false]⟩
theorem JpE:Jl Tryz.prog 4 ty4:=.inr ⟨Tryz.t4,Jd Tryz.type4,rfl,rfl,⟨_,rfl,rfl,rfl⟩,_,Tryz.underlying4,rfl⟩
theorem Jre:Jm Tryz.prog 4 ty4:=.inr ⟨Tryz.t4,_,Jd Tryz.type4,rfl,rfl⟩
def ty5:TyI:=⟨.int .u8,1,1,[.int .u8 0]⟩
theorem JpN:Jl Tryz.prog 5 ty5:=.inr ⟨Tryz.t5,Jd Tryz.type5,rfl,rfl,⟨_,rfl,rfl,rfl⟩,_,Tryz.underlying5,rfl⟩
theorem Jrn:Jm Tryz.prog 5 ty5:=.inr ⟨Tryz.t5,_,Jd Tryz.type5,rfl,rfl⟩
def ty6:TyI:=⟨.int .u8,1,1,[.int .u8 0]⟩
theorem JpU:Jl Tryz.prog 6 ty6:=.inr ⟨Tryz.t6,Jd Tryz.type6,rfl,rfl,⟨_,rfl,rfl,rfl⟩,_,Tryz.underlying6,rfl⟩
theorem Jru:Jm Tryz.prog 6 ty6:=.inr ⟨Tryz.t6,_,Jd Tryz.type6,rfl,rfl⟩
def ty7 : TyI := ⟨.struct [(0, 2, "x"), (1, 3, "y"), (2, 4, "signed"), (3, 6, "code")], 4, 24, [.int .i64 0, .int .i64 0, .bool false, .int .u8 0]⟩
theorem JpW:Jl Tryz.prog 7 ty7:=.inr ⟨Tryz.t7,Jd Tryz.type7,rfl,rfl,⟨_,rfl,rfl,rfl⟩,_,Tryz.underlying7,rfl⟩
theorem Jrw:Jm Tryz.prog 7 ty7:=.inr ⟨Tryz.t7,_,Jd Tryz.type7,rfl,rfl⟩
def ty8 : TyI := ⟨.struct [(0, 2, "x"), (1, 3, "y"), (2, 4, "signed"), (3, 6, "code")], 4, 24, [.int .i64 0, .int .i64 0, .bool false, .int .u8 0]⟩
theorem JpZ:Jl Tryz.prog 8 ty8:=.inr ⟨Tryz.t8,Jd Tryz.type8,rfl,rfl,⟨_,rfl,rfl,rfl⟩,_,Tryz.underlying8,rfl⟩
theorem Jrz:Jm Tryz.prog 8 ty8:=.inr ⟨Tryz.t8,_,Jd Tryz.type8,rfl,rfl⟩
def ty9:TyI:=⟨.str,1,16,[.str []]⟩
theorem Jp2:Jl Tryz.prog 9 ty9:=.inr ⟨Tryz.t9,Jd Tryz.type9,rfl,rfl,⟨_,rfl,rfl,rfl⟩,_,Tryz.underlying9,rfl⟩
theorem JrC:Jm Tryz.prog 9 ty9:=.inr ⟨Tryz.t9,_,Jd Tryz.type9,rfl,rfl⟩
def ty10:TyI:=⟨.str,1,16,[.str []]⟩
theorem Jow:Jl Tryz.prog 10 ty10:=.inr ⟨Tryz.t10,Jd Tryz.type10,rfl,rfl,⟨_,rfl,rfl,rfl⟩,_,Tryz.underlying10,rfl⟩
theorem Jp6:Jm Tryz.prog 10 ty10:=.inr ⟨Tryz.t10,_,Jd Tryz.type10,rfl,rfl⟩
def ty11:TyI:=⟨.str,1,16,[.str []]⟩
theorem JoB:Jl Tryz.prog 11 ty11:=.inr ⟨Tryz.t11,Jd Tryz.type11,rfl,rfl,⟨_,rfl,rfl,rfl⟩,_,Tryz.underlying11,rfl⟩
theorem Jqb:Jm Tryz.prog 11 ty11:=.inr ⟨Tryz.t11,_,Jd Tryz.type11,rfl,rfl⟩
def ty12:TyI:=⟨.int .u64,1,8,[.int .u64 0]⟩
theorem JoG:Jl Tryz.prog 12 ty12:=.inr ⟨Tryz.t12,Jd Tryz.type12,rfl,rfl,⟨_,rfl,rfl,rfl⟩,_,Tryz.underlying12,rfl⟩
theorem Jqg:Jm Tryz.prog 12 ty12:=.inr ⟨Tryz.t12,_,Jd Tryz.type12,rfl,rfl⟩
def ty13 : TyI := ⟨.struct [(0, 9, "msg"), (1, 12, "addr")], 2, 24, [.str [], .int .u64 0]⟩
theorem JoJ:Jl Tryz.prog 13 ty13:=.inr ⟨Tryz.t13,Jd Tryz.type13,rfl,rfl,⟨_,rfl,rfl,rfl⟩,_,Tryz.underlying13,rfl⟩
theorem Jqj:Jm Tryz.prog 13 ty13:=.inr ⟨Tryz.t13,_,Jd Tryz.type13,rfl,rfl⟩
def ty14 : TyI := ⟨.struct [(0, 9, "msg"), (1, 12, "addr")], 2, 24, [.str [], .int .u64 0]⟩
theorem JoL:Jl Tryz.prog 14 ty14:=.inr ⟨Tryz.t14,Jd Tryz.type14,rfl,rfl,⟨_,rfl,rfl,rfl⟩,_,Tryz.underlying14,rfl⟩
theorem Jql:Jm Tryz.prog 14 ty14:=.inr ⟨Tryz.t14,_,Jd Tryz.type14,rfl,rfl⟩
def ty15:TyI:=⟨.ptr 309,1,8,[.nilp]⟩
theorem JoN:Jl Tryz.prog 15 ty15:=.inr ⟨Tryz.t15,Jd Tryz.type15,rfl,rfl,⟨_,rfl,rfl,rfl⟩,_,Tryz.underlying15,rfl⟩
theorem Jqn:Jm Tryz.prog 15 ty15:=.inr ⟨Tryz.t15,_,Jd Tryz.type15,rfl,rfl⟩
def ty16:TyI:=⟨.ptr 312,1,8,[.nilp]⟩
theorem JoO:Jl Tryz.prog 16 ty16:=.inr ⟨Tryz.t16,Jd Tryz.type16,rfl,rfl,⟨_,rfl,rfl,rfl⟩,_,Tryz.underlying16,rfl⟩
theorem Jqo:Jm Tryz.prog 16 ty16:=.inr ⟨Tryz.t16,_,Jd Tryz.type16,rfl,rfl⟩
def ty17:TyI:=⟨.ptr 320,1,8,[.nilp]⟩
theorem JoR:Jl Tryz.prog 17 ty17:=.inr ⟨Tryz.t17,Jd Tryz.type17,rfl,rfl,⟨_,rfl,rfl,rfl⟩,_,Tryz.underlying17,rfl⟩
theorem Jqr:Jm Tryz.prog 17 ty17:=.inr ⟨Tryz.t17,_,Jd Tryz.type17,rfl,rfl⟩
def ty18 : TyI := ⟨.struct [(0, 17, "typ")], 1, 8, [.nilp]⟩
theorem JoU:Jl Tryz.prog 18 ty18:=.inr ⟨Tryz.t18,Jd Tryz.type18,rfl,rfl,⟨_,rfl,rfl,rfl⟩,_,Tryz.underlying18,rfl⟩
theorem Jqu:Jm Tryz.prog 18 ty18:=.inr ⟨Tryz.t18,_,Jd Tryz.type18,rfl,rfl⟩
def ty21:TyI:=⟨.int .i32,1,4,[.int .i32 0]⟩
theorem JoZ:Jl Tryz.prog 21 ty21:=.inr ⟨Tryz.t21,Jd Tryz.type21,rfl,rfl,⟨_,rfl,rfl,rfl⟩,_,Tryz.underlying21,rfl⟩
theorem Jqz:Jm Tryz.prog 21 ty21:=.inr ⟨Tryz.t21,_,Jd Tryz.type21,rfl,rfl⟩
def ty22 : TyI := ⟨.struct [(0, 3, "Port"), (1, 9, "Host"), (2, 9, "Path"), (3, 3, "First"), (4, 3, "Other")], 5, 56, [.int .i64 0, .str [], .str [], .int .i64 0, .int .i64 0]⟩
theorem Jo1:Jl Tryz.prog 22 ty22:=.inr ⟨Tryz.t22,Jd Tryz.type22,rfl,rfl,⟨_,rfl,rfl,rfl⟩,_,Tryz.underlying22,rfl⟩
theorem JqB:Jm Tryz.prog 22 ty22:=.inr ⟨Tryz.t22,_,Jd Tryz.type22,rfl,rfl⟩
def ty23 : TyI := ⟨.struct [(0, 3, "Port"), (1, 9, "Host"), (2, 9, "Path"), (3, 3, "First"), (4, 3, "Other")], 5, 56, [.int .i64 0, .str [], .str [], .int .i64 0, .int .i64 0]⟩
theorem Jo5:Jl Tryz.prog 23 ty23:=.inr ⟨Tryz.t23,Jd Tryz.type23,rfl,rfl,⟨_,rfl,rfl,rfl⟩,_,Tryz.underlying23,rfl⟩
theorem JqF:Jm Tryz.prog 23 ty23:=.inr ⟨Tryz.t23,_,Jd Tryz.type23,rfl,rfl⟩
def ty25 : TyI := ⟨.struct [(0, 3, "What"), (1, 9, "Cluster"), (2, 3, "Host")], 3, 32, [.int .i64 0, .str [], .int .i64 0]⟩
theorem Jo8:Jl Tryz.prog 25 ty25:=.inr ⟨Tryz.t25,Jd Tryz.type25,rfl,rfl,⟨_,rfl,rfl,rfl⟩,_,Tryz.underlying25,rfl⟩
theorem JqI:Jm Tryz.prog 25 ty25:=.inr ⟨Tryz.t25,_,Jd Tryz.type25,rfl,rfl⟩
def ty26 : TyI := ⟨.struct [(0, 23, "A"), (5, 3, "Stage"), (6, 3, "Id"), (7, 9, "Route"), (8, 9, "Cluster"), (9, 25, "Out")], 12, 136, [.int .i64 0, .str [], .str [], .int .i64 0, .int .i64 0, .int .i64 0, .int .i64 0, .str [], .str [], .int .i64 0, .str [], .int .i64 0]⟩
theorem Jpc:Jl Tryz.prog 26 ty26:=.inr ⟨Tryz.t26,Jd Tryz.type26,rfl,rfl,⟨_,rfl,rfl,rfl⟩,_,Tryz.underlying26,rfl⟩
theorem JqM:Jm Tryz.prog 26 ty26:=.inr ⟨Tryz.t26,_,Jd Tryz.type26,rfl,rfl⟩
def ty27 : TyI := ⟨.struct [(0, 23, "A"), (5, 3, "Stage"), (6, 3, "Id"), (7, 9, "Route"), (8, 9, "Cluster"), (9, 25, "Out")], 12, 136, [.int .i64 0, .str [], .str [], .int .i64 0, .int .i64 0, .int .i64 0, .int .i64 0, .str [], .str [], .int .i64 0, .str [], .int .i64 0]⟩
theorem Jpf:Jl Tryz.prog 27 ty27:=.inr ⟨Tryz.t27,Jd Tryz.type27,rfl,rfl,⟨_,rfl,rfl,rfl⟩,_,Tryz.underlying27,rfl⟩
theorem JqP:Jm Tryz.prog 27 ty27:=.inr ⟨Tryz.t27,_,Jd Tryz.type27,rfl,rfl⟩
def ty28:TyI:=⟨.array 4 3,4,32,[.int .i64 0,.int .i64 0,.int .i64 0,.int .i64 0]⟩
theorem Jpi:Jl Tryz.prog 28 ty28:=.inr ⟨Tryz.t28,Jd Tryz.type28,rfl,rfl,⟨_,rfl,rfl,rfl⟩,_,Tryz.underlying28,rfl⟩
theorem JqS:Jm Tryz.prog 28 ty28:=.inr ⟨Tryz.t28,_,Jd Tryz.type28,rfl,rfl⟩
def ty30 : TyI := ⟨.struct [(0, 28, "Last"), (4, 3, "Max")], 5, 40, [.int .i64 0, .int .i64 0, .int .i64 0, .int .i64 0, .int .i64 0]⟩
theorem Jpn:Jl Tryz.prog 30 ty30:=.inr ⟨Tryz.t30,Jd Tryz.type30,rfl,rfl,⟨_,rfl,rfl,rfl⟩,_,Tryz.underlying30,rfl⟩
theorem JqX:Jm Tryz.prog 30 ty30:=.inr ⟨Tryz.t30,_,Jd Tryz.type30,rfl,rfl⟩
def ty31:TyI:=⟨.int .i64,1,8,[.int .i64 0]⟩
theorem Jpp:Jl Tryz.prog 31 ty31:=.inr ⟨Tryz.t31,Jd Tryz.type31,rfl,rfl,⟨_,rfl,rfl,rfl⟩,_,Tryz.underlying31,rfl⟩
theorem JqZ:Jm Tryz.prog 31 ty31:=.inr ⟨Tryz.t31,_,Jd Tryz.type31,rfl,rfl⟩
def ty32:TyI:=⟨.array 4 31,4,32,[.int .i64 0,.int .i64 0,.int .i64 0,.int .i64 0]⟩
theorem Jpy:Jl Tryz.prog 32 ty32:=.inr ⟨Tryz.t32,Jd Tryz.type32,rfl,rfl,⟨_,rfl,rfl,rfl⟩,_,Tryz.underlying32,rfl⟩
theorem Jq8:Jm Tryz.prog 32 ty32:=.inr ⟨Tryz.t32,_,Jd Tryz.type32,rfl,rfl⟩
def ty33:TyI:=⟨.slice 118,1,24,[.slice true []]⟩
theorem JpA:Jl Tryz.prog 33 ty33:=.inr ⟨Tryz.t33,Jd Tryz.type33,rfl,rfl,⟨_,rfl,rfl,rfl⟩,_,Tryz.underlying33,rfl⟩
theorem Jra:Jm Tryz.prog 33 ty33:=.inr ⟨Tryz.t33,_,Jd Tryz.type33,rfl,rfl⟩
def ty35 : TyI := ⟨.struct [(0, 3, "Cap"), (1, 33, "L")], 2, 32, [.int .i64 0, .slice true []]⟩
theorem JpB:Jl Tryz.prog 35 ty35:=.inr ⟨Tryz.t35,Jd Tryz.type35,rfl,rfl,⟨_,rfl,rfl,rfl⟩,_,Tryz.underlying35,rfl⟩
theorem Jrb:Jm Tryz.prog 35 ty35:=.inr ⟨Tryz.t35,_,Jd Tryz.type35,rfl,rfl⟩
def ty37 : TyI := ⟨.struct [(0, 35, "C"), (2, 4, "Ready"), (3, 33, "Shown")], 4, 64, [.int .i64 0, .slice true [], .bool false, .slice true []]⟩
theorem JpC:Jl Tryz.prog 37 ty37:=.inr ⟨Tryz.t37,Jd Tryz.type37,rfl,rfl,⟨_,rfl,rfl,rfl⟩,_,Tryz.underlying37,rfl⟩
theorem Jrc:Jm Tryz.prog 37 ty37:=.inr ⟨Tryz.t37,_,Jd Tryz.type37,rfl,rfl⟩
def ty38:TyI:=⟨.slice 72,1,24,[.slice true []]⟩
theorem JpD:Jl Tryz.prog 38 ty38:=.inr ⟨Tryz.t38,Jd Tryz.type38,rfl,rfl,⟨_,rfl,rfl,rfl⟩,_,Tryz.underlying38,rfl⟩
theorem Jrd:Jm Tryz.prog 38 ty38:=.inr ⟨Tryz.t38,_,Jd Tryz.type38,rfl,rfl⟩
def ty40 : TyI := ⟨.struct [(0, 3, "Next"), (1, 38, "Snaps")], 2, 32, [.int .i64 0, .slice true []]⟩
theorem JpF:Jl Tryz.prog 40 ty40:=.inr ⟨Tryz.t40,Jd Tryz.type40,rfl,rfl,⟨_,rfl,rfl,rfl⟩,_,Tryz.underlying40,rfl⟩
theorem Jrf:Jm Tryz.prog 40 ty40:=.inr ⟨Tryz.t40,_,Jd Tryz.type40,rfl,rfl⟩
def ty41 : TyI := ⟨.struct [(0, 3, "Epoch"), (1, 3, "Turn"), (2, 4, "Up"), (3, 30, "In"), (8, 32, "Errs"), (12, 37, "W"), (16, 40, "P")], 18, 192, [.int .i64 0, .int .i64 0, .bool false, .int .i64 0, .int .i64 0, .int .i64 0, .int .i64 0, .int .i64 0, .int .i64 0, .int .i64 0, .int .i64 0, .int .i64 0, .int .i64 0, .slice true [], .bool false, .slice true [], .int .i64 0, .slice true []]⟩
theorem JpG:Jl Tryz.prog 41 ty41:=.inr ⟨Tryz.t41,Jd Tryz.type41,rfl,rfl,⟨_,rfl,rfl,rfl⟩,_,Tryz.underlying41,rfl⟩
theorem Jrg:Jm Tryz.prog 41 ty41:=.inr ⟨Tryz.t41,_,Jd Tryz.type41,rfl,rfl⟩
def ty42 : TyI := ⟨.struct [(0, 3, "Epoch"), (1, 3, "Turn"), (2, 4, "Up"), (3, 30, "In"), (8, 32, "Errs"), (12, 37, "W"), (16, 40, "P")], 18, 192, [.int .i64 0, .int .i64 0, .bool false, .int .i64 0, .int .i64 0, .int .i64 0, .int .i64 0, .int .i64 0, .int .i64 0, .int .i64 0, .int .i64 0, .int .i64 0, .int .i64 0, .slice true [], .bool false, .slice true [], .int .i64 0, .slice true []]⟩
theorem JpH:Jl Tryz.prog 42 ty42:=.inr ⟨Tryz.t42,Jd Tryz.type42,rfl,rfl,⟨_,rfl,rfl,rfl⟩,_,Tryz.underlying42,rfl⟩
theorem Jrh:Jm Tryz.prog 42 ty42:=.inr ⟨Tryz.t42,_,Jd Tryz.type42,rfl,rfl⟩
def ty44:TyI:=⟨.func,1,8,[.nilf]⟩
theorem JpI:Jl Tryz.prog 44 ty44:=.inr ⟨Tryz.t44,Jd Tryz.type44,rfl,rfl,⟨_,rfl,rfl,rfl⟩,_,Tryz.underlying44,rfl⟩
theorem Jri:Jm Tryz.prog 44 ty44:=.inr ⟨Tryz.t44,_,Jd Tryz.type44,rfl,rfl⟩
def ty46 : TyI := ⟨.struct [(0, 23, "A"), (5, 3, "Stage"), (6, 3, "Id"), (7, 9, "Route"), (8, 9, "Cluster"), (9, 25, "Out")], 12, 136, [.int .i64 0, .str [], .str [], .int .i64 0, .int .i64 0, .int .i64 0, .int .i64 0, .str [], .str [], .int .i64 0, .str [], .int .i64 0]⟩
theorem JpJ:Jl Tryz.prog 46 ty46:=.inr ⟨Tryz.t46,Jd Tryz.type46,rfl,rfl,⟨_,rfl,rfl,rfl⟩,_,Tryz.underlying46,rfl⟩
theorem Jrj:Jm Tryz.prog 46 ty46:=.inr ⟨Tryz.t46,_,Jd Tryz.type46,rfl,rfl⟩
def ty47:TyI:=⟨.func,1,8,[.nilf]⟩
theorem JpK:Jl Tryz.prog 47 ty47:=.inr ⟨Tryz.t47,Jd Tryz.type47,rfl,rfl,⟨_,rfl,rfl,rfl⟩,_,Tryz.underlying47,rfl⟩
theorem Jrk:Jm Tryz.prog 47 ty47:=.inr ⟨Tryz.t47,_,Jd Tryz.type47,rfl,rfl⟩
def ty48:TyI:=⟨.func,1,8,[.nilf]⟩
theorem JpL:Jl Tryz.prog 48 ty48:=.inr ⟨Tryz.t48,Jd Tryz.type48,rfl,rfl,⟨_,rfl,rfl,rfl⟩,_,Tryz.underlying48,rfl⟩
theorem Jrl:Jm Tryz.prog 48 ty48:=.inr ⟨Tryz.t48,_,Jd Tryz.type48,rfl,rfl⟩
def ty49 : TyI := ⟨.struct [(0, 28, "Last"), (4, 3, "Max")], 5, 40, [.int .i64 0, .int .i64 0, .int .i64 0, .int .i64 0, .int .i64 0]⟩
theorem JpM:Jl Tryz.prog 49 ty49:=.inr ⟨Tryz.t49,Jd Tryz.type49,rfl,rfl,⟨_,rfl,rfl,rfl⟩,_,Tryz.underlying49,rfl⟩
theorem Jrm:Jm Tryz.prog 49 ty49:=.inr ⟨Tryz.t49,_,Jd Tryz.type49,rfl,rfl⟩
def ty50 : TyI := ⟨.struct [(0, 3, "Cap"), (1, 33, "L")], 2, 32, [.int .i64 0, .slice true []]⟩
theorem JpO:Jl Tryz.prog 50 ty50:=.inr ⟨Tryz.t50,Jd Tryz.type50,rfl,rfl,⟨_,rfl,rfl,rfl⟩,_,Tryz.underlying50,rfl⟩
theorem Jro:Jm Tryz.prog 50 ty50:=.inr ⟨Tryz.t50,_,Jd Tryz.type50,rfl,rfl⟩
def ty52 : TyI := ⟨.struct [(0, 50, "C"), (2, 4, "Ready"), (3, 33, "Shown")], 4, 64, [.int .i64 0, .slice true [], .bool false, .slice true []]⟩
theorem JpP:Jl Tryz.prog 52 ty52:=.inr ⟨Tryz.t52,Jd Tryz.type52,rfl,rfl,⟨_,rfl,rfl,rfl⟩,_,Tryz.underlying52,rfl⟩
theorem Jrp:Jm Tryz.prog 52 ty52:=.inr ⟨Tryz.t52,_,Jd Tryz.type52,rfl,rfl⟩
def ty53:TyI:=⟨.slice 103,1,24,[.slice true []]⟩
theorem JpQ:Jl Tryz.prog 53 ty53:=.inr ⟨Tryz.t53,Jd Tryz.type53,rfl,rfl,⟨_,rfl,rfl,rfl⟩,_,Tryz.underlying53,rfl⟩
theorem Jrq:Jm Tryz.prog 53 ty53:=.inr ⟨Tryz.t53,_,Jd Tryz.type53,rfl,rfl⟩
def ty54 : TyI := ⟨.struct [(0, 3, "Next"), (1, 53, "Snaps")], 2, 32, [.int .i64 0, .slice true []]⟩
theorem JpR:Jl Tryz.prog 54 ty54:=.inr ⟨Tryz.t54,Jd Tryz.type54,rfl,rfl,⟨_,rfl,rfl,rfl⟩,_,Tryz.underlying54,rfl⟩
theorem Jrr:Jm Tryz.prog 54 ty54:=.inr ⟨Tryz.t54,_,Jd Tryz.type54,rfl,rfl⟩
def ty55 : TyI := ⟨.struct [(0, 3, "Next"), (1, 53, "Snaps")], 2, 32, [.int .i64 0, .slice true []]⟩
theorem JpS:Jl Tryz.prog 55 ty55:=.inr ⟨Tryz.t55,Jd Tryz.type55,rfl,rfl,⟨_,rfl,rfl,rfl⟩,_,Tryz.underlying55,rfl⟩
theorem Jrs:Jm Tryz.prog 55 ty55:=.inr ⟨Tryz.t55,_,Jd Tryz.type55,rfl,rfl⟩
def ty57 : TyI := ⟨.struct [(0, 3, "Epoch"), (1, 3, "Turn"), (2, 4, "Up"), (3, 49, "In"), (8, 32, "Errs"), (12, 52, "W"), (16, 55, "P")], 18, 192, [.int .i64 0, .int .i64 0, .bool false, .int .i64 0, .int .i64 0, .int .i64 0, .int .i64 0, .int .i64 0, .int .i64 0, .int .i64 0, .int .i64 0, .int .i64 0, .int .i64 0, .slice true [], .bool false, .slice true [], .int .i64 0, .slice true []]⟩
theorem JpT:Jl Tryz.prog 57 ty57:=.inr ⟨Tryz.t57,Jd Tryz.type57,rfl,rfl,⟨_,rfl,rfl,rfl⟩,_,Tryz.underlying57,rfl⟩
theorem Jrt:Jm Tryz.prog 57 ty57:=.inr ⟨Tryz.t57,_,Jd Tryz.type57,rfl,rfl⟩
def ty61:TyI:=⟨.slice 85,1,24,[.slice true []]⟩
theorem JpV:Jl Tryz.prog 61 ty61:=.inr ⟨Tryz.t61,Jd Tryz.type61,rfl,rfl,⟨_,rfl,rfl,rfl⟩,_,Tryz.underlying61,rfl⟩
theorem Jrv:Jm Tryz.prog 61 ty61:=.inr ⟨Tryz.t61,_,Jd Tryz.type61,rfl,rfl⟩
def ty72 : TyI := ⟨.struct [(0, 3, "Id"), (1, 3, "Pins"), (2, 33, "L")], 3, 40, [.int .i64 0, .int .i64 0, .slice true []]⟩
theorem JpX:Jl Tryz.prog 72 ty72:=.inr ⟨Tryz.t72,Jd Tryz.type72,rfl,rfl,⟨_,rfl,rfl,rfl⟩,_,Tryz.underlying72,rfl⟩
theorem Jrx:Jm Tryz.prog 72 ty72:=.inr ⟨Tryz.t72,_,Jd Tryz.type72,rfl,rfl⟩
def ty77:TyI:=⟨.slice 134,1,24,[.slice true []]⟩
theorem JpY:Jl Tryz.prog 77 ty77:=.inr ⟨Tryz.t77,Jd Tryz.type77,rfl,rfl,⟨_,rfl,rfl,rfl⟩,_,Tryz.underlying77,rfl⟩
theorem Jry:Jm Tryz.prog 77 ty77:=.inr ⟨Tryz.t77,_,Jd Tryz.type77,rfl,rfl⟩
def ty83:TyI:=⟨.slice 145,1,24,[.slice true []]⟩
theorem Jp0:Jl Tryz.prog 83 ty83:=.inr ⟨Tryz.t83,Jd Tryz.type83,rfl,rfl,⟨_,rfl,rfl,rfl⟩,_,Tryz.underlying83,rfl⟩
theorem JrA:Jm Tryz.prog 83 ty83:=.inr ⟨Tryz.t83,_,Jd Tryz.type83,rfl,rfl⟩
def ty85 : TyI := ⟨.struct [(0, 3, "Type"), (1, 3, "Epoch"), (2, 3, "Kind"), (3, 3, "Nonce"), (4, 3, "Turn"), (5, 33, "Adds"), (6, 77, "Gone"), (7, 31, "Err"), (8, 83, "Have"), (9, 77, "Held")], 10, 144, [.int .i64 0, .int .i64 0, .int .i64 0, .int .i64 0, .int .i64 0, .slice true [], .slice true [], .int .i64 0, .slice true [], .slice true []]⟩
theorem Jp1:Jl Tryz.prog 85 ty85:=.inr ⟨Tryz.t85,Jd Tryz.type85,rfl,rfl,⟨_,rfl,rfl,rfl⟩,_,Tryz.underlying85,rfl⟩
theorem JrB:Jm Tryz.prog 85 ty85:=.inr ⟨Tryz.t85,_,Jd Tryz.type85,rfl,rfl⟩
def ty94:TyI:=⟨.slice 31,1,24,[.slice true []]⟩
theorem Jp3:Jl Tryz.prog 94 ty94:=.inr ⟨Tryz.t94,Jd Tryz.type94,rfl,rfl,⟨_,rfl,rfl,rfl⟩,_,Tryz.underlying94,rfl⟩
theorem JrD:Jm Tryz.prog 94 ty94:=.inr ⟨Tryz.t94,_,Jd Tryz.type94,rfl,rfl⟩
def ty95:TyI:=⟨.func,1,8,[.nilf]⟩
theorem Jp4:Jl Tryz.prog 95 ty95:=.inr ⟨Tryz.t95,Jd Tryz.type95,rfl,rfl,⟨_,rfl,rfl,rfl⟩,_,Tryz.underlying95,rfl⟩
theorem JrE:Jm Tryz.prog 95 ty95:=.inr ⟨Tryz.t95,_,Jd Tryz.type95,rfl,rfl⟩
def ty103 : TyI := ⟨.struct [(0, 3, "Id"), (1, 3, "Pins"), (2, 33, "L")], 3, 40, [.int .i64 0, .int .i64 0, .slice true []]⟩
theorem Jox:Jl Tryz.prog 103 ty103:=.inr ⟨Tryz.t103,Jd Tryz.type103,rfl,rfl,⟨_,rfl,rfl,rfl⟩,_,Tryz.underlying103,rfl⟩
theorem Jp7:Jm Tryz.prog 103 ty103:=.inr ⟨Tryz.t103,_,Jd Tryz.type103,rfl,rfl⟩
def ty104:TyI:=⟨.ptr 108,1,8,[.nilp]⟩
theorem Joy:Jl Tryz.prog 104 ty104:=.inr ⟨Tryz.t104,Jd Tryz.type104,rfl,rfl,⟨_,rfl,rfl,rfl⟩,_,Tryz.underlying104,rfl⟩
theorem Jp8:Jm Tryz.prog 104 ty104:=.inr ⟨Tryz.t104,_,Jd Tryz.type104,rfl,rfl⟩
def ty105:TyI:=⟨.func,1,8,[.nilf]⟩
theorem Joz:Jl Tryz.prog 105 ty105:=.inr ⟨Tryz.t105,Jd Tryz.type105,rfl,rfl,⟨_,rfl,rfl,rfl⟩,_,Tryz.underlying105,rfl⟩
theorem Jp9:Jm Tryz.prog 105 ty105:=.inr ⟨Tryz.t105,_,Jd Tryz.type105,rfl,rfl⟩
def ty108 : TyI := ⟨.struct [(0, 46, "Req"), (12, 57, "side"), (30, 61, "told")], 31, 352, [.int .i64 0, .str [], .str [], .int .i64 0, .int .i64 0, .int .i64 0, .int .i64 0, .str [], .str [], .int .i64 0, .str [], .int .i64 0, .int .i64 0, .int .i64 0, .bool false, .int .i64 0, .int .i64 0, .int .i64 0, .int .i64 0, .int .i64 0, .int .i64 0, .int .i64 0, .int .i64 0, .int .i64 0, .int .i64 0, .slice true [], .bool false, .slice true [], .int .i64 0, .slice true [], .slice true []]⟩
theorem JoA:Jl Tryz.prog 108 ty108:=.inr ⟨Tryz.t108,Jd Tryz.type108,rfl,rfl,⟨_,rfl,rfl,rfl⟩,_,Tryz.underlying108,rfl⟩
theorem Jqa:Jm Tryz.prog 108 ty108:=.inr ⟨Tryz.t108,_,Jd Tryz.type108,rfl,rfl⟩
def ty114:TyI:=⟨.func,1,8,[.nilf]⟩
theorem JoC:Jl Tryz.prog 114 ty114:=.inr ⟨Tryz.t114,Jd Tryz.type114,rfl,rfl,⟨_,rfl,rfl,rfl⟩,_,Tryz.underlying114,rfl⟩
theorem Jqc:Jm Tryz.prog 114 ty114:=.inr ⟨Tryz.t114,_,Jd Tryz.type114,rfl,rfl⟩
def ty115:TyI:=⟨.slice 123,1,24,[.slice true []]⟩
theorem JoD:Jl Tryz.prog 115 ty115:=.inr ⟨Tryz.t115,Jd Tryz.type115,rfl,rfl,⟨_,rfl,rfl,rfl⟩,_,Tryz.underlying115,rfl⟩
theorem Jqd:Jm Tryz.prog 115 ty115:=.inr ⟨Tryz.t115,_,Jd Tryz.type115,rfl,rfl⟩
def ty116:TyI:=⟨.slice 3,1,24,[.slice true []]⟩
theorem JoE:Jl Tryz.prog 116 ty116:=.inr ⟨Tryz.t116,Jd Tryz.type116,rfl,rfl,⟨_,rfl,rfl,rfl⟩,_,Tryz.underlying116,rfl⟩
theorem Jqe:Jm Tryz.prog 116 ty116:=.inr ⟨Tryz.t116,_,Jd Tryz.type116,rfl,rfl⟩
def ty118 : TyI := ⟨.struct [(0, 3, "Kind"), (1, 9, "Name"), (2, 3, "Ver"), (3, 3, "Port"), (4, 9, "To"), (5, 115, "Rules"), (6, 116, "Hosts")], 7, 104, [.int .i64 0, .str [], .int .i64 0, .int .i64 0, .str [], .slice true [], .slice true []]⟩
theorem JoF:Jl Tryz.prog 118 ty118:=.inr ⟨Tryz.t118,Jd Tryz.type118,rfl,rfl,⟨_,rfl,rfl,rfl⟩,_,Tryz.underlying118,rfl⟩
theorem Jqf:Jm Tryz.prog 118 ty118:=.inr ⟨Tryz.t118,_,Jd Tryz.type118,rfl,rfl⟩
def ty121:TyI:=⟨.slice 167,1,24,[.slice true []]⟩
theorem JoH:Jl Tryz.prog 121 ty121:=.inr ⟨Tryz.t121,Jd Tryz.type121,rfl,rfl,⟨_,rfl,rfl,rfl⟩,_,Tryz.underlying121,rfl⟩
theorem Jqh:Jm Tryz.prog 121 ty121:=.inr ⟨Tryz.t121,_,Jd Tryz.type121,rfl,rfl⟩
def ty123 : TyI := ⟨.struct [(0, 9, "Host"), (1, 9, "Prefix"), (2, 121, "Split")], 3, 56, [.str [], .str [], .slice true []]⟩
theorem JoI:Jl Tryz.prog 123 ty123:=.inr ⟨Tryz.t123,Jd Tryz.type123,rfl,rfl,⟨_,rfl,rfl,rfl⟩,_,Tryz.underlying123,rfl⟩
theorem Jqi:Jm Tryz.prog 123 ty123:=.inr ⟨Tryz.t123,_,Jd Tryz.type123,rfl,rfl⟩
def ty134 : TyI := ⟨.struct [(0, 3, "Kind"), (1, 9, "Name")], 2, 24, [.int .i64 0, .str []]⟩
theorem JoK:Jl Tryz.prog 134 ty134:=.inr ⟨Tryz.t134,Jd Tryz.type134,rfl,rfl,⟨_,rfl,rfl,rfl⟩,_,Tryz.underlying134,rfl⟩
theorem Jqk:Jm Tryz.prog 134 ty134:=.inr ⟨Tryz.t134,_,Jd Tryz.type134,rfl,rfl⟩
def ty145 : TyI := ⟨.struct [(0, 134, "K"), (2, 3, "Ver")], 3, 32, [.int .i64 0, .str [], .int .i64 0]⟩
theorem JoM:Jl Tryz.prog 145 ty145:=.inr ⟨Tryz.t145,Jd Tryz.type145,rfl,rfl,⟨_,rfl,rfl,rfl⟩,_,Tryz.underlying145,rfl⟩
theorem Jqm:Jm Tryz.prog 145 ty145:=.inr ⟨Tryz.t145,_,Jd Tryz.type145,rfl,rfl⟩
def ty163:TyI:=⟨.func,1,8,[.nilf]⟩
theorem JoP:Jl Tryz.prog 163 ty163:=.inr ⟨Tryz.t163,Jd Tryz.type163,rfl,rfl,⟨_,rfl,rfl,rfl⟩,_,Tryz.underlying163,rfl⟩
theorem Jqp:Jm Tryz.prog 163 ty163:=.inr ⟨Tryz.t163,_,Jd Tryz.type163,rfl,rfl⟩
def ty167 : TyI := ⟨.struct [(0, 9, "Cluster"), (1, 3, "W")], 2, 24, [.str [], .int .i64 0]⟩
theorem JoQ:Jl Tryz.prog 167 ty167:=.inr ⟨Tryz.t167,Jd Tryz.type167,rfl,rfl,⟨_,rfl,rfl,rfl⟩,_,Tryz.underlying167,rfl⟩
theorem Jqq:Jm Tryz.prog 167 ty167:=.inr ⟨Tryz.t167,_,Jd Tryz.type167,rfl,rfl⟩
def ty177:TyI:=⟨.array 4 4,4,4,[.bool false,.bool false,.bool false,.bool false]⟩
theorem JoS:Jl Tryz.prog 177 ty177:=.inr ⟨Tryz.t177,Jd Tryz.type177,rfl,rfl,⟨_,rfl,rfl,rfl⟩,_,Tryz.underlying177,rfl⟩
theorem Jqs:Jm Tryz.prog 177 ty177:=.inr ⟨Tryz.t177,_,Jd Tryz.type177,rfl,rfl⟩
def ty179 : TyI := ⟨.struct [(0, 28, "Last"), (4, 177, "Open"), (8, 3, "Max")], 9, 48, [.int .i64 0, .int .i64 0, .int .i64 0, .int .i64 0, .bool false, .bool false, .bool false, .bool false, .int .i64 0]⟩
theorem JoT:Jl Tryz.prog 179 ty179:=.inr ⟨Tryz.t179,Jd Tryz.type179,rfl,rfl,⟨_,rfl,rfl,rfl⟩,_,Tryz.underlying179,rfl⟩
theorem Jqt:Jm Tryz.prog 179 ty179:=.inr ⟨Tryz.t179,_,Jd Tryz.type179,rfl,rfl⟩
def ty194:TyI:=⟨.func,1,8,[.nilf]⟩
theorem JoV:Jl Tryz.prog 194 ty194:=.inr ⟨Tryz.t194,Jd Tryz.type194,rfl,rfl,⟨_,rfl,rfl,rfl⟩,_,Tryz.underlying194,rfl⟩
theorem Jqv:Jm Tryz.prog 194 ty194:=.inr ⟨Tryz.t194,_,Jd Tryz.type194,rfl,rfl⟩
def ty200:TyI:=⟨.func,1,8,[.nilf]⟩
theorem JoX:Jl Tryz.prog 200 ty200:=.inr ⟨Tryz.t200,Jd Tryz.type200,rfl,rfl,⟨_,rfl,rfl,rfl⟩,_,Tryz.underlying200,rfl⟩
theorem Jqx:Jm Tryz.prog 200 ty200:=.inr ⟨Tryz.t200,_,Jd Tryz.type200,rfl,rfl⟩
def ty201:TyI:=⟨.func,1,8,[.nilf]⟩
theorem JoY:Jl Tryz.prog 201 ty201:=.inr ⟨Tryz.t201,Jd Tryz.type201,rfl,rfl,⟨_,rfl,rfl,rfl⟩,_,Tryz.underlying201,rfl⟩
theorem Jqy:Jm Tryz.prog 201 ty201:=.inr ⟨Tryz.t201,_,Jd Tryz.type201,rfl,rfl⟩
def ty216 : TyI := ⟨.struct [(0, 31, "e")], 1, 8, [.int .i64 0]⟩
theorem Jo0:Jl Tryz.prog 216 ty216:=.inr ⟨Tryz.t216,Jd Tryz.type216,rfl,rfl,⟨_,rfl,rfl,rfl⟩,_,Tryz.underlying216,rfl⟩
theorem JqA:Jm Tryz.prog 216 ty216:=.inr ⟨Tryz.t216,_,Jd Tryz.type216,rfl,rfl⟩
def ty220:TyI:=⟨.map 134 4,1,8,[.nilm]⟩
theorem Jo2:Jl Tryz.prog 220 ty220:=.inr ⟨Tryz.t220,Jd Tryz.type220,rfl,rfl,⟨_,rfl,rfl,rfl⟩,_,Tryz.underlying220,rfl⟩
theorem JqC:Jm Tryz.prog 220 ty220:=.inr ⟨Tryz.t220,_,Jd Tryz.type220,rfl,rfl⟩
def ty225:TyI:=⟨.func,1,8,[.nilf]⟩
theorem Jo3:Jl Tryz.prog 225 ty225:=.inr ⟨Tryz.t225,Jd Tryz.type225,rfl,rfl,⟨_,rfl,rfl,rfl⟩,_,Tryz.underlying225,rfl⟩
theorem JqD:Jm Tryz.prog 225 ty225:=.inr ⟨Tryz.t225,_,Jd Tryz.type225,rfl,rfl⟩
def ty229:TyI:=⟨.func,1,8,[.nilf]⟩
theorem Jo4:Jl Tryz.prog 229 ty229:=.inr ⟨Tryz.t229,Jd Tryz.type229,rfl,rfl,⟨_,rfl,rfl,rfl⟩,_,Tryz.underlying229,rfl⟩
theorem JqE:Jm Tryz.prog 229 ty229:=.inr ⟨Tryz.t229,_,Jd Tryz.type229,rfl,rfl⟩
def ty234:TyI:=⟨.int .u64,1,8,[.int .u64 0]⟩
theorem Jo6:Jl Tryz.prog 234 ty234:=.inr ⟨Tryz.t234,Jd Tryz.type234,rfl,rfl,⟨_,rfl,rfl,rfl⟩,_,Tryz.underlying234,rfl⟩
theorem JqG:Jm Tryz.prog 234 ty234:=.inr ⟨Tryz.t234,_,Jd Tryz.type234,rfl,rfl⟩
def ty245:TyI:=⟨.map 3 4,1,8,[.nilm]⟩
theorem Jo7:Jl Tryz.prog 245 ty245:=.inr ⟨Tryz.t245,Jd Tryz.type245,rfl,rfl,⟨_,rfl,rfl,rfl⟩,_,Tryz.underlying245,rfl⟩
theorem JqH:Jm Tryz.prog 245 ty245:=.inr ⟨Tryz.t245,_,Jd Tryz.type245,rfl,rfl⟩
def ty251:TyI:=⟨.map 134 77,1,8,[.nilm]⟩
theorem Jo9:Jl Tryz.prog 251 ty251:=.inr ⟨Tryz.t251,Jd Tryz.type251,rfl,rfl,⟨_,rfl,rfl,rfl⟩,_,Tryz.underlying251,rfl⟩
theorem JqJ:Jm Tryz.prog 251 ty251:=.inr ⟨Tryz.t251,_,Jd Tryz.type251,rfl,rfl⟩
def ty253:TyI:=⟨.func,1,8,[.nilf]⟩
theorem Jpa:Jl Tryz.prog 253 ty253:=.inr ⟨Tryz.t253,Jd Tryz.type253,rfl,rfl,⟨_,rfl,rfl,rfl⟩,_,Tryz.underlying253,rfl⟩
theorem JqK:Jm Tryz.prog 253 ty253:=.inr ⟨Tryz.t253,_,Jd Tryz.type253,rfl,rfl⟩
def ty258:TyI:=⟨.int .i64,1,8,[.int .i64 0]⟩
theorem Jpb:Jl Tryz.prog 258 ty258:=.inr ⟨Tryz.t258,Jd Tryz.type258,rfl,rfl,⟨_,rfl,rfl,rfl⟩,_,Tryz.underlying258,rfl⟩
theorem JqL:Jm Tryz.prog 258 ty258:=.inr ⟨Tryz.t258,_,Jd Tryz.type258,rfl,rfl⟩
def ty265:TyI:=⟨.int .u32,1,4,[.int .u32 0]⟩
theorem Jpd:Jl Tryz.prog 265 ty265:=.inr ⟨Tryz.t265,Jd Tryz.type265,rfl,rfl,⟨_,rfl,rfl,rfl⟩,_,Tryz.underlying265,rfl⟩
theorem JqN:Jm Tryz.prog 265 ty265:=.inr ⟨Tryz.t265,_,Jd Tryz.type265,rfl,rfl⟩
def ty267:TyI:=⟨.int .u64,1,8,[.int .u64 0]⟩
theorem Jpe:Jl Tryz.prog 267 ty267:=.inr ⟨Tryz.t267,Jd Tryz.type267,rfl,rfl,⟨_,rfl,rfl,rfl⟩,_,Tryz.underlying267,rfl⟩
theorem JqO:Jm Tryz.prog 267 ty267:=.inr ⟨Tryz.t267,_,Jd Tryz.type267,rfl,rfl⟩
def ty274:TyI:=⟨.func,1,8,[.nilf]⟩
theorem Jpg:Jl Tryz.prog 274 ty274:=.inr ⟨Tryz.t274,Jd Tryz.type274,rfl,rfl,⟨_,rfl,rfl,rfl⟩,_,Tryz.underlying274,rfl⟩
theorem JqQ:Jm Tryz.prog 274 ty274:=.inr ⟨Tryz.t274,_,Jd Tryz.type274,rfl,rfl⟩
def ty276 : TyI := ⟨.struct [(0, 4, "port"), (1, 4, "to"), (2, 4, "rules"), (3, 4, "hosts")], 4, 4, [.bool false, .bool false, .bool false, .bool false]⟩
theorem Jph:Jl Tryz.prog 276 ty276:=.inr ⟨Tryz.t276,Jd Tryz.type276,rfl,rfl,⟨_,rfl,rfl,rfl⟩,_,Tryz.underlying276,rfl⟩
theorem JqR:Jm Tryz.prog 276 ty276:=.inr ⟨Tryz.t276,_,Jd Tryz.type276,rfl,rfl⟩
def ty280:TyI:=⟨.int .u64,1,8,[.int .u64 0]⟩
theorem Jpj:Jl Tryz.prog 280 ty280:=.inr ⟨Tryz.t280,Jd Tryz.type280,rfl,rfl,⟨_,rfl,rfl,rfl⟩,_,Tryz.underlying280,rfl⟩
theorem JqT:Jm Tryz.prog 280 ty280:=.inr ⟨Tryz.t280,_,Jd Tryz.type280,rfl,rfl⟩
def ty284:TyI:=⟨.ptr 3,1,8,[.nilp]⟩
theorem Jpk:Jl Tryz.prog 284 ty284:=.inr ⟨Tryz.t284,Jd Tryz.type284,rfl,rfl,⟨_,rfl,rfl,rfl⟩,_,Tryz.underlying284,rfl⟩
theorem JqU:Jm Tryz.prog 284 ty284:=.inr ⟨Tryz.t284,_,Jd Tryz.type284,rfl,rfl⟩
def ty293:TyI:=⟨.ptr 280,1,8,[.nilp]⟩
theorem Jpl:Jl Tryz.prog 293 ty293:=.inr ⟨Tryz.t293,Jd Tryz.type293,rfl,rfl,⟨_,rfl,rfl,rfl⟩,_,Tryz.underlying293,rfl⟩
theorem JqV:Jm Tryz.prog 293 ty293:=.inr ⟨Tryz.t293,_,Jd Tryz.type293,rfl,rfl⟩
def ty309 : TyI := ⟨.struct [(0, 17, "_interface"), (1, 17, "concrete"), (2, 17, "asserted"), (3, 9, "missingMethod")], 4, 40, [.nilp, .nilp, .nilp, .str []]⟩
theorem Jpo:Jl Tryz.prog 309 ty309:=.inr ⟨Tryz.t309,Jd Tryz.type309,rfl,rfl,⟨_,rfl,rfl,rfl⟩,_,Tryz.underlying309,rfl⟩
theorem JqY:Jm Tryz.prog 309 ty309:=.inr ⟨Tryz.t309,_,Jd Tryz.type309,rfl,rfl⟩
def ty310:TyI:=⟨.array 0 16,0,0,[]⟩
theorem Jpq:Jl Tryz.prog 310 ty310:=.inr ⟨Tryz.t310,Jd Tryz.type310,rfl,rfl,⟨_,rfl,rfl,rfl⟩,_,Tryz.underlying310,rfl⟩
theorem Jq0:Jm Tryz.prog 310 ty310:=.inr ⟨Tryz.t310,_,Jd Tryz.type310,rfl,rfl⟩
def ty312 : TyI := ⟨.struct [(0, 310, "_")], 0, 0, []⟩
theorem Jpr:Jl Tryz.prog 312 ty312:=.inr ⟨Tryz.t312,Jd Tryz.type312,rfl,rfl,⟨_,rfl,rfl,rfl⟩,_,Tryz.underlying312,rfl⟩
theorem Jq1:Jm Tryz.prog 312 ty312:=.inr ⟨Tryz.t312,_,Jd Tryz.type312,rfl,rfl⟩
def ty313:TyI:=⟨.int .u8,1,1,[.int .u8 0]⟩
theorem Jps:Jl Tryz.prog 313 ty313:=.inr ⟨Tryz.t313,Jd Tryz.type313,rfl,rfl,⟨_,rfl,rfl,rfl⟩,_,Tryz.underlying313,rfl⟩
theorem Jq2:Jm Tryz.prog 313 ty313:=.inr ⟨Tryz.t313,_,Jd Tryz.type313,rfl,rfl⟩
def ty314:TyI:=⟨.int .u8,1,1,[.int .u8 0]⟩
theorem Jpt:Jl Tryz.prog 314 ty314:=.inr ⟨Tryz.t314,Jd Tryz.type314,rfl,rfl,⟨_,rfl,rfl,rfl⟩,_,Tryz.underlying314,rfl⟩
theorem Jq3:Jm Tryz.prog 314 ty314:=.inr ⟨Tryz.t314,_,Jd Tryz.type314,rfl,rfl⟩
def ty315:TyI:=⟨.func,1,8,[.nilf]⟩
theorem Jpu:Jl Tryz.prog 315 ty315:=.inr ⟨Tryz.t315,Jd Tryz.type315,rfl,rfl,⟨_,rfl,rfl,rfl⟩,_,Tryz.underlying315,rfl⟩
theorem Jq4:Jm Tryz.prog 315 ty315:=.inr ⟨Tryz.t315,_,Jd Tryz.type315,rfl,rfl⟩
def ty316:TyI:=⟨.ptr 5,1,8,[.nilp]⟩
theorem Jpv:Jl Tryz.prog 316 ty316:=.inr ⟨Tryz.t316,Jd Tryz.type316,rfl,rfl,⟨_,rfl,rfl,rfl⟩,_,Tryz.underlying316,rfl⟩
theorem Jq5:Jm Tryz.prog 316 ty316:=.inr ⟨Tryz.t316,_,Jd Tryz.type316,rfl,rfl⟩
def ty317:TyI:=⟨.int .i32,1,4,[.int .i32 0]⟩
theorem Jpw:Jl Tryz.prog 317 ty317:=.inr ⟨Tryz.t317,Jd Tryz.type317,rfl,rfl,⟨_,rfl,rfl,rfl⟩,_,Tryz.underlying317,rfl⟩
theorem Jq6:Jm Tryz.prog 317 ty317:=.inr ⟨Tryz.t317,_,Jd Tryz.type317,rfl,rfl⟩
def ty318:TyI:=⟨.int .i32,1,4,[.int .i32 0]⟩
theorem Jpx:Jl Tryz.prog 318 ty318:=.inr ⟨Tryz.t318,Jd Tryz.type318,rfl,rfl,⟨_,rfl,rfl,rfl⟩,_,Tryz.underlying318,rfl⟩
theorem Jq7:Jm Tryz.prog 318 ty318:=.inr ⟨Tryz.t318,_,Jd Tryz.type318,rfl,rfl⟩
def ty320 : TyI := ⟨.struct [(0, 12, "Size_"), (1, 12, "PtrBytes"), (2, 265, "Hash"), (3, 313, "TFlag"), (4, 5, "Align_"), (5, 5, "FieldAlign_"), (6, 314, "Kind_"), (7, 315, "Equal"), (8, 316, "GCData"), (9, 317, "Str"), (10, 318, "PtrToThis")], 11, 48, [.int .u64 0, .int .u64 0, .int .u32 0, .int .u8 0, .int .u8 0, .int .u8 0, .int .u8 0, .nilf, .nilp, .int .i32 0, .int .i32 0]⟩
theorem Jpz:Jl Tryz.prog 320 ty320:=.inr ⟨Tryz.t320,Jd Tryz.type320,rfl,rfl,⟨_,rfl,rfl,rfl⟩,_,Tryz.underlying320,rfl⟩
theorem Jq9:Jm Tryz.prog 320 ty320:=.inr ⟨Tryz.t320,_,Jd Tryz.type320,rfl,rfl⟩
def tyL:List (Nat×TyI):=[(1,ty1),(2,ty2),(3,ty3),(4,ty4),(5,ty5),(6,ty6),(7,ty7),(8,ty8),(9,ty9),(10,ty10),(11,ty11),(12,ty12),(13,ty13),(14,ty14),(15,ty15),(16,ty16),(17,ty17),(18,ty18),(21,ty21),(22,ty22),(23,ty23),(25,ty25),(26,ty26),(27,ty27),(28,ty28),(30,ty30),(31,ty31),(32,ty32),(33,ty33),(35,ty35),(37,ty37),(38,ty38),(40,ty40),(41,ty41),(42,ty42),(44,ty44),(46,ty46),(47,ty47),(48,ty48),(49,ty49),(50,ty50),(52,ty52),(53,ty53),(54,ty54),(55,ty55),(57,ty57),(61,ty61),(72,ty72),(77,ty77),(83,ty83),(85,ty85),(94,ty94),(95,ty95),(103,ty103),(104,ty104),(105,ty105),(108,ty108),(114,ty114),(115,ty115),(116,ty116),(118,ty118),(121,ty121),(123,ty123),(134,ty134),(145,ty145),(163,ty163),(167,ty167),(177,ty177),(179,ty179),(194,ty194),(200,ty200),(201,ty201),(216,ty216),(220,ty220),(225,ty225),(229,ty229),(234,ty234),(245,ty245),(251,ty251),(253,ty253),(258,ty258),(265,ty265),(267,ty267),(274,ty274),(276,ty276),(280,ty280),(284,ty284),(293,ty293),(309,ty309),(310,ty310),(312,ty312),(313,ty313),(314,ty314),(315,ty315),(316,ty316),(317,ty317),(318,ty318),(320,ty320)]
def JeA(P:Program):List (Nat×TyI)→Prop
 | []=>True
 |p :: r=>Jm P p.1 p.2∧JeA P r
def Jez(P:Program):List (Nat×TyI)→Prop
 | []=>True
 |p :: r=>Jl P p.1 p.2∧Jez P r
def Jc3(l:List (Nat×TyI))(t:Nat):TyI:=(l.lookup t).getD ⟨.unk,0,0,[]⟩
theorem JgE{P:Program}:∀(l:List (Nat×TyI)),Jez P l→∀t,Jl P t (Jc3 l t)
 | [],_,t=>.inl rfl
 | (i,x) :: r,h,t=>by
  unfold Jc3
  by_cases e:t=i
  ·subst e;simpa[List.lookup] using h.1
  ·have e':(t == i)=false:=by simpa using e
   have:((i,x) :: r).lookup t=r.lookup t:=by simp[List.lookup,e']
   rw[this];exact JgE r h.2 t
theorem JgF{P:Program}:∀(l:List (Nat×TyI)),JeA P l→∀t,Jm P t (Jc3 l t)
 | [],_,t=>.inl rfl
 | (i,x) :: r,h,t=>by
  unfold Jc3
  by_cases e:t=i
  ·subst e;simpa[List.lookup] using h.1
  ·have e':(t == i)=false:=by simpa using e
   have:((i,x) :: r).lookup t=r.lookup t:=by simp[List.lookup,e']
   rw[this];exact JgF r h.2 t
theorem Jou:JeA Tryz.prog tyL:=⟨Jp5,Jqw,JqW,Jre,Jrn,Jru,Jrw,Jrz,JrC,Jp6,Jqb,Jqg,Jqj,Jql,Jqn,Jqo,Jqr,Jqu,Jqz,JqB,JqF,JqI,JqM,JqP,JqS,JqX,JqZ,Jq8,Jra,Jrb,Jrc,Jrd,Jrf,Jrg,Jrh,Jri,Jrj,Jrk,Jrl,Jrm,Jro,Jrp,Jrq,Jrr,Jrs,Jrt,Jrv,Jrx,Jry,JrA,JrB,JrD,JrE,Jp7,Jp8,Jp9,Jqa,Jqc,Jqd,Jqe,Jqf,Jqh,Jqi,Jqk,Jqm,Jqp,Jqq,Jqs,Jqt,Jqv,Jqx,Jqy,JqA,JqC,JqD,JqE,JqG,JqH,JqJ,JqK,JqL,JqN,JqO,JqQ,JqR,JqT,JqU,JqV,JqY,Jq0,Jq1,Jq2,Jq3,Jq4,Jq5,Jq6,Jq7,Jq9,trivial⟩
theorem Jot:Jez Tryz.prog tyL:=⟨Jov,JoW,Jpm,JpE,JpN,JpU,JpW,JpZ,Jp2,Jow,JoB,JoG,JoJ,JoL,JoN,JoO,JoR,JoU,JoZ,Jo1,Jo5,Jo8,Jpc,Jpf,Jpi,Jpn,Jpp,Jpy,JpA,JpB,JpC,JpD,JpF,JpG,JpH,JpI,JpJ,JpK,JpL,JpM,JpO,JpP,JpQ,JpR,JpS,JpT,JpV,JpX,JpY,Jp0,Jp1,Jp3,Jp4,Jox,Joy,Joz,JoA,JoC,JoD,JoE,JoF,JoH,JoI,JoK,JoM,JoP,JoQ,JoS,JoT,JoV,JoX,JoY,Jo0,Jo2,Jo3,Jo4,Jo6,Jo7,Jo9,Jpa,Jpb,Jpd,Jpe,Jpg,Jph,Jpj,Jpk,Jpl,Jpo,Jpq,Jpr,Jps,Jpt,Jpu,Jpv,Jpw,Jpx,Jpz,trivial⟩
def T:Tys Tryz.prog:=⟨Jc3 tyL,JgE tyL Jot,JgF tyL Jou,fun _=>false⟩
@[go_sem] theorem JyW(d:Nat):T.fz d=false:=rfl
@[go_sem] theorem T_1:T.ty 1=ty1:=rfl
@[go_sem] theorem k_1:ty1.k=.func:=rfl
@[go_sem] theorem JI3:ty1.sz=1:=rfl
@[go_sem] theorem JuS:ty1.bytes=8:=rfl
@[go_sem] theorem JME:ty1.zero=[.nilf]:=rfl
@[go_sem] theorem T_2:T.ty 2=ty2:=rfl
@[go_sem] theorem k_2:ty2.k=.int .i64:=rfl
@[go_sem] theorem JJu:ty2.sz=1:=rfl
@[go_sem] theorem Jvj:ty2.bytes=8:=rfl
@[go_sem] theorem JM5:ty2.zero=[.int .i64 0]:=rfl
@[go_sem] theorem T_3:T.ty 3=ty3:=rfl
@[go_sem] theorem k_3:ty3.k=.int .i64:=rfl
@[go_sem] theorem JJU:ty3.sz=1:=rfl
@[go_sem] theorem JvJ:ty3.bytes=8:=rfl
@[go_sem] theorem JNv:ty3.zero=[.int .i64 0]:=rfl
@[go_sem] theorem T_4:T.ty 4=ty4:=rfl
@[go_sem] theorem k_4:ty4.k=.bool:=rfl
@[go_sem] theorem JKc:ty4.sz=1:=rfl
@[go_sem] theorem Jv1:ty4.bytes=1:=rfl
@[go_sem] theorem JNN:ty4.zero=[.bool false]:=rfl
@[go_sem] theorem T_5:T.ty 5=ty5:=rfl
@[go_sem] theorem k_5:ty5.k=.int .u8:=rfl
@[go_sem] theorem JKl:ty5.sz=1:=rfl
@[go_sem] theorem Jwa:ty5.bytes=1:=rfl
@[go_sem] theorem JNW:ty5.zero=[.int .u8 0]:=rfl
@[go_sem] theorem T_6:T.ty 6=ty6:=rfl
@[go_sem] theorem k_6:ty6.k=.int .u8:=rfl
@[go_sem] theorem JKs:ty6.sz=1:=rfl
@[go_sem] theorem Jwh:ty6.bytes=1:=rfl
@[go_sem] theorem JN3:ty6.zero=[.int .u8 0]:=rfl
@[go_sem] theorem T_7:T.ty 7=ty7:=rfl
@[go_sem] theorem k_7 : ty7.k = .struct [(0, 2, "x"), (1, 3, "y"), (2, 4, "signed"), (3, 6, "code")] := rfl
@[go_sem] theorem JKu:ty7.sz=4:=rfl
@[go_sem] theorem Jwj:ty7.bytes=24:=rfl
@[go_sem] theorem JN5:ty7.zero=[.int .i64 0,.int .i64 0,.bool false,.int .u8 0]:=rfl
@[go_sem] theorem T_8:T.ty 8=ty8:=rfl
@[go_sem] theorem k_8 : ty8.k = .struct [(0, 2, "x"), (1, 3, "y"), (2, 4, "signed"), (3, 6, "code")] := rfl
@[go_sem] theorem JKx:ty8.sz=4:=rfl
@[go_sem] theorem Jwm:ty8.bytes=24:=rfl
@[go_sem] theorem JN8:ty8.zero=[.int .i64 0,.int .i64 0,.bool false,.int .u8 0]:=rfl
@[go_sem] theorem T_9:T.ty 9=ty9:=rfl
@[go_sem] theorem k_9:ty9.k=.str:=rfl
@[go_sem] theorem JKA:ty9.sz=1:=rfl
@[go_sem] theorem Jwp:ty9.bytes=16:=rfl
@[go_sem] theorem JOb:ty9.zero=[.str []]:=rfl
@[go_sem] theorem Jr4:T.ty 10=ty10:=rfl
@[go_sem] theorem Jzq:ty10.k=.str:=rfl
@[go_sem] theorem JI4:ty10.sz=1:=rfl
@[go_sem] theorem JuT:ty10.bytes=16:=rfl
@[go_sem] theorem JMF:ty10.zero=[.str []]:=rfl
@[go_sem] theorem Jr9:T.ty 11=ty11:=rfl
@[go_sem] theorem Jzv:ty11.k=.str:=rfl
@[go_sem] theorem JI9:ty11.sz=1:=rfl
@[go_sem] theorem JuY:ty11.bytes=16:=rfl
@[go_sem] theorem JMK:ty11.zero=[.str []]:=rfl
@[go_sem] theorem Jse:T.ty 12=ty12:=rfl
@[go_sem] theorem JzA:ty12.k=.int .u64:=rfl
@[go_sem] theorem JJe:ty12.sz=1:=rfl
@[go_sem] theorem Ju3:ty12.bytes=8:=rfl
@[go_sem] theorem JMP:ty12.zero=[.int .u64 0]:=rfl
@[go_sem] theorem Jsh:T.ty 13=ty13:=rfl
@[go_sem] theorem JzD : ty13.k = .struct [(0, 9, "msg"), (1, 12, "addr")] := rfl
@[go_sem] theorem JJh:ty13.sz=2:=rfl
@[go_sem] theorem Ju6:ty13.bytes=24:=rfl
@[go_sem] theorem JMS:ty13.zero=[.str [],.int .u64 0]:=rfl
@[go_sem] theorem Jsj:T.ty 14=ty14:=rfl
@[go_sem] theorem JzF : ty14.k = .struct [(0, 9, "msg"), (1, 12, "addr")] := rfl
@[go_sem] theorem JJj:ty14.sz=2:=rfl
@[go_sem] theorem Ju8:ty14.bytes=24:=rfl
@[go_sem] theorem JMU:ty14.zero=[.str [],.int .u64 0]:=rfl
@[go_sem] theorem Jsl:T.ty 15=ty15:=rfl
@[go_sem] theorem JzH:ty15.k=.ptr 309:=rfl
@[go_sem] theorem JJl:ty15.sz=1:=rfl
@[go_sem] theorem Jva:ty15.bytes=8:=rfl
@[go_sem] theorem JMW:ty15.zero=[.nilp]:=rfl
@[go_sem] theorem Jsm:T.ty 16=ty16:=rfl
@[go_sem] theorem JzI:ty16.k=.ptr 312:=rfl
@[go_sem] theorem JJm:ty16.sz=1:=rfl
@[go_sem] theorem Jvb:ty16.bytes=8:=rfl
@[go_sem] theorem JMX:ty16.zero=[.nilp]:=rfl
@[go_sem] theorem Jsp:T.ty 17=ty17:=rfl
@[go_sem] theorem JzL:ty17.k=.ptr 320:=rfl
@[go_sem] theorem JJp:ty17.sz=1:=rfl
@[go_sem] theorem Jve:ty17.bytes=8:=rfl
@[go_sem] theorem JM0:ty17.zero=[.nilp]:=rfl
@[go_sem] theorem Jss:T.ty 18=ty18:=rfl
@[go_sem] theorem JzO : ty18.k = .struct [(0, 17, "typ")] := rfl
@[go_sem] theorem JJs:ty18.sz=1:=rfl
@[go_sem] theorem Jvh:ty18.bytes=8:=rfl
@[go_sem] theorem JM3:ty18.zero=[.nilp]:=rfl
@[go_sem] theorem Jsx:T.ty 21=ty21:=rfl
@[go_sem] theorem JzT:ty21.k=.int .i32:=rfl
@[go_sem] theorem JJx:ty21.sz=1:=rfl
@[go_sem] theorem Jvm:ty21.bytes=4:=rfl
@[go_sem] theorem JM8:ty21.zero=[.int .i32 0]:=rfl
@[go_sem] theorem Jsz:T.ty 22=ty22:=rfl
@[go_sem] theorem JzV : ty22.k = .struct [(0, 3, "Port"), (1, 9, "Host"), (2, 9, "Path"), (3, 3, "First"), (4, 3, "Other")] := rfl
@[go_sem] theorem JJz:ty22.sz=5:=rfl
@[go_sem] theorem Jvo:ty22.bytes=56:=rfl
@[go_sem] theorem JNa:ty22.zero=[.int .i64 0,.str [],.str [],.int .i64 0,.int .i64 0]:=rfl
@[go_sem] theorem JsD:T.ty 23=ty23:=rfl
@[go_sem] theorem JzZ : ty23.k = .struct [(0, 3, "Port"), (1, 9, "Host"), (2, 9, "Path"), (3, 3, "First"), (4, 3, "Other")] := rfl
@[go_sem] theorem JJD:ty23.sz=5:=rfl
@[go_sem] theorem Jvs:ty23.bytes=56:=rfl
@[go_sem] theorem JNe:ty23.zero=[.int .i64 0,.str [],.str [],.int .i64 0,.int .i64 0]:=rfl
@[go_sem] theorem JsG:T.ty 25=ty25:=rfl
@[go_sem] theorem Jz2 : ty25.k = .struct [(0, 3, "What"), (1, 9, "Cluster"), (2, 3, "Host")] := rfl
@[go_sem] theorem JJG:ty25.sz=3:=rfl
@[go_sem] theorem Jvv:ty25.bytes=32:=rfl
@[go_sem] theorem JNh:ty25.zero=[.int .i64 0,.str [],.int .i64 0]:=rfl
@[go_sem] theorem JsK:T.ty 26=ty26:=rfl
@[go_sem] theorem Jz6 : ty26.k = .struct [(0, 23, "A"), (5, 3, "Stage"), (6, 3, "Id"), (7, 9, "Route"), (8, 9, "Cluster"), (9, 25, "Out")] := rfl
@[go_sem] theorem JJK:ty26.sz=12:=rfl
@[go_sem] theorem Jvz:ty26.bytes=136:=rfl
@[go_sem] theorem JNl:ty26.zero=[.int .i64 0,.str [],.str [],.int .i64 0,.int .i64 0,.int .i64 0,.int .i64 0,.str [],.str [],.int .i64 0,.str [],.int .i64 0]:=rfl
@[go_sem] theorem JsN:T.ty 27=ty27:=rfl
@[go_sem] theorem Jz9 : ty27.k = .struct [(0, 23, "A"), (5, 3, "Stage"), (6, 3, "Id"), (7, 9, "Route"), (8, 9, "Cluster"), (9, 25, "Out")] := rfl
@[go_sem] theorem JJN:ty27.sz=12:=rfl
@[go_sem] theorem JvC:ty27.bytes=136:=rfl
@[go_sem] theorem JNo:ty27.zero=[.int .i64 0,.str [],.str [],.int .i64 0,.int .i64 0,.int .i64 0,.int .i64 0,.str [],.str [],.int .i64 0,.str [],.int .i64 0]:=rfl
@[go_sem] theorem JsQ:T.ty 28=ty28:=rfl
@[go_sem] theorem JAc:ty28.k=.array 4 3:=rfl
@[go_sem] theorem JJQ:ty28.sz=4:=rfl
@[go_sem] theorem JvF:ty28.bytes=32:=rfl
@[go_sem] theorem JNr:ty28.zero=[.int .i64 0,.int .i64 0,.int .i64 0,.int .i64 0]:=rfl
@[go_sem] theorem JsV:T.ty 30=ty30:=rfl
@[go_sem] theorem JAh : ty30.k = .struct [(0, 28, "Last"), (4, 3, "Max")] := rfl
@[go_sem] theorem JJV:ty30.sz=5:=rfl
@[go_sem] theorem JvK:ty30.bytes=40:=rfl
@[go_sem] theorem JNw:ty30.zero=[.int .i64 0,.int .i64 0,.int .i64 0,.int .i64 0,.int .i64 0]:=rfl
@[go_sem] theorem JsX:T.ty 31=ty31:=rfl
@[go_sem] theorem JAj:ty31.k=.int .i64:=rfl
@[go_sem] theorem JJX:ty31.sz=1:=rfl
@[go_sem] theorem JvM:ty31.bytes=8:=rfl
@[go_sem] theorem JNy:ty31.zero=[.int .i64 0]:=rfl
@[go_sem] theorem Js6:T.ty 32=ty32:=rfl
@[go_sem] theorem JAs:ty32.k=.array 4 31:=rfl
@[go_sem] theorem JJ6:ty32.sz=4:=rfl
@[go_sem] theorem JvV:ty32.bytes=32:=rfl
@[go_sem] theorem JNH:ty32.zero=[.int .i64 0,.int .i64 0,.int .i64 0,.int .i64 0]:=rfl
@[go_sem] theorem Js8:T.ty 33=ty33:=rfl
@[go_sem] theorem JAu:ty33.k=.slice 118:=rfl
@[go_sem] theorem JJ8:ty33.sz=1:=rfl
@[go_sem] theorem JvX:ty33.bytes=24:=rfl
@[go_sem] theorem JNJ:ty33.zero=[.slice true []]:=rfl
@[go_sem] theorem Js9:T.ty 35=ty35:=rfl
@[go_sem] theorem JAv : ty35.k = .struct [(0, 3, "Cap"), (1, 33, "L")] := rfl
@[go_sem] theorem JJ9:ty35.sz=2:=rfl
@[go_sem] theorem JvY:ty35.bytes=32:=rfl
@[go_sem] theorem JNK:ty35.zero=[.int .i64 0,.slice true []]:=rfl
@[go_sem] theorem Jta:T.ty 37=ty37:=rfl
@[go_sem] theorem JAw : ty37.k = .struct [(0, 35, "C"), (2, 4, "Ready"), (3, 33, "Shown")] := rfl
@[go_sem] theorem JKa:ty37.sz=4:=rfl
@[go_sem] theorem JvZ:ty37.bytes=64:=rfl
@[go_sem] theorem JNL:ty37.zero=[.int .i64 0,.slice true [],.bool false,.slice true []]:=rfl
@[go_sem] theorem Jtb:T.ty 38=ty38:=rfl
@[go_sem] theorem JAx:ty38.k=.slice 72:=rfl
@[go_sem] theorem JKb:ty38.sz=1:=rfl
@[go_sem] theorem Jv0:ty38.bytes=24:=rfl
@[go_sem] theorem JNM:ty38.zero=[.slice true []]:=rfl
@[go_sem] theorem Jtd:T.ty 40=ty40:=rfl
@[go_sem] theorem JAz : ty40.k = .struct [(0, 3, "Next"), (1, 38, "Snaps")] := rfl
@[go_sem] theorem JKd:ty40.sz=2:=rfl
@[go_sem] theorem Jv2:ty40.bytes=32:=rfl
@[go_sem] theorem JNO:ty40.zero=[.int .i64 0,.slice true []]:=rfl
@[go_sem] theorem Jte:T.ty 41=ty41:=rfl
@[go_sem] theorem JAA : ty41.k = .struct [(0, 3, "Epoch"), (1, 3, "Turn"), (2, 4, "Up"), (3, 30, "In"), (8, 32, "Errs"), (12, 37, "W"), (16, 40, "P")] := rfl
@[go_sem] theorem JKe:ty41.sz=18:=rfl
@[go_sem] theorem Jv3:ty41.bytes=192:=rfl
@[go_sem] theorem JNP:ty41.zero=[.int .i64 0,.int .i64 0,.bool false,.int .i64 0,.int .i64 0,.int .i64 0,.int .i64 0,.int .i64 0,.int .i64 0,.int .i64 0,.int .i64 0,.int .i64 0,.int .i64 0,.slice true [],.bool false,.slice true [],.int .i64 0,.slice true []]:=rfl
@[go_sem] theorem Jtf:T.ty 42=ty42:=rfl
@[go_sem] theorem JAB : ty42.k = .struct [(0, 3, "Epoch"), (1, 3, "Turn"), (2, 4, "Up"), (3, 30, "In"), (8, 32, "Errs"), (12, 37, "W"), (16, 40, "P")] := rfl
@[go_sem] theorem JKf:ty42.sz=18:=rfl
@[go_sem] theorem Jv4:ty42.bytes=192:=rfl
@[go_sem] theorem JNQ:ty42.zero=[.int .i64 0,.int .i64 0,.bool false,.int .i64 0,.int .i64 0,.int .i64 0,.int .i64 0,.int .i64 0,.int .i64 0,.int .i64 0,.int .i64 0,.int .i64 0,.int .i64 0,.slice true [],.bool false,.slice true [],.int .i64 0,.slice true []]:=rfl
@[go_sem] theorem Jtg:T.ty 44=ty44:=rfl
@[go_sem] theorem JAC:ty44.k=.func:=rfl
@[go_sem] theorem JKg:ty44.sz=1:=rfl
@[go_sem] theorem Jv5:ty44.bytes=8:=rfl
@[go_sem] theorem JNR:ty44.zero=[.nilf]:=rfl
@[go_sem] theorem Jth:T.ty 46=ty46:=rfl
@[go_sem] theorem JAD : ty46.k = .struct [(0, 23, "A"), (5, 3, "Stage"), (6, 3, "Id"), (7, 9, "Route"), (8, 9, "Cluster"), (9, 25, "Out")] := rfl
@[go_sem] theorem JKh:ty46.sz=12:=rfl
@[go_sem] theorem Jv6:ty46.bytes=136:=rfl
@[go_sem] theorem JNS:ty46.zero=[.int .i64 0,.str [],.str [],.int .i64 0,.int .i64 0,.int .i64 0,.int .i64 0,.str [],.str [],.int .i64 0,.str [],.int .i64 0]:=rfl
@[go_sem] theorem Jti:T.ty 47=ty47:=rfl
@[go_sem] theorem JAE:ty47.k=.func:=rfl
@[go_sem] theorem JKi:ty47.sz=1:=rfl
@[go_sem] theorem Jv7:ty47.bytes=8:=rfl
@[go_sem] theorem JNT:ty47.zero=[.nilf]:=rfl
@[go_sem] theorem Jtj:T.ty 48=ty48:=rfl
@[go_sem] theorem JAF:ty48.k=.func:=rfl
@[go_sem] theorem JKj:ty48.sz=1:=rfl
@[go_sem] theorem Jv8:ty48.bytes=8:=rfl
@[go_sem] theorem JNU:ty48.zero=[.nilf]:=rfl
@[go_sem] theorem Jtk:T.ty 49=ty49:=rfl
@[go_sem] theorem JAG : ty49.k = .struct [(0, 28, "Last"), (4, 3, "Max")] := rfl
@[go_sem] theorem JKk:ty49.sz=5:=rfl
@[go_sem] theorem Jv9:ty49.bytes=40:=rfl
@[go_sem] theorem JNV:ty49.zero=[.int .i64 0,.int .i64 0,.int .i64 0,.int .i64 0,.int .i64 0]:=rfl
@[go_sem] theorem Jtm:T.ty 50=ty50:=rfl
@[go_sem] theorem JAI : ty50.k = .struct [(0, 3, "Cap"), (1, 33, "L")] := rfl
@[go_sem] theorem JKm:ty50.sz=2:=rfl
@[go_sem] theorem Jwb:ty50.bytes=32:=rfl
@[go_sem] theorem JNX:ty50.zero=[.int .i64 0,.slice true []]:=rfl
@[go_sem] theorem Jtn:T.ty 52=ty52:=rfl
@[go_sem] theorem JAJ : ty52.k = .struct [(0, 50, "C"), (2, 4, "Ready"), (3, 33, "Shown")] := rfl
@[go_sem] theorem JKn:ty52.sz=4:=rfl
@[go_sem] theorem Jwc:ty52.bytes=64:=rfl
@[go_sem] theorem JNY:ty52.zero=[.int .i64 0,.slice true [],.bool false,.slice true []]:=rfl
@[go_sem] theorem Jto:T.ty 53=ty53:=rfl
@[go_sem] theorem JAK:ty53.k=.slice 103:=rfl
@[go_sem] theorem JKo:ty53.sz=1:=rfl
@[go_sem] theorem Jwd:ty53.bytes=24:=rfl
@[go_sem] theorem JNZ:ty53.zero=[.slice true []]:=rfl
@[go_sem] theorem Jtp:T.ty 54=ty54:=rfl
@[go_sem] theorem JAL : ty54.k = .struct [(0, 3, "Next"), (1, 53, "Snaps")] := rfl
@[go_sem] theorem JKp:ty54.sz=2:=rfl
@[go_sem] theorem Jwe:ty54.bytes=32:=rfl
@[go_sem] theorem JN0:ty54.zero=[.int .i64 0,.slice true []]:=rfl
@[go_sem] theorem Jtq:T.ty 55=ty55:=rfl
@[go_sem] theorem JAM : ty55.k = .struct [(0, 3, "Next"), (1, 53, "Snaps")] := rfl
@[go_sem] theorem JKq:ty55.sz=2:=rfl
@[go_sem] theorem Jwf:ty55.bytes=32:=rfl
@[go_sem] theorem JN1:ty55.zero=[.int .i64 0,.slice true []]:=rfl
@[go_sem] theorem Jtr:T.ty 57=ty57:=rfl
@[go_sem] theorem JAN : ty57.k = .struct [(0, 3, "Epoch"), (1, 3, "Turn"), (2, 4, "Up"), (3, 49, "In"), (8, 32, "Errs"), (12, 52, "W"), (16, 55, "P")] := rfl
@[go_sem] theorem JKr:ty57.sz=18:=rfl
@[go_sem] theorem Jwg:ty57.bytes=192:=rfl
@[go_sem] theorem JN2:ty57.zero=[.int .i64 0,.int .i64 0,.bool false,.int .i64 0,.int .i64 0,.int .i64 0,.int .i64 0,.int .i64 0,.int .i64 0,.int .i64 0,.int .i64 0,.int .i64 0,.int .i64 0,.slice true [],.bool false,.slice true [],.int .i64 0,.slice true []]:=rfl
@[go_sem] theorem Jtt:T.ty 61=ty61:=rfl
@[go_sem] theorem JAP:ty61.k=.slice 85:=rfl
@[go_sem] theorem JKt:ty61.sz=1:=rfl
@[go_sem] theorem Jwi:ty61.bytes=24:=rfl
@[go_sem] theorem JN4:ty61.zero=[.slice true []]:=rfl
@[go_sem] theorem Jtv:T.ty 72=ty72:=rfl
@[go_sem] theorem JAR : ty72.k = .struct [(0, 3, "Id"), (1, 3, "Pins"), (2, 33, "L")] := rfl
@[go_sem] theorem JKv:ty72.sz=3:=rfl
@[go_sem] theorem Jwk:ty72.bytes=40:=rfl
@[go_sem] theorem JN6:ty72.zero=[.int .i64 0,.int .i64 0,.slice true []]:=rfl
@[go_sem] theorem Jtw:T.ty 77=ty77:=rfl
@[go_sem] theorem JAS:ty77.k=.slice 134:=rfl
@[go_sem] theorem JKw:ty77.sz=1:=rfl
@[go_sem] theorem Jwl:ty77.bytes=24:=rfl
@[go_sem] theorem JN7:ty77.zero=[.slice true []]:=rfl
@[go_sem] theorem Jty:T.ty 83=ty83:=rfl
@[go_sem] theorem JAU:ty83.k=.slice 145:=rfl
@[go_sem] theorem JKy:ty83.sz=1:=rfl
@[go_sem] theorem Jwn:ty83.bytes=24:=rfl
@[go_sem] theorem JN9:ty83.zero=[.slice true []]:=rfl
@[go_sem] theorem Jtz:T.ty 85=ty85:=rfl
@[go_sem] theorem JAV : ty85.k = .struct [(0, 3, "Type"), (1, 3, "Epoch"), (2, 3, "Kind"), (3, 3, "Nonce"), (4, 3, "Turn"), (5, 33, "Adds"), (6, 77, "Gone"), (7, 31, "Err"), (8, 83, "Have"), (9, 77, "Held")] := rfl
@[go_sem] theorem JKz:ty85.sz=10:=rfl
@[go_sem] theorem Jwo:ty85.bytes=144:=rfl
@[go_sem] theorem JOa:ty85.zero=[.int .i64 0,.int .i64 0,.int .i64 0,.int .i64 0,.int .i64 0,.slice true [],.slice true [],.int .i64 0,.slice true [],.slice true []]:=rfl
@[go_sem] theorem JtB:T.ty 94=ty94:=rfl
@[go_sem] theorem JAX:ty94.k=.slice 31:=rfl
@[go_sem] theorem JKB:ty94.sz=1:=rfl
@[go_sem] theorem Jwq:ty94.bytes=24:=rfl
@[go_sem] theorem JOc:ty94.zero=[.slice true []]:=rfl
@[go_sem] theorem JtC:T.ty 95=ty95:=rfl
@[go_sem] theorem JAY:ty95.k=.func:=rfl
@[go_sem] theorem JKC:ty95.sz=1:=rfl
@[go_sem] theorem Jwr:ty95.bytes=8:=rfl
@[go_sem] theorem JOd:ty95.zero=[.nilf]:=rfl
@[go_sem] theorem Jr5:T.ty 103=ty103:=rfl
@[go_sem] theorem Jzr : ty103.k = .struct [(0, 3, "Id"), (1, 3, "Pins"), (2, 33, "L")] := rfl
@[go_sem] theorem JI5:ty103.sz=3:=rfl
@[go_sem] theorem JuU:ty103.bytes=40:=rfl
@[go_sem] theorem JMG:ty103.zero=[.int .i64 0,.int .i64 0,.slice true []]:=rfl
@[go_sem] theorem Jr6:T.ty 104=ty104:=rfl
@[go_sem] theorem Jzs:ty104.k=.ptr 108:=rfl
@[go_sem] theorem JI6:ty104.sz=1:=rfl
@[go_sem] theorem JuV:ty104.bytes=8:=rfl
@[go_sem] theorem JMH:ty104.zero=[.nilp]:=rfl
@[go_sem] theorem Jr7:T.ty 105=ty105:=rfl
@[go_sem] theorem Jzt:ty105.k=.func:=rfl
@[go_sem] theorem JI7:ty105.sz=1:=rfl
@[go_sem] theorem JuW:ty105.bytes=8:=rfl
@[go_sem] theorem JMI:ty105.zero=[.nilf]:=rfl
@[go_sem] theorem Jr8:T.ty 108=ty108:=rfl
@[go_sem] theorem Jzu : ty108.k = .struct [(0, 46, "Req"), (12, 57, "side"), (30, 61, "told")] := rfl
@[go_sem] theorem JI8:ty108.sz=31:=rfl
@[go_sem] theorem JuX:ty108.bytes=352:=rfl
@[go_sem] theorem JMJ:ty108.zero=[.int .i64 0,.str [],.str [],.int .i64 0,.int .i64 0,.int .i64 0,.int .i64 0,.str [],.str [],.int .i64 0,.str [],.int .i64 0,.int .i64 0,.int .i64 0,.bool false,.int .i64 0,.int .i64 0,.int .i64 0,.int .i64 0,.int .i64 0,.int .i64 0,.int .i64 0,.int .i64 0,.int .i64 0,.int .i64 0,.slice true [],.bool false,.slice true [],.int .i64 0,.slice true [],.slice true []]:=rfl
@[go_sem] theorem Jsa:T.ty 114=ty114:=rfl
@[go_sem] theorem Jzw:ty114.k=.func:=rfl
@[go_sem] theorem JJa:ty114.sz=1:=rfl
@[go_sem] theorem JuZ:ty114.bytes=8:=rfl
@[go_sem] theorem JML:ty114.zero=[.nilf]:=rfl
@[go_sem] theorem Jsb:T.ty 115=ty115:=rfl
@[go_sem] theorem Jzx:ty115.k=.slice 123:=rfl
@[go_sem] theorem JJb:ty115.sz=1:=rfl
@[go_sem] theorem Ju0:ty115.bytes=24:=rfl
@[go_sem] theorem JMM:ty115.zero=[.slice true []]:=rfl
@[go_sem] theorem Jsc:T.ty 116=ty116:=rfl
@[go_sem] theorem Jzy:ty116.k=.slice 3:=rfl
@[go_sem] theorem JJc:ty116.sz=1:=rfl
@[go_sem] theorem Ju1:ty116.bytes=24:=rfl
@[go_sem] theorem JMN:ty116.zero=[.slice true []]:=rfl
@[go_sem] theorem Jsd:T.ty 118=ty118:=rfl
@[go_sem] theorem Jzz : ty118.k = .struct [(0, 3, "Kind"), (1, 9, "Name"), (2, 3, "Ver"), (3, 3, "Port"), (4, 9, "To"), (5, 115, "Rules"), (6, 116, "Hosts")] := rfl
@[go_sem] theorem JJd:ty118.sz=7:=rfl
@[go_sem] theorem Ju2:ty118.bytes=104:=rfl
@[go_sem] theorem JMO:ty118.zero=[.int .i64 0,.str [],.int .i64 0,.int .i64 0,.str [],.slice true [],.slice true []]:=rfl
@[go_sem] theorem Jsf:T.ty 121=ty121:=rfl
@[go_sem] theorem JzB:ty121.k=.slice 167:=rfl
@[go_sem] theorem JJf:ty121.sz=1:=rfl
@[go_sem] theorem Ju4:ty121.bytes=24:=rfl
@[go_sem] theorem JMQ:ty121.zero=[.slice true []]:=rfl
@[go_sem] theorem Jsg:T.ty 123=ty123:=rfl
@[go_sem] theorem JzC : ty123.k = .struct [(0, 9, "Host"), (1, 9, "Prefix"), (2, 121, "Split")] := rfl
@[go_sem] theorem JJg:ty123.sz=3:=rfl
@[go_sem] theorem Ju5:ty123.bytes=56:=rfl
@[go_sem] theorem JMR:ty123.zero=[.str [],.str [],.slice true []]:=rfl
@[go_sem] theorem Jsi:T.ty 134=ty134:=rfl
@[go_sem] theorem JzE : ty134.k = .struct [(0, 3, "Kind"), (1, 9, "Name")] := rfl
@[go_sem] theorem JJi:ty134.sz=2:=rfl
@[go_sem] theorem Ju7:ty134.bytes=24:=rfl
@[go_sem] theorem JMT:ty134.zero=[.int .i64 0,.str []]:=rfl
@[go_sem] theorem Jsk:T.ty 145=ty145:=rfl
@[go_sem] theorem JzG : ty145.k = .struct [(0, 134, "K"), (2, 3, "Ver")] := rfl
@[go_sem] theorem JJk:ty145.sz=3:=rfl
@[go_sem] theorem Ju9:ty145.bytes=32:=rfl
@[go_sem] theorem JMV:ty145.zero=[.int .i64 0,.str [],.int .i64 0]:=rfl
@[go_sem] theorem Jsn:T.ty 163=ty163:=rfl
@[go_sem] theorem JzJ:ty163.k=.func:=rfl
@[go_sem] theorem JJn:ty163.sz=1:=rfl
@[go_sem] theorem Jvc:ty163.bytes=8:=rfl
@[go_sem] theorem JMY:ty163.zero=[.nilf]:=rfl
@[go_sem] theorem Jso:T.ty 167=ty167:=rfl
@[go_sem] theorem JzK : ty167.k = .struct [(0, 9, "Cluster"), (1, 3, "W")] := rfl
@[go_sem] theorem JJo:ty167.sz=2:=rfl
@[go_sem] theorem Jvd:ty167.bytes=24:=rfl
@[go_sem] theorem JMZ:ty167.zero=[.str [],.int .i64 0]:=rfl
@[go_sem] theorem Jsq:T.ty 177=ty177:=rfl
@[go_sem] theorem JzM:ty177.k=.array 4 4:=rfl
@[go_sem] theorem JJq:ty177.sz=4:=rfl
@[go_sem] theorem Jvf:ty177.bytes=4:=rfl
@[go_sem] theorem JM1:ty177.zero=[.bool false,.bool false,.bool false,.bool false]:=rfl
@[go_sem] theorem Jsr:T.ty 179=ty179:=rfl
@[go_sem] theorem JzN : ty179.k = .struct [(0, 28, "Last"), (4, 177, "Open"), (8, 3, "Max")] := rfl
@[go_sem] theorem JJr:ty179.sz=9:=rfl
@[go_sem] theorem Jvg:ty179.bytes=48:=rfl
@[go_sem] theorem JM2:ty179.zero=[.int .i64 0,.int .i64 0,.int .i64 0,.int .i64 0,.bool false,.bool false,.bool false,.bool false,.int .i64 0]:=rfl
@[go_sem] theorem Jst:T.ty 194=ty194:=rfl
@[go_sem] theorem JzP:ty194.k=.func:=rfl
@[go_sem] theorem JJt:ty194.sz=1:=rfl
@[go_sem] theorem Jvi:ty194.bytes=8:=rfl
@[go_sem] theorem JM4:ty194.zero=[.nilf]:=rfl
@[go_sem] theorem Jsv:T.ty 200=ty200:=rfl
@[go_sem] theorem JzR:ty200.k=.func:=rfl
@[go_sem] theorem JJv:ty200.sz=1:=rfl
@[go_sem] theorem Jvk:ty200.bytes=8:=rfl
@[go_sem] theorem JM6:ty200.zero=[.nilf]:=rfl
@[go_sem] theorem Jsw:T.ty 201=ty201:=rfl
@[go_sem] theorem JzS:ty201.k=.func:=rfl
@[go_sem] theorem JJw:ty201.sz=1:=rfl
@[go_sem] theorem Jvl:ty201.bytes=8:=rfl
@[go_sem] theorem JM7:ty201.zero=[.nilf]:=rfl
@[go_sem] theorem Jsy:T.ty 216=ty216:=rfl
@[go_sem] theorem JzU : ty216.k = .struct [(0, 31, "e")] := rfl
@[go_sem] theorem JJy:ty216.sz=1:=rfl
@[go_sem] theorem Jvn:ty216.bytes=8:=rfl
@[go_sem] theorem JM9:ty216.zero=[.int .i64 0]:=rfl
@[go_sem] theorem JsA:T.ty 220=ty220:=rfl
@[go_sem] theorem JzW:ty220.k=.map 134 4:=rfl
@[go_sem] theorem JJA:ty220.sz=1:=rfl
@[go_sem] theorem Jvp:ty220.bytes=8:=rfl
@[go_sem] theorem JNb:ty220.zero=[.nilm]:=rfl
@[go_sem] theorem JsB:T.ty 225=ty225:=rfl
@[go_sem] theorem JzX:ty225.k=.func:=rfl
@[go_sem] theorem JJB:ty225.sz=1:=rfl
@[go_sem] theorem Jvq:ty225.bytes=8:=rfl
@[go_sem] theorem JNc:ty225.zero=[.nilf]:=rfl
@[go_sem] theorem JsC:T.ty 229=ty229:=rfl
@[go_sem] theorem JzY:ty229.k=.func:=rfl
@[go_sem] theorem JJC:ty229.sz=1:=rfl
@[go_sem] theorem Jvr:ty229.bytes=8:=rfl
@[go_sem] theorem JNd:ty229.zero=[.nilf]:=rfl
@[go_sem] theorem JsE:T.ty 234=ty234:=rfl
@[go_sem] theorem Jz0:ty234.k=.int .u64:=rfl
@[go_sem] theorem JJE:ty234.sz=1:=rfl
@[go_sem] theorem Jvt:ty234.bytes=8:=rfl
@[go_sem] theorem JNf:ty234.zero=[.int .u64 0]:=rfl
@[go_sem] theorem JsF:T.ty 245=ty245:=rfl
@[go_sem] theorem Jz1:ty245.k=.map 3 4:=rfl
@[go_sem] theorem JJF:ty245.sz=1:=rfl
@[go_sem] theorem Jvu:ty245.bytes=8:=rfl
@[go_sem] theorem JNg:ty245.zero=[.nilm]:=rfl
@[go_sem] theorem JsH:T.ty 251=ty251:=rfl
@[go_sem] theorem Jz3:ty251.k=.map 134 77:=rfl
@[go_sem] theorem JJH:ty251.sz=1:=rfl
@[go_sem] theorem Jvw:ty251.bytes=8:=rfl
@[go_sem] theorem JNi:ty251.zero=[.nilm]:=rfl
@[go_sem] theorem JsI:T.ty 253=ty253:=rfl
@[go_sem] theorem Jz4:ty253.k=.func:=rfl
@[go_sem] theorem JJI:ty253.sz=1:=rfl
@[go_sem] theorem Jvx:ty253.bytes=8:=rfl
@[go_sem] theorem JNj:ty253.zero=[.nilf]:=rfl
@[go_sem] theorem JsJ:T.ty 258=ty258:=rfl
@[go_sem] theorem Jz5:ty258.k=.int .i64:=rfl
@[go_sem] theorem JJJ:ty258.sz=1:=rfl
@[go_sem] theorem Jvy:ty258.bytes=8:=rfl
@[go_sem] theorem JNk:ty258.zero=[.int .i64 0]:=rfl
@[go_sem] theorem JsL:T.ty 265=ty265:=rfl
@[go_sem] theorem Jz7:ty265.k=.int .u32:=rfl
@[go_sem] theorem JJL:ty265.sz=1:=rfl
@[go_sem] theorem JvA:ty265.bytes=4:=rfl
@[go_sem] theorem JNm:ty265.zero=[.int .u32 0]:=rfl
@[go_sem] theorem JsM:T.ty 267=ty267:=rfl
@[go_sem] theorem Jz8:ty267.k=.int .u64:=rfl
@[go_sem] theorem JJM:ty267.sz=1:=rfl
@[go_sem] theorem JvB:ty267.bytes=8:=rfl
@[go_sem] theorem JNn:ty267.zero=[.int .u64 0]:=rfl
@[go_sem] theorem JsO:T.ty 274=ty274:=rfl
@[go_sem] theorem JAa:ty274.k=.func:=rfl
@[go_sem] theorem JJO:ty274.sz=1:=rfl
@[go_sem] theorem JvD:ty274.bytes=8:=rfl
@[go_sem] theorem JNp:ty274.zero=[.nilf]:=rfl
@[go_sem] theorem JsP:T.ty 276=ty276:=rfl
@[go_sem] theorem JAb : ty276.k = .struct [(0, 4, "port"), (1, 4, "to"), (2, 4, "rules"), (3, 4, "hosts")] := rfl
@[go_sem] theorem JJP:ty276.sz=4:=rfl
@[go_sem] theorem JvE:ty276.bytes=4:=rfl
@[go_sem] theorem JNq:ty276.zero=[.bool false,.bool false,.bool false,.bool false]:=rfl
@[go_sem] theorem JsR:T.ty 280=ty280:=rfl
@[go_sem] theorem JAd:ty280.k=.int .u64:=rfl
@[go_sem] theorem JJR:ty280.sz=1:=rfl
@[go_sem] theorem JvG:ty280.bytes=8:=rfl
@[go_sem] theorem JNs:ty280.zero=[.int .u64 0]:=rfl
@[go_sem] theorem JsS:T.ty 284=ty284:=rfl
@[go_sem] theorem JAe:ty284.k=.ptr 3:=rfl
@[go_sem] theorem JJS:ty284.sz=1:=rfl
@[go_sem] theorem JvH:ty284.bytes=8:=rfl
@[go_sem] theorem JNt:ty284.zero=[.nilp]:=rfl
@[go_sem] theorem JsT:T.ty 293=ty293:=rfl
@[go_sem] theorem JAf:ty293.k=.ptr 280:=rfl
@[go_sem] theorem JJT:ty293.sz=1:=rfl
@[go_sem] theorem JvI:ty293.bytes=8:=rfl
@[go_sem] theorem JNu:ty293.zero=[.nilp]:=rfl
@[go_sem] theorem JsW:T.ty 309=ty309:=rfl
@[go_sem] theorem JAi : ty309.k = .struct [(0, 17, "_interface"), (1, 17, "concrete"), (2, 17, "asserted"), (3, 9, "missingMethod")] := rfl
@[go_sem] theorem JJW:ty309.sz=4:=rfl
@[go_sem] theorem JvL:ty309.bytes=40:=rfl
@[go_sem] theorem JNx:ty309.zero=[.nilp,.nilp,.nilp,.str []]:=rfl
@[go_sem] theorem JsY:T.ty 310=ty310:=rfl
@[go_sem] theorem JAk:ty310.k=.array 0 16:=rfl
@[go_sem] theorem JJY:ty310.sz=0:=rfl
@[go_sem] theorem JvN:ty310.bytes=0:=rfl
@[go_sem] theorem JNz:ty310.zero=[]:=rfl
@[go_sem] theorem JsZ:T.ty 312=ty312:=rfl
@[go_sem] theorem JAl : ty312.k = .struct [(0, 310, "_")] := rfl
@[go_sem] theorem JJZ:ty312.sz=0:=rfl
@[go_sem] theorem JvO:ty312.bytes=0:=rfl
@[go_sem] theorem JNA:ty312.zero=[]:=rfl
@[go_sem] theorem Js0:T.ty 313=ty313:=rfl
@[go_sem] theorem JAm:ty313.k=.int .u8:=rfl
@[go_sem] theorem JJ0:ty313.sz=1:=rfl
@[go_sem] theorem JvP:ty313.bytes=1:=rfl
@[go_sem] theorem JNB:ty313.zero=[.int .u8 0]:=rfl
@[go_sem] theorem Js1:T.ty 314=ty314:=rfl
@[go_sem] theorem JAn:ty314.k=.int .u8:=rfl
@[go_sem] theorem JJ1:ty314.sz=1:=rfl
@[go_sem] theorem JvQ:ty314.bytes=1:=rfl
@[go_sem] theorem JNC:ty314.zero=[.int .u8 0]:=rfl
@[go_sem] theorem Js2:T.ty 315=ty315:=rfl
@[go_sem] theorem JAo:ty315.k=.func:=rfl
@[go_sem] theorem JJ2:ty315.sz=1:=rfl
@[go_sem] theorem JvR:ty315.bytes=8:=rfl
@[go_sem] theorem JND:ty315.zero=[.nilf]:=rfl
@[go_sem] theorem Js3:T.ty 316=ty316:=rfl
@[go_sem] theorem JAp:ty316.k=.ptr 5:=rfl
@[go_sem] theorem JJ3:ty316.sz=1:=rfl
@[go_sem] theorem JvS:ty316.bytes=8:=rfl
@[go_sem] theorem JNE:ty316.zero=[.nilp]:=rfl
@[go_sem] theorem Js4:T.ty 317=ty317:=rfl
@[go_sem] theorem JAq:ty317.k=.int .i32:=rfl
@[go_sem] theorem JJ4:ty317.sz=1:=rfl
@[go_sem] theorem JvT:ty317.bytes=4:=rfl
@[go_sem] theorem JNF:ty317.zero=[.int .i32 0]:=rfl
@[go_sem] theorem Js5:T.ty 318=ty318:=rfl
@[go_sem] theorem JAr:ty318.k=.int .i32:=rfl
@[go_sem] theorem JJ5:ty318.sz=1:=rfl
@[go_sem] theorem JvU:ty318.bytes=4:=rfl
@[go_sem] theorem JNG:ty318.zero=[.int .i32 0]:=rfl
@[go_sem] theorem Js7:T.ty 320=ty320:=rfl
@[go_sem] theorem JAt : ty320.k = .struct [(0, 12, "Size_"), (1, 12, "PtrBytes"), (2, 265, "Hash"), (3, 313, "TFlag"), (4, 5, "Align_"), (5, 5, "FieldAlign_"), (6, 314, "Kind_"), (7, 315, "Equal"), (8, 316, "GCData"), (9, 317, "Str"), (10, 318, "PtrToThis")] := rfl
@[go_sem] theorem JJ7:ty320.sz=11:=rfl
@[go_sem] theorem JvW:ty320.bytes=48:=rfl
@[go_sem] theorem JNI:ty320.zero=[.int .u64 0,.int .u64 0,.int .u32 0,.int .u8 0,.int .u8 0,.int .u8 0,.int .u8 0,.nilf,.nilp,.int .i32 0,.int .i32 0]:=rfl
@[go_sem] theorem Jxt:Tryz.prog.eqGuardType Tryz.prog.depth 23=false:=by kernel_rfl
@[go_sem] theorem JIY:Tryz.prog.stoodInHeld 23=false:=by kernel_rfl
@[go_sem] theorem Jxu:Tryz.prog.eqGuardType Tryz.prog.depth 25=false:=by kernel_rfl
@[go_sem] theorem JIZ:Tryz.prog.stoodInHeld 25=false:=by kernel_rfl
@[go_sem] theorem Jxq:Tryz.prog.eqGuardType Tryz.prog.depth 134=false:=by kernel_rfl
@[go_sem] theorem JIV:Tryz.prog.stoodInHeld 134=false:=by kernel_rfl
@[go_sem] theorem Jxr:Tryz.prog.eqGuardType Tryz.prog.depth 167=false:=by kernel_rfl
@[go_sem] theorem JIW:Tryz.prog.stoodInHeld 167=false:=by kernel_rfl
@[go_sem] theorem Jxs:Tryz.prog.eqGuardType Tryz.prog.depth 216=false:=by kernel_rfl
@[go_sem] theorem JIX:Tryz.prog.stoodInHeld 216=false:=by kernel_rfl
@[go_sem] theorem Jxv:Tryz.prog.eqGuardType Tryz.prog.depth 276=false:=by kernel_rfl
@[go_sem] theorem JI0:Tryz.prog.stoodInHeld 276=false:=by kernel_rfl
theorem mixed:Tryz.prog.follows .mixedOrders=true:=by kernel_rfl
@[ext] structure BoundsError where
 x:Int
 y:Int
 signed:Bool
 code:UInt8
 deriving Inhabited,DecidableEq
instance:Dat BoundsError where
 av x:=.agg [.int .i64 x.x,.int .i64 x.y,.bool x.signed,.int .u8 x.code.toNat]
 sz:=4
 len _:=rfl
 pure x:=by simp only[go_sem,Bool.and_self]
 nrm x:=by simp only[go_sem]
 one x:=by simp only[go_sem,List.all_cons,List.all_nil,Bool.and_self]
 known x:=rfl
@[go_sem] theorem Jkc(x:BoundsError):Dat.av x=.agg [.int .i64 x.x,.int .i64 x.y,.bool x.signed,.int .u8 x.code.toNat]:=rfl
@[go_sem] theorem JKH:Dat.sz BoundsError=4:=rfl
@[go_sem] theorem JHT(l:List BoundsError)(n:Nat)(f0:Int)(f1:Int)(f2:Bool)(f3:UInt8):(Ja l).set n (.agg [.int .i64 f0,.int .i64 f1,.bool f2,.int .u8 f3.toNat])=Ja (l.set n ⟨f0,f1,f2,f3⟩):=JZ l n (⟨f0,f1,f2,f3⟩:BoundsError)
@[go_sem] theorem JIx(l:List BoundsError)(f0:Int)(f1:Int)(f2:Bool)(f3:UInt8):Ja l++[.agg [.int .i64 f0,.int .i64 f1,.bool f2,.int .u8 f3.toNat]]=Ja (l++[⟨f0,f1,f2,f3⟩]):=by rw[JX];rfl
@[go_sem] theorem Jln:∀l:List BoundsError,AV.flat.flatL (Ja l)=true
 | []=>rfl
 |_ :: r=>by simp only[VR,AV.flat.flatL,Jln r,Jkc,AV.flat,Bool.and_self]
@[go_sem] theorem JxE(x:BoundsError):BoundsError.mk x.x x.y x.signed x.code=x:=rfl
@[ext] structure Ask where
 port:Int
 host:List UInt8
 path:List UInt8
 first:Int
 other:Int
 deriving Inhabited,DecidableEq
instance:Dat Ask where
 av x:=.agg [.int .i64 x.port,.str x.host,.str x.path,.int .i64 x.first,.int .i64 x.other]
 sz:=5
 len _:=rfl
 pure x:=by simp only[go_sem,Bool.and_self]
 nrm x:=by simp only[go_sem]
 one x:=by simp only[go_sem,List.all_cons,List.all_nil,Bool.and_self]
 known x:=rfl
@[go_sem] theorem Jka(x:Ask):Dat.av x=.agg [.int .i64 x.port,.str x.host,.str x.path,.int .i64 x.first,.int .i64 x.other]:=rfl
@[go_sem] theorem JKF:Dat.sz Ask=5:=rfl
@[go_sem] theorem JHQ(l:List Ask)(n:Nat)(f0:Int)(f1:List UInt8)(f2:List UInt8)(f3:Int)(f4:Int):(Ja l).set n (.agg [.int .i64 f0,.str f1,.str f2,.int .i64 f3,.int .i64 f4])=Ja (l.set n ⟨f0,f1,f2,f3,f4⟩):=JZ l n (⟨f0,f1,f2,f3,f4⟩:Ask)
@[go_sem] theorem JIu(l:List Ask)(f0:Int)(f1:List UInt8)(f2:List UInt8)(f3:Int)(f4:Int):Ja l++[.agg [.int .i64 f0,.str f1,.str f2,.int .i64 f3,.int .i64 f4]]=Ja (l++[⟨f0,f1,f2,f3,f4⟩]):=by rw[JX];rfl
@[go_sem] theorem Jll:∀l:List Ask,AV.flat.flatL (Ja l)=true
 | []=>rfl
 |_ :: r=>by simp only[VR,AV.flat.flatL,Jll r,Jka,AV.flat,Bool.and_self]
@[go_sem] theorem JxC(x:Ask):Ask.mk x.port x.host x.path x.first x.other=x:=rfl
@[ext] structure Answer where
 what:Int
 cluster:List UInt8
 host:Int
 deriving Inhabited,DecidableEq
instance:Dat Answer where
 av x:=.agg [.int .i64 x.what,.str x.cluster,.int .i64 x.host]
 sz:=3
 len _:=rfl
 pure x:=by simp only[go_sem,Bool.and_self]
 nrm x:=by simp only[go_sem]
 one x:=by simp only[go_sem,List.all_cons,List.all_nil,Bool.and_self]
 known x:=rfl
@[go_sem] theorem Jj9(x:Answer):Dat.av x=.agg [.int .i64 x.what,.str x.cluster,.int .i64 x.host]:=rfl
@[go_sem] theorem JKE:Dat.sz Answer=3:=rfl
@[go_sem] theorem JHP(l:List Answer)(n:Nat)(f0:Int)(f1:List UInt8)(f2:Int):(Ja l).set n (.agg [.int .i64 f0,.str f1,.int .i64 f2])=Ja (l.set n ⟨f0,f1,f2⟩):=JZ l n (⟨f0,f1,f2⟩:Answer)
@[go_sem] theorem JIt(l:List Answer)(f0:Int)(f1:List UInt8)(f2:Int):Ja l++[.agg [.int .i64 f0,.str f1,.int .i64 f2]]=Ja (l++[⟨f0,f1,f2⟩]):=by rw[JX];rfl
@[go_sem] theorem Jlk:∀l:List Answer,AV.flat.flatL (Ja l)=true
 | []=>rfl
 |_ :: r=>by simp only[VR,AV.flat.flatL,Jlk r,Jj9,AV.flat,Bool.and_self]
@[go_sem] theorem JxB(x:Answer):Answer.mk x.what x.cluster x.host=x:=rfl
@[ext] structure Req where
 a:Ask
 stage:Int
 id:Int
 route:List UInt8
 cluster:List UInt8
 out:Answer
 deriving Inhabited,DecidableEq
instance:Dat Req where
 av x:=.agg [.int .i64 x.a.port,.str x.a.host,.str x.a.path,.int .i64 x.a.first,.int .i64 x.a.other,.int .i64 x.stage,.int .i64 x.id,.str x.route,.str x.cluster,.int .i64 x.out.what,.str x.out.cluster,.int .i64 x.out.host]
 sz:=12
 len _:=rfl
 pure x:=by simp only[go_sem,Bool.and_self]
 nrm x:=by simp only[go_sem]
 one x:=by simp only[go_sem,List.all_cons,List.all_nil,Bool.and_self]
 known x:=rfl
@[go_sem] theorem Jkk(x:Req):Dat.av x=.agg [.int .i64 x.a.port,.str x.a.host,.str x.a.path,.int .i64 x.a.first,.int .i64 x.a.other,.int .i64 x.stage,.int .i64 x.id,.str x.route,.str x.cluster,.int .i64 x.out.what,.str x.out.cluster,.int .i64 x.out.host]:=rfl
@[go_sem] theorem JKU:Dat.sz Req=12:=rfl
@[go_sem] theorem JH6(l:List Req)(n:Nat)(f0:Ask)(f1:Int)(f2:Int)(f3:List UInt8)(f4:List UInt8)(f5:Answer):(Ja l).set n (.agg [.int .i64 f0.port,.str f0.host,.str f0.path,.int .i64 f0.first,.int .i64 f0.other,.int .i64 f1,.int .i64 f2,.str f3,.str f4,.int .i64 f5.what,.str f5.cluster,.int .i64 f5.host])=Ja (l.set n ⟨f0,f1,f2,f3,f4,f5⟩):=JZ l n (⟨f0,f1,f2,f3,f4,f5⟩:Req)
@[go_sem] theorem JIK(l:List Req)(f0:Ask)(f1:Int)(f2:Int)(f3:List UInt8)(f4:List UInt8)(f5:Answer):Ja l++[.agg [.int .i64 f0.port,.str f0.host,.str f0.path,.int .i64 f0.first,.int .i64 f0.other,.int .i64 f1,.int .i64 f2,.str f3,.str f4,.int .i64 f5.what,.str f5.cluster,.int .i64 f5.host]]=Ja (l++[⟨f0,f1,f2,f3,f4,f5⟩]):=by rw[JX];rfl
@[go_sem] theorem Jlw:∀l:List Req,AV.flat.flatL (Ja l)=true
 | []=>rfl
 |_ :: r=>by simp only[VR,AV.flat.flatL,Jlw r,Jkk,AV.flat,Bool.and_self]
@[go_sem] theorem JxQ(x:Req):Req.mk x.a x.stage x.id x.route x.cluster x.out=x:=rfl
@[ext] structure Four where
 a0:Int
 a1:Int
 a2:Int
 a3:Int
 deriving Inhabited,DecidableEq
instance:Dat Four where
 av x:=.agg [.int .i64 x.a0,.int .i64 x.a1,.int .i64 x.a2,.int .i64 x.a3]
 sz:=4
 len _:=rfl
 pure x:=by simp only[go_sem,Bool.and_self]
 nrm x:=by simp only[go_sem]
 one x:=by simp only[go_sem,List.all_cons,List.all_nil,Bool.and_self]
 known x:=rfl
@[go_sem] theorem Jke(x:Four):Dat.av x=.agg [.int .i64 x.a0,.int .i64 x.a1,.int .i64 x.a2,.int .i64 x.a3]:=rfl
@[go_sem] theorem JKK:Dat.sz Four=4:=rfl
@[go_sem] theorem JHW(l:List Four)(n:Nat)(f0:Int)(f1:Int)(f2:Int)(f3:Int):(Ja l).set n (.agg [.int .i64 f0,.int .i64 f1,.int .i64 f2,.int .i64 f3])=Ja (l.set n ⟨f0,f1,f2,f3⟩):=JZ l n (⟨f0,f1,f2,f3⟩:Four)
@[go_sem] theorem JIA(l:List Four)(f0:Int)(f1:Int)(f2:Int)(f3:Int):Ja l++[.agg [.int .i64 f0,.int .i64 f1,.int .i64 f2,.int .i64 f3]]=Ja (l++[⟨f0,f1,f2,f3⟩]):=by rw[JX];rfl
@[go_sem] theorem Jlp:∀l:List Four,AV.flat.flatL (Ja l)=true
 | []=>rfl
 |_ :: r=>by simp only[VR,AV.flat.flatL,Jlp r,Jke,AV.flat,Bool.and_self]
@[go_sem] theorem JxH(x:Four):Four.mk x.a0 x.a1 x.a2 x.a3=x:=rfl
@[ext] structure In where
 last:Four
 max:Int
 deriving Inhabited,DecidableEq
instance:Dat In where
 av x:=.agg [.int .i64 x.last.a0,.int .i64 x.last.a1,.int .i64 x.last.a2,.int .i64 x.last.a3,.int .i64 x.max]
 sz:=5
 len _:=rfl
 pure x:=by simp only[go_sem,Bool.and_self]
 nrm x:=by simp only[go_sem]
 one x:=by simp only[go_sem,List.all_cons,List.all_nil,Bool.and_self]
 known x:=rfl
@[go_sem] theorem Jkg(x:In):Dat.av x=.agg [.int .i64 x.last.a0,.int .i64 x.last.a1,.int .i64 x.last.a2,.int .i64 x.last.a3,.int .i64 x.max]:=rfl
@[go_sem] theorem JKN:Dat.sz In=5:=rfl
@[go_sem] theorem JHZ(l:List In)(n:Nat)(f0:Four)(f1:Int):(Ja l).set n (.agg [.int .i64 f0.a0,.int .i64 f0.a1,.int .i64 f0.a2,.int .i64 f0.a3,.int .i64 f1])=Ja (l.set n ⟨f0,f1⟩):=JZ l n (⟨f0,f1⟩:In)
@[go_sem] theorem JID(l:List In)(f0:Four)(f1:Int):Ja l++[.agg [.int .i64 f0.a0,.int .i64 f0.a1,.int .i64 f0.a2,.int .i64 f0.a3,.int .i64 f1]]=Ja (l++[⟨f0,f1⟩]):=by rw[JX];rfl
@[go_sem] theorem Jlr:∀l:List In,AV.flat.flatL (Ja l)=true
 | []=>rfl
 |_ :: r=>by simp only[VR,AV.flat.flatL,Jlr r,Jkg,AV.flat,Bool.and_self]
@[go_sem] theorem JxK(x:In):In.mk x.last x.max=x:=rfl
@[ext] structure Weight where
 cluster:List UInt8
 w:Int
 deriving Inhabited,DecidableEq
instance:Dat Weight where
 av x:=.agg [.str x.cluster,.int .i64 x.w]
 sz:=2
 len _:=rfl
 pure x:=by simp only[go_sem,Bool.and_self]
 nrm x:=by simp only[go_sem]
 one x:=by simp only[go_sem,List.all_cons,List.all_nil,Bool.and_self]
 known x:=rfl
@[go_sem] theorem Jkl(x:Weight):Dat.av x=.agg [.str x.cluster,.int .i64 x.w]:=rfl
@[go_sem] theorem JK0:Dat.sz Weight=2:=rfl
@[go_sem] theorem JIe(l:List Weight)(n:Nat)(f0:List UInt8)(f1:Int):(Ja l).set n (.agg [.str f0,.int .i64 f1])=Ja (l.set n ⟨f0,f1⟩):=JZ l n (⟨f0,f1⟩:Weight)
@[go_sem] theorem JIS(l:List Weight)(f0:List UInt8)(f1:Int):Ja l++[.agg [.str f0,.int .i64 f1]]=Ja (l++[⟨f0,f1⟩]):=by rw[JX];rfl
@[go_sem] theorem Jly:∀l:List Weight,AV.flat.flatL (Ja l)=true
 | []=>rfl
 |_ :: r=>by simp only[VR,AV.flat.flatL,Jly r,Jkl,AV.flat,Bool.and_self]
theorem Jhm(x y:Weight):x=y↔x.cluster=y.cluster∧x.w=y.w:=by cases x;cases y;simp
@[go_sem] theorem JxW(x:Weight):Weight.mk x.cluster x.w=x:=rfl
@[ext] structure Rule where
 host:List UInt8
 pfx:List UInt8
 split:List Weight
 deriving Inhabited,DecidableEq
instance:Dat Rule where
 av x:=.agg [.str x.host,.str x.pfx,.slice false (Ja x.split)]
 sz:=3
 len _:=rfl
 pure x:=by simp only[go_sem,Bool.and_self]
 nrm x:=by simp only[go_sem]
 one x:=by simp only[go_sem,List.all_cons,List.all_nil,Bool.and_self]
 known x:=rfl
@[go_sem] theorem Jt9(x:Rule):Dat.av x=.agg [.str x.host,.str x.pfx,.slice false (Ja x.split)]:=rfl
@[go_sem] theorem JKW:Dat.sz Rule=3:=rfl
@[go_sem] theorem JH8(l:List Rule)(n:Nat)(f0:List UInt8)(f1:List UInt8)(f2:List Weight):(Ja l).set n (.agg [.str f0,.str f1,.slice false (Ja f2)])=Ja (l.set n ⟨f0,f1,f2⟩):=JZ l n (⟨f0,f1,f2⟩:Rule)
@[go_sem] theorem JIM(l:List Rule)(f0:List UInt8)(f1:List UInt8)(f2:List Weight):Ja l++[.agg [.str f0,.str f1,.slice false (Ja f2)]]=Ja (l++[⟨f0,f1,f2⟩]):=by rw[JX];rfl
@[go_sem] theorem JxS(x:Rule):Rule.mk x.host x.pfx x.split=x:=rfl
@[ext] structure Res where
 kind:Int
 name:List UInt8
 ver:Int
 port:Int
 to':List UInt8
 rules':List Rule
 hosts:List Int
 deriving Inhabited,DecidableEq
instance:Dat Res where
 av x:=.agg [.int .i64 x.kind,.str x.name,.int .i64 x.ver,.int .i64 x.port,.str x.to',.slice false (Ja x.rules'),.slice false (Ja x.hosts)]
 sz:=7
 len _:=rfl
 pure x:=by simp only[go_sem,Bool.and_self]
 nrm x:=by simp only[go_sem]
 one x:=by simp only[go_sem,List.all_cons,List.all_nil,Bool.and_self]
 known x:=rfl
@[go_sem] theorem Jt8(x:Res):Dat.av x=.agg [.int .i64 x.kind,.str x.name,.int .i64 x.ver,.int .i64 x.port,.str x.to',.slice false (Ja x.rules'),.slice false (Ja x.hosts)]:=rfl
@[go_sem] theorem JKV:Dat.sz Res=7:=rfl
@[go_sem] theorem JH7(l:List Res)(n:Nat)(f0:Int)(f1:List UInt8)(f2:Int)(f3:Int)(f4:List UInt8)(f5:List Rule)(f6:List Int):(Ja l).set n (.agg [.int .i64 f0,.str f1,.int .i64 f2,.int .i64 f3,.str f4,.slice false (Ja f5),.slice false (Ja f6)])=Ja (l.set n ⟨f0,f1,f2,f3,f4,f5,f6⟩):=JZ l n (⟨f0,f1,f2,f3,f4,f5,f6⟩:Res)
@[go_sem] theorem JIL(l:List Res)(f0:Int)(f1:List UInt8)(f2:Int)(f3:Int)(f4:List UInt8)(f5:List Rule)(f6:List Int):Ja l++[.agg [.int .i64 f0,.str f1,.int .i64 f2,.int .i64 f3,.str f4,.slice false (Ja f5),.slice false (Ja f6)]]=Ja (l++[⟨f0,f1,f2,f3,f4,f5,f6⟩]):=by rw[JX];rfl
@[go_sem] theorem JxR(x:Res):Res.mk x.kind x.name x.ver x.port x.to' x.rules' x.hosts=x:=rfl
@[ext] structure Cache where
 cap:Int
 l:List Res
 deriving Inhabited,DecidableEq
instance:Dat Cache where
 av x:=.agg [.int .i64 x.cap,.slice false (Ja x.l)]
 sz:=2
 len _:=rfl
 pure x:=by simp only[go_sem,Bool.and_self]
 nrm x:=by simp only[go_sem]
 one x:=by simp only[go_sem,List.all_cons,List.all_nil,Bool.and_self]
 known x:=rfl
@[go_sem] theorem Jt4(x:Cache):Dat.av x=.agg [.int .i64 x.cap,.slice false (Ja x.l)]:=rfl
@[go_sem] theorem JKI:Dat.sz Cache=2:=rfl
@[go_sem] theorem JHU(l:List Cache)(n:Nat)(f0:Int)(f1:List Res):(Ja l).set n (.agg [.int .i64 f0,.slice false (Ja f1)])=Ja (l.set n ⟨f0,f1⟩):=JZ l n (⟨f0,f1⟩:Cache)
@[go_sem] theorem JIy(l:List Cache)(f0:Int)(f1:List Res):Ja l++[.agg [.int .i64 f0,.slice false (Ja f1)]]=Ja (l++[⟨f0,f1⟩]):=by rw[JX];rfl
@[go_sem] theorem JxF(x:Cache):Cache.mk x.cap x.l=x:=rfl
@[ext] structure Warm where
 c:Cache
 ready:Bool
 shown:List Res
 deriving Inhabited,DecidableEq
instance:Dat Warm where
 av x:=.agg [.int .i64 x.c.cap,.slice false (Ja x.c.l),.bool x.ready,.slice false (Ja x.shown)]
 sz:=4
 len _:=rfl
 pure x:=by simp only[go_sem,Bool.and_self]
 nrm x:=by simp only[go_sem]
 one x:=by simp only[go_sem,List.all_cons,List.all_nil,Bool.and_self]
 known x:=rfl
@[go_sem] theorem Juc(x:Warm):Dat.av x=.agg [.int .i64 x.c.cap,.slice false (Ja x.c.l),.bool x.ready,.slice false (Ja x.shown)]:=rfl
@[go_sem] theorem JKZ:Dat.sz Warm=4:=rfl
@[go_sem] theorem JId(l:List Warm)(n:Nat)(f0:Cache)(f1:Bool)(f2:List Res):(Ja l).set n (.agg [.int .i64 f0.cap,.slice false (Ja f0.l),.bool f1,.slice false (Ja f2)])=Ja (l.set n ⟨f0,f1,f2⟩):=JZ l n (⟨f0,f1,f2⟩:Warm)
@[go_sem] theorem JIR(l:List Warm)(f0:Cache)(f1:Bool)(f2:List Res):Ja l++[.agg [.int .i64 f0.cap,.slice false (Ja f0.l),.bool f1,.slice false (Ja f2)]]=Ja (l++[⟨f0,f1,f2⟩]):=by rw[JX];rfl
@[go_sem] theorem JxV(x:Warm):Warm.mk x.c x.ready x.shown=x:=rfl
@[ext] structure Snap where
 id:Int
 pins:Int
 l:List Res
 deriving Inhabited,DecidableEq
instance:Dat Snap where
 av x:=.agg [.int .i64 x.id,.int .i64 x.pins,.slice false (Ja x.l)]
 sz:=3
 len _:=rfl
 pure x:=by simp only[go_sem,Bool.and_self]
 nrm x:=by simp only[go_sem]
 one x:=by simp only[go_sem,List.all_cons,List.all_nil,Bool.and_self]
 known x:=rfl
@[go_sem] theorem Jub(x:Snap):Dat.av x=.agg [.int .i64 x.id,.int .i64 x.pins,.slice false (Ja x.l)]:=rfl
@[go_sem] theorem JKY:Dat.sz Snap=3:=rfl
@[go_sem] theorem JIa(l:List Snap)(n:Nat)(f0:Int)(f1:Int)(f2:List Res):(Ja l).set n (.agg [.int .i64 f0,.int .i64 f1,.slice false (Ja f2)])=Ja (l.set n ⟨f0,f1,f2⟩):=JZ l n (⟨f0,f1,f2⟩:Snap)
@[go_sem] theorem JIO(l:List Snap)(f0:Int)(f1:Int)(f2:List Res):Ja l++[.agg [.int .i64 f0,.int .i64 f1,.slice false (Ja f2)]]=Ja (l++[⟨f0,f1,f2⟩]):=by rw[JX];rfl
@[go_sem] theorem JxU(x:Snap):Snap.mk x.id x.pins x.l=x:=rfl
@[ext] structure Pins where
 next':Int
 snaps:List Snap
 deriving Inhabited,DecidableEq
instance:Dat Pins where
 av x:=.agg [.int .i64 x.next',.slice false (Ja x.snaps)]
 sz:=2
 len _:=rfl
 pure x:=by simp only[go_sem,Bool.and_self]
 nrm x:=by simp only[go_sem]
 one x:=by simp only[go_sem,List.all_cons,List.all_nil,Bool.and_self]
 known x:=rfl
@[go_sem] theorem Jkj(x:Pins):Dat.av x=.agg [.int .i64 x.next',.slice false (Ja x.snaps)]:=rfl
@[go_sem] theorem JKT:Dat.sz Pins=2:=rfl
@[go_sem] theorem JH5(l:List Pins)(n:Nat)(f0:Int)(f1:List Snap):(Ja l).set n (.agg [.int .i64 f0,.slice false (Ja f1)])=Ja (l.set n ⟨f0,f1⟩):=JZ l n (⟨f0,f1⟩:Pins)
@[go_sem] theorem JIJ(l:List Pins)(f0:Int)(f1:List Snap):Ja l++[.agg [.int .i64 f0,.slice false (Ja f1)]]=Ja (l++[⟨f0,f1⟩]):=by rw[JX];rfl
@[go_sem] theorem JxP(x:Pins):Pins.mk x.next' x.snaps=x:=rfl
@[ext] structure Side where
 epoch:Int
 turn:Int
 up:Bool
 in':In
 errs:Four
 w:Warm
 p:Pins
 deriving Inhabited,DecidableEq
instance:Dat Side where
 av x:=.agg [.int .i64 x.epoch,.int .i64 x.turn,.bool x.up,.int .i64 x.in'.last.a0,.int .i64 x.in'.last.a1,.int .i64 x.in'.last.a2,.int .i64 x.in'.last.a3,.int .i64 x.in'.max,.int .i64 x.errs.a0,.int .i64 x.errs.a1,.int .i64 x.errs.a2,.int .i64 x.errs.a3,.int .i64 x.w.c.cap,.slice false (Ja x.w.c.l),.bool x.w.ready,.slice false (Ja x.w.shown),.int .i64 x.p.next',.slice false (Ja x.p.snaps)]
 sz:=18
 len _:=rfl
 pure x:=by simp only[go_sem,Bool.and_self]
 nrm x:=by simp only[go_sem]
 one x:=by simp only[go_sem,List.all_cons,List.all_nil,Bool.and_self]
 known x:=rfl
@[go_sem] theorem Jua(x:Side):Dat.av x=.agg [.int .i64 x.epoch,.int .i64 x.turn,.bool x.up,.int .i64 x.in'.last.a0,.int .i64 x.in'.last.a1,.int .i64 x.in'.last.a2,.int .i64 x.in'.last.a3,.int .i64 x.in'.max,.int .i64 x.errs.a0,.int .i64 x.errs.a1,.int .i64 x.errs.a2,.int .i64 x.errs.a3,.int .i64 x.w.c.cap,.slice false (Ja x.w.c.l),.bool x.w.ready,.slice false (Ja x.w.shown),.int .i64 x.p.next',.slice false (Ja x.p.snaps)]:=rfl
@[go_sem] theorem JKX:Dat.sz Side=18:=rfl
@[go_sem] theorem JH9(l:List Side)(n:Nat)(f0:Int)(f1:Int)(f2:Bool)(f3:In)(f4:Four)(f5:Warm)(f6:Pins):(Ja l).set n (.agg [.int .i64 f0,.int .i64 f1,.bool f2,.int .i64 f3.last.a0,.int .i64 f3.last.a1,.int .i64 f3.last.a2,.int .i64 f3.last.a3,.int .i64 f3.max,.int .i64 f4.a0,.int .i64 f4.a1,.int .i64 f4.a2,.int .i64 f4.a3,.int .i64 f5.c.cap,.slice false (Ja f5.c.l),.bool f5.ready,.slice false (Ja f5.shown),.int .i64 f6.next',.slice false (Ja f6.snaps)])=Ja (l.set n ⟨f0,f1,f2,f3,f4,f5,f6⟩):=JZ l n (⟨f0,f1,f2,f3,f4,f5,f6⟩:Side)
@[go_sem] theorem JIN(l:List Side)(f0:Int)(f1:Int)(f2:Bool)(f3:In)(f4:Four)(f5:Warm)(f6:Pins):Ja l++[.agg [.int .i64 f0,.int .i64 f1,.bool f2,.int .i64 f3.last.a0,.int .i64 f3.last.a1,.int .i64 f3.last.a2,.int .i64 f3.last.a3,.int .i64 f3.max,.int .i64 f4.a0,.int .i64 f4.a1,.int .i64 f4.a2,.int .i64 f4.a3,.int .i64 f5.c.cap,.slice false (Ja f5.c.l),.bool f5.ready,.slice false (Ja f5.shown),.int .i64 f6.next',.slice false (Ja f6.snaps)]]=Ja (l++[⟨f0,f1,f2,f3,f4,f5,f6⟩]):=by rw[JX];rfl
@[go_sem] theorem JxT(x:Side):Side.mk x.epoch x.turn x.up x.in' x.errs x.w x.p=x:=rfl
@[ext] structure Key where
 kind:Int
 name:List UInt8
 deriving Inhabited,DecidableEq
instance:Dat Key where
 av x:=.agg [.int .i64 x.kind,.str x.name]
 sz:=2
 len _:=rfl
 pure x:=by simp only[go_sem,Bool.and_self]
 nrm x:=by simp only[go_sem]
 one x:=by simp only[go_sem,List.all_cons,List.all_nil,Bool.and_self]
 known x:=rfl
@[go_sem] theorem JeP(x:Key):Dat.av x=.agg [.int .i64 x.kind,.str x.name]:=rfl
@[go_sem] theorem JKO:Dat.sz Key=2:=rfl
@[go_sem] theorem JH1(l:List Key)(n:Nat)(f0:Int)(f1:List UInt8):(Ja l).set n (.agg [.int .i64 f0,.str f1])=Ja (l.set n ⟨f0,f1⟩):=JZ l n (⟨f0,f1⟩:Key)
@[go_sem] theorem JIF(l:List Key)(f0:Int)(f1:List UInt8):Ja l++[.agg [.int .i64 f0,.str f1]]=Ja (l++[⟨f0,f1⟩]):=by rw[JX];rfl
@[go_sem] theorem Jlt:∀l:List Key,AV.flat.flatL (Ja l)=true
 | []=>rfl
 |_ :: r=>by simp only[VR,AV.flat.flatL,Jlt r,JeP,AV.flat,Bool.and_self]
theorem Z4(x y:Key):x=y↔x.kind=y.kind∧x.name=y.name:=by cases x;cases y;simp
@[go_sem] theorem JxL(x:Key):Key.mk x.kind x.name=x:=rfl
@[ext] structure Mark where
 k:Key
 ver:Int
 deriving Inhabited,DecidableEq
instance:Dat Mark where
 av x:=.agg [.int .i64 x.k.kind,.str x.k.name,.int .i64 x.ver]
 sz:=3
 len _:=rfl
 pure x:=by simp only[go_sem,Bool.and_self]
 nrm x:=by simp only[go_sem]
 one x:=by simp only[go_sem,List.all_cons,List.all_nil,Bool.and_self]
 known x:=rfl
@[go_sem] theorem Jkh(x:Mark):Dat.av x=.agg [.int .i64 x.k.kind,.str x.k.name,.int .i64 x.ver]:=rfl
@[go_sem] theorem JKQ:Dat.sz Mark=3:=rfl
@[go_sem] theorem JH2(l:List Mark)(n:Nat)(f0:Key)(f1:Int):(Ja l).set n (.agg [.int .i64 f0.kind,.str f0.name,.int .i64 f1])=Ja (l.set n ⟨f0,f1⟩):=JZ l n (⟨f0,f1⟩:Mark)
@[go_sem] theorem JIG(l:List Mark)(f0:Key)(f1:Int):Ja l++[.agg [.int .i64 f0.kind,.str f0.name,.int .i64 f1]]=Ja (l++[⟨f0,f1⟩]):=by rw[JX];rfl
@[go_sem] theorem Jlu:∀l:List Mark,AV.flat.flatL (Ja l)=true
 | []=>rfl
 |_ :: r=>by simp only[VR,AV.flat.flatL,Jlu r,Jkh,AV.flat,Bool.and_self]
theorem Jhl(x y:Mark):x=y↔x.k=y.k∧x.ver=y.ver:=by cases x;cases y;simp
@[go_sem] theorem JxM(x:Mark):Mark.mk x.k x.ver=x:=rfl
@[ext] structure Frame where
 type:Int
 epoch:Int
 kind:Int
 nonce:Int
 turn:Int
 adds:List Res
 gone:List Key
 err:Int
 have':List Mark
 held:List Key
 deriving Inhabited,DecidableEq
instance:Dat Frame where
 av x:=.agg [.int .i64 x.type,.int .i64 x.epoch,.int .i64 x.kind,.int .i64 x.nonce,.int .i64 x.turn,.slice false (Ja x.adds),.slice false (Ja x.gone),.int .i64 x.err,.slice false (Ja x.have'),.slice false (Ja x.held)]
 sz:=10
 len _:=rfl
 pure x:=by simp only[go_sem,Bool.and_self]
 nrm x:=by simp only[go_sem]
 one x:=by simp only[go_sem,List.all_cons,List.all_nil,Bool.and_self]
 known x:=rfl
@[go_sem] theorem Jt5(x:Frame):Dat.av x=.agg [.int .i64 x.type,.int .i64 x.epoch,.int .i64 x.kind,.int .i64 x.nonce,.int .i64 x.turn,.slice false (Ja x.adds),.slice false (Ja x.gone),.int .i64 x.err,.slice false (Ja x.have'),.slice false (Ja x.held)]:=rfl
@[go_sem] theorem JKL:Dat.sz Frame=10:=rfl
@[go_sem] theorem JHX(l:List Frame)(n:Nat)(f0:Int)(f1:Int)(f2:Int)(f3:Int)(f4:Int)(f5:List Res)(f6:List Key)(f7:Int)(f8:List Mark)(f9:List Key):(Ja l).set n (.agg [.int .i64 f0,.int .i64 f1,.int .i64 f2,.int .i64 f3,.int .i64 f4,.slice false (Ja f5),.slice false (Ja f6),.int .i64 f7,.slice false (Ja f8),.slice false (Ja f9)])=Ja (l.set n ⟨f0,f1,f2,f3,f4,f5,f6,f7,f8,f9⟩):=JZ l n (⟨f0,f1,f2,f3,f4,f5,f6,f7,f8,f9⟩:Frame)
@[go_sem] theorem JIB(l:List Frame)(f0:Int)(f1:Int)(f2:Int)(f3:Int)(f4:Int)(f5:List Res)(f6:List Key)(f7:Int)(f8:List Mark)(f9:List Key):Ja l++[.agg [.int .i64 f0,.int .i64 f1,.int .i64 f2,.int .i64 f3,.int .i64 f4,.slice false (Ja f5),.slice false (Ja f6),.int .i64 f7,.slice false (Ja f8),.slice false (Ja f9)]]=Ja (l++[⟨f0,f1,f2,f3,f4,f5,f6,f7,f8,f9⟩]):=by rw[JX];rfl
theorem Jk7(x y:Frame):x=y↔x.type=y.type∧x.epoch=y.epoch∧x.kind=y.kind∧x.nonce=y.nonce∧x.turn=y.turn∧x.adds=y.adds∧x.gone=y.gone∧x.err=y.err∧x.have'=y.have'∧x.held=y.held:=by cases x;cases y;simp
@[go_sem] theorem JxI(x:Frame):Frame.mk x.type x.epoch x.kind x.nonce x.turn x.adds x.gone x.err x.have' x.held=x:=rfl
@[ext] structure Work where
 req:Req
 side:Side
 told:List Frame
 deriving Inhabited,DecidableEq
instance:Dat Work where
 av x:=.agg [.int .i64 x.req.a.port,.str x.req.a.host,.str x.req.a.path,.int .i64 x.req.a.first,.int .i64 x.req.a.other,.int .i64 x.req.stage,.int .i64 x.req.id,.str x.req.route,.str x.req.cluster,.int .i64 x.req.out.what,.str x.req.out.cluster,.int .i64 x.req.out.host,.int .i64 x.side.epoch,.int .i64 x.side.turn,.bool x.side.up,.int .i64 x.side.in'.last.a0,.int .i64 x.side.in'.last.a1,.int .i64 x.side.in'.last.a2,.int .i64 x.side.in'.last.a3,.int .i64 x.side.in'.max,.int .i64 x.side.errs.a0,.int .i64 x.side.errs.a1,.int .i64 x.side.errs.a2,.int .i64 x.side.errs.a3,.int .i64 x.side.w.c.cap,.slice false (Ja x.side.w.c.l),.bool x.side.w.ready,.slice false (Ja x.side.w.shown),.int .i64 x.side.p.next',.slice false (Ja x.side.p.snaps),.slice false (Ja x.told)]
 sz:=31
 len _:=rfl
 pure x:=by simp only[go_sem,Bool.and_self]
 nrm x:=by simp only[go_sem]
 one x:=by simp only[go_sem,List.all_cons,List.all_nil,Bool.and_self]
 known x:=rfl
@[go_sem] theorem Jud(x:Work):Dat.av x=.agg [.int .i64 x.req.a.port,.str x.req.a.host,.str x.req.a.path,.int .i64 x.req.a.first,.int .i64 x.req.a.other,.int .i64 x.req.stage,.int .i64 x.req.id,.str x.req.route,.str x.req.cluster,.int .i64 x.req.out.what,.str x.req.out.cluster,.int .i64 x.req.out.host,.int .i64 x.side.epoch,.int .i64 x.side.turn,.bool x.side.up,.int .i64 x.side.in'.last.a0,.int .i64 x.side.in'.last.a1,.int .i64 x.side.in'.last.a2,.int .i64 x.side.in'.last.a3,.int .i64 x.side.in'.max,.int .i64 x.side.errs.a0,.int .i64 x.side.errs.a1,.int .i64 x.side.errs.a2,.int .i64 x.side.errs.a3,.int .i64 x.side.w.c.cap,.slice false (Ja x.side.w.c.l),.bool x.side.w.ready,.slice false (Ja x.side.w.shown),.int .i64 x.side.p.next',.slice false (Ja x.side.p.snaps),.slice false (Ja x.told)]:=rfl
@[go_sem] theorem JK1:Dat.sz Work=31:=rfl
@[go_sem] theorem JIf(l:List Work)(n:Nat)(f0:Req)(f1:Side)(f2:List Frame):(Ja l).set n (.agg [.int .i64 f0.a.port,.str f0.a.host,.str f0.a.path,.int .i64 f0.a.first,.int .i64 f0.a.other,.int .i64 f0.stage,.int .i64 f0.id,.str f0.route,.str f0.cluster,.int .i64 f0.out.what,.str f0.out.cluster,.int .i64 f0.out.host,.int .i64 f1.epoch,.int .i64 f1.turn,.bool f1.up,.int .i64 f1.in'.last.a0,.int .i64 f1.in'.last.a1,.int .i64 f1.in'.last.a2,.int .i64 f1.in'.last.a3,.int .i64 f1.in'.max,.int .i64 f1.errs.a0,.int .i64 f1.errs.a1,.int .i64 f1.errs.a2,.int .i64 f1.errs.a3,.int .i64 f1.w.c.cap,.slice false (Ja f1.w.c.l),.bool f1.w.ready,.slice false (Ja f1.w.shown),.int .i64 f1.p.next',.slice false (Ja f1.p.snaps),.slice false (Ja f2)])=Ja (l.set n ⟨f0,f1,f2⟩):=JZ l n (⟨f0,f1,f2⟩:Work)
@[go_sem] theorem JIT(l:List Work)(f0:Req)(f1:Side)(f2:List Frame):Ja l++[.agg [.int .i64 f0.a.port,.str f0.a.host,.str f0.a.path,.int .i64 f0.a.first,.int .i64 f0.a.other,.int .i64 f0.stage,.int .i64 f0.id,.str f0.route,.str f0.cluster,.int .i64 f0.out.what,.str f0.out.cluster,.int .i64 f0.out.host,.int .i64 f1.epoch,.int .i64 f1.turn,.bool f1.up,.int .i64 f1.in'.last.a0,.int .i64 f1.in'.last.a1,.int .i64 f1.in'.last.a2,.int .i64 f1.in'.last.a3,.int .i64 f1.in'.max,.int .i64 f1.errs.a0,.int .i64 f1.errs.a1,.int .i64 f1.errs.a2,.int .i64 f1.errs.a3,.int .i64 f1.w.c.cap,.slice false (Ja f1.w.c.l),.bool f1.w.ready,.slice false (Ja f1.w.shown),.int .i64 f1.p.next',.slice false (Ja f1.p.snaps),.slice false (Ja f2)]]=Ja (l++[⟨f0,f1,f2⟩]):=by rw[JX];rfl
@[go_sem] theorem JxX(x:Work):Work.mk x.req x.side x.told=x:=rfl
@[ext] structure Flags where
 a0:Bool
 a1:Bool
 a2:Bool
 a3:Bool
 deriving Inhabited,DecidableEq
instance:Dat Flags where
 av x:=.agg [.bool x.a0,.bool x.a1,.bool x.a2,.bool x.a3]
 sz:=4
 len _:=rfl
 pure x:=by simp only[go_sem,Bool.and_self]
 nrm x:=by simp only[go_sem]
 one x:=by simp only[go_sem,List.all_cons,List.all_nil,Bool.and_self]
 known x:=rfl
@[go_sem] theorem Jkd(x:Flags):Dat.av x=.agg [.bool x.a0,.bool x.a1,.bool x.a2,.bool x.a3]:=rfl
@[go_sem] theorem JKJ:Dat.sz Flags=4:=rfl
@[go_sem] theorem JHV(l:List Flags)(n:Nat)(f0:Bool)(f1:Bool)(f2:Bool)(f3:Bool):(Ja l).set n (.agg [.bool f0,.bool f1,.bool f2,.bool f3])=Ja (l.set n ⟨f0,f1,f2,f3⟩):=JZ l n (⟨f0,f1,f2,f3⟩:Flags)
@[go_sem] theorem JIz(l:List Flags)(f0:Bool)(f1:Bool)(f2:Bool)(f3:Bool):Ja l++[.agg [.bool f0,.bool f1,.bool f2,.bool f3]]=Ja (l++[⟨f0,f1,f2,f3⟩]):=by rw[JX];rfl
@[go_sem] theorem Jlo:∀l:List Flags,AV.flat.flatL (Ja l)=true
 | []=>rfl
 |_ :: r=>by simp only[VR,AV.flat.flatL,Jlo r,Jkd,AV.flat,Bool.and_self]
@[go_sem] theorem JxG(x:Flags):Flags.mk x.a0 x.a1 x.a2 x.a3=x:=rfl
@[ext] structure Out where
 last:Four
 open':Flags
 max:Int
 deriving Inhabited,DecidableEq
instance:Dat Out where
 av x:=.agg [.int .i64 x.last.a0,.int .i64 x.last.a1,.int .i64 x.last.a2,.int .i64 x.last.a3,.bool x.open'.a0,.bool x.open'.a1,.bool x.open'.a2,.bool x.open'.a3,.int .i64 x.max]
 sz:=9
 len _:=rfl
 pure x:=by simp only[go_sem,Bool.and_self]
 nrm x:=by simp only[go_sem]
 one x:=by simp only[go_sem,List.all_cons,List.all_nil,Bool.and_self]
 known x:=rfl
@[go_sem] theorem Jki(x:Out):Dat.av x=.agg [.int .i64 x.last.a0,.int .i64 x.last.a1,.int .i64 x.last.a2,.int .i64 x.last.a3,.bool x.open'.a0,.bool x.open'.a1,.bool x.open'.a2,.bool x.open'.a3,.int .i64 x.max]:=rfl
@[go_sem] theorem JKS:Dat.sz Out=9:=rfl
@[go_sem] theorem JH4(l:List Out)(n:Nat)(f0:Four)(f1:Flags)(f2:Int):(Ja l).set n (.agg [.int .i64 f0.a0,.int .i64 f0.a1,.int .i64 f0.a2,.int .i64 f0.a3,.bool f1.a0,.bool f1.a1,.bool f1.a2,.bool f1.a3,.int .i64 f2])=Ja (l.set n ⟨f0,f1,f2⟩):=JZ l n (⟨f0,f1,f2⟩:Out)
@[go_sem] theorem JII(l:List Out)(f0:Four)(f1:Flags)(f2:Int):Ja l++[.agg [.int .i64 f0.a0,.int .i64 f0.a1,.int .i64 f0.a2,.int .i64 f0.a3,.bool f1.a0,.bool f1.a1,.bool f1.a2,.bool f1.a3,.int .i64 f2]]=Ja (l++[⟨f0,f1,f2⟩]):=by rw[JX];rfl
@[go_sem] theorem Jlv:∀l:List Out,AV.flat.flatL (Ja l)=true
 | []=>rfl
 |_ :: r=>by simp only[VR,AV.flat.flatL,Jlv r,Jki,AV.flat,Bool.and_self]
@[go_sem] theorem JxO(x:Out):Out.mk x.last x.open' x.max=x:=rfl
@[ext] structure Move where
 warm:Warm
 changed:Bool
 deriving Inhabited,DecidableEq
instance:Dat Move where
 av x:=.agg [.int .i64 x.warm.c.cap,.slice false (Ja x.warm.c.l),.bool x.warm.ready,.slice false (Ja x.warm.shown),.bool x.changed]
 sz:=5
 len _:=rfl
 pure x:=by simp only[go_sem,Bool.and_self]
 nrm x:=by simp only[go_sem]
 one x:=by simp only[go_sem,List.all_cons,List.all_nil,Bool.and_self]
 known x:=rfl
@[go_sem] theorem Jt7(x:Move):Dat.av x=.agg [.int .i64 x.warm.c.cap,.slice false (Ja x.warm.c.l),.bool x.warm.ready,.slice false (Ja x.warm.shown),.bool x.changed]:=rfl
@[go_sem] theorem JKR:Dat.sz Move=5:=rfl
@[go_sem] theorem JH3(l:List Move)(n:Nat)(f0:Warm)(f1:Bool):(Ja l).set n (.agg [.int .i64 f0.c.cap,.slice false (Ja f0.c.l),.bool f0.ready,.slice false (Ja f0.shown),.bool f1])=Ja (l.set n ⟨f0,f1⟩):=JZ l n (⟨f0,f1⟩:Move)
@[go_sem] theorem JIH(l:List Move)(f0:Warm)(f1:Bool):Ja l++[.agg [.int .i64 f0.c.cap,.slice false (Ja f0.c.l),.bool f0.ready,.slice false (Ja f0.shown),.bool f1]]=Ja (l++[⟨f0,f1⟩]):=by rw[JX];rfl
@[go_sem] theorem JxN(x:Move):Move.mk x.warm x.changed=x:=rfl
@[ext] structure Bad where
 e:Int
 deriving Inhabited,DecidableEq
instance:Dat Bad where
 av x:=.agg [.int .i64 x.e]
 sz:=1
 len _:=rfl
 pure x:=by simp only[go_sem,Bool.and_self]
 nrm x:=by simp only[go_sem]
 one x:=by simp only[go_sem,List.all_cons,List.all_nil,Bool.and_self]
 known x:=rfl
@[go_sem] theorem Jkb(x:Bad):Dat.av x=.agg [.int .i64 x.e]:=rfl
@[go_sem] theorem JKG:Dat.sz Bad=1:=rfl
@[go_sem] theorem JHR(l:List Bad)(n:Nat)(f0:Int):(Ja l).set n (.agg [.int .i64 f0])=Ja (l.set n ⟨f0⟩):=JZ l n (⟨f0⟩:Bad)
@[go_sem] theorem JIv(l:List Bad)(f0:Int):Ja l++[.agg [.int .i64 f0]]=Ja (l++[⟨f0⟩]):=by rw[JX];rfl
@[go_sem] theorem Jlm:∀l:List Bad,AV.flat.flatL (Ja l)=true
 | []=>rfl
 |_ :: r=>by simp only[VR,AV.flat.flatL,Jlm r,Jkb,AV.flat,Bool.and_self]
@[go_sem] theorem JxD(x:Bad):Bad.mk x.e=x:=rfl
@[ext] structure Has where
 port:Bool
 to':Bool
 rules':Bool
 hosts:Bool
 deriving Inhabited,DecidableEq
instance:Dat Has where
 av x:=.agg [.bool x.port,.bool x.to',.bool x.rules',.bool x.hosts]
 sz:=4
 len _:=rfl
 pure x:=by simp only[go_sem,Bool.and_self]
 nrm x:=by simp only[go_sem]
 one x:=by simp only[go_sem,List.all_cons,List.all_nil,Bool.and_self]
 known x:=rfl
@[go_sem] theorem Jkf(x:Has):Dat.av x=.agg [.bool x.port,.bool x.to',.bool x.rules',.bool x.hosts]:=rfl
@[go_sem] theorem JKM:Dat.sz Has=4:=rfl
@[go_sem] theorem JHY(l:List Has)(n:Nat)(f0:Bool)(f1:Bool)(f2:Bool)(f3:Bool):(Ja l).set n (.agg [.bool f0,.bool f1,.bool f2,.bool f3])=Ja (l.set n ⟨f0,f1,f2,f3⟩):=JZ l n (⟨f0,f1,f2,f3⟩:Has)
@[go_sem] theorem JIC(l:List Has)(f0:Bool)(f1:Bool)(f2:Bool)(f3:Bool):Ja l++[.agg [.bool f0,.bool f1,.bool f2,.bool f3]]=Ja (l++[⟨f0,f1,f2,f3⟩]):=by rw[JX];rfl
@[go_sem] theorem Jlq:∀l:List Has,AV.flat.flatL (Ja l)=true
 | []=>rfl
 |_ :: r=>by simp only[VR,AV.flat.flatL,Jlq r,Jkf,AV.flat,Bool.and_self]
@[go_sem] theorem JxJ(x:Has):Has.mk x.port x.to' x.rules' x.hosts=x:=rfl
@[ext] structure AcceptRange where
 lo:UInt8
 hi:UInt8
 deriving Inhabited,DecidableEq
instance:Dat AcceptRange where
 av x:=.agg [.int .u8 x.lo.toNat,.int .u8 x.hi.toNat]
 sz:=2
 len _:=rfl
 pure x:=by simp only[go_sem,Bool.and_self]
 nrm x:=by simp only[go_sem]
 one x:=by simp only[go_sem,List.all_cons,List.all_nil,Bool.and_self]
 known x:=rfl
@[go_sem] theorem Jj8(x:AcceptRange):Dat.av x=.agg [.int .u8 x.lo.toNat,.int .u8 x.hi.toNat]:=rfl
@[go_sem] theorem JKD:Dat.sz AcceptRange=2:=rfl
@[go_sem] theorem JHO(l:List AcceptRange)(n:Nat)(f0:UInt8)(f1:UInt8):(Ja l).set n (.agg [.int .u8 f0.toNat,.int .u8 f1.toNat])=Ja (l.set n ⟨f0,f1⟩):=JZ l n (⟨f0,f1⟩:AcceptRange)
@[go_sem] theorem JIs(l:List AcceptRange)(f0:UInt8)(f1:UInt8):Ja l++[.agg [.int .u8 f0.toNat,.int .u8 f1.toNat]]=Ja (l++[⟨f0,f1⟩]):=by rw[JX];rfl
@[go_sem] theorem Jlj:∀l:List AcceptRange,AV.flat.flatL (Ja l)=true
 | []=>rfl
 |_ :: r=>by simp only[VR,AV.flat.flatL,Jlj r,Jj8,AV.flat,Bool.and_self]
@[go_sem] theorem JxA(x:AcceptRange):AcceptRange.mk x.lo x.hi=x:=rfl
def JjW(x:Ask):Prop:=Jc x.host.length∧Jc x.path.length
def Jc9(x:Four):Prop:=True
def Jgt(x:In):Prop:=Jc9 x.last
def Jdb(x:Weight):Prop:=Jc x.cluster.length
def V1(x:Rule):Prop:=Jc x.host.length∧Jc x.pfx.length∧Jc x.split.length∧(∀y∈x.split,Jdb y)
def JC(x:Res):Prop:=Jc x.name.length∧Jc x.to'.length∧Jc x.rules'.length∧(∀y∈x.rules',V1 y)∧Jc x.hosts.length
def Jgs(x:Cache):Prop:=Jc x.l.length∧(∀y∈x.l,JC y)
def Jaw(x:Warm):Prop:=Jgs x.c∧Jc x.shown.length∧(∀y∈x.shown,JC y)
def Ye(x:Snap):Prop:=Jc x.l.length∧(∀y∈x.l,JC y)
def Jgu(x:Pins):Prop:=Jc x.snaps.length∧(∀y∈x.snaps,Ye y)
def JjY(x:Side):Prop:=Jgt x.in'∧Jc9 x.errs∧Jaw x.w∧Jgu x.p
def Jda(x:Key):Prop:=Jc x.name.length
def JjX(x:Mark):Prop:=Jda x.k
def ZD(x:Frame):Prop:=Jc x.adds.length∧(∀y∈x.adds,JC y)∧Jc x.gone.length∧(∀y∈x.gone,Jda y)∧Jc x.have'.length∧(∀y∈x.have',JjX y)∧Jc x.held.length∧(∀y∈x.held,Jda y)
end Go.Proofs.YthjalhfmpffbjaaGreatDoor.Lg
