/- Parts of the proof, one behind the other. -/
import Derived.Test.YthjalhfmpffbjaaGreatDoorProg
import Derived.Test.YthjalhfmpffbjaaGreatDoorG02
namespace Go.Proofs.YthjalhfmpffbjaaGreatDoor.Lg
open Go
set_option linter.unusedVariables false
set_option linter.unusedSimpArgs false
set_option maxRecDepth 100000
theorem Jd{i:Nat}{ti:TypeInfo}(h:Tryz.prog.types[i]?=some ti):Tryz.prog.info? i=some ti:=by
 have hlt:i<Tryz.prog.types.size:=(Array.getElem?_eq_some_iff.1 h).1
 simp only[Tables.info?,if_pos hlt,h]
def ty1:TyI:=⟨.func,1,8,[.nilf]⟩
theorem JoB:Jm Tryz.prog 1 ty1:=.inr ⟨Tryz.t1,Jd Tryz.type1,rfl,rfl,⟨_,rfl,rfl,rfl⟩,_,Tryz.underlying1,rfl⟩
theorem Jp8:Jn Tryz.prog 1 ty1:=.inr ⟨Tryz.t1,_,Jd Tryz.type1,rfl,rfl⟩
def ty2:TyI:=⟨.int .i64,1,8,[.int .i64 0]⟩
theorem Jo1:Jm Tryz.prog 2 ty2:=.inr ⟨Tryz.t2,Jd Tryz.type2,rfl,rfl,⟨_,rfl,rfl,rfl⟩,_,Tryz.underlying2,rfl⟩
theorem Jqy:Jn Tryz.prog 2 ty2:=.inr ⟨Tryz.t2,_,Jd Tryz.type2,rfl,rfl⟩
def ty3:TyI:=⟨.int .i64,1,8,[.int .i64 0]⟩
theorem Jpr:Jm Tryz.prog 3 ty3:=.inr ⟨Tryz.t3,Jd Tryz.type3,rfl,rfl,⟨_,rfl,rfl,rfl⟩,_,Tryz.underlying3,rfl⟩
theorem JqY:Jn Tryz.prog 3 ty3:=.inr ⟨Tryz.t3,_,Jd Tryz.type3,rfl,rfl⟩
def ty4:TyI:=⟨.bool,1,1,[.bool false]⟩
theorem JpJ:Jm Tryz.prog 4 ty4:=.inr ⟨Tryz.t4,Jd Tryz.type4,rfl,rfl,⟨_,rfl,rfl,rfl⟩,_,Tryz.underlying4,rfl⟩
theorem Jrg:Jn Tryz.prog 4 ty4:=.inr ⟨Tryz.t4,_,Jd Tryz.type4,rfl,rfl⟩
def ty5:TyI:=⟨.int .u8,1,1,[.int .u8 0]⟩
theorem JpR:Jm Tryz.prog 5 ty5:=.inr ⟨Tryz.t5,Jd Tryz.type5,rfl,rfl,⟨_,rfl,rfl,rfl⟩,_,Tryz.underlying5,rfl⟩
theorem Jro:Jn Tryz.prog 5 ty5:=.inr ⟨Tryz.t5,_,Jd Tryz.type5,rfl,rfl⟩
def ty6:TyI:=⟨.int .u8,1,1,[.int .u8 0]⟩
theorem JpX:Jm Tryz.prog 6 ty6:=.inr ⟨Tryz.t6,Jd Tryz.type6,rfl,rfl,⟨_,rfl,rfl,rfl⟩,_,Tryz.underlying6,rfl⟩
theorem Jru:Jn Tryz.prog 6 ty6:=.inr ⟨Tryz.t6,_,Jd Tryz.type6,rfl,rfl⟩
def ty7 : TyI := ⟨.struct [(0, 2, "x"), (1, 3, "y"), (2, 4, "signed"), (3, 6, "code")], 4, 24, [.int .i64 0, .int .i64 0, .bool false, .int .u8 0]⟩
theorem JpZ:Jm Tryz.prog 7 ty7:=.inr ⟨Tryz.t7,Jd Tryz.type7,rfl,rfl,⟨_,rfl,rfl,rfl⟩,_,Tryz.underlying7,rfl⟩
theorem Jrw:Jn Tryz.prog 7 ty7:=.inr ⟨Tryz.t7,_,Jd Tryz.type7,rfl,rfl⟩
def ty8 : TyI := ⟨.struct [(0, 2, "x"), (1, 3, "y"), (2, 4, "signed"), (3, 6, "code")], 4, 24, [.int .i64 0, .int .i64 0, .bool false, .int .u8 0]⟩
theorem Jp2:Jm Tryz.prog 8 ty8:=.inr ⟨Tryz.t8,Jd Tryz.type8,rfl,rfl,⟨_,rfl,rfl,rfl⟩,_,Tryz.underlying8,rfl⟩
theorem Jrz:Jn Tryz.prog 8 ty8:=.inr ⟨Tryz.t8,_,Jd Tryz.type8,rfl,rfl⟩
def ty9:TyI:=⟨.str,1,16,[.str []]⟩
theorem Jp5:Jm Tryz.prog 9 ty9:=.inr ⟨Tryz.t9,Jd Tryz.type9,rfl,rfl,⟨_,rfl,rfl,rfl⟩,_,Tryz.underlying9,rfl⟩
theorem JrC:Jn Tryz.prog 9 ty9:=.inr ⟨Tryz.t9,_,Jd Tryz.type9,rfl,rfl⟩
def ty10:TyI:=⟨.str,1,16,[.str []]⟩
theorem JoC:Jm Tryz.prog 10 ty10:=.inr ⟨Tryz.t10,Jd Tryz.type10,rfl,rfl,⟨_,rfl,rfl,rfl⟩,_,Tryz.underlying10,rfl⟩
theorem Jp9:Jn Tryz.prog 10 ty10:=.inr ⟨Tryz.t10,_,Jd Tryz.type10,rfl,rfl⟩
def ty12:TyI:=⟨.int .u64,1,8,[.int .u64 0]⟩
theorem JoL:Jm Tryz.prog 12 ty12:=.inr ⟨Tryz.t12,Jd Tryz.type12,rfl,rfl,⟨_,rfl,rfl,rfl⟩,_,Tryz.underlying12,rfl⟩
theorem Jqi:Jn Tryz.prog 12 ty12:=.inr ⟨Tryz.t12,_,Jd Tryz.type12,rfl,rfl⟩
def ty13 : TyI := ⟨.struct [(0, 9, "msg"), (1, 12, "addr")], 2, 24, [.str [], .int .u64 0]⟩
theorem JoO:Jm Tryz.prog 13 ty13:=.inr ⟨Tryz.t13,Jd Tryz.type13,rfl,rfl,⟨_,rfl,rfl,rfl⟩,_,Tryz.underlying13,rfl⟩
theorem Jql:Jn Tryz.prog 13 ty13:=.inr ⟨Tryz.t13,_,Jd Tryz.type13,rfl,rfl⟩
def ty14 : TyI := ⟨.struct [(0, 9, "msg"), (1, 12, "addr")], 2, 24, [.str [], .int .u64 0]⟩
theorem JoQ:Jm Tryz.prog 14 ty14:=.inr ⟨Tryz.t14,Jd Tryz.type14,rfl,rfl,⟨_,rfl,rfl,rfl⟩,_,Tryz.underlying14,rfl⟩
theorem Jqn:Jn Tryz.prog 14 ty14:=.inr ⟨Tryz.t14,_,Jd Tryz.type14,rfl,rfl⟩
def ty15:TyI:=⟨.ptr 309,1,8,[.nilp]⟩
theorem JoS:Jm Tryz.prog 15 ty15:=.inr ⟨Tryz.t15,Jd Tryz.type15,rfl,rfl,⟨_,rfl,rfl,rfl⟩,_,Tryz.underlying15,rfl⟩
theorem Jqp:Jn Tryz.prog 15 ty15:=.inr ⟨Tryz.t15,_,Jd Tryz.type15,rfl,rfl⟩
def ty16:TyI:=⟨.ptr 312,1,8,[.nilp]⟩
theorem JoT:Jm Tryz.prog 16 ty16:=.inr ⟨Tryz.t16,Jd Tryz.type16,rfl,rfl,⟨_,rfl,rfl,rfl⟩,_,Tryz.underlying16,rfl⟩
theorem Jqq:Jn Tryz.prog 16 ty16:=.inr ⟨Tryz.t16,_,Jd Tryz.type16,rfl,rfl⟩
def ty17:TyI:=⟨.ptr 320,1,8,[.nilp]⟩
theorem JoW:Jm Tryz.prog 17 ty17:=.inr ⟨Tryz.t17,Jd Tryz.type17,rfl,rfl,⟨_,rfl,rfl,rfl⟩,_,Tryz.underlying17,rfl⟩
theorem Jqt:Jn Tryz.prog 17 ty17:=.inr ⟨Tryz.t17,_,Jd Tryz.type17,rfl,rfl⟩
def ty18 : TyI := ⟨.struct [(0, 17, "typ")], 1, 8, [.nilp]⟩
theorem JoZ:Jm Tryz.prog 18 ty18:=.inr ⟨Tryz.t18,Jd Tryz.type18,rfl,rfl,⟨_,rfl,rfl,rfl⟩,_,Tryz.underlying18,rfl⟩
theorem Jqw:Jn Tryz.prog 18 ty18:=.inr ⟨Tryz.t18,_,Jd Tryz.type18,rfl,rfl⟩
def ty21:TyI:=⟨.int .i32,1,4,[.int .i32 0]⟩
theorem Jo4:Jm Tryz.prog 21 ty21:=.inr ⟨Tryz.t21,Jd Tryz.type21,rfl,rfl,⟨_,rfl,rfl,rfl⟩,_,Tryz.underlying21,rfl⟩
theorem JqB:Jn Tryz.prog 21 ty21:=.inr ⟨Tryz.t21,_,Jd Tryz.type21,rfl,rfl⟩
def ty22 : TyI := ⟨.struct [(0, 3, "Port"), (1, 9, "Host"), (2, 9, "Path"), (3, 3, "First"), (4, 3, "Other")], 5, 56, [.int .i64 0, .str [], .str [], .int .i64 0, .int .i64 0]⟩
theorem Jo6:Jm Tryz.prog 22 ty22:=.inr ⟨Tryz.t22,Jd Tryz.type22,rfl,rfl,⟨_,rfl,rfl,rfl⟩,_,Tryz.underlying22,rfl⟩
theorem JqD:Jn Tryz.prog 22 ty22:=.inr ⟨Tryz.t22,_,Jd Tryz.type22,rfl,rfl⟩
def ty23 : TyI := ⟨.struct [(0, 3, "Port"), (1, 9, "Host"), (2, 9, "Path"), (3, 3, "First"), (4, 3, "Other")], 5, 56, [.int .i64 0, .str [], .str [], .int .i64 0, .int .i64 0]⟩
theorem Jpa:Jm Tryz.prog 23 ty23:=.inr ⟨Tryz.t23,Jd Tryz.type23,rfl,rfl,⟨_,rfl,rfl,rfl⟩,_,Tryz.underlying23,rfl⟩
theorem JqH:Jn Tryz.prog 23 ty23:=.inr ⟨Tryz.t23,_,Jd Tryz.type23,rfl,rfl⟩
def ty25 : TyI := ⟨.struct [(0, 3, "What"), (1, 9, "Cluster"), (2, 3, "Host")], 3, 32, [.int .i64 0, .str [], .int .i64 0]⟩
theorem Jpd:Jm Tryz.prog 25 ty25:=.inr ⟨Tryz.t25,Jd Tryz.type25,rfl,rfl,⟨_,rfl,rfl,rfl⟩,_,Tryz.underlying25,rfl⟩
theorem JqK:Jn Tryz.prog 25 ty25:=.inr ⟨Tryz.t25,_,Jd Tryz.type25,rfl,rfl⟩
def ty26 : TyI := ⟨.struct [(0, 23, "A"), (5, 3, "Stage"), (6, 3, "Id"), (7, 9, "Route"), (8, 9, "Cluster"), (9, 25, "Out")], 12, 136, [.int .i64 0, .str [], .str [], .int .i64 0, .int .i64 0, .int .i64 0, .int .i64 0, .str [], .str [], .int .i64 0, .str [], .int .i64 0]⟩
theorem Jph:Jm Tryz.prog 26 ty26:=.inr ⟨Tryz.t26,Jd Tryz.type26,rfl,rfl,⟨_,rfl,rfl,rfl⟩,_,Tryz.underlying26,rfl⟩
theorem JqO:Jn Tryz.prog 26 ty26:=.inr ⟨Tryz.t26,_,Jd Tryz.type26,rfl,rfl⟩
def ty27 : TyI := ⟨.struct [(0, 23, "A"), (5, 3, "Stage"), (6, 3, "Id"), (7, 9, "Route"), (8, 9, "Cluster"), (9, 25, "Out")], 12, 136, [.int .i64 0, .str [], .str [], .int .i64 0, .int .i64 0, .int .i64 0, .int .i64 0, .str [], .str [], .int .i64 0, .str [], .int .i64 0]⟩
theorem Jpk:Jm Tryz.prog 27 ty27:=.inr ⟨Tryz.t27,Jd Tryz.type27,rfl,rfl,⟨_,rfl,rfl,rfl⟩,_,Tryz.underlying27,rfl⟩
theorem JqR:Jn Tryz.prog 27 ty27:=.inr ⟨Tryz.t27,_,Jd Tryz.type27,rfl,rfl⟩
def ty28:TyI:=⟨.array 4 3,4,32,[.int .i64 0,.int .i64 0,.int .i64 0,.int .i64 0]⟩
theorem Jpn:Jm Tryz.prog 28 ty28:=.inr ⟨Tryz.t28,Jd Tryz.type28,rfl,rfl,⟨_,rfl,rfl,rfl⟩,_,Tryz.underlying28,rfl⟩
theorem JqU:Jn Tryz.prog 28 ty28:=.inr ⟨Tryz.t28,_,Jd Tryz.type28,rfl,rfl⟩
def ty30 : TyI := ⟨.struct [(0, 28, "Last"), (4, 3, "Max")], 5, 40, [.int .i64 0, .int .i64 0, .int .i64 0, .int .i64 0, .int .i64 0]⟩
theorem Jps:Jm Tryz.prog 30 ty30:=.inr ⟨Tryz.t30,Jd Tryz.type30,rfl,rfl,⟨_,rfl,rfl,rfl⟩,_,Tryz.underlying30,rfl⟩
theorem JqZ:Jn Tryz.prog 30 ty30:=.inr ⟨Tryz.t30,_,Jd Tryz.type30,rfl,rfl⟩
def ty31:TyI:=⟨.int .i64,1,8,[.int .i64 0]⟩
theorem Jpu:Jm Tryz.prog 31 ty31:=.inr ⟨Tryz.t31,Jd Tryz.type31,rfl,rfl,⟨_,rfl,rfl,rfl⟩,_,Tryz.underlying31,rfl⟩
theorem Jq1:Jn Tryz.prog 31 ty31:=.inr ⟨Tryz.t31,_,Jd Tryz.type31,rfl,rfl⟩
def ty32:TyI:=⟨.array 4 31,4,32,[.int .i64 0,.int .i64 0,.int .i64 0,.int .i64 0]⟩
theorem JpD:Jm Tryz.prog 32 ty32:=.inr ⟨Tryz.t32,Jd Tryz.type32,rfl,rfl,⟨_,rfl,rfl,rfl⟩,_,Tryz.underlying32,rfl⟩
theorem Jra:Jn Tryz.prog 32 ty32:=.inr ⟨Tryz.t32,_,Jd Tryz.type32,rfl,rfl⟩
def ty33:TyI:=⟨.slice 118,1,24,[.slice true []]⟩
theorem JpF:Jm Tryz.prog 33 ty33:=.inr ⟨Tryz.t33,Jd Tryz.type33,rfl,rfl,⟨_,rfl,rfl,rfl⟩,_,Tryz.underlying33,rfl⟩
theorem Jrc:Jn Tryz.prog 33 ty33:=.inr ⟨Tryz.t33,_,Jd Tryz.type33,rfl,rfl⟩
def ty35 : TyI := ⟨.struct [(0, 3, "Cap"), (1, 33, "L")], 2, 32, [.int .i64 0, .slice true []]⟩
theorem JpG:Jm Tryz.prog 35 ty35:=.inr ⟨Tryz.t35,Jd Tryz.type35,rfl,rfl,⟨_,rfl,rfl,rfl⟩,_,Tryz.underlying35,rfl⟩
theorem Jrd:Jn Tryz.prog 35 ty35:=.inr ⟨Tryz.t35,_,Jd Tryz.type35,rfl,rfl⟩
def ty37 : TyI := ⟨.struct [(0, 35, "C"), (2, 4, "Ready"), (3, 33, "Shown")], 4, 64, [.int .i64 0, .slice true [], .bool false, .slice true []]⟩
theorem JpH:Jm Tryz.prog 37 ty37:=.inr ⟨Tryz.t37,Jd Tryz.type37,rfl,rfl,⟨_,rfl,rfl,rfl⟩,_,Tryz.underlying37,rfl⟩
theorem Jre:Jn Tryz.prog 37 ty37:=.inr ⟨Tryz.t37,_,Jd Tryz.type37,rfl,rfl⟩
def ty38:TyI:=⟨.slice 72,1,24,[.slice true []]⟩
theorem JpI:Jm Tryz.prog 38 ty38:=.inr ⟨Tryz.t38,Jd Tryz.type38,rfl,rfl,⟨_,rfl,rfl,rfl⟩,_,Tryz.underlying38,rfl⟩
theorem Jrf:Jn Tryz.prog 38 ty38:=.inr ⟨Tryz.t38,_,Jd Tryz.type38,rfl,rfl⟩
def ty40 : TyI := ⟨.struct [(0, 3, "Next"), (1, 38, "Snaps")], 2, 32, [.int .i64 0, .slice true []]⟩
theorem JpK:Jm Tryz.prog 40 ty40:=.inr ⟨Tryz.t40,Jd Tryz.type40,rfl,rfl,⟨_,rfl,rfl,rfl⟩,_,Tryz.underlying40,rfl⟩
theorem Jrh:Jn Tryz.prog 40 ty40:=.inr ⟨Tryz.t40,_,Jd Tryz.type40,rfl,rfl⟩
def ty41 : TyI := ⟨.struct [(0, 3, "Epoch"), (1, 3, "Turn"), (2, 4, "Up"), (3, 30, "In"), (8, 32, "Errs"), (12, 37, "W"), (16, 40, "P")], 18, 192, [.int .i64 0, .int .i64 0, .bool false, .int .i64 0, .int .i64 0, .int .i64 0, .int .i64 0, .int .i64 0, .int .i64 0, .int .i64 0, .int .i64 0, .int .i64 0, .int .i64 0, .slice true [], .bool false, .slice true [], .int .i64 0, .slice true []]⟩
theorem JpL:Jm Tryz.prog 41 ty41:=.inr ⟨Tryz.t41,Jd Tryz.type41,rfl,rfl,⟨_,rfl,rfl,rfl⟩,_,Tryz.underlying41,rfl⟩
theorem Jri:Jn Tryz.prog 41 ty41:=.inr ⟨Tryz.t41,_,Jd Tryz.type41,rfl,rfl⟩
def ty42 : TyI := ⟨.struct [(0, 3, "Epoch"), (1, 3, "Turn"), (2, 4, "Up"), (3, 30, "In"), (8, 32, "Errs"), (12, 37, "W"), (16, 40, "P")], 18, 192, [.int .i64 0, .int .i64 0, .bool false, .int .i64 0, .int .i64 0, .int .i64 0, .int .i64 0, .int .i64 0, .int .i64 0, .int .i64 0, .int .i64 0, .int .i64 0, .int .i64 0, .slice true [], .bool false, .slice true [], .int .i64 0, .slice true []]⟩
theorem JpM:Jm Tryz.prog 42 ty42:=.inr ⟨Tryz.t42,Jd Tryz.type42,rfl,rfl,⟨_,rfl,rfl,rfl⟩,_,Tryz.underlying42,rfl⟩
theorem Jrj:Jn Tryz.prog 42 ty42:=.inr ⟨Tryz.t42,_,Jd Tryz.type42,rfl,rfl⟩
def ty44:TyI:=⟨.func,1,8,[.nilf]⟩
theorem JpN:Jm Tryz.prog 44 ty44:=.inr ⟨Tryz.t44,Jd Tryz.type44,rfl,rfl,⟨_,rfl,rfl,rfl⟩,_,Tryz.underlying44,rfl⟩
theorem Jrk:Jn Tryz.prog 44 ty44:=.inr ⟨Tryz.t44,_,Jd Tryz.type44,rfl,rfl⟩
def ty46 : TyI := ⟨.struct [(0, 23, "A"), (5, 3, "Stage"), (6, 3, "Id"), (7, 9, "Route"), (8, 9, "Cluster"), (9, 25, "Out")], 12, 136, [.int .i64 0, .str [], .str [], .int .i64 0, .int .i64 0, .int .i64 0, .int .i64 0, .str [], .str [], .int .i64 0, .str [], .int .i64 0]⟩
theorem JpO:Jm Tryz.prog 46 ty46:=.inr ⟨Tryz.t46,Jd Tryz.type46,rfl,rfl,⟨_,rfl,rfl,rfl⟩,_,Tryz.underlying46,rfl⟩
theorem Jrl:Jn Tryz.prog 46 ty46:=.inr ⟨Tryz.t46,_,Jd Tryz.type46,rfl,rfl⟩
def ty47:TyI:=⟨.func,1,8,[.nilf]⟩
theorem JpP:Jm Tryz.prog 47 ty47:=.inr ⟨Tryz.t47,Jd Tryz.type47,rfl,rfl,⟨_,rfl,rfl,rfl⟩,_,Tryz.underlying47,rfl⟩
theorem Jrm:Jn Tryz.prog 47 ty47:=.inr ⟨Tryz.t47,_,Jd Tryz.type47,rfl,rfl⟩
def ty49 : TyI := ⟨.struct [(0, 28, "Last"), (4, 3, "Max")], 5, 40, [.int .i64 0, .int .i64 0, .int .i64 0, .int .i64 0, .int .i64 0]⟩
theorem JpQ:Jm Tryz.prog 49 ty49:=.inr ⟨Tryz.t49,Jd Tryz.type49,rfl,rfl,⟨_,rfl,rfl,rfl⟩,_,Tryz.underlying49,rfl⟩
theorem Jrn:Jn Tryz.prog 49 ty49:=.inr ⟨Tryz.t49,_,Jd Tryz.type49,rfl,rfl⟩
def ty50 : TyI := ⟨.struct [(0, 3, "Cap"), (1, 33, "L")], 2, 32, [.int .i64 0, .slice true []]⟩
theorem JpS:Jm Tryz.prog 50 ty50:=.inr ⟨Tryz.t50,Jd Tryz.type50,rfl,rfl,⟨_,rfl,rfl,rfl⟩,_,Tryz.underlying50,rfl⟩
theorem Jrp:Jn Tryz.prog 50 ty50:=.inr ⟨Tryz.t50,_,Jd Tryz.type50,rfl,rfl⟩
def ty52 : TyI := ⟨.struct [(0, 50, "C"), (2, 4, "Ready"), (3, 33, "Shown")], 4, 64, [.int .i64 0, .slice true [], .bool false, .slice true []]⟩
theorem JpT:Jm Tryz.prog 52 ty52:=.inr ⟨Tryz.t52,Jd Tryz.type52,rfl,rfl,⟨_,rfl,rfl,rfl⟩,_,Tryz.underlying52,rfl⟩
theorem Jrq:Jn Tryz.prog 52 ty52:=.inr ⟨Tryz.t52,_,Jd Tryz.type52,rfl,rfl⟩
def ty53:TyI:=⟨.slice 103,1,24,[.slice true []]⟩
theorem JpU:Jm Tryz.prog 53 ty53:=.inr ⟨Tryz.t53,Jd Tryz.type53,rfl,rfl,⟨_,rfl,rfl,rfl⟩,_,Tryz.underlying53,rfl⟩
theorem Jrr:Jn Tryz.prog 53 ty53:=.inr ⟨Tryz.t53,_,Jd Tryz.type53,rfl,rfl⟩
def ty55 : TyI := ⟨.struct [(0, 3, "Next"), (1, 53, "Snaps")], 2, 32, [.int .i64 0, .slice true []]⟩
theorem JpV:Jm Tryz.prog 55 ty55:=.inr ⟨Tryz.t55,Jd Tryz.type55,rfl,rfl,⟨_,rfl,rfl,rfl⟩,_,Tryz.underlying55,rfl⟩
theorem Jrs:Jn Tryz.prog 55 ty55:=.inr ⟨Tryz.t55,_,Jd Tryz.type55,rfl,rfl⟩
def ty57 : TyI := ⟨.struct [(0, 3, "Epoch"), (1, 3, "Turn"), (2, 4, "Up"), (3, 49, "In"), (8, 32, "Errs"), (12, 52, "W"), (16, 55, "P")], 18, 192, [.int .i64 0, .int .i64 0, .bool false, .int .i64 0, .int .i64 0, .int .i64 0, .int .i64 0, .int .i64 0, .int .i64 0, .int .i64 0, .int .i64 0, .int .i64 0, .int .i64 0, .slice true [], .bool false, .slice true [], .int .i64 0, .slice true []]⟩
theorem JpW:Jm Tryz.prog 57 ty57:=.inr ⟨Tryz.t57,Jd Tryz.type57,rfl,rfl,⟨_,rfl,rfl,rfl⟩,_,Tryz.underlying57,rfl⟩
theorem Jrt:Jn Tryz.prog 57 ty57:=.inr ⟨Tryz.t57,_,Jd Tryz.type57,rfl,rfl⟩
def ty61:TyI:=⟨.slice 85,1,24,[.slice true []]⟩
theorem JpY:Jm Tryz.prog 61 ty61:=.inr ⟨Tryz.t61,Jd Tryz.type61,rfl,rfl,⟨_,rfl,rfl,rfl⟩,_,Tryz.underlying61,rfl⟩
theorem Jrv:Jn Tryz.prog 61 ty61:=.inr ⟨Tryz.t61,_,Jd Tryz.type61,rfl,rfl⟩
def ty72 : TyI := ⟨.struct [(0, 3, "Id"), (1, 3, "Pins"), (2, 33, "L")], 3, 40, [.int .i64 0, .int .i64 0, .slice true []]⟩
theorem Jp0:Jm Tryz.prog 72 ty72:=.inr ⟨Tryz.t72,Jd Tryz.type72,rfl,rfl,⟨_,rfl,rfl,rfl⟩,_,Tryz.underlying72,rfl⟩
theorem Jrx:Jn Tryz.prog 72 ty72:=.inr ⟨Tryz.t72,_,Jd Tryz.type72,rfl,rfl⟩
def ty77:TyI:=⟨.slice 134,1,24,[.slice true []]⟩
theorem Jp1:Jm Tryz.prog 77 ty77:=.inr ⟨Tryz.t77,Jd Tryz.type77,rfl,rfl,⟨_,rfl,rfl,rfl⟩,_,Tryz.underlying77,rfl⟩
theorem Jry:Jn Tryz.prog 77 ty77:=.inr ⟨Tryz.t77,_,Jd Tryz.type77,rfl,rfl⟩
def ty83:TyI:=⟨.slice 145,1,24,[.slice true []]⟩
theorem Jp3:Jm Tryz.prog 83 ty83:=.inr ⟨Tryz.t83,Jd Tryz.type83,rfl,rfl,⟨_,rfl,rfl,rfl⟩,_,Tryz.underlying83,rfl⟩
theorem JrA:Jn Tryz.prog 83 ty83:=.inr ⟨Tryz.t83,_,Jd Tryz.type83,rfl,rfl⟩
def ty85 : TyI := ⟨.struct [(0, 3, "Type"), (1, 3, "Epoch"), (2, 3, "Kind"), (3, 3, "Nonce"), (4, 3, "Turn"), (5, 33, "Adds"), (6, 77, "Gone"), (7, 31, "Err"), (8, 83, "Have"), (9, 77, "Held")], 10, 144, [.int .i64 0, .int .i64 0, .int .i64 0, .int .i64 0, .int .i64 0, .slice true [], .slice true [], .int .i64 0, .slice true [], .slice true []]⟩
theorem Jp4:Jm Tryz.prog 85 ty85:=.inr ⟨Tryz.t85,Jd Tryz.type85,rfl,rfl,⟨_,rfl,rfl,rfl⟩,_,Tryz.underlying85,rfl⟩
theorem JrB:Jn Tryz.prog 85 ty85:=.inr ⟨Tryz.t85,_,Jd Tryz.type85,rfl,rfl⟩
def ty94:TyI:=⟨.slice 31,1,24,[.slice true []]⟩
theorem Jp6:Jm Tryz.prog 94 ty94:=.inr ⟨Tryz.t94,Jd Tryz.type94,rfl,rfl,⟨_,rfl,rfl,rfl⟩,_,Tryz.underlying94,rfl⟩
theorem JrD:Jn Tryz.prog 94 ty94:=.inr ⟨Tryz.t94,_,Jd Tryz.type94,rfl,rfl⟩
def ty95:TyI:=⟨.func,1,8,[.nilf]⟩
theorem Jp7:Jm Tryz.prog 95 ty95:=.inr ⟨Tryz.t95,Jd Tryz.type95,rfl,rfl,⟨_,rfl,rfl,rfl⟩,_,Tryz.underlying95,rfl⟩
theorem JrE:Jn Tryz.prog 95 ty95:=.inr ⟨Tryz.t95,_,Jd Tryz.type95,rfl,rfl⟩
def ty103 : TyI := ⟨.struct [(0, 3, "Id"), (1, 3, "Pins"), (2, 33, "L")], 3, 40, [.int .i64 0, .int .i64 0, .slice true []]⟩
theorem JoD:Jm Tryz.prog 103 ty103:=.inr ⟨Tryz.t103,Jd Tryz.type103,rfl,rfl,⟨_,rfl,rfl,rfl⟩,_,Tryz.underlying103,rfl⟩
theorem Jqa:Jn Tryz.prog 103 ty103:=.inr ⟨Tryz.t103,_,Jd Tryz.type103,rfl,rfl⟩
def ty104:TyI:=⟨.ptr 108,1,8,[.nilp]⟩
theorem JoE:Jm Tryz.prog 104 ty104:=.inr ⟨Tryz.t104,Jd Tryz.type104,rfl,rfl,⟨_,rfl,rfl,rfl⟩,_,Tryz.underlying104,rfl⟩
theorem Jqb:Jn Tryz.prog 104 ty104:=.inr ⟨Tryz.t104,_,Jd Tryz.type104,rfl,rfl⟩
def ty105:TyI:=⟨.func,1,8,[.nilf]⟩
theorem JoF:Jm Tryz.prog 105 ty105:=.inr ⟨Tryz.t105,Jd Tryz.type105,rfl,rfl,⟨_,rfl,rfl,rfl⟩,_,Tryz.underlying105,rfl⟩
theorem Jqc:Jn Tryz.prog 105 ty105:=.inr ⟨Tryz.t105,_,Jd Tryz.type105,rfl,rfl⟩
def ty108 : TyI := ⟨.struct [(0, 46, "Req"), (12, 57, "side"), (30, 61, "told")], 31, 352, [.int .i64 0, .str [], .str [], .int .i64 0, .int .i64 0, .int .i64 0, .int .i64 0, .str [], .str [], .int .i64 0, .str [], .int .i64 0, .int .i64 0, .int .i64 0, .bool false, .int .i64 0, .int .i64 0, .int .i64 0, .int .i64 0, .int .i64 0, .int .i64 0, .int .i64 0, .int .i64 0, .int .i64 0, .int .i64 0, .slice true [], .bool false, .slice true [], .int .i64 0, .slice true [], .slice true []]⟩
theorem JoG:Jm Tryz.prog 108 ty108:=.inr ⟨Tryz.t108,Jd Tryz.type108,rfl,rfl,⟨_,rfl,rfl,rfl⟩,_,Tryz.underlying108,rfl⟩
theorem Jqd:Jn Tryz.prog 108 ty108:=.inr ⟨Tryz.t108,_,Jd Tryz.type108,rfl,rfl⟩
def ty114:TyI:=⟨.func,1,8,[.nilf]⟩
theorem JoH:Jm Tryz.prog 114 ty114:=.inr ⟨Tryz.t114,Jd Tryz.type114,rfl,rfl,⟨_,rfl,rfl,rfl⟩,_,Tryz.underlying114,rfl⟩
theorem Jqe:Jn Tryz.prog 114 ty114:=.inr ⟨Tryz.t114,_,Jd Tryz.type114,rfl,rfl⟩
def ty115:TyI:=⟨.slice 123,1,24,[.slice true []]⟩
theorem JoI:Jm Tryz.prog 115 ty115:=.inr ⟨Tryz.t115,Jd Tryz.type115,rfl,rfl,⟨_,rfl,rfl,rfl⟩,_,Tryz.underlying115,rfl⟩
theorem Jqf:Jn Tryz.prog 115 ty115:=.inr ⟨Tryz.t115,_,Jd Tryz.type115,rfl,rfl⟩
def ty116:TyI:=⟨.slice 3,1,24,[.slice true []]⟩
theorem JoJ:Jm Tryz.prog 116 ty116:=.inr ⟨Tryz.t116,Jd Tryz.type116,rfl,rfl,⟨_,rfl,rfl,rfl⟩,_,Tryz.underlying116,rfl⟩
theorem Jqg:Jn Tryz.prog 116 ty116:=.inr ⟨Tryz.t116,_,Jd Tryz.type116,rfl,rfl⟩
def ty118 : TyI := ⟨.struct [(0, 3, "Kind"), (1, 9, "Name"), (2, 3, "Ver"), (3, 3, "Port"), (4, 9, "To"), (5, 115, "Rules"), (6, 116, "Hosts")], 7, 104, [.int .i64 0, .str [], .int .i64 0, .int .i64 0, .str [], .slice true [], .slice true []]⟩
theorem JoK:Jm Tryz.prog 118 ty118:=.inr ⟨Tryz.t118,Jd Tryz.type118,rfl,rfl,⟨_,rfl,rfl,rfl⟩,_,Tryz.underlying118,rfl⟩
theorem Jqh:Jn Tryz.prog 118 ty118:=.inr ⟨Tryz.t118,_,Jd Tryz.type118,rfl,rfl⟩
def ty121:TyI:=⟨.slice 167,1,24,[.slice true []]⟩
theorem JoM:Jm Tryz.prog 121 ty121:=.inr ⟨Tryz.t121,Jd Tryz.type121,rfl,rfl,⟨_,rfl,rfl,rfl⟩,_,Tryz.underlying121,rfl⟩
theorem Jqj:Jn Tryz.prog 121 ty121:=.inr ⟨Tryz.t121,_,Jd Tryz.type121,rfl,rfl⟩
def ty123 : TyI := ⟨.struct [(0, 9, "Host"), (1, 9, "Prefix"), (2, 121, "Split")], 3, 56, [.str [], .str [], .slice true []]⟩
theorem JoN:Jm Tryz.prog 123 ty123:=.inr ⟨Tryz.t123,Jd Tryz.type123,rfl,rfl,⟨_,rfl,rfl,rfl⟩,_,Tryz.underlying123,rfl⟩
theorem Jqk:Jn Tryz.prog 123 ty123:=.inr ⟨Tryz.t123,_,Jd Tryz.type123,rfl,rfl⟩
def ty134 : TyI := ⟨.struct [(0, 3, "Kind"), (1, 9, "Name")], 2, 24, [.int .i64 0, .str []]⟩
theorem JoP:Jm Tryz.prog 134 ty134:=.inr ⟨Tryz.t134,Jd Tryz.type134,rfl,rfl,⟨_,rfl,rfl,rfl⟩,_,Tryz.underlying134,rfl⟩
theorem Jqm:Jn Tryz.prog 134 ty134:=.inr ⟨Tryz.t134,_,Jd Tryz.type134,rfl,rfl⟩
def ty145 : TyI := ⟨.struct [(0, 134, "K"), (2, 3, "Ver")], 3, 32, [.int .i64 0, .str [], .int .i64 0]⟩
theorem JoR:Jm Tryz.prog 145 ty145:=.inr ⟨Tryz.t145,Jd Tryz.type145,rfl,rfl,⟨_,rfl,rfl,rfl⟩,_,Tryz.underlying145,rfl⟩
theorem Jqo:Jn Tryz.prog 145 ty145:=.inr ⟨Tryz.t145,_,Jd Tryz.type145,rfl,rfl⟩
def ty163:TyI:=⟨.func,1,8,[.nilf]⟩
theorem JoU:Jm Tryz.prog 163 ty163:=.inr ⟨Tryz.t163,Jd Tryz.type163,rfl,rfl,⟨_,rfl,rfl,rfl⟩,_,Tryz.underlying163,rfl⟩
theorem Jqr:Jn Tryz.prog 163 ty163:=.inr ⟨Tryz.t163,_,Jd Tryz.type163,rfl,rfl⟩
def ty167 : TyI := ⟨.struct [(0, 9, "Cluster"), (1, 3, "W")], 2, 24, [.str [], .int .i64 0]⟩
theorem JoV:Jm Tryz.prog 167 ty167:=.inr ⟨Tryz.t167,Jd Tryz.type167,rfl,rfl,⟨_,rfl,rfl,rfl⟩,_,Tryz.underlying167,rfl⟩
theorem Jqs:Jn Tryz.prog 167 ty167:=.inr ⟨Tryz.t167,_,Jd Tryz.type167,rfl,rfl⟩
def ty177:TyI:=⟨.array 4 4,4,4,[.bool false,.bool false,.bool false,.bool false]⟩
theorem JoX:Jm Tryz.prog 177 ty177:=.inr ⟨Tryz.t177,Jd Tryz.type177,rfl,rfl,⟨_,rfl,rfl,rfl⟩,_,Tryz.underlying177,rfl⟩
theorem Jqu:Jn Tryz.prog 177 ty177:=.inr ⟨Tryz.t177,_,Jd Tryz.type177,rfl,rfl⟩
def ty179 : TyI := ⟨.struct [(0, 28, "Last"), (4, 177, "Open"), (8, 3, "Max")], 9, 48, [.int .i64 0, .int .i64 0, .int .i64 0, .int .i64 0, .bool false, .bool false, .bool false, .bool false, .int .i64 0]⟩
theorem JoY:Jm Tryz.prog 179 ty179:=.inr ⟨Tryz.t179,Jd Tryz.type179,rfl,rfl,⟨_,rfl,rfl,rfl⟩,_,Tryz.underlying179,rfl⟩
theorem Jqv:Jn Tryz.prog 179 ty179:=.inr ⟨Tryz.t179,_,Jd Tryz.type179,rfl,rfl⟩
def ty194:TyI:=⟨.func,1,8,[.nilf]⟩
theorem Jo0:Jm Tryz.prog 194 ty194:=.inr ⟨Tryz.t194,Jd Tryz.type194,rfl,rfl,⟨_,rfl,rfl,rfl⟩,_,Tryz.underlying194,rfl⟩
theorem Jqx:Jn Tryz.prog 194 ty194:=.inr ⟨Tryz.t194,_,Jd Tryz.type194,rfl,rfl⟩
def ty200:TyI:=⟨.func,1,8,[.nilf]⟩
theorem Jo2:Jm Tryz.prog 200 ty200:=.inr ⟨Tryz.t200,Jd Tryz.type200,rfl,rfl,⟨_,rfl,rfl,rfl⟩,_,Tryz.underlying200,rfl⟩
theorem Jqz:Jn Tryz.prog 200 ty200:=.inr ⟨Tryz.t200,_,Jd Tryz.type200,rfl,rfl⟩
def ty201:TyI:=⟨.func,1,8,[.nilf]⟩
theorem Jo3:Jm Tryz.prog 201 ty201:=.inr ⟨Tryz.t201,Jd Tryz.type201,rfl,rfl,⟨_,rfl,rfl,rfl⟩,_,Tryz.underlying201,rfl⟩
theorem JqA:Jn Tryz.prog 201 ty201:=.inr ⟨Tryz.t201,_,Jd Tryz.type201,rfl,rfl⟩
def ty216 : TyI := ⟨.struct [(0, 31, "e")], 1, 8, [.int .i64 0]⟩
theorem Jo5:Jm Tryz.prog 216 ty216:=.inr ⟨Tryz.t216,Jd Tryz.type216,rfl,rfl,⟨_,rfl,rfl,rfl⟩,_,Tryz.underlying216,rfl⟩
theorem JqC:Jn Tryz.prog 216 ty216:=.inr ⟨Tryz.t216,_,Jd Tryz.type216,rfl,rfl⟩
def ty220:TyI:=⟨.map 134 4,1,8,[.nilm]⟩
theorem Jo7:Jm Tryz.prog 220 ty220:=.inr ⟨Tryz.t220,Jd Tryz.type220,rfl,rfl,⟨_,rfl,rfl,rfl⟩,_,Tryz.underlying220,rfl⟩
theorem JqE:Jn Tryz.prog 220 ty220:=.inr ⟨Tryz.t220,_,Jd Tryz.type220,rfl,rfl⟩
def ty225:TyI:=⟨.func,1,8,[.nilf]⟩
theorem Jo8:Jm Tryz.prog 225 ty225:=.inr ⟨Tryz.t225,Jd Tryz.type225,rfl,rfl,⟨_,rfl,rfl,rfl⟩,_,Tryz.underlying225,rfl⟩
theorem JqF:Jn Tryz.prog 225 ty225:=.inr ⟨Tryz.t225,_,Jd Tryz.type225,rfl,rfl⟩
def ty229:TyI:=⟨.func,1,8,[.nilf]⟩
theorem Jo9:Jm Tryz.prog 229 ty229:=.inr ⟨Tryz.t229,Jd Tryz.type229,rfl,rfl,⟨_,rfl,rfl,rfl⟩,_,Tryz.underlying229,rfl⟩
theorem JqG:Jn Tryz.prog 229 ty229:=.inr ⟨Tryz.t229,_,Jd Tryz.type229,rfl,rfl⟩
def ty234:TyI:=⟨.int .u64,1,8,[.int .u64 0]⟩
theorem Jpb:Jm Tryz.prog 234 ty234:=.inr ⟨Tryz.t234,Jd Tryz.type234,rfl,rfl,⟨_,rfl,rfl,rfl⟩,_,Tryz.underlying234,rfl⟩
theorem JqI:Jn Tryz.prog 234 ty234:=.inr ⟨Tryz.t234,_,Jd Tryz.type234,rfl,rfl⟩
def ty245:TyI:=⟨.map 3 4,1,8,[.nilm]⟩
theorem Jpc:Jm Tryz.prog 245 ty245:=.inr ⟨Tryz.t245,Jd Tryz.type245,rfl,rfl,⟨_,rfl,rfl,rfl⟩,_,Tryz.underlying245,rfl⟩
theorem JqJ:Jn Tryz.prog 245 ty245:=.inr ⟨Tryz.t245,_,Jd Tryz.type245,rfl,rfl⟩
def ty251:TyI:=⟨.map 134 77,1,8,[.nilm]⟩
theorem Jpe:Jm Tryz.prog 251 ty251:=.inr ⟨Tryz.t251,Jd Tryz.type251,rfl,rfl,⟨_,rfl,rfl,rfl⟩,_,Tryz.underlying251,rfl⟩
theorem JqL:Jn Tryz.prog 251 ty251:=.inr ⟨Tryz.t251,_,Jd Tryz.type251,rfl,rfl⟩
def ty253:TyI:=⟨.func,1,8,[.nilf]⟩
theorem Jpf:Jm Tryz.prog 253 ty253:=.inr ⟨Tryz.t253,Jd Tryz.type253,rfl,rfl,⟨_,rfl,rfl,rfl⟩,_,Tryz.underlying253,rfl⟩
theorem JqM:Jn Tryz.prog 253 ty253:=.inr ⟨Tryz.t253,_,Jd Tryz.type253,rfl,rfl⟩
def ty258:TyI:=⟨.int .i64,1,8,[.int .i64 0]⟩
theorem Jpg:Jm Tryz.prog 258 ty258:=.inr ⟨Tryz.t258,Jd Tryz.type258,rfl,rfl,⟨_,rfl,rfl,rfl⟩,_,Tryz.underlying258,rfl⟩
theorem JqN:Jn Tryz.prog 258 ty258:=.inr ⟨Tryz.t258,_,Jd Tryz.type258,rfl,rfl⟩
def ty265:TyI:=⟨.int .u32,1,4,[.int .u32 0]⟩
theorem Jpi:Jm Tryz.prog 265 ty265:=.inr ⟨Tryz.t265,Jd Tryz.type265,rfl,rfl,⟨_,rfl,rfl,rfl⟩,_,Tryz.underlying265,rfl⟩
theorem JqP:Jn Tryz.prog 265 ty265:=.inr ⟨Tryz.t265,_,Jd Tryz.type265,rfl,rfl⟩
def ty267:TyI:=⟨.int .u64,1,8,[.int .u64 0]⟩
theorem Jpj:Jm Tryz.prog 267 ty267:=.inr ⟨Tryz.t267,Jd Tryz.type267,rfl,rfl,⟨_,rfl,rfl,rfl⟩,_,Tryz.underlying267,rfl⟩
theorem JqQ:Jn Tryz.prog 267 ty267:=.inr ⟨Tryz.t267,_,Jd Tryz.type267,rfl,rfl⟩
def ty274:TyI:=⟨.func,1,8,[.nilf]⟩
theorem Jpl:Jm Tryz.prog 274 ty274:=.inr ⟨Tryz.t274,Jd Tryz.type274,rfl,rfl,⟨_,rfl,rfl,rfl⟩,_,Tryz.underlying274,rfl⟩
theorem JqS:Jn Tryz.prog 274 ty274:=.inr ⟨Tryz.t274,_,Jd Tryz.type274,rfl,rfl⟩
def ty276 : TyI := ⟨.struct [(0, 4, "port"), (1, 4, "to"), (2, 4, "rules"), (3, 4, "hosts")], 4, 4, [.bool false, .bool false, .bool false, .bool false]⟩
theorem Jpm:Jm Tryz.prog 276 ty276:=.inr ⟨Tryz.t276,Jd Tryz.type276,rfl,rfl,⟨_,rfl,rfl,rfl⟩,_,Tryz.underlying276,rfl⟩
theorem JqT:Jn Tryz.prog 276 ty276:=.inr ⟨Tryz.t276,_,Jd Tryz.type276,rfl,rfl⟩
def ty280:TyI:=⟨.int .u64,1,8,[.int .u64 0]⟩
theorem Jpo:Jm Tryz.prog 280 ty280:=.inr ⟨Tryz.t280,Jd Tryz.type280,rfl,rfl,⟨_,rfl,rfl,rfl⟩,_,Tryz.underlying280,rfl⟩
theorem JqV:Jn Tryz.prog 280 ty280:=.inr ⟨Tryz.t280,_,Jd Tryz.type280,rfl,rfl⟩
def ty284:TyI:=⟨.ptr 3,1,8,[.nilp]⟩
theorem Jpp:Jm Tryz.prog 284 ty284:=.inr ⟨Tryz.t284,Jd Tryz.type284,rfl,rfl,⟨_,rfl,rfl,rfl⟩,_,Tryz.underlying284,rfl⟩
theorem JqW:Jn Tryz.prog 284 ty284:=.inr ⟨Tryz.t284,_,Jd Tryz.type284,rfl,rfl⟩
def ty293:TyI:=⟨.ptr 280,1,8,[.nilp]⟩
theorem Jpq:Jm Tryz.prog 293 ty293:=.inr ⟨Tryz.t293,Jd Tryz.type293,rfl,rfl,⟨_,rfl,rfl,rfl⟩,_,Tryz.underlying293,rfl⟩
theorem JqX:Jn Tryz.prog 293 ty293:=.inr ⟨Tryz.t293,_,Jd Tryz.type293,rfl,rfl⟩
def ty309 : TyI := ⟨.struct [(0, 17, "_interface"), (1, 17, "concrete"), (2, 17, "asserted"), (3, 9, "missingMethod")], 4, 40, [.nilp, .nilp, .nilp, .str []]⟩
theorem Jpt:Jm Tryz.prog 309 ty309:=.inr ⟨Tryz.t309,Jd Tryz.type309,rfl,rfl,⟨_,rfl,rfl,rfl⟩,_,Tryz.underlying309,rfl⟩
theorem Jq0:Jn Tryz.prog 309 ty309:=.inr ⟨Tryz.t309,_,Jd Tryz.type309,rfl,rfl⟩
def ty310:TyI:=⟨.array 0 16,0,0,[]⟩
theorem Jpv:Jm Tryz.prog 310 ty310:=.inr ⟨Tryz.t310,Jd Tryz.type310,rfl,rfl,⟨_,rfl,rfl,rfl⟩,_,Tryz.underlying310,rfl⟩
theorem Jq2:Jn Tryz.prog 310 ty310:=.inr ⟨Tryz.t310,_,Jd Tryz.type310,rfl,rfl⟩
def ty312 : TyI := ⟨.struct [(0, 310, "_")], 0, 0, []⟩
theorem Jpw:Jm Tryz.prog 312 ty312:=.inr ⟨Tryz.t312,Jd Tryz.type312,rfl,rfl,⟨_,rfl,rfl,rfl⟩,_,Tryz.underlying312,rfl⟩
theorem Jq3:Jn Tryz.prog 312 ty312:=.inr ⟨Tryz.t312,_,Jd Tryz.type312,rfl,rfl⟩
def ty313:TyI:=⟨.int .u8,1,1,[.int .u8 0]⟩
theorem Jpx:Jm Tryz.prog 313 ty313:=.inr ⟨Tryz.t313,Jd Tryz.type313,rfl,rfl,⟨_,rfl,rfl,rfl⟩,_,Tryz.underlying313,rfl⟩
theorem Jq4:Jn Tryz.prog 313 ty313:=.inr ⟨Tryz.t313,_,Jd Tryz.type313,rfl,rfl⟩
def ty314:TyI:=⟨.int .u8,1,1,[.int .u8 0]⟩
theorem Jpy:Jm Tryz.prog 314 ty314:=.inr ⟨Tryz.t314,Jd Tryz.type314,rfl,rfl,⟨_,rfl,rfl,rfl⟩,_,Tryz.underlying314,rfl⟩
theorem Jq5:Jn Tryz.prog 314 ty314:=.inr ⟨Tryz.t314,_,Jd Tryz.type314,rfl,rfl⟩
def ty315:TyI:=⟨.func,1,8,[.nilf]⟩
theorem Jpz:Jm Tryz.prog 315 ty315:=.inr ⟨Tryz.t315,Jd Tryz.type315,rfl,rfl,⟨_,rfl,rfl,rfl⟩,_,Tryz.underlying315,rfl⟩
theorem Jq6:Jn Tryz.prog 315 ty315:=.inr ⟨Tryz.t315,_,Jd Tryz.type315,rfl,rfl⟩
def ty316:TyI:=⟨.ptr 5,1,8,[.nilp]⟩
theorem JpA:Jm Tryz.prog 316 ty316:=.inr ⟨Tryz.t316,Jd Tryz.type316,rfl,rfl,⟨_,rfl,rfl,rfl⟩,_,Tryz.underlying316,rfl⟩
theorem Jq7:Jn Tryz.prog 316 ty316:=.inr ⟨Tryz.t316,_,Jd Tryz.type316,rfl,rfl⟩
def ty317:TyI:=⟨.int .i32,1,4,[.int .i32 0]⟩
theorem JpB:Jm Tryz.prog 317 ty317:=.inr ⟨Tryz.t317,Jd Tryz.type317,rfl,rfl,⟨_,rfl,rfl,rfl⟩,_,Tryz.underlying317,rfl⟩
theorem Jq8:Jn Tryz.prog 317 ty317:=.inr ⟨Tryz.t317,_,Jd Tryz.type317,rfl,rfl⟩
def ty318:TyI:=⟨.int .i32,1,4,[.int .i32 0]⟩
theorem JpC:Jm Tryz.prog 318 ty318:=.inr ⟨Tryz.t318,Jd Tryz.type318,rfl,rfl,⟨_,rfl,rfl,rfl⟩,_,Tryz.underlying318,rfl⟩
theorem Jq9:Jn Tryz.prog 318 ty318:=.inr ⟨Tryz.t318,_,Jd Tryz.type318,rfl,rfl⟩
def ty320 : TyI := ⟨.struct [(0, 12, "Size_"), (1, 12, "PtrBytes"), (2, 265, "Hash"), (3, 313, "TFlag"), (4, 5, "Align_"), (5, 5, "FieldAlign_"), (6, 314, "Kind_"), (7, 315, "Equal"), (8, 316, "GCData"), (9, 317, "Str"), (10, 318, "PtrToThis")], 11, 48, [.int .u64 0, .int .u64 0, .int .u32 0, .int .u8 0, .int .u8 0, .int .u8 0, .int .u8 0, .nilf, .nilp, .int .i32 0, .int .i32 0]⟩
theorem JpE:Jm Tryz.prog 320 ty320:=.inr ⟨Tryz.t320,Jd Tryz.type320,rfl,rfl,⟨_,rfl,rfl,rfl⟩,_,Tryz.underlying320,rfl⟩
theorem Jrb:Jn Tryz.prog 320 ty320:=.inr ⟨Tryz.t320,_,Jd Tryz.type320,rfl,rfl⟩
def tyL:List (Nat×TyI):=[(1,ty1),(2,ty2),(3,ty3),(4,ty4),(5,ty5),(6,ty6),(7,ty7),(8,ty8),(9,ty9),(10,ty10),(12,ty12),(13,ty13),(14,ty14),(15,ty15),(16,ty16),(17,ty17),(18,ty18),(21,ty21),(22,ty22),(23,ty23),(25,ty25),(26,ty26),(27,ty27),(28,ty28),(30,ty30),(31,ty31),(32,ty32),(33,ty33),(35,ty35),(37,ty37),(38,ty38),(40,ty40),(41,ty41),(42,ty42),(44,ty44),(46,ty46),(47,ty47),(49,ty49),(50,ty50),(52,ty52),(53,ty53),(55,ty55),(57,ty57),(61,ty61),(72,ty72),(77,ty77),(83,ty83),(85,ty85),(94,ty94),(95,ty95),(103,ty103),(104,ty104),(105,ty105),(108,ty108),(114,ty114),(115,ty115),(116,ty116),(118,ty118),(121,ty121),(123,ty123),(134,ty134),(145,ty145),(163,ty163),(167,ty167),(177,ty177),(179,ty179),(194,ty194),(200,ty200),(201,ty201),(216,ty216),(220,ty220),(225,ty225),(229,ty229),(234,ty234),(245,ty245),(251,ty251),(253,ty253),(258,ty258),(265,ty265),(267,ty267),(274,ty274),(276,ty276),(280,ty280),(284,ty284),(293,ty293),(309,ty309),(310,ty310),(312,ty312),(313,ty313),(314,ty314),(315,ty315),(316,ty316),(317,ty317),(318,ty318),(320,ty320)]
def Jez(P:Program):List (Nat×TyI)→Prop
 | []=>True
 |p :: r=>Jn P p.1 p.2∧Jez P r
def Jey(P:Program):List (Nat×TyI)→Prop
 | []=>True
 |p :: r=>Jm P p.1 p.2∧Jey P r
def JcV(l:List (Nat×TyI))(t:Nat):TyI:=(l.lookup t).getD ⟨.unk,0,0,[]⟩
theorem Jgw{P:Program}:∀(l:List (Nat×TyI)),Jey P l→∀t,Jm P t (JcV l t)
 | [],_,t=>.inl rfl
 | (i,x) :: r,h,t=>by
  unfold JcV
  by_cases e:t=i
  ·subst e;simpa[List.lookup] using h.1
  ·have e':(t == i)=false:=by simpa using e
   have:((i,x) :: r).lookup t=r.lookup t:=by simp[List.lookup,e']
   rw[this];exact Jgw r h.2 t
theorem Jgx{P:Program}:∀(l:List (Nat×TyI)),Jez P l→∀t,Jn P t (JcV l t)
 | [],_,t=>.inl rfl
 | (i,x) :: r,h,t=>by
  unfold JcV
  by_cases e:t=i
  ·subst e;simpa[List.lookup] using h.1
  ·have e':(t == i)=false:=by simpa using e
   have:((i,x) :: r).lookup t=r.lookup t:=by simp[List.lookup,e']
   rw[this];exact Jgx r h.2 t
theorem JoA:Jez Tryz.prog tyL:=⟨Jp8,Jqy,JqY,Jrg,Jro,Jru,Jrw,Jrz,JrC,Jp9,Jqi,Jql,Jqn,Jqp,Jqq,Jqt,Jqw,JqB,JqD,JqH,JqK,JqO,JqR,JqU,JqZ,Jq1,Jra,Jrc,Jrd,Jre,Jrf,Jrh,Jri,Jrj,Jrk,Jrl,Jrm,Jrn,Jrp,Jrq,Jrr,Jrs,Jrt,Jrv,Jrx,Jry,JrA,JrB,JrD,JrE,Jqa,Jqb,Jqc,Jqd,Jqe,Jqf,Jqg,Jqh,Jqj,Jqk,Jqm,Jqo,Jqr,Jqs,Jqu,Jqv,Jqx,Jqz,JqA,JqC,JqE,JqF,JqG,JqI,JqJ,JqL,JqM,JqN,JqP,JqQ,JqS,JqT,JqV,JqW,JqX,Jq0,Jq2,Jq3,Jq4,Jq5,Jq6,Jq7,Jq8,Jq9,Jrb,trivial⟩
theorem Joz:Jey Tryz.prog tyL:=⟨JoB,Jo1,Jpr,JpJ,JpR,JpX,JpZ,Jp2,Jp5,JoC,JoL,JoO,JoQ,JoS,JoT,JoW,JoZ,Jo4,Jo6,Jpa,Jpd,Jph,Jpk,Jpn,Jps,Jpu,JpD,JpF,JpG,JpH,JpI,JpK,JpL,JpM,JpN,JpO,JpP,JpQ,JpS,JpT,JpU,JpV,JpW,JpY,Jp0,Jp1,Jp3,Jp4,Jp6,Jp7,JoD,JoE,JoF,JoG,JoH,JoI,JoJ,JoK,JoM,JoN,JoP,JoR,JoU,JoV,JoX,JoY,Jo0,Jo2,Jo3,Jo5,Jo7,Jo8,Jo9,Jpb,Jpc,Jpe,Jpf,Jpg,Jpi,Jpj,Jpl,Jpm,Jpo,Jpp,Jpq,Jpt,Jpv,Jpw,Jpx,Jpy,Jpz,JpA,JpB,JpC,JpE,trivial⟩
def T:Tys Tryz.prog:=⟨JcV tyL,Jgw tyL Joz,Jgx tyL JoA,fun _=>false⟩
@[go_sem] theorem JyP(d:Nat):T.fz d=false:=rfl
@[go_sem] theorem T_1:T.ty 1=ty1:=rfl
@[go_sem] theorem k_1:ty1.k=.func:=rfl
@[go_sem] theorem JIT:ty1.sz=1:=rfl
@[go_sem] theorem JuO:ty1.bytes=8:=rfl
@[go_sem] theorem JMr:ty1.zero=[.nilf]:=rfl
@[go_sem] theorem T_2:T.ty 2=ty2:=rfl
@[go_sem] theorem k_2:ty2.k=.int .i64:=rfl
@[go_sem] theorem JJj:ty2.sz=1:=rfl
@[go_sem] theorem Jve:ty2.bytes=8:=rfl
@[go_sem] theorem JMR:ty2.zero=[.int .i64 0]:=rfl
@[go_sem] theorem T_3:T.ty 3=ty3:=rfl
@[go_sem] theorem k_3:ty3.k=.int .i64:=rfl
@[go_sem] theorem JJJ:ty3.sz=1:=rfl
@[go_sem] theorem JvE:ty3.bytes=8:=rfl
@[go_sem] theorem JNh:ty3.zero=[.int .i64 0]:=rfl
@[go_sem] theorem T_4:T.ty 4=ty4:=rfl
@[go_sem] theorem k_4:ty4.k=.bool:=rfl
@[go_sem] theorem JJ1:ty4.sz=1:=rfl
@[go_sem] theorem JvW:ty4.bytes=1:=rfl
@[go_sem] theorem JNz:ty4.zero=[.bool false]:=rfl
@[go_sem] theorem T_5:T.ty 5=ty5:=rfl
@[go_sem] theorem k_5:ty5.k=.int .u8:=rfl
@[go_sem] theorem JJ9:ty5.sz=1:=rfl
@[go_sem] theorem Jv4:ty5.bytes=1:=rfl
@[go_sem] theorem JNH:ty5.zero=[.int .u8 0]:=rfl
@[go_sem] theorem T_6:T.ty 6=ty6:=rfl
@[go_sem] theorem k_6:ty6.k=.int .u8:=rfl
@[go_sem] theorem JKf:ty6.sz=1:=rfl
@[go_sem] theorem Jwa:ty6.bytes=1:=rfl
@[go_sem] theorem JNN:ty6.zero=[.int .u8 0]:=rfl
@[go_sem] theorem T_7:T.ty 7=ty7:=rfl
@[go_sem] theorem k_7 : ty7.k = .struct [(0, 2, "x"), (1, 3, "y"), (2, 4, "signed"), (3, 6, "code")] := rfl
@[go_sem] theorem JKh:ty7.sz=4:=rfl
@[go_sem] theorem Jwc:ty7.bytes=24:=rfl
@[go_sem] theorem JNP:ty7.zero=[.int .i64 0,.int .i64 0,.bool false,.int .u8 0]:=rfl
@[go_sem] theorem T_8:T.ty 8=ty8:=rfl
@[go_sem] theorem k_8 : ty8.k = .struct [(0, 2, "x"), (1, 3, "y"), (2, 4, "signed"), (3, 6, "code")] := rfl
@[go_sem] theorem JKk:ty8.sz=4:=rfl
@[go_sem] theorem Jwf:ty8.bytes=24:=rfl
@[go_sem] theorem JNS:ty8.zero=[.int .i64 0,.int .i64 0,.bool false,.int .u8 0]:=rfl
@[go_sem] theorem T_9:T.ty 9=ty9:=rfl
@[go_sem] theorem k_9:ty9.k=.str:=rfl
@[go_sem] theorem JKn:ty9.sz=1:=rfl
@[go_sem] theorem Jwi:ty9.bytes=16:=rfl
@[go_sem] theorem JNV:ty9.zero=[.str []]:=rfl
@[go_sem] theorem Jr3:T.ty 10=ty10:=rfl
@[go_sem] theorem Jzj:ty10.k=.str:=rfl
@[go_sem] theorem JIU:ty10.sz=1:=rfl
@[go_sem] theorem JuP:ty10.bytes=16:=rfl
@[go_sem] theorem JMs:ty10.zero=[.str []]:=rfl
@[go_sem] theorem Jsc:T.ty 12=ty12:=rfl
@[go_sem] theorem Jzs:ty12.k=.int .u64:=rfl
@[go_sem] theorem JI3:ty12.sz=1:=rfl
@[go_sem] theorem JuY:ty12.bytes=8:=rfl
@[go_sem] theorem JMB:ty12.zero=[.int .u64 0]:=rfl
@[go_sem] theorem Jsf:T.ty 13=ty13:=rfl
@[go_sem] theorem Jzv : ty13.k = .struct [(0, 9, "msg"), (1, 12, "addr")] := rfl
@[go_sem] theorem JI6:ty13.sz=2:=rfl
@[go_sem] theorem Ju1:ty13.bytes=24:=rfl
@[go_sem] theorem JME:ty13.zero=[.str [],.int .u64 0]:=rfl
@[go_sem] theorem Jsh:T.ty 14=ty14:=rfl
@[go_sem] theorem Jzx : ty14.k = .struct [(0, 9, "msg"), (1, 12, "addr")] := rfl
@[go_sem] theorem JI8:ty14.sz=2:=rfl
@[go_sem] theorem Ju3:ty14.bytes=24:=rfl
@[go_sem] theorem JMG:ty14.zero=[.str [],.int .u64 0]:=rfl
@[go_sem] theorem Jsj:T.ty 15=ty15:=rfl
@[go_sem] theorem Jzz:ty15.k=.ptr 309:=rfl
@[go_sem] theorem JJa:ty15.sz=1:=rfl
@[go_sem] theorem Ju5:ty15.bytes=8:=rfl
@[go_sem] theorem JMI:ty15.zero=[.nilp]:=rfl
@[go_sem] theorem Jsk:T.ty 16=ty16:=rfl
@[go_sem] theorem JzA:ty16.k=.ptr 312:=rfl
@[go_sem] theorem JJb:ty16.sz=1:=rfl
@[go_sem] theorem Ju6:ty16.bytes=8:=rfl
@[go_sem] theorem JMJ:ty16.zero=[.nilp]:=rfl
@[go_sem] theorem Jsn:T.ty 17=ty17:=rfl
@[go_sem] theorem JzD:ty17.k=.ptr 320:=rfl
@[go_sem] theorem JJe:ty17.sz=1:=rfl
@[go_sem] theorem Ju9:ty17.bytes=8:=rfl
@[go_sem] theorem JMM:ty17.zero=[.nilp]:=rfl
@[go_sem] theorem Jsq:T.ty 18=ty18:=rfl
@[go_sem] theorem JzG : ty18.k = .struct [(0, 17, "typ")] := rfl
@[go_sem] theorem JJh:ty18.sz=1:=rfl
@[go_sem] theorem Jvc:ty18.bytes=8:=rfl
@[go_sem] theorem JMP:ty18.zero=[.nilp]:=rfl
@[go_sem] theorem Jsv:T.ty 21=ty21:=rfl
@[go_sem] theorem JzL:ty21.k=.int .i32:=rfl
@[go_sem] theorem JJm:ty21.sz=1:=rfl
@[go_sem] theorem Jvh:ty21.bytes=4:=rfl
@[go_sem] theorem JMU:ty21.zero=[.int .i32 0]:=rfl
@[go_sem] theorem Jsx:T.ty 22=ty22:=rfl
@[go_sem] theorem JzN : ty22.k = .struct [(0, 3, "Port"), (1, 9, "Host"), (2, 9, "Path"), (3, 3, "First"), (4, 3, "Other")] := rfl
@[go_sem] theorem JJo:ty22.sz=5:=rfl
@[go_sem] theorem Jvj:ty22.bytes=56:=rfl
@[go_sem] theorem JMW:ty22.zero=[.int .i64 0,.str [],.str [],.int .i64 0,.int .i64 0]:=rfl
@[go_sem] theorem JsB:T.ty 23=ty23:=rfl
@[go_sem] theorem JzR : ty23.k = .struct [(0, 3, "Port"), (1, 9, "Host"), (2, 9, "Path"), (3, 3, "First"), (4, 3, "Other")] := rfl
@[go_sem] theorem JJs:ty23.sz=5:=rfl
@[go_sem] theorem Jvn:ty23.bytes=56:=rfl
@[go_sem] theorem JM0:ty23.zero=[.int .i64 0,.str [],.str [],.int .i64 0,.int .i64 0]:=rfl
@[go_sem] theorem JsE:T.ty 25=ty25:=rfl
@[go_sem] theorem JzU : ty25.k = .struct [(0, 3, "What"), (1, 9, "Cluster"), (2, 3, "Host")] := rfl
@[go_sem] theorem JJv:ty25.sz=3:=rfl
@[go_sem] theorem Jvq:ty25.bytes=32:=rfl
@[go_sem] theorem JM3:ty25.zero=[.int .i64 0,.str [],.int .i64 0]:=rfl
@[go_sem] theorem JsI:T.ty 26=ty26:=rfl
@[go_sem] theorem JzY : ty26.k = .struct [(0, 23, "A"), (5, 3, "Stage"), (6, 3, "Id"), (7, 9, "Route"), (8, 9, "Cluster"), (9, 25, "Out")] := rfl
@[go_sem] theorem JJz:ty26.sz=12:=rfl
@[go_sem] theorem Jvu:ty26.bytes=136:=rfl
@[go_sem] theorem JM7:ty26.zero=[.int .i64 0,.str [],.str [],.int .i64 0,.int .i64 0,.int .i64 0,.int .i64 0,.str [],.str [],.int .i64 0,.str [],.int .i64 0]:=rfl
@[go_sem] theorem JsL:T.ty 27=ty27:=rfl
@[go_sem] theorem Jz1 : ty27.k = .struct [(0, 23, "A"), (5, 3, "Stage"), (6, 3, "Id"), (7, 9, "Route"), (8, 9, "Cluster"), (9, 25, "Out")] := rfl
@[go_sem] theorem JJC:ty27.sz=12:=rfl
@[go_sem] theorem Jvx:ty27.bytes=136:=rfl
@[go_sem] theorem JNa:ty27.zero=[.int .i64 0,.str [],.str [],.int .i64 0,.int .i64 0,.int .i64 0,.int .i64 0,.str [],.str [],.int .i64 0,.str [],.int .i64 0]:=rfl
@[go_sem] theorem JsO:T.ty 28=ty28:=rfl
@[go_sem] theorem Jz4:ty28.k=.array 4 3:=rfl
@[go_sem] theorem JJF:ty28.sz=4:=rfl
@[go_sem] theorem JvA:ty28.bytes=32:=rfl
@[go_sem] theorem JNd:ty28.zero=[.int .i64 0,.int .i64 0,.int .i64 0,.int .i64 0]:=rfl
@[go_sem] theorem JsT:T.ty 30=ty30:=rfl
@[go_sem] theorem Jz9 : ty30.k = .struct [(0, 28, "Last"), (4, 3, "Max")] := rfl
@[go_sem] theorem JJK:ty30.sz=5:=rfl
@[go_sem] theorem JvF:ty30.bytes=40:=rfl
@[go_sem] theorem JNi:ty30.zero=[.int .i64 0,.int .i64 0,.int .i64 0,.int .i64 0,.int .i64 0]:=rfl
@[go_sem] theorem JsV:T.ty 31=ty31:=rfl
@[go_sem] theorem JAb:ty31.k=.int .i64:=rfl
@[go_sem] theorem JJM:ty31.sz=1:=rfl
@[go_sem] theorem JvH:ty31.bytes=8:=rfl
@[go_sem] theorem JNk:ty31.zero=[.int .i64 0]:=rfl
@[go_sem] theorem Js4:T.ty 32=ty32:=rfl
@[go_sem] theorem JAk:ty32.k=.array 4 31:=rfl
@[go_sem] theorem JJV:ty32.sz=4:=rfl
@[go_sem] theorem JvQ:ty32.bytes=32:=rfl
@[go_sem] theorem JNt:ty32.zero=[.int .i64 0,.int .i64 0,.int .i64 0,.int .i64 0]:=rfl
@[go_sem] theorem Js6:T.ty 33=ty33:=rfl
@[go_sem] theorem JAm:ty33.k=.slice 118:=rfl
@[go_sem] theorem JJX:ty33.sz=1:=rfl
@[go_sem] theorem JvS:ty33.bytes=24:=rfl
@[go_sem] theorem JNv:ty33.zero=[.slice true []]:=rfl
@[go_sem] theorem Js7:T.ty 35=ty35:=rfl
@[go_sem] theorem JAn : ty35.k = .struct [(0, 3, "Cap"), (1, 33, "L")] := rfl
@[go_sem] theorem JJY:ty35.sz=2:=rfl
@[go_sem] theorem JvT:ty35.bytes=32:=rfl
@[go_sem] theorem JNw:ty35.zero=[.int .i64 0,.slice true []]:=rfl
@[go_sem] theorem Js8:T.ty 37=ty37:=rfl
@[go_sem] theorem JAo : ty37.k = .struct [(0, 35, "C"), (2, 4, "Ready"), (3, 33, "Shown")] := rfl
@[go_sem] theorem JJZ:ty37.sz=4:=rfl
@[go_sem] theorem JvU:ty37.bytes=64:=rfl
@[go_sem] theorem JNx:ty37.zero=[.int .i64 0,.slice true [],.bool false,.slice true []]:=rfl
@[go_sem] theorem Js9:T.ty 38=ty38:=rfl
@[go_sem] theorem JAp:ty38.k=.slice 72:=rfl
@[go_sem] theorem JJ0:ty38.sz=1:=rfl
@[go_sem] theorem JvV:ty38.bytes=24:=rfl
@[go_sem] theorem JNy:ty38.zero=[.slice true []]:=rfl
@[go_sem] theorem Jtb:T.ty 40=ty40:=rfl
@[go_sem] theorem JAr : ty40.k = .struct [(0, 3, "Next"), (1, 38, "Snaps")] := rfl
@[go_sem] theorem JJ2:ty40.sz=2:=rfl
@[go_sem] theorem JvX:ty40.bytes=32:=rfl
@[go_sem] theorem JNA:ty40.zero=[.int .i64 0,.slice true []]:=rfl
@[go_sem] theorem Jtc:T.ty 41=ty41:=rfl
@[go_sem] theorem JAs : ty41.k = .struct [(0, 3, "Epoch"), (1, 3, "Turn"), (2, 4, "Up"), (3, 30, "In"), (8, 32, "Errs"), (12, 37, "W"), (16, 40, "P")] := rfl
@[go_sem] theorem JJ3:ty41.sz=18:=rfl
@[go_sem] theorem JvY:ty41.bytes=192:=rfl
@[go_sem] theorem JNB:ty41.zero=[.int .i64 0,.int .i64 0,.bool false,.int .i64 0,.int .i64 0,.int .i64 0,.int .i64 0,.int .i64 0,.int .i64 0,.int .i64 0,.int .i64 0,.int .i64 0,.int .i64 0,.slice true [],.bool false,.slice true [],.int .i64 0,.slice true []]:=rfl
@[go_sem] theorem Jtd:T.ty 42=ty42:=rfl
@[go_sem] theorem JAt : ty42.k = .struct [(0, 3, "Epoch"), (1, 3, "Turn"), (2, 4, "Up"), (3, 30, "In"), (8, 32, "Errs"), (12, 37, "W"), (16, 40, "P")] := rfl
@[go_sem] theorem JJ4:ty42.sz=18:=rfl
@[go_sem] theorem JvZ:ty42.bytes=192:=rfl
@[go_sem] theorem JNC:ty42.zero=[.int .i64 0,.int .i64 0,.bool false,.int .i64 0,.int .i64 0,.int .i64 0,.int .i64 0,.int .i64 0,.int .i64 0,.int .i64 0,.int .i64 0,.int .i64 0,.int .i64 0,.slice true [],.bool false,.slice true [],.int .i64 0,.slice true []]:=rfl
@[go_sem] theorem Jte:T.ty 44=ty44:=rfl
@[go_sem] theorem JAu:ty44.k=.func:=rfl
@[go_sem] theorem JJ5:ty44.sz=1:=rfl
@[go_sem] theorem Jv0:ty44.bytes=8:=rfl
@[go_sem] theorem JND:ty44.zero=[.nilf]:=rfl
@[go_sem] theorem Jtf:T.ty 46=ty46:=rfl
@[go_sem] theorem JAv : ty46.k = .struct [(0, 23, "A"), (5, 3, "Stage"), (6, 3, "Id"), (7, 9, "Route"), (8, 9, "Cluster"), (9, 25, "Out")] := rfl
@[go_sem] theorem JJ6:ty46.sz=12:=rfl
@[go_sem] theorem Jv1:ty46.bytes=136:=rfl
@[go_sem] theorem JNE:ty46.zero=[.int .i64 0,.str [],.str [],.int .i64 0,.int .i64 0,.int .i64 0,.int .i64 0,.str [],.str [],.int .i64 0,.str [],.int .i64 0]:=rfl
@[go_sem] theorem Jtg:T.ty 47=ty47:=rfl
@[go_sem] theorem JAw:ty47.k=.func:=rfl
@[go_sem] theorem JJ7:ty47.sz=1:=rfl
@[go_sem] theorem Jv2:ty47.bytes=8:=rfl
@[go_sem] theorem JNF:ty47.zero=[.nilf]:=rfl
@[go_sem] theorem Jth:T.ty 49=ty49:=rfl
@[go_sem] theorem JAx : ty49.k = .struct [(0, 28, "Last"), (4, 3, "Max")] := rfl
@[go_sem] theorem JJ8:ty49.sz=5:=rfl
@[go_sem] theorem Jv3:ty49.bytes=40:=rfl
@[go_sem] theorem JNG:ty49.zero=[.int .i64 0,.int .i64 0,.int .i64 0,.int .i64 0,.int .i64 0]:=rfl
@[go_sem] theorem Jtj:T.ty 50=ty50:=rfl
@[go_sem] theorem JAz : ty50.k = .struct [(0, 3, "Cap"), (1, 33, "L")] := rfl
@[go_sem] theorem JKa:ty50.sz=2:=rfl
@[go_sem] theorem Jv5:ty50.bytes=32:=rfl
@[go_sem] theorem JNI:ty50.zero=[.int .i64 0,.slice true []]:=rfl
@[go_sem] theorem Jtk:T.ty 52=ty52:=rfl
@[go_sem] theorem JAA : ty52.k = .struct [(0, 50, "C"), (2, 4, "Ready"), (3, 33, "Shown")] := rfl
@[go_sem] theorem JKb:ty52.sz=4:=rfl
@[go_sem] theorem Jv6:ty52.bytes=64:=rfl
@[go_sem] theorem JNJ:ty52.zero=[.int .i64 0,.slice true [],.bool false,.slice true []]:=rfl
@[go_sem] theorem Jtl:T.ty 53=ty53:=rfl
@[go_sem] theorem JAB:ty53.k=.slice 103:=rfl
@[go_sem] theorem JKc:ty53.sz=1:=rfl
@[go_sem] theorem Jv7:ty53.bytes=24:=rfl
@[go_sem] theorem JNK:ty53.zero=[.slice true []]:=rfl
@[go_sem] theorem Jtm:T.ty 55=ty55:=rfl
@[go_sem] theorem JAC : ty55.k = .struct [(0, 3, "Next"), (1, 53, "Snaps")] := rfl
@[go_sem] theorem JKd:ty55.sz=2:=rfl
@[go_sem] theorem Jv8:ty55.bytes=32:=rfl
@[go_sem] theorem JNL:ty55.zero=[.int .i64 0,.slice true []]:=rfl
@[go_sem] theorem Jtn:T.ty 57=ty57:=rfl
@[go_sem] theorem JAD : ty57.k = .struct [(0, 3, "Epoch"), (1, 3, "Turn"), (2, 4, "Up"), (3, 49, "In"), (8, 32, "Errs"), (12, 52, "W"), (16, 55, "P")] := rfl
@[go_sem] theorem JKe:ty57.sz=18:=rfl
@[go_sem] theorem Jv9:ty57.bytes=192:=rfl
@[go_sem] theorem JNM:ty57.zero=[.int .i64 0,.int .i64 0,.bool false,.int .i64 0,.int .i64 0,.int .i64 0,.int .i64 0,.int .i64 0,.int .i64 0,.int .i64 0,.int .i64 0,.int .i64 0,.int .i64 0,.slice true [],.bool false,.slice true [],.int .i64 0,.slice true []]:=rfl
@[go_sem] theorem Jtp:T.ty 61=ty61:=rfl
@[go_sem] theorem JAF:ty61.k=.slice 85:=rfl
@[go_sem] theorem JKg:ty61.sz=1:=rfl
@[go_sem] theorem Jwb:ty61.bytes=24:=rfl
@[go_sem] theorem JNO:ty61.zero=[.slice true []]:=rfl
@[go_sem] theorem Jtr:T.ty 72=ty72:=rfl
@[go_sem] theorem JAH : ty72.k = .struct [(0, 3, "Id"), (1, 3, "Pins"), (2, 33, "L")] := rfl
@[go_sem] theorem JKi:ty72.sz=3:=rfl
@[go_sem] theorem Jwd:ty72.bytes=40:=rfl
@[go_sem] theorem JNQ:ty72.zero=[.int .i64 0,.int .i64 0,.slice true []]:=rfl
@[go_sem] theorem Jts:T.ty 77=ty77:=rfl
@[go_sem] theorem JAI:ty77.k=.slice 134:=rfl
@[go_sem] theorem JKj:ty77.sz=1:=rfl
@[go_sem] theorem Jwe:ty77.bytes=24:=rfl
@[go_sem] theorem JNR:ty77.zero=[.slice true []]:=rfl
@[go_sem] theorem Jtu:T.ty 83=ty83:=rfl
@[go_sem] theorem JAK:ty83.k=.slice 145:=rfl
@[go_sem] theorem JKl:ty83.sz=1:=rfl
@[go_sem] theorem Jwg:ty83.bytes=24:=rfl
@[go_sem] theorem JNT:ty83.zero=[.slice true []]:=rfl
@[go_sem] theorem Jtv:T.ty 85=ty85:=rfl
@[go_sem] theorem JAL : ty85.k = .struct [(0, 3, "Type"), (1, 3, "Epoch"), (2, 3, "Kind"), (3, 3, "Nonce"), (4, 3, "Turn"), (5, 33, "Adds"), (6, 77, "Gone"), (7, 31, "Err"), (8, 83, "Have"), (9, 77, "Held")] := rfl
@[go_sem] theorem JKm:ty85.sz=10:=rfl
@[go_sem] theorem Jwh:ty85.bytes=144:=rfl
@[go_sem] theorem JNU:ty85.zero=[.int .i64 0,.int .i64 0,.int .i64 0,.int .i64 0,.int .i64 0,.slice true [],.slice true [],.int .i64 0,.slice true [],.slice true []]:=rfl
@[go_sem] theorem Jtx:T.ty 94=ty94:=rfl
@[go_sem] theorem JAN:ty94.k=.slice 31:=rfl
@[go_sem] theorem JKo:ty94.sz=1:=rfl
@[go_sem] theorem Jwj:ty94.bytes=24:=rfl
@[go_sem] theorem JNW:ty94.zero=[.slice true []]:=rfl
@[go_sem] theorem Jty:T.ty 95=ty95:=rfl
@[go_sem] theorem JAO:ty95.k=.func:=rfl
@[go_sem] theorem JKp:ty95.sz=1:=rfl
@[go_sem] theorem Jwk:ty95.bytes=8:=rfl
@[go_sem] theorem JNX:ty95.zero=[.nilf]:=rfl
@[go_sem] theorem Jr4:T.ty 103=ty103:=rfl
@[go_sem] theorem Jzk : ty103.k = .struct [(0, 3, "Id"), (1, 3, "Pins"), (2, 33, "L")] := rfl
@[go_sem] theorem JIV:ty103.sz=3:=rfl
@[go_sem] theorem JuQ:ty103.bytes=40:=rfl
@[go_sem] theorem JMt:ty103.zero=[.int .i64 0,.int .i64 0,.slice true []]:=rfl
@[go_sem] theorem Jr5:T.ty 104=ty104:=rfl
@[go_sem] theorem Jzl:ty104.k=.ptr 108:=rfl
@[go_sem] theorem JIW:ty104.sz=1:=rfl
@[go_sem] theorem JuR:ty104.bytes=8:=rfl
@[go_sem] theorem JMu:ty104.zero=[.nilp]:=rfl
@[go_sem] theorem Jr6:T.ty 105=ty105:=rfl
@[go_sem] theorem Jzm:ty105.k=.func:=rfl
@[go_sem] theorem JIX:ty105.sz=1:=rfl
@[go_sem] theorem JuS:ty105.bytes=8:=rfl
@[go_sem] theorem JMv:ty105.zero=[.nilf]:=rfl
@[go_sem] theorem Jr7:T.ty 108=ty108:=rfl
@[go_sem] theorem Jzn : ty108.k = .struct [(0, 46, "Req"), (12, 57, "side"), (30, 61, "told")] := rfl
@[go_sem] theorem JIY:ty108.sz=31:=rfl
@[go_sem] theorem JuT:ty108.bytes=352:=rfl
@[go_sem] theorem JMw:ty108.zero=[.int .i64 0,.str [],.str [],.int .i64 0,.int .i64 0,.int .i64 0,.int .i64 0,.str [],.str [],.int .i64 0,.str [],.int .i64 0,.int .i64 0,.int .i64 0,.bool false,.int .i64 0,.int .i64 0,.int .i64 0,.int .i64 0,.int .i64 0,.int .i64 0,.int .i64 0,.int .i64 0,.int .i64 0,.int .i64 0,.slice true [],.bool false,.slice true [],.int .i64 0,.slice true [],.slice true []]:=rfl
@[go_sem] theorem Jr8:T.ty 114=ty114:=rfl
@[go_sem] theorem Jzo:ty114.k=.func:=rfl
@[go_sem] theorem JIZ:ty114.sz=1:=rfl
@[go_sem] theorem JuU:ty114.bytes=8:=rfl
@[go_sem] theorem JMx:ty114.zero=[.nilf]:=rfl
@[go_sem] theorem Jr9:T.ty 115=ty115:=rfl
@[go_sem] theorem Jzp:ty115.k=.slice 123:=rfl
@[go_sem] theorem JI0:ty115.sz=1:=rfl
@[go_sem] theorem JuV:ty115.bytes=24:=rfl
@[go_sem] theorem JMy:ty115.zero=[.slice true []]:=rfl
@[go_sem] theorem Jsa:T.ty 116=ty116:=rfl
@[go_sem] theorem Jzq:ty116.k=.slice 3:=rfl
@[go_sem] theorem JI1:ty116.sz=1:=rfl
@[go_sem] theorem JuW:ty116.bytes=24:=rfl
@[go_sem] theorem JMz:ty116.zero=[.slice true []]:=rfl
@[go_sem] theorem Jsb:T.ty 118=ty118:=rfl
@[go_sem] theorem Jzr : ty118.k = .struct [(0, 3, "Kind"), (1, 9, "Name"), (2, 3, "Ver"), (3, 3, "Port"), (4, 9, "To"), (5, 115, "Rules"), (6, 116, "Hosts")] := rfl
@[go_sem] theorem JI2:ty118.sz=7:=rfl
@[go_sem] theorem JuX:ty118.bytes=104:=rfl
@[go_sem] theorem JMA:ty118.zero=[.int .i64 0,.str [],.int .i64 0,.int .i64 0,.str [],.slice true [],.slice true []]:=rfl
@[go_sem] theorem Jsd:T.ty 121=ty121:=rfl
@[go_sem] theorem Jzt:ty121.k=.slice 167:=rfl
@[go_sem] theorem JI4:ty121.sz=1:=rfl
@[go_sem] theorem JuZ:ty121.bytes=24:=rfl
@[go_sem] theorem JMC:ty121.zero=[.slice true []]:=rfl
@[go_sem] theorem Jse:T.ty 123=ty123:=rfl
@[go_sem] theorem Jzu : ty123.k = .struct [(0, 9, "Host"), (1, 9, "Prefix"), (2, 121, "Split")] := rfl
@[go_sem] theorem JI5:ty123.sz=3:=rfl
@[go_sem] theorem Ju0:ty123.bytes=56:=rfl
@[go_sem] theorem JMD:ty123.zero=[.str [],.str [],.slice true []]:=rfl
@[go_sem] theorem Jsg:T.ty 134=ty134:=rfl
@[go_sem] theorem Jzw : ty134.k = .struct [(0, 3, "Kind"), (1, 9, "Name")] := rfl
@[go_sem] theorem JI7:ty134.sz=2:=rfl
@[go_sem] theorem Ju2:ty134.bytes=24:=rfl
@[go_sem] theorem JMF:ty134.zero=[.int .i64 0,.str []]:=rfl
@[go_sem] theorem Jsi:T.ty 145=ty145:=rfl
@[go_sem] theorem Jzy : ty145.k = .struct [(0, 134, "K"), (2, 3, "Ver")] := rfl
@[go_sem] theorem JI9:ty145.sz=3:=rfl
@[go_sem] theorem Ju4:ty145.bytes=32:=rfl
@[go_sem] theorem JMH:ty145.zero=[.int .i64 0,.str [],.int .i64 0]:=rfl
@[go_sem] theorem Jsl:T.ty 163=ty163:=rfl
@[go_sem] theorem JzB:ty163.k=.func:=rfl
@[go_sem] theorem JJc:ty163.sz=1:=rfl
@[go_sem] theorem Ju7:ty163.bytes=8:=rfl
@[go_sem] theorem JMK:ty163.zero=[.nilf]:=rfl
@[go_sem] theorem Jsm:T.ty 167=ty167:=rfl
@[go_sem] theorem JzC : ty167.k = .struct [(0, 9, "Cluster"), (1, 3, "W")] := rfl
@[go_sem] theorem JJd:ty167.sz=2:=rfl
@[go_sem] theorem Ju8:ty167.bytes=24:=rfl
@[go_sem] theorem JML:ty167.zero=[.str [],.int .i64 0]:=rfl
@[go_sem] theorem Jso:T.ty 177=ty177:=rfl
@[go_sem] theorem JzE:ty177.k=.array 4 4:=rfl
@[go_sem] theorem JJf:ty177.sz=4:=rfl
@[go_sem] theorem Jva:ty177.bytes=4:=rfl
@[go_sem] theorem JMN:ty177.zero=[.bool false,.bool false,.bool false,.bool false]:=rfl
@[go_sem] theorem Jsp:T.ty 179=ty179:=rfl
@[go_sem] theorem JzF : ty179.k = .struct [(0, 28, "Last"), (4, 177, "Open"), (8, 3, "Max")] := rfl
@[go_sem] theorem JJg:ty179.sz=9:=rfl
@[go_sem] theorem Jvb:ty179.bytes=48:=rfl
@[go_sem] theorem JMO:ty179.zero=[.int .i64 0,.int .i64 0,.int .i64 0,.int .i64 0,.bool false,.bool false,.bool false,.bool false,.int .i64 0]:=rfl
@[go_sem] theorem Jsr:T.ty 194=ty194:=rfl
@[go_sem] theorem JzH:ty194.k=.func:=rfl
@[go_sem] theorem JJi:ty194.sz=1:=rfl
@[go_sem] theorem Jvd:ty194.bytes=8:=rfl
@[go_sem] theorem JMQ:ty194.zero=[.nilf]:=rfl
@[go_sem] theorem Jst:T.ty 200=ty200:=rfl
@[go_sem] theorem JzJ:ty200.k=.func:=rfl
@[go_sem] theorem JJk:ty200.sz=1:=rfl
@[go_sem] theorem Jvf:ty200.bytes=8:=rfl
@[go_sem] theorem JMS:ty200.zero=[.nilf]:=rfl
@[go_sem] theorem Jsu:T.ty 201=ty201:=rfl
@[go_sem] theorem JzK:ty201.k=.func:=rfl
@[go_sem] theorem JJl:ty201.sz=1:=rfl
@[go_sem] theorem Jvg:ty201.bytes=8:=rfl
@[go_sem] theorem JMT:ty201.zero=[.nilf]:=rfl
@[go_sem] theorem Jsw:T.ty 216=ty216:=rfl
@[go_sem] theorem JzM : ty216.k = .struct [(0, 31, "e")] := rfl
@[go_sem] theorem JJn:ty216.sz=1:=rfl
@[go_sem] theorem Jvi:ty216.bytes=8:=rfl
@[go_sem] theorem JMV:ty216.zero=[.int .i64 0]:=rfl
@[go_sem] theorem Jsy:T.ty 220=ty220:=rfl
@[go_sem] theorem JzO:ty220.k=.map 134 4:=rfl
@[go_sem] theorem JJp:ty220.sz=1:=rfl
@[go_sem] theorem Jvk:ty220.bytes=8:=rfl
@[go_sem] theorem JMX:ty220.zero=[.nilm]:=rfl
@[go_sem] theorem Jsz:T.ty 225=ty225:=rfl
@[go_sem] theorem JzP:ty225.k=.func:=rfl
@[go_sem] theorem JJq:ty225.sz=1:=rfl
@[go_sem] theorem Jvl:ty225.bytes=8:=rfl
@[go_sem] theorem JMY:ty225.zero=[.nilf]:=rfl
@[go_sem] theorem JsA:T.ty 229=ty229:=rfl
@[go_sem] theorem JzQ:ty229.k=.func:=rfl
@[go_sem] theorem JJr:ty229.sz=1:=rfl
@[go_sem] theorem Jvm:ty229.bytes=8:=rfl
@[go_sem] theorem JMZ:ty229.zero=[.nilf]:=rfl
@[go_sem] theorem JsC:T.ty 234=ty234:=rfl
@[go_sem] theorem JzS:ty234.k=.int .u64:=rfl
@[go_sem] theorem JJt:ty234.sz=1:=rfl
@[go_sem] theorem Jvo:ty234.bytes=8:=rfl
@[go_sem] theorem JM1:ty234.zero=[.int .u64 0]:=rfl
@[go_sem] theorem JsD:T.ty 245=ty245:=rfl
@[go_sem] theorem JzT:ty245.k=.map 3 4:=rfl
@[go_sem] theorem JJu:ty245.sz=1:=rfl
@[go_sem] theorem Jvp:ty245.bytes=8:=rfl
@[go_sem] theorem JM2:ty245.zero=[.nilm]:=rfl
@[go_sem] theorem JsF:T.ty 251=ty251:=rfl
@[go_sem] theorem JzV:ty251.k=.map 134 77:=rfl
@[go_sem] theorem JJw:ty251.sz=1:=rfl
@[go_sem] theorem Jvr:ty251.bytes=8:=rfl
@[go_sem] theorem JM4:ty251.zero=[.nilm]:=rfl
@[go_sem] theorem JsG:T.ty 253=ty253:=rfl
@[go_sem] theorem JzW:ty253.k=.func:=rfl
@[go_sem] theorem JJx:ty253.sz=1:=rfl
@[go_sem] theorem Jvs:ty253.bytes=8:=rfl
@[go_sem] theorem JM5:ty253.zero=[.nilf]:=rfl
@[go_sem] theorem JsH:T.ty 258=ty258:=rfl
@[go_sem] theorem JzX:ty258.k=.int .i64:=rfl
@[go_sem] theorem JJy:ty258.sz=1:=rfl
@[go_sem] theorem Jvt:ty258.bytes=8:=rfl
@[go_sem] theorem JM6:ty258.zero=[.int .i64 0]:=rfl
@[go_sem] theorem JsJ:T.ty 265=ty265:=rfl
@[go_sem] theorem JzZ:ty265.k=.int .u32:=rfl
@[go_sem] theorem JJA:ty265.sz=1:=rfl
@[go_sem] theorem Jvv:ty265.bytes=4:=rfl
@[go_sem] theorem JM8:ty265.zero=[.int .u32 0]:=rfl
@[go_sem] theorem JsK:T.ty 267=ty267:=rfl
@[go_sem] theorem Jz0:ty267.k=.int .u64:=rfl
@[go_sem] theorem JJB:ty267.sz=1:=rfl
@[go_sem] theorem Jvw:ty267.bytes=8:=rfl
@[go_sem] theorem JM9:ty267.zero=[.int .u64 0]:=rfl
@[go_sem] theorem JsM:T.ty 274=ty274:=rfl
@[go_sem] theorem Jz2:ty274.k=.func:=rfl
@[go_sem] theorem JJD:ty274.sz=1:=rfl
@[go_sem] theorem Jvy:ty274.bytes=8:=rfl
@[go_sem] theorem JNb:ty274.zero=[.nilf]:=rfl
@[go_sem] theorem JsN:T.ty 276=ty276:=rfl
@[go_sem] theorem Jz3 : ty276.k = .struct [(0, 4, "port"), (1, 4, "to"), (2, 4, "rules"), (3, 4, "hosts")] := rfl
@[go_sem] theorem JJE:ty276.sz=4:=rfl
@[go_sem] theorem Jvz:ty276.bytes=4:=rfl
@[go_sem] theorem JNc:ty276.zero=[.bool false,.bool false,.bool false,.bool false]:=rfl
@[go_sem] theorem JsP:T.ty 280=ty280:=rfl
@[go_sem] theorem Jz5:ty280.k=.int .u64:=rfl
@[go_sem] theorem JJG:ty280.sz=1:=rfl
@[go_sem] theorem JvB:ty280.bytes=8:=rfl
@[go_sem] theorem JNe:ty280.zero=[.int .u64 0]:=rfl
@[go_sem] theorem JsQ:T.ty 284=ty284:=rfl
@[go_sem] theorem Jz6:ty284.k=.ptr 3:=rfl
@[go_sem] theorem JJH:ty284.sz=1:=rfl
@[go_sem] theorem JvC:ty284.bytes=8:=rfl
@[go_sem] theorem JNf:ty284.zero=[.nilp]:=rfl
@[go_sem] theorem JsR:T.ty 293=ty293:=rfl
@[go_sem] theorem Jz7:ty293.k=.ptr 280:=rfl
@[go_sem] theorem JJI:ty293.sz=1:=rfl
@[go_sem] theorem JvD:ty293.bytes=8:=rfl
@[go_sem] theorem JNg:ty293.zero=[.nilp]:=rfl
@[go_sem] theorem JsU:T.ty 309=ty309:=rfl
@[go_sem] theorem JAa : ty309.k = .struct [(0, 17, "_interface"), (1, 17, "concrete"), (2, 17, "asserted"), (3, 9, "missingMethod")] := rfl
@[go_sem] theorem JJL:ty309.sz=4:=rfl
@[go_sem] theorem JvG:ty309.bytes=40:=rfl
@[go_sem] theorem JNj:ty309.zero=[.nilp,.nilp,.nilp,.str []]:=rfl
@[go_sem] theorem JsW:T.ty 310=ty310:=rfl
@[go_sem] theorem JAc:ty310.k=.array 0 16:=rfl
@[go_sem] theorem JJN:ty310.sz=0:=rfl
@[go_sem] theorem JvI:ty310.bytes=0:=rfl
@[go_sem] theorem JNl:ty310.zero=[]:=rfl
@[go_sem] theorem JsX:T.ty 312=ty312:=rfl
@[go_sem] theorem JAd : ty312.k = .struct [(0, 310, "_")] := rfl
@[go_sem] theorem JJO:ty312.sz=0:=rfl
@[go_sem] theorem JvJ:ty312.bytes=0:=rfl
@[go_sem] theorem JNm:ty312.zero=[]:=rfl
@[go_sem] theorem JsY:T.ty 313=ty313:=rfl
@[go_sem] theorem JAe:ty313.k=.int .u8:=rfl
@[go_sem] theorem JJP:ty313.sz=1:=rfl
@[go_sem] theorem JvK:ty313.bytes=1:=rfl
@[go_sem] theorem JNn:ty313.zero=[.int .u8 0]:=rfl
@[go_sem] theorem JsZ:T.ty 314=ty314:=rfl
@[go_sem] theorem JAf:ty314.k=.int .u8:=rfl
@[go_sem] theorem JJQ:ty314.sz=1:=rfl
@[go_sem] theorem JvL:ty314.bytes=1:=rfl
@[go_sem] theorem JNo:ty314.zero=[.int .u8 0]:=rfl
@[go_sem] theorem Js0:T.ty 315=ty315:=rfl
@[go_sem] theorem JAg:ty315.k=.func:=rfl
@[go_sem] theorem JJR:ty315.sz=1:=rfl
@[go_sem] theorem JvM:ty315.bytes=8:=rfl
@[go_sem] theorem JNp:ty315.zero=[.nilf]:=rfl
@[go_sem] theorem Js1:T.ty 316=ty316:=rfl
@[go_sem] theorem JAh:ty316.k=.ptr 5:=rfl
@[go_sem] theorem JJS:ty316.sz=1:=rfl
@[go_sem] theorem JvN:ty316.bytes=8:=rfl
@[go_sem] theorem JNq:ty316.zero=[.nilp]:=rfl
@[go_sem] theorem Js2:T.ty 317=ty317:=rfl
@[go_sem] theorem JAi:ty317.k=.int .i32:=rfl
@[go_sem] theorem JJT:ty317.sz=1:=rfl
@[go_sem] theorem JvO:ty317.bytes=4:=rfl
@[go_sem] theorem JNr:ty317.zero=[.int .i32 0]:=rfl
@[go_sem] theorem Js3:T.ty 318=ty318:=rfl
@[go_sem] theorem JAj:ty318.k=.int .i32:=rfl
@[go_sem] theorem JJU:ty318.sz=1:=rfl
@[go_sem] theorem JvP:ty318.bytes=4:=rfl
@[go_sem] theorem JNs:ty318.zero=[.int .i32 0]:=rfl
@[go_sem] theorem Js5:T.ty 320=ty320:=rfl
@[go_sem] theorem JAl : ty320.k = .struct [(0, 12, "Size_"), (1, 12, "PtrBytes"), (2, 265, "Hash"), (3, 313, "TFlag"), (4, 5, "Align_"), (5, 5, "FieldAlign_"), (6, 314, "Kind_"), (7, 315, "Equal"), (8, 316, "GCData"), (9, 317, "Str"), (10, 318, "PtrToThis")] := rfl
@[go_sem] theorem JJW:ty320.sz=11:=rfl
@[go_sem] theorem JvR:ty320.bytes=48:=rfl
@[go_sem] theorem JNu:ty320.zero=[.int .u64 0,.int .u64 0,.int .u32 0,.int .u8 0,.int .u8 0,.int .u8 0,.int .u8 0,.nilf,.nilp,.int .i32 0,.int .i32 0]:=rfl
@[go_sem] theorem Jxm:Tryz.prog.eqGuardType Tryz.prog.depth 23=false:=by kernel_rfl
@[go_sem] theorem JIO:Tryz.prog.stoodInHeld 23=false:=by kernel_rfl
@[go_sem] theorem Jxn:Tryz.prog.eqGuardType Tryz.prog.depth 25=false:=by kernel_rfl
@[go_sem] theorem JIP:Tryz.prog.stoodInHeld 25=false:=by kernel_rfl
@[go_sem] theorem Jxj:Tryz.prog.eqGuardType Tryz.prog.depth 134=false:=by kernel_rfl
@[go_sem] theorem JIL:Tryz.prog.stoodInHeld 134=false:=by kernel_rfl
@[go_sem] theorem Jxk:Tryz.prog.eqGuardType Tryz.prog.depth 167=false:=by kernel_rfl
@[go_sem] theorem JIM:Tryz.prog.stoodInHeld 167=false:=by kernel_rfl
@[go_sem] theorem Jxl:Tryz.prog.eqGuardType Tryz.prog.depth 216=false:=by kernel_rfl
@[go_sem] theorem JIN:Tryz.prog.stoodInHeld 216=false:=by kernel_rfl
@[go_sem] theorem Jxo:Tryz.prog.eqGuardType Tryz.prog.depth 276=false:=by kernel_rfl
@[go_sem] theorem JIQ:Tryz.prog.stoodInHeld 276=false:=by kernel_rfl
theorem mixed:Tryz.prog.follows .mixedOrders=true:=by kernel_rfl
@[ext] structure BoundsError where
 x:Int
 y:Int
 signed:Bool
 code:UInt8
 deriving Inhabited,DecidableEq
instance:Dat BoundsError where
 av x:=.agg [.int .i64 x.x,.int .i64 x.y,.bool x.signed,.int .u8 x.code.toNat]
 sz:=4
 len _:=rfl
 pure x:=by simp only[go_sem,Bool.and_self]
 nrm x:=by simp only[go_sem]
 one x:=by simp only[go_sem,List.all_cons,List.all_nil,Bool.and_self]
 known x:=rfl
@[go_sem] theorem Jj2(x:BoundsError):Dat.av x=.agg [.int .i64 x.x,.int .i64 x.y,.bool x.signed,.int .u8 x.code.toNat]:=rfl
@[go_sem] theorem JKu:Dat.sz BoundsError=4:=rfl
@[go_sem] theorem JHJ(l:List BoundsError)(n:Nat)(f0:Int)(f1:Int)(f2:Bool)(f3:UInt8):(Ja l).set n (.agg [.int .i64 f0,.int .i64 f1,.bool f2,.int .u8 f3.toNat])=Ja (l.set n ⟨f0,f1,f2,f3⟩):=JX l n (⟨f0,f1,f2,f3⟩:BoundsError)
@[go_sem] theorem JIn(l:List BoundsError)(f0:Int)(f1:Int)(f2:Bool)(f3:UInt8):Ja l++[.agg [.int .i64 f0,.int .i64 f1,.bool f2,.int .u8 f3.toNat]]=Ja (l++[⟨f0,f1,f2,f3⟩]):=by rw[JW];rfl
@[go_sem] theorem Jlg:∀l:List BoundsError,AV.flat.flatL (Ja l)=true
 | []=>rfl
 |_ :: r=>by simp only[VS,AV.flat.flatL,Jlg r,Jj2,AV.flat,Bool.and_self]
@[go_sem] theorem Jxx(x:BoundsError):BoundsError.mk x.x x.y x.signed x.code=x:=rfl
@[ext] structure Ask where
 port:Int
 host:List UInt8
 path:List UInt8
 first:Int
 other:Int
 deriving Inhabited,DecidableEq
instance:Dat Ask where
 av x:=.agg [.int .i64 x.port,.str x.host,.str x.path,.int .i64 x.first,.int .i64 x.other]
 sz:=5
 len _:=rfl
 pure x:=by simp only[go_sem,Bool.and_self]
 nrm x:=by simp only[go_sem]
 one x:=by simp only[go_sem,List.all_cons,List.all_nil,Bool.and_self]
 known x:=rfl
@[go_sem] theorem Jj0(x:Ask):Dat.av x=.agg [.int .i64 x.port,.str x.host,.str x.path,.int .i64 x.first,.int .i64 x.other]:=rfl
@[go_sem] theorem JKs:Dat.sz Ask=5:=rfl
@[go_sem] theorem JHG(l:List Ask)(n:Nat)(f0:Int)(f1:List UInt8)(f2:List UInt8)(f3:Int)(f4:Int):(Ja l).set n (.agg [.int .i64 f0,.str f1,.str f2,.int .i64 f3,.int .i64 f4])=Ja (l.set n ⟨f0,f1,f2,f3,f4⟩):=JX l n (⟨f0,f1,f2,f3,f4⟩:Ask)
@[go_sem] theorem JIk(l:List Ask)(f0:Int)(f1:List UInt8)(f2:List UInt8)(f3:Int)(f4:Int):Ja l++[.agg [.int .i64 f0,.str f1,.str f2,.int .i64 f3,.int .i64 f4]]=Ja (l++[⟨f0,f1,f2,f3,f4⟩]):=by rw[JW];rfl
@[go_sem] theorem Jle:∀l:List Ask,AV.flat.flatL (Ja l)=true
 | []=>rfl
 |_ :: r=>by simp only[VS,AV.flat.flatL,Jle r,Jj0,AV.flat,Bool.and_self]
@[go_sem] theorem Jxv(x:Ask):Ask.mk x.port x.host x.path x.first x.other=x:=rfl
@[ext] structure Answer where
 what:Int
 cluster:List UInt8
 host:Int
 deriving Inhabited,DecidableEq
instance:Dat Answer where
 av x:=.agg [.int .i64 x.what,.str x.cluster,.int .i64 x.host]
 sz:=3
 len _:=rfl
 pure x:=by simp only[go_sem,Bool.and_self]
 nrm x:=by simp only[go_sem]
 one x:=by simp only[go_sem,List.all_cons,List.all_nil,Bool.and_self]
 known x:=rfl
@[go_sem] theorem JjZ(x:Answer):Dat.av x=.agg [.int .i64 x.what,.str x.cluster,.int .i64 x.host]:=rfl
@[go_sem] theorem JKr:Dat.sz Answer=3:=rfl
@[go_sem] theorem JHF(l:List Answer)(n:Nat)(f0:Int)(f1:List UInt8)(f2:Int):(Ja l).set n (.agg [.int .i64 f0,.str f1,.int .i64 f2])=Ja (l.set n ⟨f0,f1,f2⟩):=JX l n (⟨f0,f1,f2⟩:Answer)
@[go_sem] theorem JIj(l:List Answer)(f0:Int)(f1:List UInt8)(f2:Int):Ja l++[.agg [.int .i64 f0,.str f1,.int .i64 f2]]=Ja (l++[⟨f0,f1,f2⟩]):=by rw[JW];rfl
@[go_sem] theorem Jld:∀l:List Answer,AV.flat.flatL (Ja l)=true
 | []=>rfl
 |_ :: r=>by simp only[VS,AV.flat.flatL,Jld r,JjZ,AV.flat,Bool.and_self]
@[go_sem] theorem Jxu(x:Answer):Answer.mk x.what x.cluster x.host=x:=rfl
@[ext] structure Req where
 a:Ask
 stage:Int
 id:Int
 route:List UInt8
 cluster:List UInt8
 out:Answer
 deriving Inhabited,DecidableEq
instance:Dat Req where
 av x:=.agg [.int .i64 x.a.port,.str x.a.host,.str x.a.path,.int .i64 x.a.first,.int .i64 x.a.other,.int .i64 x.stage,.int .i64 x.id,.str x.route,.str x.cluster,.int .i64 x.out.what,.str x.out.cluster,.int .i64 x.out.host]
 sz:=12
 len _:=rfl
 pure x:=by simp only[go_sem,Bool.and_self]
 nrm x:=by simp only[go_sem]
 one x:=by simp only[go_sem,List.all_cons,List.all_nil,Bool.and_self]
 known x:=rfl
@[go_sem] theorem Jka(x:Req):Dat.av x=.agg [.int .i64 x.a.port,.str x.a.host,.str x.a.path,.int .i64 x.a.first,.int .i64 x.a.other,.int .i64 x.stage,.int .i64 x.id,.str x.route,.str x.cluster,.int .i64 x.out.what,.str x.out.cluster,.int .i64 x.out.host]:=rfl
@[go_sem] theorem JKH:Dat.sz Req=12:=rfl
@[go_sem] theorem JHW(l:List Req)(n:Nat)(f0:Ask)(f1:Int)(f2:Int)(f3:List UInt8)(f4:List UInt8)(f5:Answer):(Ja l).set n (.agg [.int .i64 f0.port,.str f0.host,.str f0.path,.int .i64 f0.first,.int .i64 f0.other,.int .i64 f1,.int .i64 f2,.str f3,.str f4,.int .i64 f5.what,.str f5.cluster,.int .i64 f5.host])=Ja (l.set n ⟨f0,f1,f2,f3,f4,f5⟩):=JX l n (⟨f0,f1,f2,f3,f4,f5⟩:Req)
@[go_sem] theorem JIA(l:List Req)(f0:Ask)(f1:Int)(f2:Int)(f3:List UInt8)(f4:List UInt8)(f5:Answer):Ja l++[.agg [.int .i64 f0.port,.str f0.host,.str f0.path,.int .i64 f0.first,.int .i64 f0.other,.int .i64 f1,.int .i64 f2,.str f3,.str f4,.int .i64 f5.what,.str f5.cluster,.int .i64 f5.host]]=Ja (l++[⟨f0,f1,f2,f3,f4,f5⟩]):=by rw[JW];rfl
@[go_sem] theorem Jlp:∀l:List Req,AV.flat.flatL (Ja l)=true
 | []=>rfl
 |_ :: r=>by simp only[VS,AV.flat.flatL,Jlp r,Jka,AV.flat,Bool.and_self]
@[go_sem] theorem JxJ(x:Req):Req.mk x.a x.stage x.id x.route x.cluster x.out=x:=rfl
@[ext] structure Four where
 a0:Int
 a1:Int
 a2:Int
 a3:Int
 deriving Inhabited,DecidableEq
instance:Dat Four where
 av x:=.agg [.int .i64 x.a0,.int .i64 x.a1,.int .i64 x.a2,.int .i64 x.a3]
 sz:=4
 len _:=rfl
 pure x:=by simp only[go_sem,Bool.and_self]
 nrm x:=by simp only[go_sem]
 one x:=by simp only[go_sem,List.all_cons,List.all_nil,Bool.and_self]
 known x:=rfl
@[go_sem] theorem Jj4(x:Four):Dat.av x=.agg [.int .i64 x.a0,.int .i64 x.a1,.int .i64 x.a2,.int .i64 x.a3]:=rfl
@[go_sem] theorem JKx:Dat.sz Four=4:=rfl
@[go_sem] theorem JHM(l:List Four)(n:Nat)(f0:Int)(f1:Int)(f2:Int)(f3:Int):(Ja l).set n (.agg [.int .i64 f0,.int .i64 f1,.int .i64 f2,.int .i64 f3])=Ja (l.set n ⟨f0,f1,f2,f3⟩):=JX l n (⟨f0,f1,f2,f3⟩:Four)
@[go_sem] theorem JIq(l:List Four)(f0:Int)(f1:Int)(f2:Int)(f3:Int):Ja l++[.agg [.int .i64 f0,.int .i64 f1,.int .i64 f2,.int .i64 f3]]=Ja (l++[⟨f0,f1,f2,f3⟩]):=by rw[JW];rfl
@[go_sem] theorem Jli:∀l:List Four,AV.flat.flatL (Ja l)=true
 | []=>rfl
 |_ :: r=>by simp only[VS,AV.flat.flatL,Jli r,Jj4,AV.flat,Bool.and_self]
@[go_sem] theorem JxA(x:Four):Four.mk x.a0 x.a1 x.a2 x.a3=x:=rfl
@[ext] structure In where
 last:Four
 max:Int
 deriving Inhabited,DecidableEq
instance:Dat In where
 av x:=.agg [.int .i64 x.last.a0,.int .i64 x.last.a1,.int .i64 x.last.a2,.int .i64 x.last.a3,.int .i64 x.max]
 sz:=5
 len _:=rfl
 pure x:=by simp only[go_sem,Bool.and_self]
 nrm x:=by simp only[go_sem]
 one x:=by simp only[go_sem,List.all_cons,List.all_nil,Bool.and_self]
 known x:=rfl
@[go_sem] theorem Jj6(x:In):Dat.av x=.agg [.int .i64 x.last.a0,.int .i64 x.last.a1,.int .i64 x.last.a2,.int .i64 x.last.a3,.int .i64 x.max]:=rfl
@[go_sem] theorem JKA:Dat.sz In=5:=rfl
@[go_sem] theorem JHP(l:List In)(n:Nat)(f0:Four)(f1:Int):(Ja l).set n (.agg [.int .i64 f0.a0,.int .i64 f0.a1,.int .i64 f0.a2,.int .i64 f0.a3,.int .i64 f1])=Ja (l.set n ⟨f0,f1⟩):=JX l n (⟨f0,f1⟩:In)
@[go_sem] theorem JIt(l:List In)(f0:Four)(f1:Int):Ja l++[.agg [.int .i64 f0.a0,.int .i64 f0.a1,.int .i64 f0.a2,.int .i64 f0.a3,.int .i64 f1]]=Ja (l++[⟨f0,f1⟩]):=by rw[JW];rfl
@[go_sem] theorem Jlk:∀l:List In,AV.flat.flatL (Ja l)=true
 | []=>rfl
 |_ :: r=>by simp only[VS,AV.flat.flatL,Jlk r,Jj6,AV.flat,Bool.and_self]
@[go_sem] theorem JxD(x:In):In.mk x.last x.max=x:=rfl
@[ext] structure Weight where
 cluster:List UInt8
 w:Int
 deriving Inhabited,DecidableEq
instance:Dat Weight where
 av x:=.agg [.str x.cluster,.int .i64 x.w]
 sz:=2
 len _:=rfl
 pure x:=by simp only[go_sem,Bool.and_self]
 nrm x:=by simp only[go_sem]
 one x:=by simp only[go_sem,List.all_cons,List.all_nil,Bool.and_self]
 known x:=rfl
@[go_sem] theorem Jkb(x:Weight):Dat.av x=.agg [.str x.cluster,.int .i64 x.w]:=rfl
@[go_sem] theorem JKN:Dat.sz Weight=2:=rfl
@[go_sem] theorem JH4(l:List Weight)(n:Nat)(f0:List UInt8)(f1:Int):(Ja l).set n (.agg [.str f0,.int .i64 f1])=Ja (l.set n ⟨f0,f1⟩):=JX l n (⟨f0,f1⟩:Weight)
@[go_sem] theorem JII(l:List Weight)(f0:List UInt8)(f1:Int):Ja l++[.agg [.str f0,.int .i64 f1]]=Ja (l++[⟨f0,f1⟩]):=by rw[JW];rfl
@[go_sem] theorem Jlr:∀l:List Weight,AV.flat.flatL (Ja l)=true
 | []=>rfl
 |_ :: r=>by simp only[VS,AV.flat.flatL,Jlr r,Jkb,AV.flat,Bool.and_self]
theorem Jdk(x y:Weight):x=y↔x.cluster=y.cluster∧x.w=y.w:=by cases x;cases y;simp
@[go_sem] theorem JxP(x:Weight):Weight.mk x.cluster x.w=x:=rfl
@[ext] structure Rule where
 host:List UInt8
 pfx:List UInt8
 split:List Weight
 deriving Inhabited,DecidableEq
instance:Dat Rule where
 av x:=.agg [.str x.host,.str x.pfx,.slice false (Ja x.split)]
 sz:=3
 len _:=rfl
 pure x:=by simp only[go_sem,Bool.and_self]
 nrm x:=by simp only[go_sem]
 one x:=by simp only[go_sem,List.all_cons,List.all_nil,Bool.and_self]
 known x:=rfl
@[go_sem] theorem Jt5(x:Rule):Dat.av x=.agg [.str x.host,.str x.pfx,.slice false (Ja x.split)]:=rfl
@[go_sem] theorem JKJ:Dat.sz Rule=3:=rfl
@[go_sem] theorem JHY(l:List Rule)(n:Nat)(f0:List UInt8)(f1:List UInt8)(f2:List Weight):(Ja l).set n (.agg [.str f0,.str f1,.slice false (Ja f2)])=Ja (l.set n ⟨f0,f1,f2⟩):=JX l n (⟨f0,f1,f2⟩:Rule)
@[go_sem] theorem JIC(l:List Rule)(f0:List UInt8)(f1:List UInt8)(f2:List Weight):Ja l++[.agg [.str f0,.str f1,.slice false (Ja f2)]]=Ja (l++[⟨f0,f1,f2⟩]):=by rw[JW];rfl
theorem Jhc(x y:Rule):x=y↔x.host=y.host∧x.pfx=y.pfx∧x.split=y.split:=by cases x;cases y;simp
@[go_sem] theorem JxL(x:Rule):Rule.mk x.host x.pfx x.split=x:=rfl
@[ext] structure Res where
 kind:Int
 name:List UInt8
 ver:Int
 port:Int
 to':List UInt8
 rules':List Rule
 hosts:List Int
 deriving Inhabited,DecidableEq
instance:Dat Res where
 av x:=.agg [.int .i64 x.kind,.str x.name,.int .i64 x.ver,.int .i64 x.port,.str x.to',.slice false (Ja x.rules'),.slice false (Ja x.hosts)]
 sz:=7
 len _:=rfl
 pure x:=by simp only[go_sem,Bool.and_self]
 nrm x:=by simp only[go_sem]
 one x:=by simp only[go_sem,List.all_cons,List.all_nil,Bool.and_self]
 known x:=rfl
@[go_sem] theorem Jt4(x:Res):Dat.av x=.agg [.int .i64 x.kind,.str x.name,.int .i64 x.ver,.int .i64 x.port,.str x.to',.slice false (Ja x.rules'),.slice false (Ja x.hosts)]:=rfl
@[go_sem] theorem JKI:Dat.sz Res=7:=rfl
@[go_sem] theorem JHX(l:List Res)(n:Nat)(f0:Int)(f1:List UInt8)(f2:Int)(f3:Int)(f4:List UInt8)(f5:List Rule)(f6:List Int):(Ja l).set n (.agg [.int .i64 f0,.str f1,.int .i64 f2,.int .i64 f3,.str f4,.slice false (Ja f5),.slice false (Ja f6)])=Ja (l.set n ⟨f0,f1,f2,f3,f4,f5,f6⟩):=JX l n (⟨f0,f1,f2,f3,f4,f5,f6⟩:Res)
@[go_sem] theorem JIB(l:List Res)(f0:Int)(f1:List UInt8)(f2:Int)(f3:Int)(f4:List UInt8)(f5:List Rule)(f6:List Int):Ja l++[.agg [.int .i64 f0,.str f1,.int .i64 f2,.int .i64 f3,.str f4,.slice false (Ja f5),.slice false (Ja f6)]]=Ja (l++[⟨f0,f1,f2,f3,f4,f5,f6⟩]):=by rw[JW];rfl
@[go_sem] theorem JxK(x:Res):Res.mk x.kind x.name x.ver x.port x.to' x.rules' x.hosts=x:=rfl
@[ext] structure Cache where
 cap:Int
 l:List Res
 deriving Inhabited,DecidableEq
instance:Dat Cache where
 av x:=.agg [.int .i64 x.cap,.slice false (Ja x.l)]
 sz:=2
 len _:=rfl
 pure x:=by simp only[go_sem,Bool.and_self]
 nrm x:=by simp only[go_sem]
 one x:=by simp only[go_sem,List.all_cons,List.all_nil,Bool.and_self]
 known x:=rfl
@[go_sem] theorem Jt0(x:Cache):Dat.av x=.agg [.int .i64 x.cap,.slice false (Ja x.l)]:=rfl
@[go_sem] theorem JKv:Dat.sz Cache=2:=rfl
@[go_sem] theorem JHK(l:List Cache)(n:Nat)(f0:Int)(f1:List Res):(Ja l).set n (.agg [.int .i64 f0,.slice false (Ja f1)])=Ja (l.set n ⟨f0,f1⟩):=JX l n (⟨f0,f1⟩:Cache)
@[go_sem] theorem JIo(l:List Cache)(f0:Int)(f1:List Res):Ja l++[.agg [.int .i64 f0,.slice false (Ja f1)]]=Ja (l++[⟨f0,f1⟩]):=by rw[JW];rfl
@[go_sem] theorem Jxy(x:Cache):Cache.mk x.cap x.l=x:=rfl
@[ext] structure Warm where
 c:Cache
 ready:Bool
 shown:List Res
 deriving Inhabited,DecidableEq
instance:Dat Warm where
 av x:=.agg [.int .i64 x.c.cap,.slice false (Ja x.c.l),.bool x.ready,.slice false (Ja x.shown)]
 sz:=4
 len _:=rfl
 pure x:=by simp only[go_sem,Bool.and_self]
 nrm x:=by simp only[go_sem]
 one x:=by simp only[go_sem,List.all_cons,List.all_nil,Bool.and_self]
 known x:=rfl
@[go_sem] theorem Jt8(x:Warm):Dat.av x=.agg [.int .i64 x.c.cap,.slice false (Ja x.c.l),.bool x.ready,.slice false (Ja x.shown)]:=rfl
@[go_sem] theorem JKM:Dat.sz Warm=4:=rfl
@[go_sem] theorem JH3(l:List Warm)(n:Nat)(f0:Cache)(f1:Bool)(f2:List Res):(Ja l).set n (.agg [.int .i64 f0.cap,.slice false (Ja f0.l),.bool f1,.slice false (Ja f2)])=Ja (l.set n ⟨f0,f1,f2⟩):=JX l n (⟨f0,f1,f2⟩:Warm)
@[go_sem] theorem JIH(l:List Warm)(f0:Cache)(f1:Bool)(f2:List Res):Ja l++[.agg [.int .i64 f0.cap,.slice false (Ja f0.l),.bool f1,.slice false (Ja f2)]]=Ja (l++[⟨f0,f1,f2⟩]):=by rw[JW];rfl
@[go_sem] theorem JxO(x:Warm):Warm.mk x.c x.ready x.shown=x:=rfl
@[ext] structure Snap where
 id:Int
 pins:Int
 l:List Res
 deriving Inhabited,DecidableEq
instance:Dat Snap where
 av x:=.agg [.int .i64 x.id,.int .i64 x.pins,.slice false (Ja x.l)]
 sz:=3
 len _:=rfl
 pure x:=by simp only[go_sem,Bool.and_self]
 nrm x:=by simp only[go_sem]
 one x:=by simp only[go_sem,List.all_cons,List.all_nil,Bool.and_self]
 known x:=rfl
@[go_sem] theorem Jt7(x:Snap):Dat.av x=.agg [.int .i64 x.id,.int .i64 x.pins,.slice false (Ja x.l)]:=rfl
@[go_sem] theorem JKL:Dat.sz Snap=3:=rfl
@[go_sem] theorem JH0(l:List Snap)(n:Nat)(f0:Int)(f1:Int)(f2:List Res):(Ja l).set n (.agg [.int .i64 f0,.int .i64 f1,.slice false (Ja f2)])=Ja (l.set n ⟨f0,f1,f2⟩):=JX l n (⟨f0,f1,f2⟩:Snap)
@[go_sem] theorem JIE(l:List Snap)(f0:Int)(f1:Int)(f2:List Res):Ja l++[.agg [.int .i64 f0,.int .i64 f1,.slice false (Ja f2)]]=Ja (l++[⟨f0,f1,f2⟩]):=by rw[JW];rfl
theorem Jhd(x y:Snap):x=y↔x.id=y.id∧x.pins=y.pins∧x.l=y.l:=by cases x;cases y;simp
@[go_sem] theorem JxN(x:Snap):Snap.mk x.id x.pins x.l=x:=rfl
@[ext] structure Pins where
 next':Int
 snaps:List Snap
 deriving Inhabited,DecidableEq
instance:Dat Pins where
 av x:=.agg [.int .i64 x.next',.slice false (Ja x.snaps)]
 sz:=2
 len _:=rfl
 pure x:=by simp only[go_sem,Bool.and_self]
 nrm x:=by simp only[go_sem]
 one x:=by simp only[go_sem,List.all_cons,List.all_nil,Bool.and_self]
 known x:=rfl
@[go_sem] theorem Jj9(x:Pins):Dat.av x=.agg [.int .i64 x.next',.slice false (Ja x.snaps)]:=rfl
@[go_sem] theorem JKG:Dat.sz Pins=2:=rfl
@[go_sem] theorem JHV(l:List Pins)(n:Nat)(f0:Int)(f1:List Snap):(Ja l).set n (.agg [.int .i64 f0,.slice false (Ja f1)])=Ja (l.set n ⟨f0,f1⟩):=JX l n (⟨f0,f1⟩:Pins)
@[go_sem] theorem JIz(l:List Pins)(f0:Int)(f1:List Snap):Ja l++[.agg [.int .i64 f0,.slice false (Ja f1)]]=Ja (l++[⟨f0,f1⟩]):=by rw[JW];rfl
@[go_sem] theorem JxI(x:Pins):Pins.mk x.next' x.snaps=x:=rfl
@[ext] structure Side where
 epoch:Int
 turn:Int
 up:Bool
 in':In
 errs:Four
 w:Warm
 p:Pins
 deriving Inhabited,DecidableEq
instance:Dat Side where
 av x:=.agg [.int .i64 x.epoch,.int .i64 x.turn,.bool x.up,.int .i64 x.in'.last.a0,.int .i64 x.in'.last.a1,.int .i64 x.in'.last.a2,.int .i64 x.in'.last.a3,.int .i64 x.in'.max,.int .i64 x.errs.a0,.int .i64 x.errs.a1,.int .i64 x.errs.a2,.int .i64 x.errs.a3,.int .i64 x.w.c.cap,.slice false (Ja x.w.c.l),.bool x.w.ready,.slice false (Ja x.w.shown),.int .i64 x.p.next',.slice false (Ja x.p.snaps)]
 sz:=18
 len _:=rfl
 pure x:=by simp only[go_sem,Bool.and_self]
 nrm x:=by simp only[go_sem]
 one x:=by simp only[go_sem,List.all_cons,List.all_nil,Bool.and_self]
 known x:=rfl
@[go_sem] theorem Jt6(x:Side):Dat.av x=.agg [.int .i64 x.epoch,.int .i64 x.turn,.bool x.up,.int .i64 x.in'.last.a0,.int .i64 x.in'.last.a1,.int .i64 x.in'.last.a2,.int .i64 x.in'.last.a3,.int .i64 x.in'.max,.int .i64 x.errs.a0,.int .i64 x.errs.a1,.int .i64 x.errs.a2,.int .i64 x.errs.a3,.int .i64 x.w.c.cap,.slice false (Ja x.w.c.l),.bool x.w.ready,.slice false (Ja x.w.shown),.int .i64 x.p.next',.slice false (Ja x.p.snaps)]:=rfl
@[go_sem] theorem JKK:Dat.sz Side=18:=rfl
@[go_sem] theorem JHZ(l:List Side)(n:Nat)(f0:Int)(f1:Int)(f2:Bool)(f3:In)(f4:Four)(f5:Warm)(f6:Pins):(Ja l).set n (.agg [.int .i64 f0,.int .i64 f1,.bool f2,.int .i64 f3.last.a0,.int .i64 f3.last.a1,.int .i64 f3.last.a2,.int .i64 f3.last.a3,.int .i64 f3.max,.int .i64 f4.a0,.int .i64 f4.a1,.int .i64 f4.a2,.int .i64 f4.a3,.int .i64 f5.c.cap,.slice false (Ja f5.c.l),.bool f5.ready,.slice false (Ja f5.shown),.int .i64 f6.next',.slice false (Ja f6.snaps)])=Ja (l.set n ⟨f0,f1,f2,f3,f4,f5,f6⟩):=JX l n (⟨f0,f1,f2,f3,f4,f5,f6⟩:Side)
@[go_sem] theorem JID(l:List Side)(f0:Int)(f1:Int)(f2:Bool)(f3:In)(f4:Four)(f5:Warm)(f6:Pins):Ja l++[.agg [.int .i64 f0,.int .i64 f1,.bool f2,.int .i64 f3.last.a0,.int .i64 f3.last.a1,.int .i64 f3.last.a2,.int .i64 f3.last.a3,.int .i64 f3.max,.int .i64 f4.a0,.int .i64 f4.a1,.int .i64 f4.a2,.int .i64 f4.a3,.int .i64 f5.c.cap,.slice false (Ja f5.c.l),.bool f5.ready,.slice false (Ja f5.shown),.int .i64 f6.next',.slice false (Ja f6.snaps)]]=Ja (l++[⟨f0,f1,f2,f3,f4,f5,f6⟩]):=by rw[JW];rfl
@[go_sem] theorem JxM(x:Side):Side.mk x.epoch x.turn x.up x.in' x.errs x.w x.p=x:=rfl
@[ext] structure Key where
 kind:Int
 name:List UInt8
 deriving Inhabited,DecidableEq
instance:Dat Key where
 av x:=.agg [.int .i64 x.kind,.str x.name]
 sz:=2
 len _:=rfl
 pure x:=by simp only[go_sem,Bool.and_self]
 nrm x:=by simp only[go_sem]
 one x:=by simp only[go_sem,List.all_cons,List.all_nil,Bool.and_self]
 known x:=rfl
@[go_sem] theorem JeO(x:Key):Dat.av x=.agg [.int .i64 x.kind,.str x.name]:=rfl
@[go_sem] theorem JKB:Dat.sz Key=2:=rfl
@[go_sem] theorem JHR(l:List Key)(n:Nat)(f0:Int)(f1:List UInt8):(Ja l).set n (.agg [.int .i64 f0,.str f1])=Ja (l.set n ⟨f0,f1⟩):=JX l n (⟨f0,f1⟩:Key)
@[go_sem] theorem JIv(l:List Key)(f0:Int)(f1:List UInt8):Ja l++[.agg [.int .i64 f0,.str f1]]=Ja (l++[⟨f0,f1⟩]):=by rw[JW];rfl
@[go_sem] theorem Jlm:∀l:List Key,AV.flat.flatL (Ja l)=true
 | []=>rfl
 |_ :: r=>by simp only[VS,AV.flat.flatL,Jlm r,JeO,AV.flat,Bool.and_self]
theorem Z3(x y:Key):x=y↔x.kind=y.kind∧x.name=y.name:=by cases x;cases y;simp
@[go_sem] theorem JxE(x:Key):Key.mk x.kind x.name=x:=rfl
@[ext] structure Mark where
 k:Key
 ver:Int
 deriving Inhabited,DecidableEq
instance:Dat Mark where
 av x:=.agg [.int .i64 x.k.kind,.str x.k.name,.int .i64 x.ver]
 sz:=3
 len _:=rfl
 pure x:=by simp only[go_sem,Bool.and_self]
 nrm x:=by simp only[go_sem]
 one x:=by simp only[go_sem,List.all_cons,List.all_nil,Bool.and_self]
 known x:=rfl
@[go_sem] theorem Jj7(x:Mark):Dat.av x=.agg [.int .i64 x.k.kind,.str x.k.name,.int .i64 x.ver]:=rfl
@[go_sem] theorem JKD:Dat.sz Mark=3:=rfl
@[go_sem] theorem JHS(l:List Mark)(n:Nat)(f0:Key)(f1:Int):(Ja l).set n (.agg [.int .i64 f0.kind,.str f0.name,.int .i64 f1])=Ja (l.set n ⟨f0,f1⟩):=JX l n (⟨f0,f1⟩:Mark)
@[go_sem] theorem JIw(l:List Mark)(f0:Key)(f1:Int):Ja l++[.agg [.int .i64 f0.kind,.str f0.name,.int .i64 f1]]=Ja (l++[⟨f0,f1⟩]):=by rw[JW];rfl
@[go_sem] theorem Jln:∀l:List Mark,AV.flat.flatL (Ja l)=true
 | []=>rfl
 |_ :: r=>by simp only[VS,AV.flat.flatL,Jln r,Jj7,AV.flat,Bool.and_self]
theorem Jhb(x y:Mark):x=y↔x.k=y.k∧x.ver=y.ver:=by cases x;cases y;simp
@[go_sem] theorem JxF(x:Mark):Mark.mk x.k x.ver=x:=rfl
@[ext] structure Frame where
 type:Int
 epoch:Int
 kind:Int
 nonce:Int
 turn:Int
 adds:List Res
 gone:List Key
 err:Int
 have':List Mark
 held:List Key
 deriving Inhabited,DecidableEq
instance:Dat Frame where
 av x:=.agg [.int .i64 x.type,.int .i64 x.epoch,.int .i64 x.kind,.int .i64 x.nonce,.int .i64 x.turn,.slice false (Ja x.adds),.slice false (Ja x.gone),.int .i64 x.err,.slice false (Ja x.have'),.slice false (Ja x.held)]
 sz:=10
 len _:=rfl
 pure x:=by simp only[go_sem,Bool.and_self]
 nrm x:=by simp only[go_sem]
 one x:=by simp only[go_sem,List.all_cons,List.all_nil,Bool.and_self]
 known x:=rfl
@[go_sem] theorem Jt1(x:Frame):Dat.av x=.agg [.int .i64 x.type,.int .i64 x.epoch,.int .i64 x.kind,.int .i64 x.nonce,.int .i64 x.turn,.slice false (Ja x.adds),.slice false (Ja x.gone),.int .i64 x.err,.slice false (Ja x.have'),.slice false (Ja x.held)]:=rfl
@[go_sem] theorem JKy:Dat.sz Frame=10:=rfl
@[go_sem] theorem JHN(l:List Frame)(n:Nat)(f0:Int)(f1:Int)(f2:Int)(f3:Int)(f4:Int)(f5:List Res)(f6:List Key)(f7:Int)(f8:List Mark)(f9:List Key):(Ja l).set n (.agg [.int .i64 f0,.int .i64 f1,.int .i64 f2,.int .i64 f3,.int .i64 f4,.slice false (Ja f5),.slice false (Ja f6),.int .i64 f7,.slice false (Ja f8),.slice false (Ja f9)])=Ja (l.set n ⟨f0,f1,f2,f3,f4,f5,f6,f7,f8,f9⟩):=JX l n (⟨f0,f1,f2,f3,f4,f5,f6,f7,f8,f9⟩:Frame)
@[go_sem] theorem JIr(l:List Frame)(f0:Int)(f1:Int)(f2:Int)(f3:Int)(f4:Int)(f5:List Res)(f6:List Key)(f7:Int)(f8:List Mark)(f9:List Key):Ja l++[.agg [.int .i64 f0,.int .i64 f1,.int .i64 f2,.int .i64 f3,.int .i64 f4,.slice false (Ja f5),.slice false (Ja f6),.int .i64 f7,.slice false (Ja f8),.slice false (Ja f9)]]=Ja (l++[⟨f0,f1,f2,f3,f4,f5,f6,f7,f8,f9⟩]):=by rw[JW];rfl
theorem JkZ(x y:Frame):x=y↔x.type=y.type∧x.epoch=y.epoch∧x.kind=y.kind∧x.nonce=y.nonce∧x.turn=y.turn∧x.adds=y.adds∧x.gone=y.gone∧x.err=y.err∧x.have'=y.have'∧x.held=y.held:=by cases x;cases y;simp
@[go_sem] theorem JxB(x:Frame):Frame.mk x.type x.epoch x.kind x.nonce x.turn x.adds x.gone x.err x.have' x.held=x:=rfl
@[ext] structure Work where
 req:Req
 side:Side
 told:List Frame
 deriving Inhabited,DecidableEq
instance:Dat Work where
 av x:=.agg [.int .i64 x.req.a.port,.str x.req.a.host,.str x.req.a.path,.int .i64 x.req.a.first,.int .i64 x.req.a.other,.int .i64 x.req.stage,.int .i64 x.req.id,.str x.req.route,.str x.req.cluster,.int .i64 x.req.out.what,.str x.req.out.cluster,.int .i64 x.req.out.host,.int .i64 x.side.epoch,.int .i64 x.side.turn,.bool x.side.up,.int .i64 x.side.in'.last.a0,.int .i64 x.side.in'.last.a1,.int .i64 x.side.in'.last.a2,.int .i64 x.side.in'.last.a3,.int .i64 x.side.in'.max,.int .i64 x.side.errs.a0,.int .i64 x.side.errs.a1,.int .i64 x.side.errs.a2,.int .i64 x.side.errs.a3,.int .i64 x.side.w.c.cap,.slice false (Ja x.side.w.c.l),.bool x.side.w.ready,.slice false (Ja x.side.w.shown),.int .i64 x.side.p.next',.slice false (Ja x.side.p.snaps),.slice false (Ja x.told)]
 sz:=31
 len _:=rfl
 pure x:=by simp only[go_sem,Bool.and_self]
 nrm x:=by simp only[go_sem]
 one x:=by simp only[go_sem,List.all_cons,List.all_nil,Bool.and_self]
 known x:=rfl
@[go_sem] theorem Jt9(x:Work):Dat.av x=.agg [.int .i64 x.req.a.port,.str x.req.a.host,.str x.req.a.path,.int .i64 x.req.a.first,.int .i64 x.req.a.other,.int .i64 x.req.stage,.int .i64 x.req.id,.str x.req.route,.str x.req.cluster,.int .i64 x.req.out.what,.str x.req.out.cluster,.int .i64 x.req.out.host,.int .i64 x.side.epoch,.int .i64 x.side.turn,.bool x.side.up,.int .i64 x.side.in'.last.a0,.int .i64 x.side.in'.last.a1,.int .i64 x.side.in'.last.a2,.int .i64 x.side.in'.last.a3,.int .i64 x.side.in'.max,.int .i64 x.side.errs.a0,.int .i64 x.side.errs.a1,.int .i64 x.side.errs.a2,.int .i64 x.side.errs.a3,.int .i64 x.side.w.c.cap,.slice false (Ja x.side.w.c.l),.bool x.side.w.ready,.slice false (Ja x.side.w.shown),.int .i64 x.side.p.next',.slice false (Ja x.side.p.snaps),.slice false (Ja x.told)]:=rfl
@[go_sem] theorem JKO:Dat.sz Work=31:=rfl
@[go_sem] theorem JH5(l:List Work)(n:Nat)(f0:Req)(f1:Side)(f2:List Frame):(Ja l).set n (.agg [.int .i64 f0.a.port,.str f0.a.host,.str f0.a.path,.int .i64 f0.a.first,.int .i64 f0.a.other,.int .i64 f0.stage,.int .i64 f0.id,.str f0.route,.str f0.cluster,.int .i64 f0.out.what,.str f0.out.cluster,.int .i64 f0.out.host,.int .i64 f1.epoch,.int .i64 f1.turn,.bool f1.up,.int .i64 f1.in'.last.a0,.int .i64 f1.in'.last.a1,.int .i64 f1.in'.last.a2,.int .i64 f1.in'.last.a3,.int .i64 f1.in'.max,.int .i64 f1.errs.a0,.int .i64 f1.errs.a1,.int .i64 f1.errs.a2,.int .i64 f1.errs.a3,.int .i64 f1.w.c.cap,.slice false (Ja f1.w.c.l),.bool f1.w.ready,.slice false (Ja f1.w.shown),.int .i64 f1.p.next',.slice false (Ja f1.p.snaps),.slice false (Ja f2)])=Ja (l.set n ⟨f0,f1,f2⟩):=JX l n (⟨f0,f1,f2⟩:Work)
@[go_sem] theorem JIJ(l:List Work)(f0:Req)(f1:Side)(f2:List Frame):Ja l++[.agg [.int .i64 f0.a.port,.str f0.a.host,.str f0.a.path,.int .i64 f0.a.first,.int .i64 f0.a.other,.int .i64 f0.stage,.int .i64 f0.id,.str f0.route,.str f0.cluster,.int .i64 f0.out.what,.str f0.out.cluster,.int .i64 f0.out.host,.int .i64 f1.epoch,.int .i64 f1.turn,.bool f1.up,.int .i64 f1.in'.last.a0,.int .i64 f1.in'.last.a1,.int .i64 f1.in'.last.a2,.int .i64 f1.in'.last.a3,.int .i64 f1.in'.max,.int .i64 f1.errs.a0,.int .i64 f1.errs.a1,.int .i64 f1.errs.a2,.int .i64 f1.errs.a3,.int .i64 f1.w.c.cap,.slice false (Ja f1.w.c.l),.bool f1.w.ready,.slice false (Ja f1.w.shown),.int .i64 f1.p.next',.slice false (Ja f1.p.snaps),.slice false (Ja f2)]]=Ja (l++[⟨f0,f1,f2⟩]):=by rw[JW];rfl
@[go_sem] theorem JxQ(x:Work):Work.mk x.req x.side x.told=x:=rfl
@[ext] structure Flags where
 a0:Bool
 a1:Bool
 a2:Bool
 a3:Bool
 deriving Inhabited,DecidableEq
instance:Dat Flags where
 av x:=.agg [.bool x.a0,.bool x.a1,.bool x.a2,.bool x.a3]
 sz:=4
 len _:=rfl
 pure x:=by simp only[go_sem,Bool.and_self]
 nrm x:=by simp only[go_sem]
 one x:=by simp only[go_sem,List.all_cons,List.all_nil,Bool.and_self]
 known x:=rfl
@[go_sem] theorem Jj3(x:Flags):Dat.av x=.agg [.bool x.a0,.bool x.a1,.bool x.a2,.bool x.a3]:=rfl
@[go_sem] theorem JKw:Dat.sz Flags=4:=rfl
@[go_sem] theorem JHL(l:List Flags)(n:Nat)(f0:Bool)(f1:Bool)(f2:Bool)(f3:Bool):(Ja l).set n (.agg [.bool f0,.bool f1,.bool f2,.bool f3])=Ja (l.set n ⟨f0,f1,f2,f3⟩):=JX l n (⟨f0,f1,f2,f3⟩:Flags)
@[go_sem] theorem JIp(l:List Flags)(f0:Bool)(f1:Bool)(f2:Bool)(f3:Bool):Ja l++[.agg [.bool f0,.bool f1,.bool f2,.bool f3]]=Ja (l++[⟨f0,f1,f2,f3⟩]):=by rw[JW];rfl
@[go_sem] theorem Jlh:∀l:List Flags,AV.flat.flatL (Ja l)=true
 | []=>rfl
 |_ :: r=>by simp only[VS,AV.flat.flatL,Jlh r,Jj3,AV.flat,Bool.and_self]
@[go_sem] theorem Jxz(x:Flags):Flags.mk x.a0 x.a1 x.a2 x.a3=x:=rfl
@[ext] structure Out where
 last:Four
 open':Flags
 max:Int
 deriving Inhabited,DecidableEq
instance:Dat Out where
 av x:=.agg [.int .i64 x.last.a0,.int .i64 x.last.a1,.int .i64 x.last.a2,.int .i64 x.last.a3,.bool x.open'.a0,.bool x.open'.a1,.bool x.open'.a2,.bool x.open'.a3,.int .i64 x.max]
 sz:=9
 len _:=rfl
 pure x:=by simp only[go_sem,Bool.and_self]
 nrm x:=by simp only[go_sem]
 one x:=by simp only[go_sem,List.all_cons,List.all_nil,Bool.and_self]
 known x:=rfl
@[go_sem] theorem Jj8(x:Out):Dat.av x=.agg [.int .i64 x.last.a0,.int .i64 x.last.a1,.int .i64 x.last.a2,.int .i64 x.last.a3,.bool x.open'.a0,.bool x.open'.a1,.bool x.open'.a2,.bool x.open'.a3,.int .i64 x.max]:=rfl
@[go_sem] theorem JKF:Dat.sz Out=9:=rfl
@[go_sem] theorem JHU(l:List Out)(n:Nat)(f0:Four)(f1:Flags)(f2:Int):(Ja l).set n (.agg [.int .i64 f0.a0,.int .i64 f0.a1,.int .i64 f0.a2,.int .i64 f0.a3,.bool f1.a0,.bool f1.a1,.bool f1.a2,.bool f1.a3,.int .i64 f2])=Ja (l.set n ⟨f0,f1,f2⟩):=JX l n (⟨f0,f1,f2⟩:Out)
@[go_sem] theorem JIy(l:List Out)(f0:Four)(f1:Flags)(f2:Int):Ja l++[.agg [.int .i64 f0.a0,.int .i64 f0.a1,.int .i64 f0.a2,.int .i64 f0.a3,.bool f1.a0,.bool f1.a1,.bool f1.a2,.bool f1.a3,.int .i64 f2]]=Ja (l++[⟨f0,f1,f2⟩]):=by rw[JW];rfl
@[go_sem] theorem Jlo:∀l:List Out,AV.flat.flatL (Ja l)=true
 | []=>rfl
 |_ :: r=>by simp only[VS,AV.flat.flatL,Jlo r,Jj8,AV.flat,Bool.and_self]
@[go_sem] theorem JxH(x:Out):Out.mk x.last x.open' x.max=x:=rfl
@[ext] structure Move where
 warm:Warm
 changed:Bool
 deriving Inhabited,DecidableEq
instance:Dat Move where
 av x:=.agg [.int .i64 x.warm.c.cap,.slice false (Ja x.warm.c.l),.bool x.warm.ready,.slice false (Ja x.warm.shown),.bool x.changed]
 sz:=5
 len _:=rfl
 pure x:=by simp only[go_sem,Bool.and_self]
 nrm x:=by simp only[go_sem]
 one x:=by simp only[go_sem,List.all_cons,List.all_nil,Bool.and_self]
 known x:=rfl
@[go_sem] theorem Jt3(x:Move):Dat.av x=.agg [.int .i64 x.warm.c.cap,.slice false (Ja x.warm.c.l),.bool x.warm.ready,.slice false (Ja x.warm.shown),.bool x.changed]:=rfl
@[go_sem] theorem JKE:Dat.sz Move=5:=rfl
@[go_sem] theorem JHT(l:List Move)(n:Nat)(f0:Warm)(f1:Bool):(Ja l).set n (.agg [.int .i64 f0.c.cap,.slice false (Ja f0.c.l),.bool f0.ready,.slice false (Ja f0.shown),.bool f1])=Ja (l.set n ⟨f0,f1⟩):=JX l n (⟨f0,f1⟩:Move)
@[go_sem] theorem JIx(l:List Move)(f0:Warm)(f1:Bool):Ja l++[.agg [.int .i64 f0.c.cap,.slice false (Ja f0.c.l),.bool f0.ready,.slice false (Ja f0.shown),.bool f1]]=Ja (l++[⟨f0,f1⟩]):=by rw[JW];rfl
@[go_sem] theorem JxG(x:Move):Move.mk x.warm x.changed=x:=rfl
@[ext] structure Bad where
 e:Int
 deriving Inhabited,DecidableEq
instance:Dat Bad where
 av x:=.agg [.int .i64 x.e]
 sz:=1
 len _:=rfl
 pure x:=by simp only[go_sem,Bool.and_self]
 nrm x:=by simp only[go_sem]
 one x:=by simp only[go_sem,List.all_cons,List.all_nil,Bool.and_self]
 known x:=rfl
@[go_sem] theorem Jj1(x:Bad):Dat.av x=.agg [.int .i64 x.e]:=rfl
@[go_sem] theorem JKt:Dat.sz Bad=1:=rfl
@[go_sem] theorem JHH(l:List Bad)(n:Nat)(f0:Int):(Ja l).set n (.agg [.int .i64 f0])=Ja (l.set n ⟨f0⟩):=JX l n (⟨f0⟩:Bad)
@[go_sem] theorem JIl(l:List Bad)(f0:Int):Ja l++[.agg [.int .i64 f0]]=Ja (l++[⟨f0⟩]):=by rw[JW];rfl
@[go_sem] theorem Jlf:∀l:List Bad,AV.flat.flatL (Ja l)=true
 | []=>rfl
 |_ :: r=>by simp only[VS,AV.flat.flatL,Jlf r,Jj1,AV.flat,Bool.and_self]
@[go_sem] theorem Jxw(x:Bad):Bad.mk x.e=x:=rfl
@[ext] structure Has where
 port:Bool
 to':Bool
 rules':Bool
 hosts:Bool
 deriving Inhabited,DecidableEq
instance:Dat Has where
 av x:=.agg [.bool x.port,.bool x.to',.bool x.rules',.bool x.hosts]
 sz:=4
 len _:=rfl
 pure x:=by simp only[go_sem,Bool.and_self]
 nrm x:=by simp only[go_sem]
 one x:=by simp only[go_sem,List.all_cons,List.all_nil,Bool.and_self]
 known x:=rfl
@[go_sem] theorem Jj5(x:Has):Dat.av x=.agg [.bool x.port,.bool x.to',.bool x.rules',.bool x.hosts]:=rfl
@[go_sem] theorem JKz:Dat.sz Has=4:=rfl
@[go_sem] theorem JHO(l:List Has)(n:Nat)(f0:Bool)(f1:Bool)(f2:Bool)(f3:Bool):(Ja l).set n (.agg [.bool f0,.bool f1,.bool f2,.bool f3])=Ja (l.set n ⟨f0,f1,f2,f3⟩):=JX l n (⟨f0,f1,f2,f3⟩:Has)
@[go_sem] theorem JIs(l:List Has)(f0:Bool)(f1:Bool)(f2:Bool)(f3:Bool):Ja l++[.agg [.bool f0,.bool f1,.bool f2,.bool f3]]=Ja (l++[⟨f0,f1,f2,f3⟩]):=by rw[JW];rfl
@[go_sem] theorem Jlj:∀l:List Has,AV.flat.flatL (Ja l)=true
 | []=>rfl
 |_ :: r=>by simp only[VS,AV.flat.flatL,Jlj r,Jj5,AV.flat,Bool.and_self]
@[go_sem] theorem JxC(x:Has):Has.mk x.port x.to' x.rules' x.hosts=x:=rfl
@[ext] structure AcceptRange where
 lo:UInt8
 hi:UInt8
 deriving Inhabited,DecidableEq
instance:Dat AcceptRange where
 av x:=.agg [.int .u8 x.lo.toNat,.int .u8 x.hi.toNat]
 sz:=2
 len _:=rfl
 pure x:=by simp only[go_sem,Bool.and_self]
 nrm x:=by simp only[go_sem]
 one x:=by simp only[go_sem,List.all_cons,List.all_nil,Bool.and_self]
 known x:=rfl
@[go_sem] theorem JjY(x:AcceptRange):Dat.av x=.agg [.int .u8 x.lo.toNat,.int .u8 x.hi.toNat]:=rfl
@[go_sem] theorem JKq:Dat.sz AcceptRange=2:=rfl
@[go_sem] theorem JHE(l:List AcceptRange)(n:Nat)(f0:UInt8)(f1:UInt8):(Ja l).set n (.agg [.int .u8 f0.toNat,.int .u8 f1.toNat])=Ja (l.set n ⟨f0,f1⟩):=JX l n (⟨f0,f1⟩:AcceptRange)
@[go_sem] theorem JIi(l:List AcceptRange)(f0:UInt8)(f1:UInt8):Ja l++[.agg [.int .u8 f0.toNat,.int .u8 f1.toNat]]=Ja (l++[⟨f0,f1⟩]):=by rw[JW];rfl
@[go_sem] theorem Jlc:∀l:List AcceptRange,AV.flat.flatL (Ja l)=true
 | []=>rfl
 |_ :: r=>by simp only[VS,AV.flat.flatL,Jlc r,JjY,AV.flat,Bool.and_self]
@[go_sem] theorem Jxt(x:AcceptRange):AcceptRange.mk x.lo x.hi=x:=rfl
def JjL(x:Ask):Prop:=Jc x.host.length∧Jc x.path.length
def Jc2(x:Four):Prop:=True
def Jgn(x:In):Prop:=Jc2 x.last
def Jc4(x:Weight):Prop:=Jc x.cluster.length
def VF(x:Rule):Prop:=Jc x.host.length∧Jc x.pfx.length∧Jc x.split.length∧(∀y∈x.split,Jc4 y)
def JD(x:Res):Prop:=Jc x.name.length∧Jc x.to'.length∧Jc x.rules'.length∧(∀y∈x.rules',VF y)∧Jc x.hosts.length
def Jgm(x:Cache):Prop:=Jc x.l.length∧(∀y∈x.l,JD y)
def ZT(x:Warm):Prop:=Jgm x.c∧Jc x.shown.length∧(∀y∈x.shown,JD y)
def VR(x:Snap):Prop:=Jc x.l.length∧(∀y∈x.l,JD y)
def Jgo(x:Pins):Prop:=Jc x.snaps.length∧(∀y∈x.snaps,VR y)
def JjN(x:Side):Prop:=Jgn x.in'∧Jc2 x.errs∧ZT x.w∧Jgo x.p
def Jc3(x:Key):Prop:=Jc x.name.length
def JjM(x:Mark):Prop:=Jc3 x.k
def Zz(x:Frame):Prop:=Jc x.adds.length∧(∀y∈x.adds,JD y)∧Jc x.gone.length∧(∀y∈x.gone,Jc3 y)∧Jc x.have'.length∧(∀y∈x.have',JjM y)∧Jc x.held.length∧(∀y∈x.held,Jc3 y)
end Go.Proofs.YthjalhfmpffbjaaGreatDoor.Lg
