/- Parts of the proof, one behind the other. -/
import Derived.Test.YthjalhfmpffbjaaGreatDoorProg
import Derived.Test.YthjalhfmpffbjaaGreatDoorG02
namespace Go.Proofs.YthjalhfmpffbjaaGreatDoor.Lg
open Go
set_option linter.unusedVariables false
set_option linter.unusedSimpArgs false
set_option maxRecDepth 100000
theorem Jd{i:Nat}{ti:TypeInfo}(h:Tryz.prog.types[i]?=some ti):Tryz.prog.info? i=some ti:=by
 have hlt:i<Tryz.prog.types.size:=(Array.getElem?_eq_some_iff.1 h).1
 simp only[Tables.info?,if_pos hlt,h]
def ty1:TyI:=⟨.func,1,8,[.nilf]⟩
theorem Joe:Jk Tryz.prog 1 ty1:=.inr ⟨Tryz.t1,Jd Tryz.type1,rfl,rfl,⟨_,rfl,rfl,rfl⟩,_,Tryz.underlying1,rfl⟩
theorem JpM:Jl Tryz.prog 1 ty1:=.inr ⟨Tryz.t1,_,Jd Tryz.type1,rfl,rfl⟩
def ty2:TyI:=⟨.int .i64,1,8,[.int .i64 0]⟩
theorem JoE:Jk Tryz.prog 2 ty2:=.inr ⟨Tryz.t2,Jd Tryz.type2,rfl,rfl,⟨_,rfl,rfl,rfl⟩,_,Tryz.underlying2,rfl⟩
theorem Jqc:Jl Tryz.prog 2 ty2:=.inr ⟨Tryz.t2,_,Jd Tryz.type2,rfl,rfl⟩
def ty3:TyI:=⟨.int .i64,1,8,[.int .i64 0]⟩
theorem Jo3:Jk Tryz.prog 3 ty3:=.inr ⟨Tryz.t3,Jd Tryz.type3,rfl,rfl,⟨_,rfl,rfl,rfl⟩,_,Tryz.underlying3,rfl⟩
theorem JqB:Jl Tryz.prog 3 ty3:=.inr ⟨Tryz.t3,_,Jd Tryz.type3,rfl,rfl⟩
def ty4:TyI:=⟨.bool,1,1,[.bool false]⟩
theorem Jpm:Jk Tryz.prog 4 ty4:=.inr ⟨Tryz.t4,Jd Tryz.type4,rfl,rfl,⟨_,rfl,rfl,rfl⟩,_,Tryz.underlying4,rfl⟩
theorem JqU:Jl Tryz.prog 4 ty4:=.inr ⟨Tryz.t4,_,Jd Tryz.type4,rfl,rfl⟩
def ty5:TyI:=⟨.int .u8,1,1,[.int .u8 0]⟩
theorem Jpv:Jk Tryz.prog 5 ty5:=.inr ⟨Tryz.t5,Jd Tryz.type5,rfl,rfl,⟨_,rfl,rfl,rfl⟩,_,Tryz.underlying5,rfl⟩
theorem Jq3:Jl Tryz.prog 5 ty5:=.inr ⟨Tryz.t5,_,Jd Tryz.type5,rfl,rfl⟩
def ty6:TyI:=⟨.int .u8,1,1,[.int .u8 0]⟩
theorem JpB:Jk Tryz.prog 6 ty6:=.inr ⟨Tryz.t6,Jd Tryz.type6,rfl,rfl,⟨_,rfl,rfl,rfl⟩,_,Tryz.underlying6,rfl⟩
theorem Jq9:Jl Tryz.prog 6 ty6:=.inr ⟨Tryz.t6,_,Jd Tryz.type6,rfl,rfl⟩
def ty7 : TyI := ⟨.struct [(0, 2, "x"), (1, 3, "y"), (2, 4, "signed"), (3, 6, "code")], 4, 24, [.int .i64 0, .int .i64 0, .bool false, .int .u8 0]⟩
theorem JpD:Jk Tryz.prog 7 ty7:=.inr ⟨Tryz.t7,Jd Tryz.type7,rfl,rfl,⟨_,rfl,rfl,rfl⟩,_,Tryz.underlying7,rfl⟩
theorem Jrb:Jl Tryz.prog 7 ty7:=.inr ⟨Tryz.t7,_,Jd Tryz.type7,rfl,rfl⟩
def ty8 : TyI := ⟨.struct [(0, 2, "x"), (1, 3, "y"), (2, 4, "signed"), (3, 6, "code")], 4, 24, [.int .i64 0, .int .i64 0, .bool false, .int .u8 0]⟩
theorem JpG:Jk Tryz.prog 8 ty8:=.inr ⟨Tryz.t8,Jd Tryz.type8,rfl,rfl,⟨_,rfl,rfl,rfl⟩,_,Tryz.underlying8,rfl⟩
theorem Jre:Jl Tryz.prog 8 ty8:=.inr ⟨Tryz.t8,_,Jd Tryz.type8,rfl,rfl⟩
def ty9:TyI:=⟨.str,1,16,[.str []]⟩
theorem JpJ:Jk Tryz.prog 9 ty9:=.inr ⟨Tryz.t9,Jd Tryz.type9,rfl,rfl,⟨_,rfl,rfl,rfl⟩,_,Tryz.underlying9,rfl⟩
theorem Jrh:Jl Tryz.prog 9 ty9:=.inr ⟨Tryz.t9,_,Jd Tryz.type9,rfl,rfl⟩
def ty10:TyI:=⟨.str,1,16,[.str []]⟩
theorem Jof:Jk Tryz.prog 10 ty10:=.inr ⟨Tryz.t10,Jd Tryz.type10,rfl,rfl,⟨_,rfl,rfl,rfl⟩,_,Tryz.underlying10,rfl⟩
theorem JpN:Jl Tryz.prog 10 ty10:=.inr ⟨Tryz.t10,_,Jd Tryz.type10,rfl,rfl⟩
def ty12:TyI:=⟨.int .u64,1,8,[.int .u64 0]⟩
theorem Joo:Jk Tryz.prog 12 ty12:=.inr ⟨Tryz.t12,Jd Tryz.type12,rfl,rfl,⟨_,rfl,rfl,rfl⟩,_,Tryz.underlying12,rfl⟩
theorem JpW:Jl Tryz.prog 12 ty12:=.inr ⟨Tryz.t12,_,Jd Tryz.type12,rfl,rfl⟩
def ty13 : TyI := ⟨.struct [(0, 9, "msg"), (1, 12, "addr")], 2, 24, [.str [], .int .u64 0]⟩
theorem Jor:Jk Tryz.prog 13 ty13:=.inr ⟨Tryz.t13,Jd Tryz.type13,rfl,rfl,⟨_,rfl,rfl,rfl⟩,_,Tryz.underlying13,rfl⟩
theorem JpZ:Jl Tryz.prog 13 ty13:=.inr ⟨Tryz.t13,_,Jd Tryz.type13,rfl,rfl⟩
def ty14 : TyI := ⟨.struct [(0, 9, "msg"), (1, 12, "addr")], 2, 24, [.str [], .int .u64 0]⟩
theorem Jot:Jk Tryz.prog 14 ty14:=.inr ⟨Tryz.t14,Jd Tryz.type14,rfl,rfl,⟨_,rfl,rfl,rfl⟩,_,Tryz.underlying14,rfl⟩
theorem Jp1:Jl Tryz.prog 14 ty14:=.inr ⟨Tryz.t14,_,Jd Tryz.type14,rfl,rfl⟩
def ty15:TyI:=⟨.ptr 309,1,8,[.nilp]⟩
theorem Jov:Jk Tryz.prog 15 ty15:=.inr ⟨Tryz.t15,Jd Tryz.type15,rfl,rfl,⟨_,rfl,rfl,rfl⟩,_,Tryz.underlying15,rfl⟩
theorem Jp3:Jl Tryz.prog 15 ty15:=.inr ⟨Tryz.t15,_,Jd Tryz.type15,rfl,rfl⟩
def ty16:TyI:=⟨.ptr 312,1,8,[.nilp]⟩
theorem Jow:Jk Tryz.prog 16 ty16:=.inr ⟨Tryz.t16,Jd Tryz.type16,rfl,rfl,⟨_,rfl,rfl,rfl⟩,_,Tryz.underlying16,rfl⟩
theorem Jp4:Jl Tryz.prog 16 ty16:=.inr ⟨Tryz.t16,_,Jd Tryz.type16,rfl,rfl⟩
def ty17:TyI:=⟨.ptr 320,1,8,[.nilp]⟩
theorem Joz:Jk Tryz.prog 17 ty17:=.inr ⟨Tryz.t17,Jd Tryz.type17,rfl,rfl,⟨_,rfl,rfl,rfl⟩,_,Tryz.underlying17,rfl⟩
theorem Jp7:Jl Tryz.prog 17 ty17:=.inr ⟨Tryz.t17,_,Jd Tryz.type17,rfl,rfl⟩
def ty18 : TyI := ⟨.struct [(0, 17, "typ")], 1, 8, [.nilp]⟩
theorem JoC:Jk Tryz.prog 18 ty18:=.inr ⟨Tryz.t18,Jd Tryz.type18,rfl,rfl,⟨_,rfl,rfl,rfl⟩,_,Tryz.underlying18,rfl⟩
theorem Jqa:Jl Tryz.prog 18 ty18:=.inr ⟨Tryz.t18,_,Jd Tryz.type18,rfl,rfl⟩
def ty21:TyI:=⟨.int .i32,1,4,[.int .i32 0]⟩
theorem JoH:Jk Tryz.prog 21 ty21:=.inr ⟨Tryz.t21,Jd Tryz.type21,rfl,rfl,⟨_,rfl,rfl,rfl⟩,_,Tryz.underlying21,rfl⟩
theorem Jqf:Jl Tryz.prog 21 ty21:=.inr ⟨Tryz.t21,_,Jd Tryz.type21,rfl,rfl⟩
def ty22 : TyI := ⟨.struct [(0, 3, "Port"), (1, 9, "Host"), (2, 9, "Path"), (3, 3, "First"), (4, 3, "Other")], 5, 56, [.int .i64 0, .str [], .str [], .int .i64 0, .int .i64 0]⟩
theorem JoJ:Jk Tryz.prog 22 ty22:=.inr ⟨Tryz.t22,Jd Tryz.type22,rfl,rfl,⟨_,rfl,rfl,rfl⟩,_,Tryz.underlying22,rfl⟩
theorem Jqh:Jl Tryz.prog 22 ty22:=.inr ⟨Tryz.t22,_,Jd Tryz.type22,rfl,rfl⟩
def ty23 : TyI := ⟨.struct [(0, 3, "Port"), (1, 9, "Host"), (2, 9, "Path"), (3, 3, "First"), (4, 3, "Other")], 5, 56, [.int .i64 0, .str [], .str [], .int .i64 0, .int .i64 0]⟩
theorem JoN:Jk Tryz.prog 23 ty23:=.inr ⟨Tryz.t23,Jd Tryz.type23,rfl,rfl,⟨_,rfl,rfl,rfl⟩,_,Tryz.underlying23,rfl⟩
theorem Jql:Jl Tryz.prog 23 ty23:=.inr ⟨Tryz.t23,_,Jd Tryz.type23,rfl,rfl⟩
def ty25 : TyI := ⟨.struct [(0, 3, "What"), (1, 9, "Cluster"), (2, 3, "Host")], 3, 32, [.int .i64 0, .str [], .int .i64 0]⟩
theorem JoQ:Jk Tryz.prog 25 ty25:=.inr ⟨Tryz.t25,Jd Tryz.type25,rfl,rfl,⟨_,rfl,rfl,rfl⟩,_,Tryz.underlying25,rfl⟩
theorem Jqo:Jl Tryz.prog 25 ty25:=.inr ⟨Tryz.t25,_,Jd Tryz.type25,rfl,rfl⟩
def ty27 : TyI := ⟨.struct [(0, 23, "A"), (5, 3, "Stage"), (6, 3, "Id"), (7, 9, "Route"), (8, 9, "Cluster"), (9, 25, "Out")], 12, 136, [.int .i64 0, .str [], .str [], .int .i64 0, .int .i64 0, .int .i64 0, .int .i64 0, .str [], .str [], .int .i64 0, .str [], .int .i64 0]⟩
theorem JoW:Jk Tryz.prog 27 ty27:=.inr ⟨Tryz.t27,Jd Tryz.type27,rfl,rfl,⟨_,rfl,rfl,rfl⟩,_,Tryz.underlying27,rfl⟩
theorem Jqu:Jl Tryz.prog 27 ty27:=.inr ⟨Tryz.t27,_,Jd Tryz.type27,rfl,rfl⟩
def ty28:TyI:=⟨.array 4 3,4,32,[.int .i64 0,.int .i64 0,.int .i64 0,.int .i64 0]⟩
theorem JoZ:Jk Tryz.prog 28 ty28:=.inr ⟨Tryz.t28,Jd Tryz.type28,rfl,rfl,⟨_,rfl,rfl,rfl⟩,_,Tryz.underlying28,rfl⟩
theorem Jqx:Jl Tryz.prog 28 ty28:=.inr ⟨Tryz.t28,_,Jd Tryz.type28,rfl,rfl⟩
def ty30 : TyI := ⟨.struct [(0, 28, "Last"), (4, 3, "Max")], 5, 40, [.int .i64 0, .int .i64 0, .int .i64 0, .int .i64 0, .int .i64 0]⟩
theorem Jo4:Jk Tryz.prog 30 ty30:=.inr ⟨Tryz.t30,Jd Tryz.type30,rfl,rfl,⟨_,rfl,rfl,rfl⟩,_,Tryz.underlying30,rfl⟩
theorem JqC:Jl Tryz.prog 30 ty30:=.inr ⟨Tryz.t30,_,Jd Tryz.type30,rfl,rfl⟩
def ty31:TyI:=⟨.int .i64,1,8,[.int .i64 0]⟩
theorem Jo6:Jk Tryz.prog 31 ty31:=.inr ⟨Tryz.t31,Jd Tryz.type31,rfl,rfl,⟨_,rfl,rfl,rfl⟩,_,Tryz.underlying31,rfl⟩
theorem JqE:Jl Tryz.prog 31 ty31:=.inr ⟨Tryz.t31,_,Jd Tryz.type31,rfl,rfl⟩
def ty32:TyI:=⟨.array 4 31,4,32,[.int .i64 0,.int .i64 0,.int .i64 0,.int .i64 0]⟩
theorem Jpf:Jk Tryz.prog 32 ty32:=.inr ⟨Tryz.t32,Jd Tryz.type32,rfl,rfl,⟨_,rfl,rfl,rfl⟩,_,Tryz.underlying32,rfl⟩
theorem JqN:Jl Tryz.prog 32 ty32:=.inr ⟨Tryz.t32,_,Jd Tryz.type32,rfl,rfl⟩
def ty33:TyI:=⟨.slice 118,1,24,[.slice true []]⟩
theorem Jph:Jk Tryz.prog 33 ty33:=.inr ⟨Tryz.t33,Jd Tryz.type33,rfl,rfl,⟨_,rfl,rfl,rfl⟩,_,Tryz.underlying33,rfl⟩
theorem JqP:Jl Tryz.prog 33 ty33:=.inr ⟨Tryz.t33,_,Jd Tryz.type33,rfl,rfl⟩
def ty34 : TyI := ⟨.struct [(0, 3, "Cap"), (1, 33, "L")], 2, 32, [.int .i64 0, .slice true []]⟩
theorem Jpi:Jk Tryz.prog 34 ty34:=.inr ⟨Tryz.t34,Jd Tryz.type34,rfl,rfl,⟨_,rfl,rfl,rfl⟩,_,Tryz.underlying34,rfl⟩
theorem JqQ:Jl Tryz.prog 34 ty34:=.inr ⟨Tryz.t34,_,Jd Tryz.type34,rfl,rfl⟩
def ty35 : TyI := ⟨.struct [(0, 3, "Cap"), (1, 33, "L")], 2, 32, [.int .i64 0, .slice true []]⟩
theorem Jpj:Jk Tryz.prog 35 ty35:=.inr ⟨Tryz.t35,Jd Tryz.type35,rfl,rfl,⟨_,rfl,rfl,rfl⟩,_,Tryz.underlying35,rfl⟩
theorem JqR:Jl Tryz.prog 35 ty35:=.inr ⟨Tryz.t35,_,Jd Tryz.type35,rfl,rfl⟩
def ty37 : TyI := ⟨.struct [(0, 35, "C"), (2, 4, "Ready"), (3, 33, "Shown")], 4, 64, [.int .i64 0, .slice true [], .bool false, .slice true []]⟩
theorem Jpk:Jk Tryz.prog 37 ty37:=.inr ⟨Tryz.t37,Jd Tryz.type37,rfl,rfl,⟨_,rfl,rfl,rfl⟩,_,Tryz.underlying37,rfl⟩
theorem JqS:Jl Tryz.prog 37 ty37:=.inr ⟨Tryz.t37,_,Jd Tryz.type37,rfl,rfl⟩
def ty38:TyI:=⟨.slice 72,1,24,[.slice true []]⟩
theorem Jpl:Jk Tryz.prog 38 ty38:=.inr ⟨Tryz.t38,Jd Tryz.type38,rfl,rfl,⟨_,rfl,rfl,rfl⟩,_,Tryz.underlying38,rfl⟩
theorem JqT:Jl Tryz.prog 38 ty38:=.inr ⟨Tryz.t38,_,Jd Tryz.type38,rfl,rfl⟩
def ty40 : TyI := ⟨.struct [(0, 3, "Next"), (1, 38, "Snaps")], 2, 32, [.int .i64 0, .slice true []]⟩
theorem Jpn:Jk Tryz.prog 40 ty40:=.inr ⟨Tryz.t40,Jd Tryz.type40,rfl,rfl,⟨_,rfl,rfl,rfl⟩,_,Tryz.underlying40,rfl⟩
theorem JqV:Jl Tryz.prog 40 ty40:=.inr ⟨Tryz.t40,_,Jd Tryz.type40,rfl,rfl⟩
def ty41 : TyI := ⟨.struct [(0, 3, "Epoch"), (1, 3, "Turn"), (2, 4, "Up"), (3, 30, "In"), (8, 32, "Errs"), (12, 37, "W"), (16, 40, "P")], 18, 192, [.int .i64 0, .int .i64 0, .bool false, .int .i64 0, .int .i64 0, .int .i64 0, .int .i64 0, .int .i64 0, .int .i64 0, .int .i64 0, .int .i64 0, .int .i64 0, .int .i64 0, .slice true [], .bool false, .slice true [], .int .i64 0, .slice true []]⟩
theorem Jpo:Jk Tryz.prog 41 ty41:=.inr ⟨Tryz.t41,Jd Tryz.type41,rfl,rfl,⟨_,rfl,rfl,rfl⟩,_,Tryz.underlying41,rfl⟩
theorem JqW:Jl Tryz.prog 41 ty41:=.inr ⟨Tryz.t41,_,Jd Tryz.type41,rfl,rfl⟩
def ty42 : TyI := ⟨.struct [(0, 3, "Epoch"), (1, 3, "Turn"), (2, 4, "Up"), (3, 30, "In"), (8, 32, "Errs"), (12, 37, "W"), (16, 40, "P")], 18, 192, [.int .i64 0, .int .i64 0, .bool false, .int .i64 0, .int .i64 0, .int .i64 0, .int .i64 0, .int .i64 0, .int .i64 0, .int .i64 0, .int .i64 0, .int .i64 0, .int .i64 0, .slice true [], .bool false, .slice true [], .int .i64 0, .slice true []]⟩
theorem Jpp:Jk Tryz.prog 42 ty42:=.inr ⟨Tryz.t42,Jd Tryz.type42,rfl,rfl,⟨_,rfl,rfl,rfl⟩,_,Tryz.underlying42,rfl⟩
theorem JqX:Jl Tryz.prog 42 ty42:=.inr ⟨Tryz.t42,_,Jd Tryz.type42,rfl,rfl⟩
def ty43:TyI:=⟨.func,1,8,[.nilf]⟩
theorem Jpq:Jk Tryz.prog 43 ty43:=.inr ⟨Tryz.t43,Jd Tryz.type43,rfl,rfl,⟨_,rfl,rfl,rfl⟩,_,Tryz.underlying43,rfl⟩
theorem JqY:Jl Tryz.prog 43 ty43:=.inr ⟨Tryz.t43,_,Jd Tryz.type43,rfl,rfl⟩
def ty44:TyI:=⟨.func,1,8,[.nilf]⟩
theorem Jpr:Jk Tryz.prog 44 ty44:=.inr ⟨Tryz.t44,Jd Tryz.type44,rfl,rfl,⟨_,rfl,rfl,rfl⟩,_,Tryz.underlying44,rfl⟩
theorem JqZ:Jl Tryz.prog 44 ty44:=.inr ⟨Tryz.t44,_,Jd Tryz.type44,rfl,rfl⟩
def ty46 : TyI := ⟨.struct [(0, 23, "A"), (5, 3, "Stage"), (6, 3, "Id"), (7, 9, "Route"), (8, 9, "Cluster"), (9, 25, "Out")], 12, 136, [.int .i64 0, .str [], .str [], .int .i64 0, .int .i64 0, .int .i64 0, .int .i64 0, .str [], .str [], .int .i64 0, .str [], .int .i64 0]⟩
theorem Jps:Jk Tryz.prog 46 ty46:=.inr ⟨Tryz.t46,Jd Tryz.type46,rfl,rfl,⟨_,rfl,rfl,rfl⟩,_,Tryz.underlying46,rfl⟩
theorem Jq0:Jl Tryz.prog 46 ty46:=.inr ⟨Tryz.t46,_,Jd Tryz.type46,rfl,rfl⟩
def ty47:TyI:=⟨.func,1,8,[.nilf]⟩
theorem Jpt:Jk Tryz.prog 47 ty47:=.inr ⟨Tryz.t47,Jd Tryz.type47,rfl,rfl,⟨_,rfl,rfl,rfl⟩,_,Tryz.underlying47,rfl⟩
theorem Jq1:Jl Tryz.prog 47 ty47:=.inr ⟨Tryz.t47,_,Jd Tryz.type47,rfl,rfl⟩
def ty49 : TyI := ⟨.struct [(0, 28, "Last"), (4, 3, "Max")], 5, 40, [.int .i64 0, .int .i64 0, .int .i64 0, .int .i64 0, .int .i64 0]⟩
theorem Jpu:Jk Tryz.prog 49 ty49:=.inr ⟨Tryz.t49,Jd Tryz.type49,rfl,rfl,⟨_,rfl,rfl,rfl⟩,_,Tryz.underlying49,rfl⟩
theorem Jq2:Jl Tryz.prog 49 ty49:=.inr ⟨Tryz.t49,_,Jd Tryz.type49,rfl,rfl⟩
def ty50 : TyI := ⟨.struct [(0, 3, "Cap"), (1, 33, "L")], 2, 32, [.int .i64 0, .slice true []]⟩
theorem Jpw:Jk Tryz.prog 50 ty50:=.inr ⟨Tryz.t50,Jd Tryz.type50,rfl,rfl,⟨_,rfl,rfl,rfl⟩,_,Tryz.underlying50,rfl⟩
theorem Jq4:Jl Tryz.prog 50 ty50:=.inr ⟨Tryz.t50,_,Jd Tryz.type50,rfl,rfl⟩
def ty52 : TyI := ⟨.struct [(0, 50, "C"), (2, 4, "Ready"), (3, 33, "Shown")], 4, 64, [.int .i64 0, .slice true [], .bool false, .slice true []]⟩
theorem Jpx:Jk Tryz.prog 52 ty52:=.inr ⟨Tryz.t52,Jd Tryz.type52,rfl,rfl,⟨_,rfl,rfl,rfl⟩,_,Tryz.underlying52,rfl⟩
theorem Jq5:Jl Tryz.prog 52 ty52:=.inr ⟨Tryz.t52,_,Jd Tryz.type52,rfl,rfl⟩
def ty53:TyI:=⟨.slice 103,1,24,[.slice true []]⟩
theorem Jpy:Jk Tryz.prog 53 ty53:=.inr ⟨Tryz.t53,Jd Tryz.type53,rfl,rfl,⟨_,rfl,rfl,rfl⟩,_,Tryz.underlying53,rfl⟩
theorem Jq6:Jl Tryz.prog 53 ty53:=.inr ⟨Tryz.t53,_,Jd Tryz.type53,rfl,rfl⟩
def ty55 : TyI := ⟨.struct [(0, 3, "Next"), (1, 53, "Snaps")], 2, 32, [.int .i64 0, .slice true []]⟩
theorem Jpz:Jk Tryz.prog 55 ty55:=.inr ⟨Tryz.t55,Jd Tryz.type55,rfl,rfl,⟨_,rfl,rfl,rfl⟩,_,Tryz.underlying55,rfl⟩
theorem Jq7:Jl Tryz.prog 55 ty55:=.inr ⟨Tryz.t55,_,Jd Tryz.type55,rfl,rfl⟩
def ty57 : TyI := ⟨.struct [(0, 3, "Epoch"), (1, 3, "Turn"), (2, 4, "Up"), (3, 49, "In"), (8, 32, "Errs"), (12, 52, "W"), (16, 55, "P")], 18, 192, [.int .i64 0, .int .i64 0, .bool false, .int .i64 0, .int .i64 0, .int .i64 0, .int .i64 0, .int .i64 0, .int .i64 0, .int .i64 0, .int .i64 0, .int .i64 0, .int .i64 0, .slice true [], .bool false, .slice true [], .int .i64 0, .slice true []]⟩
theorem JpA:Jk Tryz.prog 57 ty57:=.inr ⟨Tryz.t57,Jd Tryz.type57,rfl,rfl,⟨_,rfl,rfl,rfl⟩,_,Tryz.underlying57,rfl⟩
theorem Jq8:Jl Tryz.prog 57 ty57:=.inr ⟨Tryz.t57,_,Jd Tryz.type57,rfl,rfl⟩
def ty61:TyI:=⟨.slice 85,1,24,[.slice true []]⟩
theorem JpC:Jk Tryz.prog 61 ty61:=.inr ⟨Tryz.t61,Jd Tryz.type61,rfl,rfl,⟨_,rfl,rfl,rfl⟩,_,Tryz.underlying61,rfl⟩
theorem Jra:Jl Tryz.prog 61 ty61:=.inr ⟨Tryz.t61,_,Jd Tryz.type61,rfl,rfl⟩
def ty72 : TyI := ⟨.struct [(0, 3, "Id"), (1, 3, "Pins"), (2, 33, "L")], 3, 40, [.int .i64 0, .int .i64 0, .slice true []]⟩
theorem JpE:Jk Tryz.prog 72 ty72:=.inr ⟨Tryz.t72,Jd Tryz.type72,rfl,rfl,⟨_,rfl,rfl,rfl⟩,_,Tryz.underlying72,rfl⟩
theorem Jrc:Jl Tryz.prog 72 ty72:=.inr ⟨Tryz.t72,_,Jd Tryz.type72,rfl,rfl⟩
def ty77:TyI:=⟨.slice 134,1,24,[.slice true []]⟩
theorem JpF:Jk Tryz.prog 77 ty77:=.inr ⟨Tryz.t77,Jd Tryz.type77,rfl,rfl,⟨_,rfl,rfl,rfl⟩,_,Tryz.underlying77,rfl⟩
theorem Jrd:Jl Tryz.prog 77 ty77:=.inr ⟨Tryz.t77,_,Jd Tryz.type77,rfl,rfl⟩
def ty83:TyI:=⟨.slice 145,1,24,[.slice true []]⟩
theorem JpH:Jk Tryz.prog 83 ty83:=.inr ⟨Tryz.t83,Jd Tryz.type83,rfl,rfl,⟨_,rfl,rfl,rfl⟩,_,Tryz.underlying83,rfl⟩
theorem Jrf:Jl Tryz.prog 83 ty83:=.inr ⟨Tryz.t83,_,Jd Tryz.type83,rfl,rfl⟩
def ty85 : TyI := ⟨.struct [(0, 3, "Type"), (1, 3, "Epoch"), (2, 3, "Kind"), (3, 3, "Nonce"), (4, 3, "Turn"), (5, 33, "Adds"), (6, 77, "Gone"), (7, 31, "Err"), (8, 83, "Have"), (9, 77, "Held")], 10, 144, [.int .i64 0, .int .i64 0, .int .i64 0, .int .i64 0, .int .i64 0, .slice true [], .slice true [], .int .i64 0, .slice true [], .slice true []]⟩
theorem JpI:Jk Tryz.prog 85 ty85:=.inr ⟨Tryz.t85,Jd Tryz.type85,rfl,rfl,⟨_,rfl,rfl,rfl⟩,_,Tryz.underlying85,rfl⟩
theorem Jrg:Jl Tryz.prog 85 ty85:=.inr ⟨Tryz.t85,_,Jd Tryz.type85,rfl,rfl⟩
def ty94:TyI:=⟨.slice 31,1,24,[.slice true []]⟩
theorem JpK:Jk Tryz.prog 94 ty94:=.inr ⟨Tryz.t94,Jd Tryz.type94,rfl,rfl,⟨_,rfl,rfl,rfl⟩,_,Tryz.underlying94,rfl⟩
theorem Jri:Jl Tryz.prog 94 ty94:=.inr ⟨Tryz.t94,_,Jd Tryz.type94,rfl,rfl⟩
def ty95:TyI:=⟨.func,1,8,[.nilf]⟩
theorem JpL:Jk Tryz.prog 95 ty95:=.inr ⟨Tryz.t95,Jd Tryz.type95,rfl,rfl,⟨_,rfl,rfl,rfl⟩,_,Tryz.underlying95,rfl⟩
theorem Jrj:Jl Tryz.prog 95 ty95:=.inr ⟨Tryz.t95,_,Jd Tryz.type95,rfl,rfl⟩
def ty103 : TyI := ⟨.struct [(0, 3, "Id"), (1, 3, "Pins"), (2, 33, "L")], 3, 40, [.int .i64 0, .int .i64 0, .slice true []]⟩
theorem Jog:Jk Tryz.prog 103 ty103:=.inr ⟨Tryz.t103,Jd Tryz.type103,rfl,rfl,⟨_,rfl,rfl,rfl⟩,_,Tryz.underlying103,rfl⟩
theorem JpO:Jl Tryz.prog 103 ty103:=.inr ⟨Tryz.t103,_,Jd Tryz.type103,rfl,rfl⟩
def ty104:TyI:=⟨.ptr 108,1,8,[.nilp]⟩
theorem Joh:Jk Tryz.prog 104 ty104:=.inr ⟨Tryz.t104,Jd Tryz.type104,rfl,rfl,⟨_,rfl,rfl,rfl⟩,_,Tryz.underlying104,rfl⟩
theorem JpP:Jl Tryz.prog 104 ty104:=.inr ⟨Tryz.t104,_,Jd Tryz.type104,rfl,rfl⟩
def ty105:TyI:=⟨.func,1,8,[.nilf]⟩
theorem Joi:Jk Tryz.prog 105 ty105:=.inr ⟨Tryz.t105,Jd Tryz.type105,rfl,rfl,⟨_,rfl,rfl,rfl⟩,_,Tryz.underlying105,rfl⟩
theorem JpQ:Jl Tryz.prog 105 ty105:=.inr ⟨Tryz.t105,_,Jd Tryz.type105,rfl,rfl⟩
def ty108 : TyI := ⟨.struct [(0, 46, "Req"), (12, 57, "side"), (30, 61, "told")], 31, 352, [.int .i64 0, .str [], .str [], .int .i64 0, .int .i64 0, .int .i64 0, .int .i64 0, .str [], .str [], .int .i64 0, .str [], .int .i64 0, .int .i64 0, .int .i64 0, .bool false, .int .i64 0, .int .i64 0, .int .i64 0, .int .i64 0, .int .i64 0, .int .i64 0, .int .i64 0, .int .i64 0, .int .i64 0, .int .i64 0, .slice true [], .bool false, .slice true [], .int .i64 0, .slice true [], .slice true []]⟩
theorem Joj:Jk Tryz.prog 108 ty108:=.inr ⟨Tryz.t108,Jd Tryz.type108,rfl,rfl,⟨_,rfl,rfl,rfl⟩,_,Tryz.underlying108,rfl⟩
theorem JpR:Jl Tryz.prog 108 ty108:=.inr ⟨Tryz.t108,_,Jd Tryz.type108,rfl,rfl⟩
def ty114:TyI:=⟨.func,1,8,[.nilf]⟩
theorem Jok:Jk Tryz.prog 114 ty114:=.inr ⟨Tryz.t114,Jd Tryz.type114,rfl,rfl,⟨_,rfl,rfl,rfl⟩,_,Tryz.underlying114,rfl⟩
theorem JpS:Jl Tryz.prog 114 ty114:=.inr ⟨Tryz.t114,_,Jd Tryz.type114,rfl,rfl⟩
def ty115:TyI:=⟨.slice 123,1,24,[.slice true []]⟩
theorem Jol:Jk Tryz.prog 115 ty115:=.inr ⟨Tryz.t115,Jd Tryz.type115,rfl,rfl,⟨_,rfl,rfl,rfl⟩,_,Tryz.underlying115,rfl⟩
theorem JpT:Jl Tryz.prog 115 ty115:=.inr ⟨Tryz.t115,_,Jd Tryz.type115,rfl,rfl⟩
def ty116:TyI:=⟨.slice 3,1,24,[.slice true []]⟩
theorem Jom:Jk Tryz.prog 116 ty116:=.inr ⟨Tryz.t116,Jd Tryz.type116,rfl,rfl,⟨_,rfl,rfl,rfl⟩,_,Tryz.underlying116,rfl⟩
theorem JpU:Jl Tryz.prog 116 ty116:=.inr ⟨Tryz.t116,_,Jd Tryz.type116,rfl,rfl⟩
def ty118 : TyI := ⟨.struct [(0, 3, "Kind"), (1, 9, "Name"), (2, 3, "Ver"), (3, 3, "Port"), (4, 9, "To"), (5, 115, "Rules"), (6, 116, "Hosts")], 7, 104, [.int .i64 0, .str [], .int .i64 0, .int .i64 0, .str [], .slice true [], .slice true []]⟩
theorem Jon:Jk Tryz.prog 118 ty118:=.inr ⟨Tryz.t118,Jd Tryz.type118,rfl,rfl,⟨_,rfl,rfl,rfl⟩,_,Tryz.underlying118,rfl⟩
theorem JpV:Jl Tryz.prog 118 ty118:=.inr ⟨Tryz.t118,_,Jd Tryz.type118,rfl,rfl⟩
def ty121:TyI:=⟨.slice 167,1,24,[.slice true []]⟩
theorem Jop:Jk Tryz.prog 121 ty121:=.inr ⟨Tryz.t121,Jd Tryz.type121,rfl,rfl,⟨_,rfl,rfl,rfl⟩,_,Tryz.underlying121,rfl⟩
theorem JpX:Jl Tryz.prog 121 ty121:=.inr ⟨Tryz.t121,_,Jd Tryz.type121,rfl,rfl⟩
def ty123 : TyI := ⟨.struct [(0, 9, "Host"), (1, 9, "Prefix"), (2, 121, "Split")], 3, 56, [.str [], .str [], .slice true []]⟩
theorem Joq:Jk Tryz.prog 123 ty123:=.inr ⟨Tryz.t123,Jd Tryz.type123,rfl,rfl,⟨_,rfl,rfl,rfl⟩,_,Tryz.underlying123,rfl⟩
theorem JpY:Jl Tryz.prog 123 ty123:=.inr ⟨Tryz.t123,_,Jd Tryz.type123,rfl,rfl⟩
def ty134 : TyI := ⟨.struct [(0, 3, "Kind"), (1, 9, "Name")], 2, 24, [.int .i64 0, .str []]⟩
theorem Jos:Jk Tryz.prog 134 ty134:=.inr ⟨Tryz.t134,Jd Tryz.type134,rfl,rfl,⟨_,rfl,rfl,rfl⟩,_,Tryz.underlying134,rfl⟩
theorem Jp0:Jl Tryz.prog 134 ty134:=.inr ⟨Tryz.t134,_,Jd Tryz.type134,rfl,rfl⟩
def ty145 : TyI := ⟨.struct [(0, 134, "K"), (2, 3, "Ver")], 3, 32, [.int .i64 0, .str [], .int .i64 0]⟩
theorem Jou:Jk Tryz.prog 145 ty145:=.inr ⟨Tryz.t145,Jd Tryz.type145,rfl,rfl,⟨_,rfl,rfl,rfl⟩,_,Tryz.underlying145,rfl⟩
theorem Jp2:Jl Tryz.prog 145 ty145:=.inr ⟨Tryz.t145,_,Jd Tryz.type145,rfl,rfl⟩
def ty163:TyI:=⟨.func,1,8,[.nilf]⟩
theorem Jox:Jk Tryz.prog 163 ty163:=.inr ⟨Tryz.t163,Jd Tryz.type163,rfl,rfl,⟨_,rfl,rfl,rfl⟩,_,Tryz.underlying163,rfl⟩
theorem Jp5:Jl Tryz.prog 163 ty163:=.inr ⟨Tryz.t163,_,Jd Tryz.type163,rfl,rfl⟩
def ty167 : TyI := ⟨.struct [(0, 9, "Cluster"), (1, 3, "W")], 2, 24, [.str [], .int .i64 0]⟩
theorem Joy:Jk Tryz.prog 167 ty167:=.inr ⟨Tryz.t167,Jd Tryz.type167,rfl,rfl,⟨_,rfl,rfl,rfl⟩,_,Tryz.underlying167,rfl⟩
theorem Jp6:Jl Tryz.prog 167 ty167:=.inr ⟨Tryz.t167,_,Jd Tryz.type167,rfl,rfl⟩
def ty177:TyI:=⟨.array 4 4,4,4,[.bool false,.bool false,.bool false,.bool false]⟩
theorem JoA:Jk Tryz.prog 177 ty177:=.inr ⟨Tryz.t177,Jd Tryz.type177,rfl,rfl,⟨_,rfl,rfl,rfl⟩,_,Tryz.underlying177,rfl⟩
theorem Jp8:Jl Tryz.prog 177 ty177:=.inr ⟨Tryz.t177,_,Jd Tryz.type177,rfl,rfl⟩
def ty179 : TyI := ⟨.struct [(0, 28, "Last"), (4, 177, "Open"), (8, 3, "Max")], 9, 48, [.int .i64 0, .int .i64 0, .int .i64 0, .int .i64 0, .bool false, .bool false, .bool false, .bool false, .int .i64 0]⟩
theorem JoB:Jk Tryz.prog 179 ty179:=.inr ⟨Tryz.t179,Jd Tryz.type179,rfl,rfl,⟨_,rfl,rfl,rfl⟩,_,Tryz.underlying179,rfl⟩
theorem Jp9:Jl Tryz.prog 179 ty179:=.inr ⟨Tryz.t179,_,Jd Tryz.type179,rfl,rfl⟩
def ty194:TyI:=⟨.func,1,8,[.nilf]⟩
theorem JoD:Jk Tryz.prog 194 ty194:=.inr ⟨Tryz.t194,Jd Tryz.type194,rfl,rfl,⟨_,rfl,rfl,rfl⟩,_,Tryz.underlying194,rfl⟩
theorem Jqb:Jl Tryz.prog 194 ty194:=.inr ⟨Tryz.t194,_,Jd Tryz.type194,rfl,rfl⟩
def ty200:TyI:=⟨.func,1,8,[.nilf]⟩
theorem JoF:Jk Tryz.prog 200 ty200:=.inr ⟨Tryz.t200,Jd Tryz.type200,rfl,rfl,⟨_,rfl,rfl,rfl⟩,_,Tryz.underlying200,rfl⟩
theorem Jqd:Jl Tryz.prog 200 ty200:=.inr ⟨Tryz.t200,_,Jd Tryz.type200,rfl,rfl⟩
def ty201:TyI:=⟨.func,1,8,[.nilf]⟩
theorem JoG:Jk Tryz.prog 201 ty201:=.inr ⟨Tryz.t201,Jd Tryz.type201,rfl,rfl,⟨_,rfl,rfl,rfl⟩,_,Tryz.underlying201,rfl⟩
theorem Jqe:Jl Tryz.prog 201 ty201:=.inr ⟨Tryz.t201,_,Jd Tryz.type201,rfl,rfl⟩
def ty216 : TyI := ⟨.struct [(0, 31, "e")], 1, 8, [.int .i64 0]⟩
theorem JoI:Jk Tryz.prog 216 ty216:=.inr ⟨Tryz.t216,Jd Tryz.type216,rfl,rfl,⟨_,rfl,rfl,rfl⟩,_,Tryz.underlying216,rfl⟩
theorem Jqg:Jl Tryz.prog 216 ty216:=.inr ⟨Tryz.t216,_,Jd Tryz.type216,rfl,rfl⟩
def ty220:TyI:=⟨.map 134 4,1,8,[.nilm]⟩
theorem JoK:Jk Tryz.prog 220 ty220:=.inr ⟨Tryz.t220,Jd Tryz.type220,rfl,rfl,⟨_,rfl,rfl,rfl⟩,_,Tryz.underlying220,rfl⟩
theorem Jqi:Jl Tryz.prog 220 ty220:=.inr ⟨Tryz.t220,_,Jd Tryz.type220,rfl,rfl⟩
def ty225:TyI:=⟨.func,1,8,[.nilf]⟩
theorem JoL:Jk Tryz.prog 225 ty225:=.inr ⟨Tryz.t225,Jd Tryz.type225,rfl,rfl,⟨_,rfl,rfl,rfl⟩,_,Tryz.underlying225,rfl⟩
theorem Jqj:Jl Tryz.prog 225 ty225:=.inr ⟨Tryz.t225,_,Jd Tryz.type225,rfl,rfl⟩
def ty229:TyI:=⟨.func,1,8,[.nilf]⟩
theorem JoM:Jk Tryz.prog 229 ty229:=.inr ⟨Tryz.t229,Jd Tryz.type229,rfl,rfl,⟨_,rfl,rfl,rfl⟩,_,Tryz.underlying229,rfl⟩
theorem Jqk:Jl Tryz.prog 229 ty229:=.inr ⟨Tryz.t229,_,Jd Tryz.type229,rfl,rfl⟩
def ty234:TyI:=⟨.int .u64,1,8,[.int .u64 0]⟩
theorem JoO:Jk Tryz.prog 234 ty234:=.inr ⟨Tryz.t234,Jd Tryz.type234,rfl,rfl,⟨_,rfl,rfl,rfl⟩,_,Tryz.underlying234,rfl⟩
theorem Jqm:Jl Tryz.prog 234 ty234:=.inr ⟨Tryz.t234,_,Jd Tryz.type234,rfl,rfl⟩
def ty245:TyI:=⟨.map 3 4,1,8,[.nilm]⟩
theorem JoP:Jk Tryz.prog 245 ty245:=.inr ⟨Tryz.t245,Jd Tryz.type245,rfl,rfl,⟨_,rfl,rfl,rfl⟩,_,Tryz.underlying245,rfl⟩
theorem Jqn:Jl Tryz.prog 245 ty245:=.inr ⟨Tryz.t245,_,Jd Tryz.type245,rfl,rfl⟩
def ty251:TyI:=⟨.map 134 77,1,8,[.nilm]⟩
theorem JoR:Jk Tryz.prog 251 ty251:=.inr ⟨Tryz.t251,Jd Tryz.type251,rfl,rfl,⟨_,rfl,rfl,rfl⟩,_,Tryz.underlying251,rfl⟩
theorem Jqp:Jl Tryz.prog 251 ty251:=.inr ⟨Tryz.t251,_,Jd Tryz.type251,rfl,rfl⟩
def ty253:TyI:=⟨.func,1,8,[.nilf]⟩
theorem JoS:Jk Tryz.prog 253 ty253:=.inr ⟨Tryz.t253,Jd Tryz.type253,rfl,rfl,⟨_,rfl,rfl,rfl⟩,_,Tryz.underlying253,rfl⟩
theorem Jqq:Jl Tryz.prog 253 ty253:=.inr ⟨Tryz.t253,_,Jd Tryz.type253,rfl,rfl⟩
def ty258:TyI:=⟨.int .i64,1,8,[.int .i64 0]⟩
theorem JoT:Jk Tryz.prog 258 ty258:=.inr ⟨Tryz.t258,Jd Tryz.type258,rfl,rfl,⟨_,rfl,rfl,rfl⟩,_,Tryz.underlying258,rfl⟩
theorem Jqr:Jl Tryz.prog 258 ty258:=.inr ⟨Tryz.t258,_,Jd Tryz.type258,rfl,rfl⟩
def ty265:TyI:=⟨.int .u32,1,4,[.int .u32 0]⟩
theorem JoU:Jk Tryz.prog 265 ty265:=.inr ⟨Tryz.t265,Jd Tryz.type265,rfl,rfl,⟨_,rfl,rfl,rfl⟩,_,Tryz.underlying265,rfl⟩
theorem Jqs:Jl Tryz.prog 265 ty265:=.inr ⟨Tryz.t265,_,Jd Tryz.type265,rfl,rfl⟩
def ty267:TyI:=⟨.int .u64,1,8,[.int .u64 0]⟩
theorem JoV:Jk Tryz.prog 267 ty267:=.inr ⟨Tryz.t267,Jd Tryz.type267,rfl,rfl,⟨_,rfl,rfl,rfl⟩,_,Tryz.underlying267,rfl⟩
theorem Jqt:Jl Tryz.prog 267 ty267:=.inr ⟨Tryz.t267,_,Jd Tryz.type267,rfl,rfl⟩
def ty274:TyI:=⟨.func,1,8,[.nilf]⟩
theorem JoX:Jk Tryz.prog 274 ty274:=.inr ⟨Tryz.t274,Jd Tryz.type274,rfl,rfl,⟨_,rfl,rfl,rfl⟩,_,Tryz.underlying274,rfl⟩
theorem Jqv:Jl Tryz.prog 274 ty274:=.inr ⟨Tryz.t274,_,Jd Tryz.type274,rfl,rfl⟩
def ty276 : TyI := ⟨.struct [(0, 4, "port"), (1, 4, "to"), (2, 4, "rules"), (3, 4, "hosts")], 4, 4, [.bool false, .bool false, .bool false, .bool false]⟩
theorem JoY:Jk Tryz.prog 276 ty276:=.inr ⟨Tryz.t276,Jd Tryz.type276,rfl,rfl,⟨_,rfl,rfl,rfl⟩,_,Tryz.underlying276,rfl⟩
theorem Jqw:Jl Tryz.prog 276 ty276:=.inr ⟨Tryz.t276,_,Jd Tryz.type276,rfl,rfl⟩
def ty280:TyI:=⟨.int .u64,1,8,[.int .u64 0]⟩
theorem Jo0:Jk Tryz.prog 280 ty280:=.inr ⟨Tryz.t280,Jd Tryz.type280,rfl,rfl,⟨_,rfl,rfl,rfl⟩,_,Tryz.underlying280,rfl⟩
theorem Jqy:Jl Tryz.prog 280 ty280:=.inr ⟨Tryz.t280,_,Jd Tryz.type280,rfl,rfl⟩
def ty284:TyI:=⟨.ptr 3,1,8,[.nilp]⟩
theorem Jo1:Jk Tryz.prog 284 ty284:=.inr ⟨Tryz.t284,Jd Tryz.type284,rfl,rfl,⟨_,rfl,rfl,rfl⟩,_,Tryz.underlying284,rfl⟩
theorem Jqz:Jl Tryz.prog 284 ty284:=.inr ⟨Tryz.t284,_,Jd Tryz.type284,rfl,rfl⟩
def ty293:TyI:=⟨.ptr 280,1,8,[.nilp]⟩
theorem Jo2:Jk Tryz.prog 293 ty293:=.inr ⟨Tryz.t293,Jd Tryz.type293,rfl,rfl,⟨_,rfl,rfl,rfl⟩,_,Tryz.underlying293,rfl⟩
theorem JqA:Jl Tryz.prog 293 ty293:=.inr ⟨Tryz.t293,_,Jd Tryz.type293,rfl,rfl⟩
def ty309 : TyI := ⟨.struct [(0, 17, "_interface"), (1, 17, "concrete"), (2, 17, "asserted"), (3, 9, "missingMethod")], 4, 40, [.nilp, .nilp, .nilp, .str []]⟩
theorem Jo5:Jk Tryz.prog 309 ty309:=.inr ⟨Tryz.t309,Jd Tryz.type309,rfl,rfl,⟨_,rfl,rfl,rfl⟩,_,Tryz.underlying309,rfl⟩
theorem JqD:Jl Tryz.prog 309 ty309:=.inr ⟨Tryz.t309,_,Jd Tryz.type309,rfl,rfl⟩
def ty310:TyI:=⟨.array 0 16,0,0,[]⟩
theorem Jo7:Jk Tryz.prog 310 ty310:=.inr ⟨Tryz.t310,Jd Tryz.type310,rfl,rfl,⟨_,rfl,rfl,rfl⟩,_,Tryz.underlying310,rfl⟩
theorem JqF:Jl Tryz.prog 310 ty310:=.inr ⟨Tryz.t310,_,Jd Tryz.type310,rfl,rfl⟩
def ty312 : TyI := ⟨.struct [(0, 310, "_")], 0, 0, []⟩
theorem Jo8:Jk Tryz.prog 312 ty312:=.inr ⟨Tryz.t312,Jd Tryz.type312,rfl,rfl,⟨_,rfl,rfl,rfl⟩,_,Tryz.underlying312,rfl⟩
theorem JqG:Jl Tryz.prog 312 ty312:=.inr ⟨Tryz.t312,_,Jd Tryz.type312,rfl,rfl⟩
def ty313:TyI:=⟨.int .u8,1,1,[.int .u8 0]⟩
theorem Jo9:Jk Tryz.prog 313 ty313:=.inr ⟨Tryz.t313,Jd Tryz.type313,rfl,rfl,⟨_,rfl,rfl,rfl⟩,_,Tryz.underlying313,rfl⟩
theorem JqH:Jl Tryz.prog 313 ty313:=.inr ⟨Tryz.t313,_,Jd Tryz.type313,rfl,rfl⟩
def ty314:TyI:=⟨.int .u8,1,1,[.int .u8 0]⟩
theorem Jpa:Jk Tryz.prog 314 ty314:=.inr ⟨Tryz.t314,Jd Tryz.type314,rfl,rfl,⟨_,rfl,rfl,rfl⟩,_,Tryz.underlying314,rfl⟩
theorem JqI:Jl Tryz.prog 314 ty314:=.inr ⟨Tryz.t314,_,Jd Tryz.type314,rfl,rfl⟩
def ty315:TyI:=⟨.func,1,8,[.nilf]⟩
theorem Jpb:Jk Tryz.prog 315 ty315:=.inr ⟨Tryz.t315,Jd Tryz.type315,rfl,rfl,⟨_,rfl,rfl,rfl⟩,_,Tryz.underlying315,rfl⟩
theorem JqJ:Jl Tryz.prog 315 ty315:=.inr ⟨Tryz.t315,_,Jd Tryz.type315,rfl,rfl⟩
def ty316:TyI:=⟨.ptr 5,1,8,[.nilp]⟩
theorem Jpc:Jk Tryz.prog 316 ty316:=.inr ⟨Tryz.t316,Jd Tryz.type316,rfl,rfl,⟨_,rfl,rfl,rfl⟩,_,Tryz.underlying316,rfl⟩
theorem JqK:Jl Tryz.prog 316 ty316:=.inr ⟨Tryz.t316,_,Jd Tryz.type316,rfl,rfl⟩
def ty317:TyI:=⟨.int .i32,1,4,[.int .i32 0]⟩
theorem Jpd:Jk Tryz.prog 317 ty317:=.inr ⟨Tryz.t317,Jd Tryz.type317,rfl,rfl,⟨_,rfl,rfl,rfl⟩,_,Tryz.underlying317,rfl⟩
theorem JqL:Jl Tryz.prog 317 ty317:=.inr ⟨Tryz.t317,_,Jd Tryz.type317,rfl,rfl⟩
def ty318:TyI:=⟨.int .i32,1,4,[.int .i32 0]⟩
theorem Jpe:Jk Tryz.prog 318 ty318:=.inr ⟨Tryz.t318,Jd Tryz.type318,rfl,rfl,⟨_,rfl,rfl,rfl⟩,_,Tryz.underlying318,rfl⟩
theorem JqM:Jl Tryz.prog 318 ty318:=.inr ⟨Tryz.t318,_,Jd Tryz.type318,rfl,rfl⟩
def ty320 : TyI := ⟨.struct [(0, 12, "Size_"), (1, 12, "PtrBytes"), (2, 265, "Hash"), (3, 313, "TFlag"), (4, 5, "Align_"), (5, 5, "FieldAlign_"), (6, 314, "Kind_"), (7, 315, "Equal"), (8, 316, "GCData"), (9, 317, "Str"), (10, 318, "PtrToThis")], 11, 48, [.int .u64 0, .int .u64 0, .int .u32 0, .int .u8 0, .int .u8 0, .int .u8 0, .int .u8 0, .nilf, .nilp, .int .i32 0, .int .i32 0]⟩
theorem Jpg:Jk Tryz.prog 320 ty320:=.inr ⟨Tryz.t320,Jd Tryz.type320,rfl,rfl,⟨_,rfl,rfl,rfl⟩,_,Tryz.underlying320,rfl⟩
theorem JqO:Jl Tryz.prog 320 ty320:=.inr ⟨Tryz.t320,_,Jd Tryz.type320,rfl,rfl⟩
def tyL:List (Nat×TyI):=[(1,ty1),(2,ty2),(3,ty3),(4,ty4),(5,ty5),(6,ty6),(7,ty7),(8,ty8),(9,ty9),(10,ty10),(12,ty12),(13,ty13),(14,ty14),(15,ty15),(16,ty16),(17,ty17),(18,ty18),(21,ty21),(22,ty22),(23,ty23),(25,ty25),(27,ty27),(28,ty28),(30,ty30),(31,ty31),(32,ty32),(33,ty33),(34,ty34),(35,ty35),(37,ty37),(38,ty38),(40,ty40),(41,ty41),(42,ty42),(43,ty43),(44,ty44),(46,ty46),(47,ty47),(49,ty49),(50,ty50),(52,ty52),(53,ty53),(55,ty55),(57,ty57),(61,ty61),(72,ty72),(77,ty77),(83,ty83),(85,ty85),(94,ty94),(95,ty95),(103,ty103),(104,ty104),(105,ty105),(108,ty108),(114,ty114),(115,ty115),(116,ty116),(118,ty118),(121,ty121),(123,ty123),(134,ty134),(145,ty145),(163,ty163),(167,ty167),(177,ty177),(179,ty179),(194,ty194),(200,ty200),(201,ty201),(216,ty216),(220,ty220),(225,ty225),(229,ty229),(234,ty234),(245,ty245),(251,ty251),(253,ty253),(258,ty258),(265,ty265),(267,ty267),(274,ty274),(276,ty276),(280,ty280),(284,ty284),(293,ty293),(309,ty309),(310,ty310),(312,ty312),(313,ty313),(314,ty314),(315,ty315),(316,ty316),(317,ty317),(318,ty318),(320,ty320)]
def Jet(P:Program):List (Nat×TyI)→Prop
 | []=>True
 |p :: r=>Jl P p.1 p.2∧Jet P r
def Jes(P:Program):List (Nat×TyI)→Prop
 | []=>True
 |p :: r=>Jk P p.1 p.2∧Jes P r
def JcV(l:List (Nat×TyI))(t:Nat):TyI:=(l.lookup t).getD ⟨.unk,0,0,[]⟩
theorem Jgf{P:Program}:∀(l:List (Nat×TyI)),Jes P l→∀t,Jk P t (JcV l t)
 | [],_,t=>.inl rfl
 | (i,x) :: r,h,t=>by
  unfold JcV
  by_cases e:t=i
  ·subst e;simpa[List.lookup] using h.1
  ·have e':(t == i)=false:=by simpa using e
   have:((i,x) :: r).lookup t=r.lookup t:=by simp[List.lookup,e']
   rw[this];exact Jgf r h.2 t
theorem Jgg{P:Program}:∀(l:List (Nat×TyI)),Jet P l→∀t,Jl P t (JcV l t)
 | [],_,t=>.inl rfl
 | (i,x) :: r,h,t=>by
  unfold JcV
  by_cases e:t=i
  ·subst e;simpa[List.lookup] using h.1
  ·have e':(t == i)=false:=by simpa using e
   have:((i,x) :: r).lookup t=r.lookup t:=by simp[List.lookup,e']
   rw[this];exact Jgg r h.2 t
theorem Jod:Jet Tryz.prog tyL:=⟨JpM,Jqc,JqB,JqU,Jq3,Jq9,Jrb,Jre,Jrh,JpN,JpW,JpZ,Jp1,Jp3,Jp4,Jp7,Jqa,Jqf,Jqh,Jql,Jqo,Jqu,Jqx,JqC,JqE,JqN,JqP,JqQ,JqR,JqS,JqT,JqV,JqW,JqX,JqY,JqZ,Jq0,Jq1,Jq2,Jq4,Jq5,Jq6,Jq7,Jq8,Jra,Jrc,Jrd,Jrf,Jrg,Jri,Jrj,JpO,JpP,JpQ,JpR,JpS,JpT,JpU,JpV,JpX,JpY,Jp0,Jp2,Jp5,Jp6,Jp8,Jp9,Jqb,Jqd,Jqe,Jqg,Jqi,Jqj,Jqk,Jqm,Jqn,Jqp,Jqq,Jqr,Jqs,Jqt,Jqv,Jqw,Jqy,Jqz,JqA,JqD,JqF,JqG,JqH,JqI,JqJ,JqK,JqL,JqM,JqO,trivial⟩
theorem Joc:Jes Tryz.prog tyL:=⟨Joe,JoE,Jo3,Jpm,Jpv,JpB,JpD,JpG,JpJ,Jof,Joo,Jor,Jot,Jov,Jow,Joz,JoC,JoH,JoJ,JoN,JoQ,JoW,JoZ,Jo4,Jo6,Jpf,Jph,Jpi,Jpj,Jpk,Jpl,Jpn,Jpo,Jpp,Jpq,Jpr,Jps,Jpt,Jpu,Jpw,Jpx,Jpy,Jpz,JpA,JpC,JpE,JpF,JpH,JpI,JpK,JpL,Jog,Joh,Joi,Joj,Jok,Jol,Jom,Jon,Jop,Joq,Jos,Jou,Jox,Joy,JoA,JoB,JoD,JoF,JoG,JoI,JoK,JoL,JoM,JoO,JoP,JoR,JoS,JoT,JoU,JoV,JoX,JoY,Jo0,Jo1,Jo2,Jo5,Jo7,Jo8,Jo9,Jpa,Jpb,Jpc,Jpd,Jpe,Jpg,trivial⟩
def T:Tys Tryz.prog:=⟨JcV tyL,Jgf tyL Joc,Jgg tyL Jod,fun _=>false⟩
@[go_sem] theorem Jyy(d:Nat):T.fz d=false:=rfl
@[go_sem] theorem T_1:T.ty 1=ty1:=rfl
@[go_sem] theorem k_1:ty1.k=.func:=rfl
@[go_sem] theorem JIE:ty1.sz=1:=rfl
@[go_sem] theorem Juv:ty1.bytes=8:=rfl
@[go_sem] theorem JMd:ty1.zero=[.nilf]:=rfl
@[go_sem] theorem T_2:T.ty 2=ty2:=rfl
@[go_sem] theorem k_2:ty2.k=.int .i64:=rfl
@[go_sem] theorem JI4:ty2.sz=1:=rfl
@[go_sem] theorem JuV:ty2.bytes=8:=rfl
@[go_sem] theorem JMD:ty2.zero=[.int .i64 0]:=rfl
@[go_sem] theorem T_3:T.ty 3=ty3:=rfl
@[go_sem] theorem k_3:ty3.k=.int .i64:=rfl
@[go_sem] theorem JJt:ty3.sz=1:=rfl
@[go_sem] theorem Jvk:ty3.bytes=8:=rfl
@[go_sem] theorem JM2:ty3.zero=[.int .i64 0]:=rfl
@[go_sem] theorem T_4:T.ty 4=ty4:=rfl
@[go_sem] theorem k_4:ty4.k=.bool:=rfl
@[go_sem] theorem JJM:ty4.sz=1:=rfl
@[go_sem] theorem JvD:ty4.bytes=1:=rfl
@[go_sem] theorem JNl:ty4.zero=[.bool false]:=rfl
@[go_sem] theorem T_5:T.ty 5=ty5:=rfl
@[go_sem] theorem k_5:ty5.k=.int .u8:=rfl
@[go_sem] theorem JJV:ty5.sz=1:=rfl
@[go_sem] theorem JvM:ty5.bytes=1:=rfl
@[go_sem] theorem JNu:ty5.zero=[.int .u8 0]:=rfl
@[go_sem] theorem T_6:T.ty 6=ty6:=rfl
@[go_sem] theorem k_6:ty6.k=.int .u8:=rfl
@[go_sem] theorem JJ1:ty6.sz=1:=rfl
@[go_sem] theorem JvS:ty6.bytes=1:=rfl
@[go_sem] theorem JNA:ty6.zero=[.int .u8 0]:=rfl
@[go_sem] theorem T_7:T.ty 7=ty7:=rfl
@[go_sem] theorem k_7 : ty7.k = .struct [(0, 2, "x"), (1, 3, "y"), (2, 4, "signed"), (3, 6, "code")] := rfl
@[go_sem] theorem JJ3:ty7.sz=4:=rfl
@[go_sem] theorem JvU:ty7.bytes=24:=rfl
@[go_sem] theorem JNC:ty7.zero=[.int .i64 0,.int .i64 0,.bool false,.int .u8 0]:=rfl
@[go_sem] theorem T_8:T.ty 8=ty8:=rfl
@[go_sem] theorem k_8 : ty8.k = .struct [(0, 2, "x"), (1, 3, "y"), (2, 4, "signed"), (3, 6, "code")] := rfl
@[go_sem] theorem JJ6:ty8.sz=4:=rfl
@[go_sem] theorem JvX:ty8.bytes=24:=rfl
@[go_sem] theorem JNF:ty8.zero=[.int .i64 0,.int .i64 0,.bool false,.int .u8 0]:=rfl
@[go_sem] theorem T_9:T.ty 9=ty9:=rfl
@[go_sem] theorem k_9:ty9.k=.str:=rfl
@[go_sem] theorem JJ9:ty9.sz=1:=rfl
@[go_sem] theorem Jv0:ty9.bytes=16:=rfl
@[go_sem] theorem JNI:ty9.zero=[.str []]:=rfl
@[go_sem] theorem JrJ:T.ty 10=ty10:=rfl
@[go_sem] theorem Jy2:ty10.k=.str:=rfl
@[go_sem] theorem JIF:ty10.sz=1:=rfl
@[go_sem] theorem Juw:ty10.bytes=16:=rfl
@[go_sem] theorem JMe:ty10.zero=[.str []]:=rfl
@[go_sem] theorem JrS:T.ty 12=ty12:=rfl
@[go_sem] theorem Jzb:ty12.k=.int .u64:=rfl
@[go_sem] theorem JIO:ty12.sz=1:=rfl
@[go_sem] theorem JuF:ty12.bytes=8:=rfl
@[go_sem] theorem JMn:ty12.zero=[.int .u64 0]:=rfl
@[go_sem] theorem JrV:T.ty 13=ty13:=rfl
@[go_sem] theorem Jze : ty13.k = .struct [(0, 9, "msg"), (1, 12, "addr")] := rfl
@[go_sem] theorem JIR:ty13.sz=2:=rfl
@[go_sem] theorem JuI:ty13.bytes=24:=rfl
@[go_sem] theorem JMq:ty13.zero=[.str [],.int .u64 0]:=rfl
@[go_sem] theorem JrX:T.ty 14=ty14:=rfl
@[go_sem] theorem Jzg : ty14.k = .struct [(0, 9, "msg"), (1, 12, "addr")] := rfl
@[go_sem] theorem JIT:ty14.sz=2:=rfl
@[go_sem] theorem JuK:ty14.bytes=24:=rfl
@[go_sem] theorem JMs:ty14.zero=[.str [],.int .u64 0]:=rfl
@[go_sem] theorem JrZ:T.ty 15=ty15:=rfl
@[go_sem] theorem Jzi:ty15.k=.ptr 309:=rfl
@[go_sem] theorem JIV:ty15.sz=1:=rfl
@[go_sem] theorem JuM:ty15.bytes=8:=rfl
@[go_sem] theorem JMu:ty15.zero=[.nilp]:=rfl
@[go_sem] theorem Jr0:T.ty 16=ty16:=rfl
@[go_sem] theorem Jzj:ty16.k=.ptr 312:=rfl
@[go_sem] theorem JIW:ty16.sz=1:=rfl
@[go_sem] theorem JuN:ty16.bytes=8:=rfl
@[go_sem] theorem JMv:ty16.zero=[.nilp]:=rfl
@[go_sem] theorem Jr3:T.ty 17=ty17:=rfl
@[go_sem] theorem Jzm:ty17.k=.ptr 320:=rfl
@[go_sem] theorem JIZ:ty17.sz=1:=rfl
@[go_sem] theorem JuQ:ty17.bytes=8:=rfl
@[go_sem] theorem JMy:ty17.zero=[.nilp]:=rfl
@[go_sem] theorem Jr6:T.ty 18=ty18:=rfl
@[go_sem] theorem Jzp : ty18.k = .struct [(0, 17, "typ")] := rfl
@[go_sem] theorem JI2:ty18.sz=1:=rfl
@[go_sem] theorem JuT:ty18.bytes=8:=rfl
@[go_sem] theorem JMB:ty18.zero=[.nilp]:=rfl
@[go_sem] theorem Jsb:T.ty 21=ty21:=rfl
@[go_sem] theorem Jzu:ty21.k=.int .i32:=rfl
@[go_sem] theorem JI7:ty21.sz=1:=rfl
@[go_sem] theorem JuY:ty21.bytes=4:=rfl
@[go_sem] theorem JMG:ty21.zero=[.int .i32 0]:=rfl
@[go_sem] theorem Jsd:T.ty 22=ty22:=rfl
@[go_sem] theorem Jzw : ty22.k = .struct [(0, 3, "Port"), (1, 9, "Host"), (2, 9, "Path"), (3, 3, "First"), (4, 3, "Other")] := rfl
@[go_sem] theorem JI9:ty22.sz=5:=rfl
@[go_sem] theorem Ju0:ty22.bytes=56:=rfl
@[go_sem] theorem JMI:ty22.zero=[.int .i64 0,.str [],.str [],.int .i64 0,.int .i64 0]:=rfl
@[go_sem] theorem Jsh:T.ty 23=ty23:=rfl
@[go_sem] theorem JzA : ty23.k = .struct [(0, 3, "Port"), (1, 9, "Host"), (2, 9, "Path"), (3, 3, "First"), (4, 3, "Other")] := rfl
@[go_sem] theorem JJd:ty23.sz=5:=rfl
@[go_sem] theorem Ju4:ty23.bytes=56:=rfl
@[go_sem] theorem JMM:ty23.zero=[.int .i64 0,.str [],.str [],.int .i64 0,.int .i64 0]:=rfl
@[go_sem] theorem Jsk:T.ty 25=ty25:=rfl
@[go_sem] theorem JzD : ty25.k = .struct [(0, 3, "What"), (1, 9, "Cluster"), (2, 3, "Host")] := rfl
@[go_sem] theorem JJg:ty25.sz=3:=rfl
@[go_sem] theorem Ju7:ty25.bytes=32:=rfl
@[go_sem] theorem JMP:ty25.zero=[.int .i64 0,.str [],.int .i64 0]:=rfl
@[go_sem] theorem Jsq:T.ty 27=ty27:=rfl
@[go_sem] theorem JzJ : ty27.k = .struct [(0, 23, "A"), (5, 3, "Stage"), (6, 3, "Id"), (7, 9, "Route"), (8, 9, "Cluster"), (9, 25, "Out")] := rfl
@[go_sem] theorem JJm:ty27.sz=12:=rfl
@[go_sem] theorem Jvd:ty27.bytes=136:=rfl
@[go_sem] theorem JMV:ty27.zero=[.int .i64 0,.str [],.str [],.int .i64 0,.int .i64 0,.int .i64 0,.int .i64 0,.str [],.str [],.int .i64 0,.str [],.int .i64 0]:=rfl
@[go_sem] theorem Jst:T.ty 28=ty28:=rfl
@[go_sem] theorem JzM:ty28.k=.array 4 3:=rfl
@[go_sem] theorem JJp:ty28.sz=4:=rfl
@[go_sem] theorem Jvg:ty28.bytes=32:=rfl
@[go_sem] theorem JMY:ty28.zero=[.int .i64 0,.int .i64 0,.int .i64 0,.int .i64 0]:=rfl
@[go_sem] theorem Jsy:T.ty 30=ty30:=rfl
@[go_sem] theorem JzR : ty30.k = .struct [(0, 28, "Last"), (4, 3, "Max")] := rfl
@[go_sem] theorem JJu:ty30.sz=5:=rfl
@[go_sem] theorem Jvl:ty30.bytes=40:=rfl
@[go_sem] theorem JM3:ty30.zero=[.int .i64 0,.int .i64 0,.int .i64 0,.int .i64 0,.int .i64 0]:=rfl
@[go_sem] theorem JsA:T.ty 31=ty31:=rfl
@[go_sem] theorem JzT:ty31.k=.int .i64:=rfl
@[go_sem] theorem JJw:ty31.sz=1:=rfl
@[go_sem] theorem Jvn:ty31.bytes=8:=rfl
@[go_sem] theorem JM5:ty31.zero=[.int .i64 0]:=rfl
@[go_sem] theorem JsJ:T.ty 32=ty32:=rfl
@[go_sem] theorem Jz2:ty32.k=.array 4 31:=rfl
@[go_sem] theorem JJF:ty32.sz=4:=rfl
@[go_sem] theorem Jvw:ty32.bytes=32:=rfl
@[go_sem] theorem JNe:ty32.zero=[.int .i64 0,.int .i64 0,.int .i64 0,.int .i64 0]:=rfl
@[go_sem] theorem JsL:T.ty 33=ty33:=rfl
@[go_sem] theorem Jz4:ty33.k=.slice 118:=rfl
@[go_sem] theorem JJH:ty33.sz=1:=rfl
@[go_sem] theorem Jvy:ty33.bytes=24:=rfl
@[go_sem] theorem JNg:ty33.zero=[.slice true []]:=rfl
@[go_sem] theorem JsM:T.ty 34=ty34:=rfl
@[go_sem] theorem Jz5 : ty34.k = .struct [(0, 3, "Cap"), (1, 33, "L")] := rfl
@[go_sem] theorem JJI:ty34.sz=2:=rfl
@[go_sem] theorem Jvz:ty34.bytes=32:=rfl
@[go_sem] theorem JNh:ty34.zero=[.int .i64 0,.slice true []]:=rfl
@[go_sem] theorem JsN:T.ty 35=ty35:=rfl
@[go_sem] theorem Jz6 : ty35.k = .struct [(0, 3, "Cap"), (1, 33, "L")] := rfl
@[go_sem] theorem JJJ:ty35.sz=2:=rfl
@[go_sem] theorem JvA:ty35.bytes=32:=rfl
@[go_sem] theorem JNi:ty35.zero=[.int .i64 0,.slice true []]:=rfl
@[go_sem] theorem JsO:T.ty 37=ty37:=rfl
@[go_sem] theorem Jz7 : ty37.k = .struct [(0, 35, "C"), (2, 4, "Ready"), (3, 33, "Shown")] := rfl
@[go_sem] theorem JJK:ty37.sz=4:=rfl
@[go_sem] theorem JvB:ty37.bytes=64:=rfl
@[go_sem] theorem JNj:ty37.zero=[.int .i64 0,.slice true [],.bool false,.slice true []]:=rfl
@[go_sem] theorem JsP:T.ty 38=ty38:=rfl
@[go_sem] theorem Jz8:ty38.k=.slice 72:=rfl
@[go_sem] theorem JJL:ty38.sz=1:=rfl
@[go_sem] theorem JvC:ty38.bytes=24:=rfl
@[go_sem] theorem JNk:ty38.zero=[.slice true []]:=rfl
@[go_sem] theorem JsR:T.ty 40=ty40:=rfl
@[go_sem] theorem JAa : ty40.k = .struct [(0, 3, "Next"), (1, 38, "Snaps")] := rfl
@[go_sem] theorem JJN:ty40.sz=2:=rfl
@[go_sem] theorem JvE:ty40.bytes=32:=rfl
@[go_sem] theorem JNm:ty40.zero=[.int .i64 0,.slice true []]:=rfl
@[go_sem] theorem JsS:T.ty 41=ty41:=rfl
@[go_sem] theorem JAb : ty41.k = .struct [(0, 3, "Epoch"), (1, 3, "Turn"), (2, 4, "Up"), (3, 30, "In"), (8, 32, "Errs"), (12, 37, "W"), (16, 40, "P")] := rfl
@[go_sem] theorem JJO:ty41.sz=18:=rfl
@[go_sem] theorem JvF:ty41.bytes=192:=rfl
@[go_sem] theorem JNn:ty41.zero=[.int .i64 0,.int .i64 0,.bool false,.int .i64 0,.int .i64 0,.int .i64 0,.int .i64 0,.int .i64 0,.int .i64 0,.int .i64 0,.int .i64 0,.int .i64 0,.int .i64 0,.slice true [],.bool false,.slice true [],.int .i64 0,.slice true []]:=rfl
@[go_sem] theorem JsT:T.ty 42=ty42:=rfl
@[go_sem] theorem JAc : ty42.k = .struct [(0, 3, "Epoch"), (1, 3, "Turn"), (2, 4, "Up"), (3, 30, "In"), (8, 32, "Errs"), (12, 37, "W"), (16, 40, "P")] := rfl
@[go_sem] theorem JJP:ty42.sz=18:=rfl
@[go_sem] theorem JvG:ty42.bytes=192:=rfl
@[go_sem] theorem JNo:ty42.zero=[.int .i64 0,.int .i64 0,.bool false,.int .i64 0,.int .i64 0,.int .i64 0,.int .i64 0,.int .i64 0,.int .i64 0,.int .i64 0,.int .i64 0,.int .i64 0,.int .i64 0,.slice true [],.bool false,.slice true [],.int .i64 0,.slice true []]:=rfl
@[go_sem] theorem JsU:T.ty 43=ty43:=rfl
@[go_sem] theorem JAd:ty43.k=.func:=rfl
@[go_sem] theorem JJQ:ty43.sz=1:=rfl
@[go_sem] theorem JvH:ty43.bytes=8:=rfl
@[go_sem] theorem JNp:ty43.zero=[.nilf]:=rfl
@[go_sem] theorem JsV:T.ty 44=ty44:=rfl
@[go_sem] theorem JAe:ty44.k=.func:=rfl
@[go_sem] theorem JJR:ty44.sz=1:=rfl
@[go_sem] theorem JvI:ty44.bytes=8:=rfl
@[go_sem] theorem JNq:ty44.zero=[.nilf]:=rfl
@[go_sem] theorem JsW:T.ty 46=ty46:=rfl
@[go_sem] theorem JAf : ty46.k = .struct [(0, 23, "A"), (5, 3, "Stage"), (6, 3, "Id"), (7, 9, "Route"), (8, 9, "Cluster"), (9, 25, "Out")] := rfl
@[go_sem] theorem JJS:ty46.sz=12:=rfl
@[go_sem] theorem JvJ:ty46.bytes=136:=rfl
@[go_sem] theorem JNr:ty46.zero=[.int .i64 0,.str [],.str [],.int .i64 0,.int .i64 0,.int .i64 0,.int .i64 0,.str [],.str [],.int .i64 0,.str [],.int .i64 0]:=rfl
@[go_sem] theorem JsX:T.ty 47=ty47:=rfl
@[go_sem] theorem JAg:ty47.k=.func:=rfl
@[go_sem] theorem JJT:ty47.sz=1:=rfl
@[go_sem] theorem JvK:ty47.bytes=8:=rfl
@[go_sem] theorem JNs:ty47.zero=[.nilf]:=rfl
@[go_sem] theorem JsY:T.ty 49=ty49:=rfl
@[go_sem] theorem JAh : ty49.k = .struct [(0, 28, "Last"), (4, 3, "Max")] := rfl
@[go_sem] theorem JJU:ty49.sz=5:=rfl
@[go_sem] theorem JvL:ty49.bytes=40:=rfl
@[go_sem] theorem JNt:ty49.zero=[.int .i64 0,.int .i64 0,.int .i64 0,.int .i64 0,.int .i64 0]:=rfl
@[go_sem] theorem Js0:T.ty 50=ty50:=rfl
@[go_sem] theorem JAj : ty50.k = .struct [(0, 3, "Cap"), (1, 33, "L")] := rfl
@[go_sem] theorem JJW:ty50.sz=2:=rfl
@[go_sem] theorem JvN:ty50.bytes=32:=rfl
@[go_sem] theorem JNv:ty50.zero=[.int .i64 0,.slice true []]:=rfl
@[go_sem] theorem Js1:T.ty 52=ty52:=rfl
@[go_sem] theorem JAk : ty52.k = .struct [(0, 50, "C"), (2, 4, "Ready"), (3, 33, "Shown")] := rfl
@[go_sem] theorem JJX:ty52.sz=4:=rfl
@[go_sem] theorem JvO:ty52.bytes=64:=rfl
@[go_sem] theorem JNw:ty52.zero=[.int .i64 0,.slice true [],.bool false,.slice true []]:=rfl
@[go_sem] theorem Js2:T.ty 53=ty53:=rfl
@[go_sem] theorem JAl:ty53.k=.slice 103:=rfl
@[go_sem] theorem JJY:ty53.sz=1:=rfl
@[go_sem] theorem JvP:ty53.bytes=24:=rfl
@[go_sem] theorem JNx:ty53.zero=[.slice true []]:=rfl
@[go_sem] theorem Js3:T.ty 55=ty55:=rfl
@[go_sem] theorem JAm : ty55.k = .struct [(0, 3, "Next"), (1, 53, "Snaps")] := rfl
@[go_sem] theorem JJZ:ty55.sz=2:=rfl
@[go_sem] theorem JvQ:ty55.bytes=32:=rfl
@[go_sem] theorem JNy:ty55.zero=[.int .i64 0,.slice true []]:=rfl
@[go_sem] theorem Js4:T.ty 57=ty57:=rfl
@[go_sem] theorem JAn : ty57.k = .struct [(0, 3, "Epoch"), (1, 3, "Turn"), (2, 4, "Up"), (3, 49, "In"), (8, 32, "Errs"), (12, 52, "W"), (16, 55, "P")] := rfl
@[go_sem] theorem JJ0:ty57.sz=18:=rfl
@[go_sem] theorem JvR:ty57.bytes=192:=rfl
@[go_sem] theorem JNz:ty57.zero=[.int .i64 0,.int .i64 0,.bool false,.int .i64 0,.int .i64 0,.int .i64 0,.int .i64 0,.int .i64 0,.int .i64 0,.int .i64 0,.int .i64 0,.int .i64 0,.int .i64 0,.slice true [],.bool false,.slice true [],.int .i64 0,.slice true []]:=rfl
@[go_sem] theorem Js6:T.ty 61=ty61:=rfl
@[go_sem] theorem JAp:ty61.k=.slice 85:=rfl
@[go_sem] theorem JJ2:ty61.sz=1:=rfl
@[go_sem] theorem JvT:ty61.bytes=24:=rfl
@[go_sem] theorem JNB:ty61.zero=[.slice true []]:=rfl
@[go_sem] theorem Js8:T.ty 72=ty72:=rfl
@[go_sem] theorem JAr : ty72.k = .struct [(0, 3, "Id"), (1, 3, "Pins"), (2, 33, "L")] := rfl
@[go_sem] theorem JJ4:ty72.sz=3:=rfl
@[go_sem] theorem JvV:ty72.bytes=40:=rfl
@[go_sem] theorem JND:ty72.zero=[.int .i64 0,.int .i64 0,.slice true []]:=rfl
@[go_sem] theorem Js9:T.ty 77=ty77:=rfl
@[go_sem] theorem JAs:ty77.k=.slice 134:=rfl
@[go_sem] theorem JJ5:ty77.sz=1:=rfl
@[go_sem] theorem JvW:ty77.bytes=24:=rfl
@[go_sem] theorem JNE:ty77.zero=[.slice true []]:=rfl
@[go_sem] theorem Jtb:T.ty 83=ty83:=rfl
@[go_sem] theorem JAu:ty83.k=.slice 145:=rfl
@[go_sem] theorem JJ7:ty83.sz=1:=rfl
@[go_sem] theorem JvY:ty83.bytes=24:=rfl
@[go_sem] theorem JNG:ty83.zero=[.slice true []]:=rfl
@[go_sem] theorem Jtc:T.ty 85=ty85:=rfl
@[go_sem] theorem JAv : ty85.k = .struct [(0, 3, "Type"), (1, 3, "Epoch"), (2, 3, "Kind"), (3, 3, "Nonce"), (4, 3, "Turn"), (5, 33, "Adds"), (6, 77, "Gone"), (7, 31, "Err"), (8, 83, "Have"), (9, 77, "Held")] := rfl
@[go_sem] theorem JJ8:ty85.sz=10:=rfl
@[go_sem] theorem JvZ:ty85.bytes=144:=rfl
@[go_sem] theorem JNH:ty85.zero=[.int .i64 0,.int .i64 0,.int .i64 0,.int .i64 0,.int .i64 0,.slice true [],.slice true [],.int .i64 0,.slice true [],.slice true []]:=rfl
@[go_sem] theorem Jte:T.ty 94=ty94:=rfl
@[go_sem] theorem JAx:ty94.k=.slice 31:=rfl
@[go_sem] theorem JKa:ty94.sz=1:=rfl
@[go_sem] theorem Jv1:ty94.bytes=24:=rfl
@[go_sem] theorem JNJ:ty94.zero=[.slice true []]:=rfl
@[go_sem] theorem Jtf:T.ty 95=ty95:=rfl
@[go_sem] theorem JAy:ty95.k=.func:=rfl
@[go_sem] theorem JKb:ty95.sz=1:=rfl
@[go_sem] theorem Jv2:ty95.bytes=8:=rfl
@[go_sem] theorem JNK:ty95.zero=[.nilf]:=rfl
@[go_sem] theorem JrK:T.ty 103=ty103:=rfl
@[go_sem] theorem Jy3 : ty103.k = .struct [(0, 3, "Id"), (1, 3, "Pins"), (2, 33, "L")] := rfl
@[go_sem] theorem JIG:ty103.sz=3:=rfl
@[go_sem] theorem Jux:ty103.bytes=40:=rfl
@[go_sem] theorem JMf:ty103.zero=[.int .i64 0,.int .i64 0,.slice true []]:=rfl
@[go_sem] theorem JrL:T.ty 104=ty104:=rfl
@[go_sem] theorem Jy4:ty104.k=.ptr 108:=rfl
@[go_sem] theorem JIH:ty104.sz=1:=rfl
@[go_sem] theorem Juy:ty104.bytes=8:=rfl
@[go_sem] theorem JMg:ty104.zero=[.nilp]:=rfl
@[go_sem] theorem JrM:T.ty 105=ty105:=rfl
@[go_sem] theorem Jy5:ty105.k=.func:=rfl
@[go_sem] theorem JII:ty105.sz=1:=rfl
@[go_sem] theorem Juz:ty105.bytes=8:=rfl
@[go_sem] theorem JMh:ty105.zero=[.nilf]:=rfl
@[go_sem] theorem JrN:T.ty 108=ty108:=rfl
@[go_sem] theorem Jy6 : ty108.k = .struct [(0, 46, "Req"), (12, 57, "side"), (30, 61, "told")] := rfl
@[go_sem] theorem JIJ:ty108.sz=31:=rfl
@[go_sem] theorem JuA:ty108.bytes=352:=rfl
@[go_sem] theorem JMi:ty108.zero=[.int .i64 0,.str [],.str [],.int .i64 0,.int .i64 0,.int .i64 0,.int .i64 0,.str [],.str [],.int .i64 0,.str [],.int .i64 0,.int .i64 0,.int .i64 0,.bool false,.int .i64 0,.int .i64 0,.int .i64 0,.int .i64 0,.int .i64 0,.int .i64 0,.int .i64 0,.int .i64 0,.int .i64 0,.int .i64 0,.slice true [],.bool false,.slice true [],.int .i64 0,.slice true [],.slice true []]:=rfl
@[go_sem] theorem JrO:T.ty 114=ty114:=rfl
@[go_sem] theorem Jy7:ty114.k=.func:=rfl
@[go_sem] theorem JIK:ty114.sz=1:=rfl
@[go_sem] theorem JuB:ty114.bytes=8:=rfl
@[go_sem] theorem JMj:ty114.zero=[.nilf]:=rfl
@[go_sem] theorem JrP:T.ty 115=ty115:=rfl
@[go_sem] theorem Jy8:ty115.k=.slice 123:=rfl
@[go_sem] theorem JIL:ty115.sz=1:=rfl
@[go_sem] theorem JuC:ty115.bytes=24:=rfl
@[go_sem] theorem JMk:ty115.zero=[.slice true []]:=rfl
@[go_sem] theorem JrQ:T.ty 116=ty116:=rfl
@[go_sem] theorem Jy9:ty116.k=.slice 3:=rfl
@[go_sem] theorem JIM:ty116.sz=1:=rfl
@[go_sem] theorem JuD:ty116.bytes=24:=rfl
@[go_sem] theorem JMl:ty116.zero=[.slice true []]:=rfl
@[go_sem] theorem JrR:T.ty 118=ty118:=rfl
@[go_sem] theorem Jza : ty118.k = .struct [(0, 3, "Kind"), (1, 9, "Name"), (2, 3, "Ver"), (3, 3, "Port"), (4, 9, "To"), (5, 115, "Rules"), (6, 116, "Hosts")] := rfl
@[go_sem] theorem JIN:ty118.sz=7:=rfl
@[go_sem] theorem JuE:ty118.bytes=104:=rfl
@[go_sem] theorem JMm:ty118.zero=[.int .i64 0,.str [],.int .i64 0,.int .i64 0,.str [],.slice true [],.slice true []]:=rfl
@[go_sem] theorem JrT:T.ty 121=ty121:=rfl
@[go_sem] theorem Jzc:ty121.k=.slice 167:=rfl
@[go_sem] theorem JIP:ty121.sz=1:=rfl
@[go_sem] theorem JuG:ty121.bytes=24:=rfl
@[go_sem] theorem JMo:ty121.zero=[.slice true []]:=rfl
@[go_sem] theorem JrU:T.ty 123=ty123:=rfl
@[go_sem] theorem Jzd : ty123.k = .struct [(0, 9, "Host"), (1, 9, "Prefix"), (2, 121, "Split")] := rfl
@[go_sem] theorem JIQ:ty123.sz=3:=rfl
@[go_sem] theorem JuH:ty123.bytes=56:=rfl
@[go_sem] theorem JMp:ty123.zero=[.str [],.str [],.slice true []]:=rfl
@[go_sem] theorem JrW:T.ty 134=ty134:=rfl
@[go_sem] theorem Jzf : ty134.k = .struct [(0, 3, "Kind"), (1, 9, "Name")] := rfl
@[go_sem] theorem JIS:ty134.sz=2:=rfl
@[go_sem] theorem JuJ:ty134.bytes=24:=rfl
@[go_sem] theorem JMr:ty134.zero=[.int .i64 0,.str []]:=rfl
@[go_sem] theorem JrY:T.ty 145=ty145:=rfl
@[go_sem] theorem Jzh : ty145.k = .struct [(0, 134, "K"), (2, 3, "Ver")] := rfl
@[go_sem] theorem JIU:ty145.sz=3:=rfl
@[go_sem] theorem JuL:ty145.bytes=32:=rfl
@[go_sem] theorem JMt:ty145.zero=[.int .i64 0,.str [],.int .i64 0]:=rfl
@[go_sem] theorem Jr1:T.ty 163=ty163:=rfl
@[go_sem] theorem Jzk:ty163.k=.func:=rfl
@[go_sem] theorem JIX:ty163.sz=1:=rfl
@[go_sem] theorem JuO:ty163.bytes=8:=rfl
@[go_sem] theorem JMw:ty163.zero=[.nilf]:=rfl
@[go_sem] theorem Jr2:T.ty 167=ty167:=rfl
@[go_sem] theorem Jzl : ty167.k = .struct [(0, 9, "Cluster"), (1, 3, "W")] := rfl
@[go_sem] theorem JIY:ty167.sz=2:=rfl
@[go_sem] theorem JuP:ty167.bytes=24:=rfl
@[go_sem] theorem JMx:ty167.zero=[.str [],.int .i64 0]:=rfl
@[go_sem] theorem Jr4:T.ty 177=ty177:=rfl
@[go_sem] theorem Jzn:ty177.k=.array 4 4:=rfl
@[go_sem] theorem JI0:ty177.sz=4:=rfl
@[go_sem] theorem JuR:ty177.bytes=4:=rfl
@[go_sem] theorem JMz:ty177.zero=[.bool false,.bool false,.bool false,.bool false]:=rfl
@[go_sem] theorem Jr5:T.ty 179=ty179:=rfl
@[go_sem] theorem Jzo : ty179.k = .struct [(0, 28, "Last"), (4, 177, "Open"), (8, 3, "Max")] := rfl
@[go_sem] theorem JI1:ty179.sz=9:=rfl
@[go_sem] theorem JuS:ty179.bytes=48:=rfl
@[go_sem] theorem JMA:ty179.zero=[.int .i64 0,.int .i64 0,.int .i64 0,.int .i64 0,.bool false,.bool false,.bool false,.bool false,.int .i64 0]:=rfl
@[go_sem] theorem Jr7:T.ty 194=ty194:=rfl
@[go_sem] theorem Jzq:ty194.k=.func:=rfl
@[go_sem] theorem JI3:ty194.sz=1:=rfl
@[go_sem] theorem JuU:ty194.bytes=8:=rfl
@[go_sem] theorem JMC:ty194.zero=[.nilf]:=rfl
@[go_sem] theorem Jr9:T.ty 200=ty200:=rfl
@[go_sem] theorem Jzs:ty200.k=.func:=rfl
@[go_sem] theorem JI5:ty200.sz=1:=rfl
@[go_sem] theorem JuW:ty200.bytes=8:=rfl
@[go_sem] theorem JME:ty200.zero=[.nilf]:=rfl
@[go_sem] theorem Jsa:T.ty 201=ty201:=rfl
@[go_sem] theorem Jzt:ty201.k=.func:=rfl
@[go_sem] theorem JI6:ty201.sz=1:=rfl
@[go_sem] theorem JuX:ty201.bytes=8:=rfl
@[go_sem] theorem JMF:ty201.zero=[.nilf]:=rfl
@[go_sem] theorem Jsc:T.ty 216=ty216:=rfl
@[go_sem] theorem Jzv : ty216.k = .struct [(0, 31, "e")] := rfl
@[go_sem] theorem JI8:ty216.sz=1:=rfl
@[go_sem] theorem JuZ:ty216.bytes=8:=rfl
@[go_sem] theorem JMH:ty216.zero=[.int .i64 0]:=rfl
@[go_sem] theorem Jse:T.ty 220=ty220:=rfl
@[go_sem] theorem Jzx:ty220.k=.map 134 4:=rfl
@[go_sem] theorem JJa:ty220.sz=1:=rfl
@[go_sem] theorem Ju1:ty220.bytes=8:=rfl
@[go_sem] theorem JMJ:ty220.zero=[.nilm]:=rfl
@[go_sem] theorem Jsf:T.ty 225=ty225:=rfl
@[go_sem] theorem Jzy:ty225.k=.func:=rfl
@[go_sem] theorem JJb:ty225.sz=1:=rfl
@[go_sem] theorem Ju2:ty225.bytes=8:=rfl
@[go_sem] theorem JMK:ty225.zero=[.nilf]:=rfl
@[go_sem] theorem Jsg:T.ty 229=ty229:=rfl
@[go_sem] theorem Jzz:ty229.k=.func:=rfl
@[go_sem] theorem JJc:ty229.sz=1:=rfl
@[go_sem] theorem Ju3:ty229.bytes=8:=rfl
@[go_sem] theorem JML:ty229.zero=[.nilf]:=rfl
@[go_sem] theorem Jsi:T.ty 234=ty234:=rfl
@[go_sem] theorem JzB:ty234.k=.int .u64:=rfl
@[go_sem] theorem JJe:ty234.sz=1:=rfl
@[go_sem] theorem Ju5:ty234.bytes=8:=rfl
@[go_sem] theorem JMN:ty234.zero=[.int .u64 0]:=rfl
@[go_sem] theorem Jsj:T.ty 245=ty245:=rfl
@[go_sem] theorem JzC:ty245.k=.map 3 4:=rfl
@[go_sem] theorem JJf:ty245.sz=1:=rfl
@[go_sem] theorem Ju6:ty245.bytes=8:=rfl
@[go_sem] theorem JMO:ty245.zero=[.nilm]:=rfl
@[go_sem] theorem Jsl:T.ty 251=ty251:=rfl
@[go_sem] theorem JzE:ty251.k=.map 134 77:=rfl
@[go_sem] theorem JJh:ty251.sz=1:=rfl
@[go_sem] theorem Ju8:ty251.bytes=8:=rfl
@[go_sem] theorem JMQ:ty251.zero=[.nilm]:=rfl
@[go_sem] theorem Jsm:T.ty 253=ty253:=rfl
@[go_sem] theorem JzF:ty253.k=.func:=rfl
@[go_sem] theorem JJi:ty253.sz=1:=rfl
@[go_sem] theorem Ju9:ty253.bytes=8:=rfl
@[go_sem] theorem JMR:ty253.zero=[.nilf]:=rfl
@[go_sem] theorem Jsn:T.ty 258=ty258:=rfl
@[go_sem] theorem JzG:ty258.k=.int .i64:=rfl
@[go_sem] theorem JJj:ty258.sz=1:=rfl
@[go_sem] theorem Jva:ty258.bytes=8:=rfl
@[go_sem] theorem JMS:ty258.zero=[.int .i64 0]:=rfl
@[go_sem] theorem Jso:T.ty 265=ty265:=rfl
@[go_sem] theorem JzH:ty265.k=.int .u32:=rfl
@[go_sem] theorem JJk:ty265.sz=1:=rfl
@[go_sem] theorem Jvb:ty265.bytes=4:=rfl
@[go_sem] theorem JMT:ty265.zero=[.int .u32 0]:=rfl
@[go_sem] theorem Jsp:T.ty 267=ty267:=rfl
@[go_sem] theorem JzI:ty267.k=.int .u64:=rfl
@[go_sem] theorem JJl:ty267.sz=1:=rfl
@[go_sem] theorem Jvc:ty267.bytes=8:=rfl
@[go_sem] theorem JMU:ty267.zero=[.int .u64 0]:=rfl
@[go_sem] theorem Jsr:T.ty 274=ty274:=rfl
@[go_sem] theorem JzK:ty274.k=.func:=rfl
@[go_sem] theorem JJn:ty274.sz=1:=rfl
@[go_sem] theorem Jve:ty274.bytes=8:=rfl
@[go_sem] theorem JMW:ty274.zero=[.nilf]:=rfl
@[go_sem] theorem Jss:T.ty 276=ty276:=rfl
@[go_sem] theorem JzL : ty276.k = .struct [(0, 4, "port"), (1, 4, "to"), (2, 4, "rules"), (3, 4, "hosts")] := rfl
@[go_sem] theorem JJo:ty276.sz=4:=rfl
@[go_sem] theorem Jvf:ty276.bytes=4:=rfl
@[go_sem] theorem JMX:ty276.zero=[.bool false,.bool false,.bool false,.bool false]:=rfl
@[go_sem] theorem Jsu:T.ty 280=ty280:=rfl
@[go_sem] theorem JzN:ty280.k=.int .u64:=rfl
@[go_sem] theorem JJq:ty280.sz=1:=rfl
@[go_sem] theorem Jvh:ty280.bytes=8:=rfl
@[go_sem] theorem JMZ:ty280.zero=[.int .u64 0]:=rfl
@[go_sem] theorem Jsv:T.ty 284=ty284:=rfl
@[go_sem] theorem JzO:ty284.k=.ptr 3:=rfl
@[go_sem] theorem JJr:ty284.sz=1:=rfl
@[go_sem] theorem Jvi:ty284.bytes=8:=rfl
@[go_sem] theorem JM0:ty284.zero=[.nilp]:=rfl
@[go_sem] theorem Jsw:T.ty 293=ty293:=rfl
@[go_sem] theorem JzP:ty293.k=.ptr 280:=rfl
@[go_sem] theorem JJs:ty293.sz=1:=rfl
@[go_sem] theorem Jvj:ty293.bytes=8:=rfl
@[go_sem] theorem JM1:ty293.zero=[.nilp]:=rfl
@[go_sem] theorem Jsz:T.ty 309=ty309:=rfl
@[go_sem] theorem JzS : ty309.k = .struct [(0, 17, "_interface"), (1, 17, "concrete"), (2, 17, "asserted"), (3, 9, "missingMethod")] := rfl
@[go_sem] theorem JJv:ty309.sz=4:=rfl
@[go_sem] theorem Jvm:ty309.bytes=40:=rfl
@[go_sem] theorem JM4:ty309.zero=[.nilp,.nilp,.nilp,.str []]:=rfl
@[go_sem] theorem JsB:T.ty 310=ty310:=rfl
@[go_sem] theorem JzU:ty310.k=.array 0 16:=rfl
@[go_sem] theorem JJx:ty310.sz=0:=rfl
@[go_sem] theorem Jvo:ty310.bytes=0:=rfl
@[go_sem] theorem JM6:ty310.zero=[]:=rfl
@[go_sem] theorem JsC:T.ty 312=ty312:=rfl
@[go_sem] theorem JzV : ty312.k = .struct [(0, 310, "_")] := rfl
@[go_sem] theorem JJy:ty312.sz=0:=rfl
@[go_sem] theorem Jvp:ty312.bytes=0:=rfl
@[go_sem] theorem JM7:ty312.zero=[]:=rfl
@[go_sem] theorem JsD:T.ty 313=ty313:=rfl
@[go_sem] theorem JzW:ty313.k=.int .u8:=rfl
@[go_sem] theorem JJz:ty313.sz=1:=rfl
@[go_sem] theorem Jvq:ty313.bytes=1:=rfl
@[go_sem] theorem JM8:ty313.zero=[.int .u8 0]:=rfl
@[go_sem] theorem JsE:T.ty 314=ty314:=rfl
@[go_sem] theorem JzX:ty314.k=.int .u8:=rfl
@[go_sem] theorem JJA:ty314.sz=1:=rfl
@[go_sem] theorem Jvr:ty314.bytes=1:=rfl
@[go_sem] theorem JM9:ty314.zero=[.int .u8 0]:=rfl
@[go_sem] theorem JsF:T.ty 315=ty315:=rfl
@[go_sem] theorem JzY:ty315.k=.func:=rfl
@[go_sem] theorem JJB:ty315.sz=1:=rfl
@[go_sem] theorem Jvs:ty315.bytes=8:=rfl
@[go_sem] theorem JNa:ty315.zero=[.nilf]:=rfl
@[go_sem] theorem JsG:T.ty 316=ty316:=rfl
@[go_sem] theorem JzZ:ty316.k=.ptr 5:=rfl
@[go_sem] theorem JJC:ty316.sz=1:=rfl
@[go_sem] theorem Jvt:ty316.bytes=8:=rfl
@[go_sem] theorem JNb:ty316.zero=[.nilp]:=rfl
@[go_sem] theorem JsH:T.ty 317=ty317:=rfl
@[go_sem] theorem Jz0:ty317.k=.int .i32:=rfl
@[go_sem] theorem JJD:ty317.sz=1:=rfl
@[go_sem] theorem Jvu:ty317.bytes=4:=rfl
@[go_sem] theorem JNc:ty317.zero=[.int .i32 0]:=rfl
@[go_sem] theorem JsI:T.ty 318=ty318:=rfl
@[go_sem] theorem Jz1:ty318.k=.int .i32:=rfl
@[go_sem] theorem JJE:ty318.sz=1:=rfl
@[go_sem] theorem Jvv:ty318.bytes=4:=rfl
@[go_sem] theorem JNd:ty318.zero=[.int .i32 0]:=rfl
@[go_sem] theorem JsK:T.ty 320=ty320:=rfl
@[go_sem] theorem Jz3 : ty320.k = .struct [(0, 12, "Size_"), (1, 12, "PtrBytes"), (2, 265, "Hash"), (3, 313, "TFlag"), (4, 5, "Align_"), (5, 5, "FieldAlign_"), (6, 314, "Kind_"), (7, 315, "Equal"), (8, 316, "GCData"), (9, 317, "Str"), (10, 318, "PtrToThis")] := rfl
@[go_sem] theorem JJG:ty320.sz=11:=rfl
@[go_sem] theorem Jvx:ty320.bytes=48:=rfl
@[go_sem] theorem JNf:ty320.zero=[.int .u64 0,.int .u64 0,.int .u32 0,.int .u8 0,.int .u8 0,.int .u8 0,.int .u8 0,.nilf,.nilp,.int .i32 0,.int .i32 0]:=rfl
@[go_sem] theorem Jw4:Tryz.prog.eqGuardType Tryz.prog.depth 23=false:=by kernel_rfl
@[go_sem] theorem JIy:Tryz.prog.stoodInHeld 23=false:=by kernel_rfl
@[go_sem] theorem Jw5:Tryz.prog.eqGuardType Tryz.prog.depth 25=false:=by kernel_rfl
@[go_sem] theorem JIz:Tryz.prog.stoodInHeld 25=false:=by kernel_rfl
@[go_sem] theorem Jw1:Tryz.prog.eqGuardType Tryz.prog.depth 134=false:=by kernel_rfl
@[go_sem] theorem JIv:Tryz.prog.stoodInHeld 134=false:=by kernel_rfl
@[go_sem] theorem Jw2:Tryz.prog.eqGuardType Tryz.prog.depth 167=false:=by kernel_rfl
@[go_sem] theorem JIw:Tryz.prog.stoodInHeld 167=false:=by kernel_rfl
@[go_sem] theorem Jw3:Tryz.prog.eqGuardType Tryz.prog.depth 216=false:=by kernel_rfl
@[go_sem] theorem JIx:Tryz.prog.stoodInHeld 216=false:=by kernel_rfl
@[go_sem] theorem Jw6:Tryz.prog.eqGuardType Tryz.prog.depth 276=false:=by kernel_rfl
@[go_sem] theorem JIA:Tryz.prog.stoodInHeld 276=false:=by kernel_rfl
theorem mixed:Tryz.prog.follows .mixedOrders=true:=by kernel_rfl
@[ext] structure BoundsError where
 x:Int
 y:Int
 signed:Bool
 code:UInt8
 deriving Inhabited,DecidableEq
instance:Dat BoundsError where
 av x:=.agg [.int .i64 x.x,.int .i64 x.y,.bool x.signed,.int .u8 x.code.toNat]
 sz:=4
 len _:=rfl
 pure x:=by simp only[go_sem,Bool.and_self]
 nrm x:=by simp only[go_sem]
 one x:=by simp only[go_sem,List.all_cons,List.all_nil,Bool.and_self]
 known x:=rfl
@[go_sem] theorem JjF(x:BoundsError):Dat.av x=.agg [.int .i64 x.x,.int .i64 x.y,.bool x.signed,.int .u8 x.code.toNat]:=rfl
@[go_sem] theorem JKg:Dat.sz BoundsError=4:=rfl
@[go_sem] theorem JHt(l:List BoundsError)(n:Nat)(f0:Int)(f1:Int)(f2:Bool)(f3:UInt8):(Ja l).set n (.agg [.int .i64 f0,.int .i64 f1,.bool f2,.int .u8 f3.toNat])=Ja (l.set n ⟨f0,f1,f2,f3⟩):=JW l n (⟨f0,f1,f2,f3⟩:BoundsError)
@[go_sem] theorem JH7(l:List BoundsError)(f0:Int)(f1:Int)(f2:Bool)(f3:UInt8):Ja l++[.agg [.int .i64 f0,.int .i64 f1,.bool f2,.int .u8 f3.toNat]]=Ja (l++[⟨f0,f1,f2,f3⟩]):=by rw[JV];rfl
@[go_sem] theorem JkU:∀l:List BoundsError,AV.flat.flatL (Ja l)=true
 | []=>rfl
 |_ :: r=>by simp only[VN,AV.flat.flatL,JkU r,JjF,AV.flat,Bool.and_self]
@[go_sem] theorem Jxg(x:BoundsError):BoundsError.mk x.x x.y x.signed x.code=x:=rfl
@[ext] structure Ask where
 port:Int
 host:List UInt8
 path:List UInt8
 first:Int
 other:Int
 deriving Inhabited,DecidableEq
instance:Dat Ask where
 av x:=.agg [.int .i64 x.port,.str x.host,.str x.path,.int .i64 x.first,.int .i64 x.other]
 sz:=5
 len _:=rfl
 pure x:=by simp only[go_sem,Bool.and_self]
 nrm x:=by simp only[go_sem]
 one x:=by simp only[go_sem,List.all_cons,List.all_nil,Bool.and_self]
 known x:=rfl
@[go_sem] theorem JjD(x:Ask):Dat.av x=.agg [.int .i64 x.port,.str x.host,.str x.path,.int .i64 x.first,.int .i64 x.other]:=rfl
@[go_sem] theorem JKe:Dat.sz Ask=5:=rfl
@[go_sem] theorem JHq(l:List Ask)(n:Nat)(f0:Int)(f1:List UInt8)(f2:List UInt8)(f3:Int)(f4:Int):(Ja l).set n (.agg [.int .i64 f0,.str f1,.str f2,.int .i64 f3,.int .i64 f4])=Ja (l.set n ⟨f0,f1,f2,f3,f4⟩):=JW l n (⟨f0,f1,f2,f3,f4⟩:Ask)
@[go_sem] theorem JH4(l:List Ask)(f0:Int)(f1:List UInt8)(f2:List UInt8)(f3:Int)(f4:Int):Ja l++[.agg [.int .i64 f0,.str f1,.str f2,.int .i64 f3,.int .i64 f4]]=Ja (l++[⟨f0,f1,f2,f3,f4⟩]):=by rw[JV];rfl
@[go_sem] theorem JkS:∀l:List Ask,AV.flat.flatL (Ja l)=true
 | []=>rfl
 |_ :: r=>by simp only[VN,AV.flat.flatL,JkS r,JjD,AV.flat,Bool.and_self]
@[go_sem] theorem Jxe(x:Ask):Ask.mk x.port x.host x.path x.first x.other=x:=rfl
@[ext] structure Answer where
 what:Int
 cluster:List UInt8
 host:Int
 deriving Inhabited,DecidableEq
instance:Dat Answer where
 av x:=.agg [.int .i64 x.what,.str x.cluster,.int .i64 x.host]
 sz:=3
 len _:=rfl
 pure x:=by simp only[go_sem,Bool.and_self]
 nrm x:=by simp only[go_sem]
 one x:=by simp only[go_sem,List.all_cons,List.all_nil,Bool.and_self]
 known x:=rfl
@[go_sem] theorem JjC(x:Answer):Dat.av x=.agg [.int .i64 x.what,.str x.cluster,.int .i64 x.host]:=rfl
@[go_sem] theorem JKd:Dat.sz Answer=3:=rfl
@[go_sem] theorem JHp(l:List Answer)(n:Nat)(f0:Int)(f1:List UInt8)(f2:Int):(Ja l).set n (.agg [.int .i64 f0,.str f1,.int .i64 f2])=Ja (l.set n ⟨f0,f1,f2⟩):=JW l n (⟨f0,f1,f2⟩:Answer)
@[go_sem] theorem JH3(l:List Answer)(f0:Int)(f1:List UInt8)(f2:Int):Ja l++[.agg [.int .i64 f0,.str f1,.int .i64 f2]]=Ja (l++[⟨f0,f1,f2⟩]):=by rw[JV];rfl
@[go_sem] theorem JkR:∀l:List Answer,AV.flat.flatL (Ja l)=true
 | []=>rfl
 |_ :: r=>by simp only[VN,AV.flat.flatL,JkR r,JjC,AV.flat,Bool.and_self]
@[go_sem] theorem Jxd(x:Answer):Answer.mk x.what x.cluster x.host=x:=rfl
@[ext] structure Req where
 a:Ask
 stage:Int
 id:Int
 route:List UInt8
 cluster:List UInt8
 out:Answer
 deriving Inhabited,DecidableEq
instance:Dat Req where
 av x:=.agg [.int .i64 x.a.port,.str x.a.host,.str x.a.path,.int .i64 x.a.first,.int .i64 x.a.other,.int .i64 x.stage,.int .i64 x.id,.str x.route,.str x.cluster,.int .i64 x.out.what,.str x.out.cluster,.int .i64 x.out.host]
 sz:=12
 len _:=rfl
 pure x:=by simp only[go_sem,Bool.and_self]
 nrm x:=by simp only[go_sem]
 one x:=by simp only[go_sem,List.all_cons,List.all_nil,Bool.and_self]
 known x:=rfl
@[go_sem] theorem JjN(x:Req):Dat.av x=.agg [.int .i64 x.a.port,.str x.a.host,.str x.a.path,.int .i64 x.a.first,.int .i64 x.a.other,.int .i64 x.stage,.int .i64 x.id,.str x.route,.str x.cluster,.int .i64 x.out.what,.str x.out.cluster,.int .i64 x.out.host]:=rfl
@[go_sem] theorem JKt:Dat.sz Req=12:=rfl
@[go_sem] theorem JHG(l:List Req)(n:Nat)(f0:Ask)(f1:Int)(f2:Int)(f3:List UInt8)(f4:List UInt8)(f5:Answer):(Ja l).set n (.agg [.int .i64 f0.port,.str f0.host,.str f0.path,.int .i64 f0.first,.int .i64 f0.other,.int .i64 f1,.int .i64 f2,.str f3,.str f4,.int .i64 f5.what,.str f5.cluster,.int .i64 f5.host])=Ja (l.set n ⟨f0,f1,f2,f3,f4,f5⟩):=JW l n (⟨f0,f1,f2,f3,f4,f5⟩:Req)
@[go_sem] theorem JIk(l:List Req)(f0:Ask)(f1:Int)(f2:Int)(f3:List UInt8)(f4:List UInt8)(f5:Answer):Ja l++[.agg [.int .i64 f0.port,.str f0.host,.str f0.path,.int .i64 f0.first,.int .i64 f0.other,.int .i64 f1,.int .i64 f2,.str f3,.str f4,.int .i64 f5.what,.str f5.cluster,.int .i64 f5.host]]=Ja (l++[⟨f0,f1,f2,f3,f4,f5⟩]):=by rw[JV];rfl
@[go_sem] theorem Jk3:∀l:List Req,AV.flat.flatL (Ja l)=true
 | []=>rfl
 |_ :: r=>by simp only[VN,AV.flat.flatL,Jk3 r,JjN,AV.flat,Bool.and_self]
@[go_sem] theorem Jxs(x:Req):Req.mk x.a x.stage x.id x.route x.cluster x.out=x:=rfl
@[ext] structure Four where
 a0:Int
 a1:Int
 a2:Int
 a3:Int
 deriving Inhabited,DecidableEq
instance:Dat Four where
 av x:=.agg [.int .i64 x.a0,.int .i64 x.a1,.int .i64 x.a2,.int .i64 x.a3]
 sz:=4
 len _:=rfl
 pure x:=by simp only[go_sem,Bool.and_self]
 nrm x:=by simp only[go_sem]
 one x:=by simp only[go_sem,List.all_cons,List.all_nil,Bool.and_self]
 known x:=rfl
@[go_sem] theorem JjH(x:Four):Dat.av x=.agg [.int .i64 x.a0,.int .i64 x.a1,.int .i64 x.a2,.int .i64 x.a3]:=rfl
@[go_sem] theorem JKj:Dat.sz Four=4:=rfl
@[go_sem] theorem JHw(l:List Four)(n:Nat)(f0:Int)(f1:Int)(f2:Int)(f3:Int):(Ja l).set n (.agg [.int .i64 f0,.int .i64 f1,.int .i64 f2,.int .i64 f3])=Ja (l.set n ⟨f0,f1,f2,f3⟩):=JW l n (⟨f0,f1,f2,f3⟩:Four)
@[go_sem] theorem JIa(l:List Four)(f0:Int)(f1:Int)(f2:Int)(f3:Int):Ja l++[.agg [.int .i64 f0,.int .i64 f1,.int .i64 f2,.int .i64 f3]]=Ja (l++[⟨f0,f1,f2,f3⟩]):=by rw[JV];rfl
@[go_sem] theorem JkW:∀l:List Four,AV.flat.flatL (Ja l)=true
 | []=>rfl
 |_ :: r=>by simp only[VN,AV.flat.flatL,JkW r,JjH,AV.flat,Bool.and_self]
@[go_sem] theorem Jxj(x:Four):Four.mk x.a0 x.a1 x.a2 x.a3=x:=rfl
@[ext] structure In where
 last:Four
 max:Int
 deriving Inhabited,DecidableEq
instance:Dat In where
 av x:=.agg [.int .i64 x.last.a0,.int .i64 x.last.a1,.int .i64 x.last.a2,.int .i64 x.last.a3,.int .i64 x.max]
 sz:=5
 len _:=rfl
 pure x:=by simp only[go_sem,Bool.and_self]
 nrm x:=by simp only[go_sem]
 one x:=by simp only[go_sem,List.all_cons,List.all_nil,Bool.and_self]
 known x:=rfl
@[go_sem] theorem JjJ(x:In):Dat.av x=.agg [.int .i64 x.last.a0,.int .i64 x.last.a1,.int .i64 x.last.a2,.int .i64 x.last.a3,.int .i64 x.max]:=rfl
@[go_sem] theorem JKm:Dat.sz In=5:=rfl
@[go_sem] theorem JHz(l:List In)(n:Nat)(f0:Four)(f1:Int):(Ja l).set n (.agg [.int .i64 f0.a0,.int .i64 f0.a1,.int .i64 f0.a2,.int .i64 f0.a3,.int .i64 f1])=Ja (l.set n ⟨f0,f1⟩):=JW l n (⟨f0,f1⟩:In)
@[go_sem] theorem JId(l:List In)(f0:Four)(f1:Int):Ja l++[.agg [.int .i64 f0.a0,.int .i64 f0.a1,.int .i64 f0.a2,.int .i64 f0.a3,.int .i64 f1]]=Ja (l++[⟨f0,f1⟩]):=by rw[JV];rfl
@[go_sem] theorem JkY:∀l:List In,AV.flat.flatL (Ja l)=true
 | []=>rfl
 |_ :: r=>by simp only[VN,AV.flat.flatL,JkY r,JjJ,AV.flat,Bool.and_self]
@[go_sem] theorem Jxm(x:In):In.mk x.last x.max=x:=rfl
@[ext] structure Weight where
 cluster:List UInt8
 w:Int
 deriving Inhabited,DecidableEq
instance:Dat Weight where
 av x:=.agg [.str x.cluster,.int .i64 x.w]
 sz:=2
 len _:=rfl
 pure x:=by simp only[go_sem,Bool.and_self]
 nrm x:=by simp only[go_sem]
 one x:=by simp only[go_sem,List.all_cons,List.all_nil,Bool.and_self]
 known x:=rfl
@[go_sem] theorem JjO(x:Weight):Dat.av x=.agg [.str x.cluster,.int .i64 x.w]:=rfl
@[go_sem] theorem JKz:Dat.sz Weight=2:=rfl
@[go_sem] theorem JHO(l:List Weight)(n:Nat)(f0:List UInt8)(f1:Int):(Ja l).set n (.agg [.str f0,.int .i64 f1])=Ja (l.set n ⟨f0,f1⟩):=JW l n (⟨f0,f1⟩:Weight)
@[go_sem] theorem JIs(l:List Weight)(f0:List UInt8)(f1:Int):Ja l++[.agg [.str f0,.int .i64 f1]]=Ja (l++[⟨f0,f1⟩]):=by rw[JV];rfl
@[go_sem] theorem Jk5:∀l:List Weight,AV.flat.flatL (Ja l)=true
 | []=>rfl
 |_ :: r=>by simp only[VN,AV.flat.flatL,Jk5 r,JjO,AV.flat,Bool.and_self]
theorem Jdk(x y:Weight):x=y↔x.cluster=y.cluster∧x.w=y.w:=by cases x;cases y;simp
@[go_sem] theorem Jxy(x:Weight):Weight.mk x.cluster x.w=x:=rfl
@[ext] structure Rule where
 host:List UInt8
 pfx:List UInt8
 split:List Weight
 deriving Inhabited,DecidableEq
instance:Dat Rule where
 av x:=.agg [.str x.host,.str x.pfx,.slice false (Ja x.split)]
 sz:=3
 len _:=rfl
 pure x:=by simp only[go_sem,Bool.and_self]
 nrm x:=by simp only[go_sem]
 one x:=by simp only[go_sem,List.all_cons,List.all_nil,Bool.and_self]
 known x:=rfl
@[go_sem] theorem JtM(x:Rule):Dat.av x=.agg [.str x.host,.str x.pfx,.slice false (Ja x.split)]:=rfl
@[go_sem] theorem JKv:Dat.sz Rule=3:=rfl
@[go_sem] theorem JHI(l:List Rule)(n:Nat)(f0:List UInt8)(f1:List UInt8)(f2:List Weight):(Ja l).set n (.agg [.str f0,.str f1,.slice false (Ja f2)])=Ja (l.set n ⟨f0,f1,f2⟩):=JW l n (⟨f0,f1,f2⟩:Rule)
@[go_sem] theorem JIm(l:List Rule)(f0:List UInt8)(f1:List UInt8)(f2:List Weight):Ja l++[.agg [.str f0,.str f1,.slice false (Ja f2)]]=Ja (l++[⟨f0,f1,f2⟩]):=by rw[JV];rfl
theorem JgU(x y:Rule):x=y↔x.host=y.host∧x.pfx=y.pfx∧x.split=y.split:=by cases x;cases y;simp
@[go_sem] theorem Jxu(x:Rule):Rule.mk x.host x.pfx x.split=x:=rfl
@[ext] structure Res where
 kind:Int
 name:List UInt8
 ver:Int
 port:Int
 to':List UInt8
 rules':List Rule
 hosts:List Int
 deriving Inhabited,DecidableEq
instance:Dat Res where
 av x:=.agg [.int .i64 x.kind,.str x.name,.int .i64 x.ver,.int .i64 x.port,.str x.to',.slice false (Ja x.rules'),.slice false (Ja x.hosts)]
 sz:=7
 len _:=rfl
 pure x:=by simp only[go_sem,Bool.and_self]
 nrm x:=by simp only[go_sem]
 one x:=by simp only[go_sem,List.all_cons,List.all_nil,Bool.and_self]
 known x:=rfl
@[go_sem] theorem JtL(x:Res):Dat.av x=.agg [.int .i64 x.kind,.str x.name,.int .i64 x.ver,.int .i64 x.port,.str x.to',.slice false (Ja x.rules'),.slice false (Ja x.hosts)]:=rfl
@[go_sem] theorem JKu:Dat.sz Res=7:=rfl
@[go_sem] theorem JHH(l:List Res)(n:Nat)(f0:Int)(f1:List UInt8)(f2:Int)(f3:Int)(f4:List UInt8)(f5:List Rule)(f6:List Int):(Ja l).set n (.agg [.int .i64 f0,.str f1,.int .i64 f2,.int .i64 f3,.str f4,.slice false (Ja f5),.slice false (Ja f6)])=Ja (l.set n ⟨f0,f1,f2,f3,f4,f5,f6⟩):=JW l n (⟨f0,f1,f2,f3,f4,f5,f6⟩:Res)
@[go_sem] theorem JIl(l:List Res)(f0:Int)(f1:List UInt8)(f2:Int)(f3:Int)(f4:List UInt8)(f5:List Rule)(f6:List Int):Ja l++[.agg [.int .i64 f0,.str f1,.int .i64 f2,.int .i64 f3,.str f4,.slice false (Ja f5),.slice false (Ja f6)]]=Ja (l++[⟨f0,f1,f2,f3,f4,f5,f6⟩]):=by rw[JV];rfl
@[go_sem] theorem Jxt(x:Res):Res.mk x.kind x.name x.ver x.port x.to' x.rules' x.hosts=x:=rfl
@[ext] structure Cache where
 cap:Int
 l:List Res
 deriving Inhabited,DecidableEq
instance:Dat Cache where
 av x:=.agg [.int .i64 x.cap,.slice false (Ja x.l)]
 sz:=2
 len _:=rfl
 pure x:=by simp only[go_sem,Bool.and_self]
 nrm x:=by simp only[go_sem]
 one x:=by simp only[go_sem,List.all_cons,List.all_nil,Bool.and_self]
 known x:=rfl
@[go_sem] theorem JtH(x:Cache):Dat.av x=.agg [.int .i64 x.cap,.slice false (Ja x.l)]:=rfl
@[go_sem] theorem JKh:Dat.sz Cache=2:=rfl
@[go_sem] theorem JHu(l:List Cache)(n:Nat)(f0:Int)(f1:List Res):(Ja l).set n (.agg [.int .i64 f0,.slice false (Ja f1)])=Ja (l.set n ⟨f0,f1⟩):=JW l n (⟨f0,f1⟩:Cache)
@[go_sem] theorem JH8(l:List Cache)(f0:Int)(f1:List Res):Ja l++[.agg [.int .i64 f0,.slice false (Ja f1)]]=Ja (l++[⟨f0,f1⟩]):=by rw[JV];rfl
@[go_sem] theorem Jxh(x:Cache):Cache.mk x.cap x.l=x:=rfl
@[ext] structure Warm where
 c:Cache
 ready:Bool
 shown:List Res
 deriving Inhabited,DecidableEq
instance:Dat Warm where
 av x:=.agg [.int .i64 x.c.cap,.slice false (Ja x.c.l),.bool x.ready,.slice false (Ja x.shown)]
 sz:=4
 len _:=rfl
 pure x:=by simp only[go_sem,Bool.and_self]
 nrm x:=by simp only[go_sem]
 one x:=by simp only[go_sem,List.all_cons,List.all_nil,Bool.and_self]
 known x:=rfl
@[go_sem] theorem JtP(x:Warm):Dat.av x=.agg [.int .i64 x.c.cap,.slice false (Ja x.c.l),.bool x.ready,.slice false (Ja x.shown)]:=rfl
@[go_sem] theorem JKy:Dat.sz Warm=4:=rfl
@[go_sem] theorem JHN(l:List Warm)(n:Nat)(f0:Cache)(f1:Bool)(f2:List Res):(Ja l).set n (.agg [.int .i64 f0.cap,.slice false (Ja f0.l),.bool f1,.slice false (Ja f2)])=Ja (l.set n ⟨f0,f1,f2⟩):=JW l n (⟨f0,f1,f2⟩:Warm)
@[go_sem] theorem JIr(l:List Warm)(f0:Cache)(f1:Bool)(f2:List Res):Ja l++[.agg [.int .i64 f0.cap,.slice false (Ja f0.l),.bool f1,.slice false (Ja f2)]]=Ja (l++[⟨f0,f1,f2⟩]):=by rw[JV];rfl
@[go_sem] theorem Jxx(x:Warm):Warm.mk x.c x.ready x.shown=x:=rfl
@[ext] structure Snap where
 id:Int
 pins:Int
 l:List Res
 deriving Inhabited,DecidableEq
instance:Dat Snap where
 av x:=.agg [.int .i64 x.id,.int .i64 x.pins,.slice false (Ja x.l)]
 sz:=3
 len _:=rfl
 pure x:=by simp only[go_sem,Bool.and_self]
 nrm x:=by simp only[go_sem]
 one x:=by simp only[go_sem,List.all_cons,List.all_nil,Bool.and_self]
 known x:=rfl
@[go_sem] theorem JtO(x:Snap):Dat.av x=.agg [.int .i64 x.id,.int .i64 x.pins,.slice false (Ja x.l)]:=rfl
@[go_sem] theorem JKx:Dat.sz Snap=3:=rfl
@[go_sem] theorem JHK(l:List Snap)(n:Nat)(f0:Int)(f1:Int)(f2:List Res):(Ja l).set n (.agg [.int .i64 f0,.int .i64 f1,.slice false (Ja f2)])=Ja (l.set n ⟨f0,f1,f2⟩):=JW l n (⟨f0,f1,f2⟩:Snap)
@[go_sem] theorem JIo(l:List Snap)(f0:Int)(f1:Int)(f2:List Res):Ja l++[.agg [.int .i64 f0,.int .i64 f1,.slice false (Ja f2)]]=Ja (l++[⟨f0,f1,f2⟩]):=by rw[JV];rfl
theorem JgV(x y:Snap):x=y↔x.id=y.id∧x.pins=y.pins∧x.l=y.l:=by cases x;cases y;simp
@[go_sem] theorem Jxw(x:Snap):Snap.mk x.id x.pins x.l=x:=rfl
@[ext] structure Pins where
 next':Int
 snaps:List Snap
 deriving Inhabited,DecidableEq
instance:Dat Pins where
 av x:=.agg [.int .i64 x.next',.slice false (Ja x.snaps)]
 sz:=2
 len _:=rfl
 pure x:=by simp only[go_sem,Bool.and_self]
 nrm x:=by simp only[go_sem]
 one x:=by simp only[go_sem,List.all_cons,List.all_nil,Bool.and_self]
 known x:=rfl
@[go_sem] theorem JjM(x:Pins):Dat.av x=.agg [.int .i64 x.next',.slice false (Ja x.snaps)]:=rfl
@[go_sem] theorem JKs:Dat.sz Pins=2:=rfl
@[go_sem] theorem JHF(l:List Pins)(n:Nat)(f0:Int)(f1:List Snap):(Ja l).set n (.agg [.int .i64 f0,.slice false (Ja f1)])=Ja (l.set n ⟨f0,f1⟩):=JW l n (⟨f0,f1⟩:Pins)
@[go_sem] theorem JIj(l:List Pins)(f0:Int)(f1:List Snap):Ja l++[.agg [.int .i64 f0,.slice false (Ja f1)]]=Ja (l++[⟨f0,f1⟩]):=by rw[JV];rfl
@[go_sem] theorem Jxr(x:Pins):Pins.mk x.next' x.snaps=x:=rfl
@[ext] structure Side where
 epoch:Int
 turn:Int
 up:Bool
 in':In
 errs:Four
 w:Warm
 p:Pins
 deriving Inhabited,DecidableEq
instance:Dat Side where
 av x:=.agg [.int .i64 x.epoch,.int .i64 x.turn,.bool x.up,.int .i64 x.in'.last.a0,.int .i64 x.in'.last.a1,.int .i64 x.in'.last.a2,.int .i64 x.in'.last.a3,.int .i64 x.in'.max,.int .i64 x.errs.a0,.int .i64 x.errs.a1,.int .i64 x.errs.a2,.int .i64 x.errs.a3,.int .i64 x.w.c.cap,.slice false (Ja x.w.c.l),.bool x.w.ready,.slice false (Ja x.w.shown),.int .i64 x.p.next',.slice false (Ja x.p.snaps)]
 sz:=18
 len _:=rfl
 pure x:=by simp only[go_sem,Bool.and_self]
 nrm x:=by simp only[go_sem]
 one x:=by simp only[go_sem,List.all_cons,List.all_nil,Bool.and_self]
 known x:=rfl
@[go_sem] theorem JtN(x:Side):Dat.av x=.agg [.int .i64 x.epoch,.int .i64 x.turn,.bool x.up,.int .i64 x.in'.last.a0,.int .i64 x.in'.last.a1,.int .i64 x.in'.last.a2,.int .i64 x.in'.last.a3,.int .i64 x.in'.max,.int .i64 x.errs.a0,.int .i64 x.errs.a1,.int .i64 x.errs.a2,.int .i64 x.errs.a3,.int .i64 x.w.c.cap,.slice false (Ja x.w.c.l),.bool x.w.ready,.slice false (Ja x.w.shown),.int .i64 x.p.next',.slice false (Ja x.p.snaps)]:=rfl
@[go_sem] theorem JKw:Dat.sz Side=18:=rfl
@[go_sem] theorem JHJ(l:List Side)(n:Nat)(f0:Int)(f1:Int)(f2:Bool)(f3:In)(f4:Four)(f5:Warm)(f6:Pins):(Ja l).set n (.agg [.int .i64 f0,.int .i64 f1,.bool f2,.int .i64 f3.last.a0,.int .i64 f3.last.a1,.int .i64 f3.last.a2,.int .i64 f3.last.a3,.int .i64 f3.max,.int .i64 f4.a0,.int .i64 f4.a1,.int .i64 f4.a2,.int .i64 f4.a3,.int .i64 f5.c.cap,.slice false (Ja f5.c.l),.bool f5.ready,.slice false (Ja f5.shown),.int .i64 f6.next',.slice false (Ja f6.snaps)])=Ja (l.set n ⟨f0,f1,f2,f3,f4,f5,f6⟩):=JW l n (⟨f0,f1,f2,f3,f4,f5,f6⟩:Side)
@[go_sem] theorem JIn(l:List Side)(f0:Int)(f1:Int)(f2:Bool)(f3:In)(f4:Four)(f5:Warm)(f6:Pins):Ja l++[.agg [.int .i64 f0,.int .i64 f1,.bool f2,.int .i64 f3.last.a0,.int .i64 f3.last.a1,.int .i64 f3.last.a2,.int .i64 f3.last.a3,.int .i64 f3.max,.int .i64 f4.a0,.int .i64 f4.a1,.int .i64 f4.a2,.int .i64 f4.a3,.int .i64 f5.c.cap,.slice false (Ja f5.c.l),.bool f5.ready,.slice false (Ja f5.shown),.int .i64 f6.next',.slice false (Ja f6.snaps)]]=Ja (l++[⟨f0,f1,f2,f3,f4,f5,f6⟩]):=by rw[JV];rfl
@[go_sem] theorem Jxv(x:Side):Side.mk x.epoch x.turn x.up x.in' x.errs x.w x.p=x:=rfl
@[ext] structure Key where
 kind:Int
 name:List UInt8
 deriving Inhabited,DecidableEq
instance:Dat Key where
 av x:=.agg [.int .i64 x.kind,.str x.name]
 sz:=2
 len _:=rfl
 pure x:=by simp only[go_sem,Bool.and_self]
 nrm x:=by simp only[go_sem]
 one x:=by simp only[go_sem,List.all_cons,List.all_nil,Bool.and_self]
 known x:=rfl
@[go_sem] theorem JeE(x:Key):Dat.av x=.agg [.int .i64 x.kind,.str x.name]:=rfl
@[go_sem] theorem JKn:Dat.sz Key=2:=rfl
@[go_sem] theorem JHB(l:List Key)(n:Nat)(f0:Int)(f1:List UInt8):(Ja l).set n (.agg [.int .i64 f0,.str f1])=Ja (l.set n ⟨f0,f1⟩):=JW l n (⟨f0,f1⟩:Key)
@[go_sem] theorem JIf(l:List Key)(f0:Int)(f1:List UInt8):Ja l++[.agg [.int .i64 f0,.str f1]]=Ja (l++[⟨f0,f1⟩]):=by rw[JV];rfl
@[go_sem] theorem Jk0:∀l:List Key,AV.flat.flatL (Ja l)=true
 | []=>rfl
 |_ :: r=>by simp only[VN,AV.flat.flatL,Jk0 r,JeE,AV.flat,Bool.and_self]
theorem Z4(x y:Key):x=y↔x.kind=y.kind∧x.name=y.name:=by cases x;cases y;simp
@[go_sem] theorem Jxn(x:Key):Key.mk x.kind x.name=x:=rfl
@[ext] structure Mark where
 k:Key
 ver:Int
 deriving Inhabited,DecidableEq
instance:Dat Mark where
 av x:=.agg [.int .i64 x.k.kind,.str x.k.name,.int .i64 x.ver]
 sz:=3
 len _:=rfl
 pure x:=by simp only[go_sem,Bool.and_self]
 nrm x:=by simp only[go_sem]
 one x:=by simp only[go_sem,List.all_cons,List.all_nil,Bool.and_self]
 known x:=rfl
@[go_sem] theorem JjK(x:Mark):Dat.av x=.agg [.int .i64 x.k.kind,.str x.k.name,.int .i64 x.ver]:=rfl
@[go_sem] theorem JKp:Dat.sz Mark=3:=rfl
@[go_sem] theorem JHC(l:List Mark)(n:Nat)(f0:Key)(f1:Int):(Ja l).set n (.agg [.int .i64 f0.kind,.str f0.name,.int .i64 f1])=Ja (l.set n ⟨f0,f1⟩):=JW l n (⟨f0,f1⟩:Mark)
@[go_sem] theorem JIg(l:List Mark)(f0:Key)(f1:Int):Ja l++[.agg [.int .i64 f0.kind,.str f0.name,.int .i64 f1]]=Ja (l++[⟨f0,f1⟩]):=by rw[JV];rfl
@[go_sem] theorem Jk1:∀l:List Mark,AV.flat.flatL (Ja l)=true
 | []=>rfl
 |_ :: r=>by simp only[VN,AV.flat.flatL,Jk1 r,JjK,AV.flat,Bool.and_self]
theorem JgT(x y:Mark):x=y↔x.k=y.k∧x.ver=y.ver:=by cases x;cases y;simp
@[go_sem] theorem Jxo(x:Mark):Mark.mk x.k x.ver=x:=rfl
@[ext] structure Frame where
 type:Int
 epoch:Int
 kind:Int
 nonce:Int
 turn:Int
 adds:List Res
 gone:List Key
 err:Int
 have':List Mark
 held:List Key
 deriving Inhabited,DecidableEq
instance:Dat Frame where
 av x:=.agg [.int .i64 x.type,.int .i64 x.epoch,.int .i64 x.kind,.int .i64 x.nonce,.int .i64 x.turn,.slice false (Ja x.adds),.slice false (Ja x.gone),.int .i64 x.err,.slice false (Ja x.have'),.slice false (Ja x.held)]
 sz:=10
 len _:=rfl
 pure x:=by simp only[go_sem,Bool.and_self]
 nrm x:=by simp only[go_sem]
 one x:=by simp only[go_sem,List.all_cons,List.all_nil,Bool.and_self]
 known x:=rfl
@[go_sem] theorem JtI(x:Frame):Dat.av x=.agg [.int .i64 x.type,.int .i64 x.epoch,.int .i64 x.kind,.int .i64 x.nonce,.int .i64 x.turn,.slice false (Ja x.adds),.slice false (Ja x.gone),.int .i64 x.err,.slice false (Ja x.have'),.slice false (Ja x.held)]:=rfl
@[go_sem] theorem JKk:Dat.sz Frame=10:=rfl
@[go_sem] theorem JHx(l:List Frame)(n:Nat)(f0:Int)(f1:Int)(f2:Int)(f3:Int)(f4:Int)(f5:List Res)(f6:List Key)(f7:Int)(f8:List Mark)(f9:List Key):(Ja l).set n (.agg [.int .i64 f0,.int .i64 f1,.int .i64 f2,.int .i64 f3,.int .i64 f4,.slice false (Ja f5),.slice false (Ja f6),.int .i64 f7,.slice false (Ja f8),.slice false (Ja f9)])=Ja (l.set n ⟨f0,f1,f2,f3,f4,f5,f6,f7,f8,f9⟩):=JW l n (⟨f0,f1,f2,f3,f4,f5,f6,f7,f8,f9⟩:Frame)
@[go_sem] theorem JIb(l:List Frame)(f0:Int)(f1:Int)(f2:Int)(f3:Int)(f4:Int)(f5:List Res)(f6:List Key)(f7:Int)(f8:List Mark)(f9:List Key):Ja l++[.agg [.int .i64 f0,.int .i64 f1,.int .i64 f2,.int .i64 f3,.int .i64 f4,.slice false (Ja f5),.slice false (Ja f6),.int .i64 f7,.slice false (Ja f8),.slice false (Ja f9)]]=Ja (l++[⟨f0,f1,f2,f3,f4,f5,f6,f7,f8,f9⟩]):=by rw[JV];rfl
theorem JkE(x y:Frame):x=y↔x.type=y.type∧x.epoch=y.epoch∧x.kind=y.kind∧x.nonce=y.nonce∧x.turn=y.turn∧x.adds=y.adds∧x.gone=y.gone∧x.err=y.err∧x.have'=y.have'∧x.held=y.held:=by cases x;cases y;simp
@[go_sem] theorem Jxk(x:Frame):Frame.mk x.type x.epoch x.kind x.nonce x.turn x.adds x.gone x.err x.have' x.held=x:=rfl
@[ext] structure Work where
 req:Req
 side:Side
 told:List Frame
 deriving Inhabited,DecidableEq
instance:Dat Work where
 av x:=.agg [.int .i64 x.req.a.port,.str x.req.a.host,.str x.req.a.path,.int .i64 x.req.a.first,.int .i64 x.req.a.other,.int .i64 x.req.stage,.int .i64 x.req.id,.str x.req.route,.str x.req.cluster,.int .i64 x.req.out.what,.str x.req.out.cluster,.int .i64 x.req.out.host,.int .i64 x.side.epoch,.int .i64 x.side.turn,.bool x.side.up,.int .i64 x.side.in'.last.a0,.int .i64 x.side.in'.last.a1,.int .i64 x.side.in'.last.a2,.int .i64 x.side.in'.last.a3,.int .i64 x.side.in'.max,.int .i64 x.side.errs.a0,.int .i64 x.side.errs.a1,.int .i64 x.side.errs.a2,.int .i64 x.side.errs.a3,.int .i64 x.side.w.c.cap,.slice false (Ja x.side.w.c.l),.bool x.side.w.ready,.slice false (Ja x.side.w.shown),.int .i64 x.side.p.next',.slice false (Ja x.side.p.snaps),.slice false (Ja x.told)]
 sz:=31
 len _:=rfl
 pure x:=by simp only[go_sem,Bool.and_self]
 nrm x:=by simp only[go_sem]
 one x:=by simp only[go_sem,List.all_cons,List.all_nil,Bool.and_self]
 known x:=rfl
@[go_sem] theorem JtQ(x:Work):Dat.av x=.agg [.int .i64 x.req.a.port,.str x.req.a.host,.str x.req.a.path,.int .i64 x.req.a.first,.int .i64 x.req.a.other,.int .i64 x.req.stage,.int .i64 x.req.id,.str x.req.route,.str x.req.cluster,.int .i64 x.req.out.what,.str x.req.out.cluster,.int .i64 x.req.out.host,.int .i64 x.side.epoch,.int .i64 x.side.turn,.bool x.side.up,.int .i64 x.side.in'.last.a0,.int .i64 x.side.in'.last.a1,.int .i64 x.side.in'.last.a2,.int .i64 x.side.in'.last.a3,.int .i64 x.side.in'.max,.int .i64 x.side.errs.a0,.int .i64 x.side.errs.a1,.int .i64 x.side.errs.a2,.int .i64 x.side.errs.a3,.int .i64 x.side.w.c.cap,.slice false (Ja x.side.w.c.l),.bool x.side.w.ready,.slice false (Ja x.side.w.shown),.int .i64 x.side.p.next',.slice false (Ja x.side.p.snaps),.slice false (Ja x.told)]:=rfl
@[go_sem] theorem JKA:Dat.sz Work=31:=rfl
@[go_sem] theorem JHP(l:List Work)(n:Nat)(f0:Req)(f1:Side)(f2:List Frame):(Ja l).set n (.agg [.int .i64 f0.a.port,.str f0.a.host,.str f0.a.path,.int .i64 f0.a.first,.int .i64 f0.a.other,.int .i64 f0.stage,.int .i64 f0.id,.str f0.route,.str f0.cluster,.int .i64 f0.out.what,.str f0.out.cluster,.int .i64 f0.out.host,.int .i64 f1.epoch,.int .i64 f1.turn,.bool f1.up,.int .i64 f1.in'.last.a0,.int .i64 f1.in'.last.a1,.int .i64 f1.in'.last.a2,.int .i64 f1.in'.last.a3,.int .i64 f1.in'.max,.int .i64 f1.errs.a0,.int .i64 f1.errs.a1,.int .i64 f1.errs.a2,.int .i64 f1.errs.a3,.int .i64 f1.w.c.cap,.slice false (Ja f1.w.c.l),.bool f1.w.ready,.slice false (Ja f1.w.shown),.int .i64 f1.p.next',.slice false (Ja f1.p.snaps),.slice false (Ja f2)])=Ja (l.set n ⟨f0,f1,f2⟩):=JW l n (⟨f0,f1,f2⟩:Work)
@[go_sem] theorem JIt(l:List Work)(f0:Req)(f1:Side)(f2:List Frame):Ja l++[.agg [.int .i64 f0.a.port,.str f0.a.host,.str f0.a.path,.int .i64 f0.a.first,.int .i64 f0.a.other,.int .i64 f0.stage,.int .i64 f0.id,.str f0.route,.str f0.cluster,.int .i64 f0.out.what,.str f0.out.cluster,.int .i64 f0.out.host,.int .i64 f1.epoch,.int .i64 f1.turn,.bool f1.up,.int .i64 f1.in'.last.a0,.int .i64 f1.in'.last.a1,.int .i64 f1.in'.last.a2,.int .i64 f1.in'.last.a3,.int .i64 f1.in'.max,.int .i64 f1.errs.a0,.int .i64 f1.errs.a1,.int .i64 f1.errs.a2,.int .i64 f1.errs.a3,.int .i64 f1.w.c.cap,.slice false (Ja f1.w.c.l),.bool f1.w.ready,.slice false (Ja f1.w.shown),.int .i64 f1.p.next',.slice false (Ja f1.p.snaps),.slice false (Ja f2)]]=Ja (l++[⟨f0,f1,f2⟩]):=by rw[JV];rfl
@[go_sem] theorem Jxz(x:Work):Work.mk x.req x.side x.told=x:=rfl
@[ext] structure Flags where
 a0:Bool
 a1:Bool
 a2:Bool
 a3:Bool
 deriving Inhabited,DecidableEq
instance:Dat Flags where
 av x:=.agg [.bool x.a0,.bool x.a1,.bool x.a2,.bool x.a3]
 sz:=4
 len _:=rfl
 pure x:=by simp only[go_sem,Bool.and_self]
 nrm x:=by simp only[go_sem]
 one x:=by simp only[go_sem,List.all_cons,List.all_nil,Bool.and_self]
 known x:=rfl
@[go_sem] theorem JjG(x:Flags):Dat.av x=.agg [.bool x.a0,.bool x.a1,.bool x.a2,.bool x.a3]:=rfl
@[go_sem] theorem JKi:Dat.sz Flags=4:=rfl
@[go_sem] theorem JHv(l:List Flags)(n:Nat)(f0:Bool)(f1:Bool)(f2:Bool)(f3:Bool):(Ja l).set n (.agg [.bool f0,.bool f1,.bool f2,.bool f3])=Ja (l.set n ⟨f0,f1,f2,f3⟩):=JW l n (⟨f0,f1,f2,f3⟩:Flags)
@[go_sem] theorem JH9(l:List Flags)(f0:Bool)(f1:Bool)(f2:Bool)(f3:Bool):Ja l++[.agg [.bool f0,.bool f1,.bool f2,.bool f3]]=Ja (l++[⟨f0,f1,f2,f3⟩]):=by rw[JV];rfl
@[go_sem] theorem JkV:∀l:List Flags,AV.flat.flatL (Ja l)=true
 | []=>rfl
 |_ :: r=>by simp only[VN,AV.flat.flatL,JkV r,JjG,AV.flat,Bool.and_self]
@[go_sem] theorem Jxi(x:Flags):Flags.mk x.a0 x.a1 x.a2 x.a3=x:=rfl
@[ext] structure Out where
 last:Four
 open':Flags
 max:Int
 deriving Inhabited,DecidableEq
instance:Dat Out where
 av x:=.agg [.int .i64 x.last.a0,.int .i64 x.last.a1,.int .i64 x.last.a2,.int .i64 x.last.a3,.bool x.open'.a0,.bool x.open'.a1,.bool x.open'.a2,.bool x.open'.a3,.int .i64 x.max]
 sz:=9
 len _:=rfl
 pure x:=by simp only[go_sem,Bool.and_self]
 nrm x:=by simp only[go_sem]
 one x:=by simp only[go_sem,List.all_cons,List.all_nil,Bool.and_self]
 known x:=rfl
@[go_sem] theorem JjL(x:Out):Dat.av x=.agg [.int .i64 x.last.a0,.int .i64 x.last.a1,.int .i64 x.last.a2,.int .i64 x.last.a3,.bool x.open'.a0,.bool x.open'.a1,.bool x.open'.a2,.bool x.open'.a3,.int .i64 x.max]:=rfl
@[go_sem] theorem JKr:Dat.sz Out=9:=rfl
@[go_sem] theorem JHE(l:List Out)(n:Nat)(f0:Four)(f1:Flags)(f2:Int):(Ja l).set n (.agg [.int .i64 f0.a0,.int .i64 f0.a1,.int .i64 f0.a2,.int .i64 f0.a3,.bool f1.a0,.bool f1.a1,.bool f1.a2,.bool f1.a3,.int .i64 f2])=Ja (l.set n ⟨f0,f1,f2⟩):=JW l n (⟨f0,f1,f2⟩:Out)
@[go_sem] theorem JIi(l:List Out)(f0:Four)(f1:Flags)(f2:Int):Ja l++[.agg [.int .i64 f0.a0,.int .i64 f0.a1,.int .i64 f0.a2,.int .i64 f0.a3,.bool f1.a0,.bool f1.a1,.bool f1.a2,.bool f1.a3,.int .i64 f2]]=Ja (l++[⟨f0,f1,f2⟩]):=by rw[JV];rfl
@[go_sem] theorem Jk2:∀l:List Out,AV.flat.flatL (Ja l)=true
 | []=>rfl
 |_ :: r=>by simp only[VN,AV.flat.flatL,Jk2 r,JjL,AV.flat,Bool.and_self]
@[go_sem] theorem Jxq(x:Out):Out.mk x.last x.open' x.max=x:=rfl
@[ext] structure Move where
 warm:Warm
 changed:Bool
 deriving Inhabited,DecidableEq
instance:Dat Move where
 av x:=.agg [.int .i64 x.warm.c.cap,.slice false (Ja x.warm.c.l),.bool x.warm.ready,.slice false (Ja x.warm.shown),.bool x.changed]
 sz:=5
 len _:=rfl
 pure x:=by simp only[go_sem,Bool.and_self]
 nrm x:=by simp only[go_sem]
 one x:=by simp only[go_sem,List.all_cons,List.all_nil,Bool.and_self]
 known x:=rfl
@[go_sem] theorem JtK(x:Move):Dat.av x=.agg [.int .i64 x.warm.c.cap,.slice false (Ja x.warm.c.l),.bool x.warm.ready,.slice false (Ja x.warm.shown),.bool x.changed]:=rfl
@[go_sem] theorem JKq:Dat.sz Move=5:=rfl
@[go_sem] theorem JHD(l:List Move)(n:Nat)(f0:Warm)(f1:Bool):(Ja l).set n (.agg [.int .i64 f0.c.cap,.slice false (Ja f0.c.l),.bool f0.ready,.slice false (Ja f0.shown),.bool f1])=Ja (l.set n ⟨f0,f1⟩):=JW l n (⟨f0,f1⟩:Move)
@[go_sem] theorem JIh(l:List Move)(f0:Warm)(f1:Bool):Ja l++[.agg [.int .i64 f0.c.cap,.slice false (Ja f0.c.l),.bool f0.ready,.slice false (Ja f0.shown),.bool f1]]=Ja (l++[⟨f0,f1⟩]):=by rw[JV];rfl
@[go_sem] theorem Jxp(x:Move):Move.mk x.warm x.changed=x:=rfl
@[ext] structure Bad where
 e:Int
 deriving Inhabited,DecidableEq
instance:Dat Bad where
 av x:=.agg [.int .i64 x.e]
 sz:=1
 len _:=rfl
 pure x:=by simp only[go_sem,Bool.and_self]
 nrm x:=by simp only[go_sem]
 one x:=by simp only[go_sem,List.all_cons,List.all_nil,Bool.and_self]
 known x:=rfl
@[go_sem] theorem JjE(x:Bad):Dat.av x=.agg [.int .i64 x.e]:=rfl
@[go_sem] theorem JKf:Dat.sz Bad=1:=rfl
@[go_sem] theorem JHr(l:List Bad)(n:Nat)(f0:Int):(Ja l).set n (.agg [.int .i64 f0])=Ja (l.set n ⟨f0⟩):=JW l n (⟨f0⟩:Bad)
@[go_sem] theorem JH5(l:List Bad)(f0:Int):Ja l++[.agg [.int .i64 f0]]=Ja (l++[⟨f0⟩]):=by rw[JV];rfl
@[go_sem] theorem JkT:∀l:List Bad,AV.flat.flatL (Ja l)=true
 | []=>rfl
 |_ :: r=>by simp only[VN,AV.flat.flatL,JkT r,JjE,AV.flat,Bool.and_self]
@[go_sem] theorem Jxf(x:Bad):Bad.mk x.e=x:=rfl
@[ext] structure Has where
 port:Bool
 to':Bool
 rules':Bool
 hosts:Bool
 deriving Inhabited,DecidableEq
instance:Dat Has where
 av x:=.agg [.bool x.port,.bool x.to',.bool x.rules',.bool x.hosts]
 sz:=4
 len _:=rfl
 pure x:=by simp only[go_sem,Bool.and_self]
 nrm x:=by simp only[go_sem]
 one x:=by simp only[go_sem,List.all_cons,List.all_nil,Bool.and_self]
 known x:=rfl
@[go_sem] theorem JjI(x:Has):Dat.av x=.agg [.bool x.port,.bool x.to',.bool x.rules',.bool x.hosts]:=rfl
@[go_sem] theorem JKl:Dat.sz Has=4:=rfl
@[go_sem] theorem JHy(l:List Has)(n:Nat)(f0:Bool)(f1:Bool)(f2:Bool)(f3:Bool):(Ja l).set n (.agg [.bool f0,.bool f1,.bool f2,.bool f3])=Ja (l.set n ⟨f0,f1,f2,f3⟩):=JW l n (⟨f0,f1,f2,f3⟩:Has)
@[go_sem] theorem JIc(l:List Has)(f0:Bool)(f1:Bool)(f2:Bool)(f3:Bool):Ja l++[.agg [.bool f0,.bool f1,.bool f2,.bool f3]]=Ja (l++[⟨f0,f1,f2,f3⟩]):=by rw[JV];rfl
@[go_sem] theorem JkX:∀l:List Has,AV.flat.flatL (Ja l)=true
 | []=>rfl
 |_ :: r=>by simp only[VN,AV.flat.flatL,JkX r,JjI,AV.flat,Bool.and_self]
@[go_sem] theorem Jxl(x:Has):Has.mk x.port x.to' x.rules' x.hosts=x:=rfl
@[ext] structure AcceptRange where
 lo:UInt8
 hi:UInt8
 deriving Inhabited,DecidableEq
instance:Dat AcceptRange where
 av x:=.agg [.int .u8 x.lo.toNat,.int .u8 x.hi.toNat]
 sz:=2
 len _:=rfl
 pure x:=by simp only[go_sem,Bool.and_self]
 nrm x:=by simp only[go_sem]
 one x:=by simp only[go_sem,List.all_cons,List.all_nil,Bool.and_self]
 known x:=rfl
@[go_sem] theorem JjB(x:AcceptRange):Dat.av x=.agg [.int .u8 x.lo.toNat,.int .u8 x.hi.toNat]:=rfl
@[go_sem] theorem JKc:Dat.sz AcceptRange=2:=rfl
@[go_sem] theorem JHo(l:List AcceptRange)(n:Nat)(f0:UInt8)(f1:UInt8):(Ja l).set n (.agg [.int .u8 f0.toNat,.int .u8 f1.toNat])=Ja (l.set n ⟨f0,f1⟩):=JW l n (⟨f0,f1⟩:AcceptRange)
@[go_sem] theorem JH2(l:List AcceptRange)(f0:UInt8)(f1:UInt8):Ja l++[.agg [.int .u8 f0.toNat,.int .u8 f1.toNat]]=Ja (l++[⟨f0,f1⟩]):=by rw[JV];rfl
@[go_sem] theorem JkQ:∀l:List AcceptRange,AV.flat.flatL (Ja l)=true
 | []=>rfl
 |_ :: r=>by simp only[VN,AV.flat.flatL,JkQ r,JjB,AV.flat,Bool.and_self]
@[go_sem] theorem Jxc(x:AcceptRange):AcceptRange.mk x.lo x.hi=x:=rfl
def Jf4(x:Ask):Prop:=Jc x.host.length∧Jc x.path.length
def Jf3(x:Answer):Prop:=Jc x.cluster.length
def Jjo(x:Req):Prop:=Jf4 x.a∧Jc x.route.length∧Jc x.cluster.length∧Jf3 x.out
def Jc2(x:Four):Prop:=True
def Jf6(x:In):Prop:=Jc2 x.last
def Jc4(x:Weight):Prop:=Jc x.cluster.length
def VC(x:Rule):Prop:=Jc x.host.length∧Jc x.pfx.length∧Jc x.split.length∧(∀y∈x.split,Jc4 y)
def JD(x:Res):Prop:=Jc x.name.length∧Jc x.to'.length∧Jc x.rules'.length∧(∀y∈x.rules',VC y)∧Jc x.hosts.length
def Jf5(x:Cache):Prop:=Jc x.l.length∧(∀y∈x.l,JD y)
def ZW(x:Warm):Prop:=Jf5 x.c∧Jc x.shown.length∧(∀y∈x.shown,JD y)
def V1(x:Snap):Prop:=Jc x.l.length∧(∀y∈x.l,JD y)
def Jf7(x:Pins):Prop:=Jc x.snaps.length∧(∀y∈x.snaps,V1 y)
def Jjp(x:Side):Prop:=Jf6 x.in'∧Jc2 x.errs∧ZW x.w∧Jf7 x.p
def Jc3(x:Key):Prop:=Jc x.name.length
def Jjn(x:Mark):Prop:=Jc3 x.k
def Zw(x:Frame):Prop:=Jc x.adds.length∧(∀y∈x.adds,JD y)∧Jc x.gone.length∧(∀y∈x.gone,Jc3 y)∧Jc x.have'.length∧(∀y∈x.have',Jjn y)∧Jc x.held.length∧(∀y∈x.held,Jc3 y)
end Go.Proofs.YthjalhfmpffbjaaGreatDoor.Lg
