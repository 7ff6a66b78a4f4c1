/- Parts of the proof, one behind the other. -/
import Derived.Test.YtihahfhagobnoaaGreatDoorProg
import Derived.Test.YtihahfhagobnoaaGreatDoorG02
namespace Go.Proofs.YtihahfhagobnoaaGreatDoor.Lg
open Go
set_option linter.unusedVariables false
set_option linter.unusedSimpArgs false
set_option maxRecDepth 100000
theorem Jd{i:Nat}{ti:TypeInfo}(h:Tryz.prog.types[i]?=some ti):Tryz.prog.info? i=some ti:=by
 have hlt:i<Tryz.prog.types.size:=(Array.getElem?_eq_some_iff.1 h).1
 simp only[Tables.info?,if_pos hlt,h]
def ty1:TyI:=⟨.func,1,8,[.nilf]⟩
theorem JoB:Jk Tryz.prog 1 ty1:=.inr ⟨Tryz.t1,Jd Tryz.type1,rfl,rfl,⟨_,rfl,rfl,rfl⟩,_,Tryz.underlying1,rfl⟩
theorem Jp5:Jl Tryz.prog 1 ty1:=.inr ⟨Tryz.t1,_,Jd Tryz.type1,rfl,rfl⟩
def ty2:TyI:=⟨.int .i64,1,8,[.int .i64 0]⟩
theorem Jo1:Jk Tryz.prog 2 ty2:=.inr ⟨Tryz.t2,Jd Tryz.type2,rfl,rfl,⟨_,rfl,rfl,rfl⟩,_,Tryz.underlying2,rfl⟩
theorem Jqv:Jl Tryz.prog 2 ty2:=.inr ⟨Tryz.t2,_,Jd Tryz.type2,rfl,rfl⟩
def ty3:TyI:=⟨.int .i64,1,8,[.int .i64 0]⟩
theorem Jpu:Jk Tryz.prog 3 ty3:=.inr ⟨Tryz.t3,Jd Tryz.type3,rfl,rfl,⟨_,rfl,rfl,rfl⟩,_,Tryz.underlying3,rfl⟩
theorem JqY:Jl Tryz.prog 3 ty3:=.inr ⟨Tryz.t3,_,Jd Tryz.type3,rfl,rfl⟩
def ty4:TyI:=⟨.bool,1,1,[.bool false]⟩
theorem JpC:Jk Tryz.prog 4 ty4:=.inr ⟨Tryz.t4,Jd Tryz.type4,rfl,rfl,⟨_,rfl,rfl,rfl⟩,_,Tryz.underlying4,rfl⟩
theorem Jq6:Jl Tryz.prog 4 ty4:=.inr ⟨Tryz.t4,_,Jd Tryz.type4,rfl,rfl⟩
def ty5:TyI:=⟨.int .u8,1,1,[.int .u8 0]⟩
theorem JpK:Jk Tryz.prog 5 ty5:=.inr ⟨Tryz.t5,Jd Tryz.type5,rfl,rfl,⟨_,rfl,rfl,rfl⟩,_,Tryz.underlying5,rfl⟩
theorem Jre:Jl Tryz.prog 5 ty5:=.inr ⟨Tryz.t5,_,Jd Tryz.type5,rfl,rfl⟩
def ty6:TyI:=⟨.int .u8,1,1,[.int .u8 0]⟩
theorem JpQ:Jk Tryz.prog 6 ty6:=.inr ⟨Tryz.t6,Jd Tryz.type6,rfl,rfl,⟨_,rfl,rfl,rfl⟩,_,Tryz.underlying6,rfl⟩
theorem Jrk:Jl Tryz.prog 6 ty6:=.inr ⟨Tryz.t6,_,Jd Tryz.type6,rfl,rfl⟩
def ty7 : TyI := ⟨.struct [(0, 2, "x"), (1, 3, "y"), (2, 4, "signed"), (3, 6, "code")], 4, 24, [.int .i64 0, .int .i64 0, .bool false, .int .u8 0]⟩
theorem JpS:Jk Tryz.prog 7 ty7:=.inr ⟨Tryz.t7,Jd Tryz.type7,rfl,rfl,⟨_,rfl,rfl,rfl⟩,_,Tryz.underlying7,rfl⟩
theorem Jrm:Jl Tryz.prog 7 ty7:=.inr ⟨Tryz.t7,_,Jd Tryz.type7,rfl,rfl⟩
def ty8 : TyI := ⟨.struct [(0, 2, "x"), (1, 3, "y"), (2, 4, "signed"), (3, 6, "code")], 4, 24, [.int .i64 0, .int .i64 0, .bool false, .int .u8 0]⟩
theorem JpW:Jk Tryz.prog 8 ty8:=.inr ⟨Tryz.t8,Jd Tryz.type8,rfl,rfl,⟨_,rfl,rfl,rfl⟩,_,Tryz.underlying8,rfl⟩
theorem Jrq:Jl Tryz.prog 8 ty8:=.inr ⟨Tryz.t8,_,Jd Tryz.type8,rfl,rfl⟩
def ty9:TyI:=⟨.str,1,16,[.str []]⟩
theorem Jp0:Jk Tryz.prog 9 ty9:=.inr ⟨Tryz.t9,Jd Tryz.type9,rfl,rfl,⟨_,rfl,rfl,rfl⟩,_,Tryz.underlying9,rfl⟩
theorem Jru:Jl Tryz.prog 9 ty9:=.inr ⟨Tryz.t9,_,Jd Tryz.type9,rfl,rfl⟩
def ty10:TyI:=⟨.str,1,16,[.str []]⟩
theorem JoC:Jk Tryz.prog 10 ty10:=.inr ⟨Tryz.t10,Jd Tryz.type10,rfl,rfl,⟨_,rfl,rfl,rfl⟩,_,Tryz.underlying10,rfl⟩
theorem Jp6:Jl Tryz.prog 10 ty10:=.inr ⟨Tryz.t10,_,Jd Tryz.type10,rfl,rfl⟩
def ty12:TyI:=⟨.int .u64,1,8,[.int .u64 0]⟩
theorem JoG:Jk Tryz.prog 12 ty12:=.inr ⟨Tryz.t12,Jd Tryz.type12,rfl,rfl,⟨_,rfl,rfl,rfl⟩,_,Tryz.underlying12,rfl⟩
theorem Jqa:Jl Tryz.prog 12 ty12:=.inr ⟨Tryz.t12,_,Jd Tryz.type12,rfl,rfl⟩
def ty13 : TyI := ⟨.struct [(0, 9, "msg"), (1, 12, "addr")], 2, 24, [.str [], .int .u64 0]⟩
theorem JoH:Jk Tryz.prog 13 ty13:=.inr ⟨Tryz.t13,Jd Tryz.type13,rfl,rfl,⟨_,rfl,rfl,rfl⟩,_,Tryz.underlying13,rfl⟩
theorem Jqb:Jl Tryz.prog 13 ty13:=.inr ⟨Tryz.t13,_,Jd Tryz.type13,rfl,rfl⟩
def ty15:TyI:=⟨.ptr 269,1,8,[.nilp]⟩
theorem JoN:Jk Tryz.prog 15 ty15:=.inr ⟨Tryz.t15,Jd Tryz.type15,rfl,rfl,⟨_,rfl,rfl,rfl⟩,_,Tryz.underlying15,rfl⟩
theorem Jqh:Jl Tryz.prog 15 ty15:=.inr ⟨Tryz.t15,_,Jd Tryz.type15,rfl,rfl⟩
def ty16:TyI:=⟨.ptr 272,1,8,[.nilp]⟩
theorem JoQ:Jk Tryz.prog 16 ty16:=.inr ⟨Tryz.t16,Jd Tryz.type16,rfl,rfl,⟨_,rfl,rfl,rfl⟩,_,Tryz.underlying16,rfl⟩
theorem Jqk:Jl Tryz.prog 16 ty16:=.inr ⟨Tryz.t16,_,Jd Tryz.type16,rfl,rfl⟩
def ty17:TyI:=⟨.ptr 280,1,8,[.nilp]⟩
theorem JoU:Jk Tryz.prog 17 ty17:=.inr ⟨Tryz.t17,Jd Tryz.type17,rfl,rfl,⟨_,rfl,rfl,rfl⟩,_,Tryz.underlying17,rfl⟩
theorem Jqo:Jl Tryz.prog 17 ty17:=.inr ⟨Tryz.t17,_,Jd Tryz.type17,rfl,rfl⟩
def ty21:TyI:=⟨.int .i32,1,4,[.int .i32 0]⟩
theorem Jo3:Jk Tryz.prog 21 ty21:=.inr ⟨Tryz.t21,Jd Tryz.type21,rfl,rfl,⟨_,rfl,rfl,rfl⟩,_,Tryz.underlying21,rfl⟩
theorem Jqx:Jl Tryz.prog 21 ty21:=.inr ⟨Tryz.t21,_,Jd Tryz.type21,rfl,rfl⟩
def ty22:TyI:=⟨.array 4 3,4,32,[.int .i64 0,.int .i64 0,.int .i64 0,.int .i64 0]⟩
theorem Jo8:Jk Tryz.prog 22 ty22:=.inr ⟨Tryz.t22,Jd Tryz.type22,rfl,rfl,⟨_,rfl,rfl,rfl⟩,_,Tryz.underlying22,rfl⟩
theorem JqC:Jl Tryz.prog 22 ty22:=.inr ⟨Tryz.t22,_,Jd Tryz.type22,rfl,rfl⟩
def ty24 : TyI := ⟨.struct [(0, 22, "Last"), (4, 3, "Max")], 5, 40, [.int .i64 0, .int .i64 0, .int .i64 0, .int .i64 0, .int .i64 0]⟩
theorem Jpe:Jk Tryz.prog 24 ty24:=.inr ⟨Tryz.t24,Jd Tryz.type24,rfl,rfl,⟨_,rfl,rfl,rfl⟩,_,Tryz.underlying24,rfl⟩
theorem JqI:Jl Tryz.prog 24 ty24:=.inr ⟨Tryz.t24,_,Jd Tryz.type24,rfl,rfl⟩
def ty25:TyI:=⟨.int .i64,1,8,[.int .i64 0]⟩
theorem Jpg:Jk Tryz.prog 25 ty25:=.inr ⟨Tryz.t25,Jd Tryz.type25,rfl,rfl,⟨_,rfl,rfl,rfl⟩,_,Tryz.underlying25,rfl⟩
theorem JqK:Jl Tryz.prog 25 ty25:=.inr ⟨Tryz.t25,_,Jd Tryz.type25,rfl,rfl⟩
def ty26:TyI:=⟨.array 4 25,4,32,[.int .i64 0,.int .i64 0,.int .i64 0,.int .i64 0]⟩
theorem Jph:Jk Tryz.prog 26 ty26:=.inr ⟨Tryz.t26,Jd Tryz.type26,rfl,rfl,⟨_,rfl,rfl,rfl⟩,_,Tryz.underlying26,rfl⟩
theorem JqL:Jl Tryz.prog 26 ty26:=.inr ⟨Tryz.t26,_,Jd Tryz.type26,rfl,rfl⟩
def ty27:TyI:=⟨.slice 87,1,24,[.slice true []]⟩
theorem Jpj:Jk Tryz.prog 27 ty27:=.inr ⟨Tryz.t27,Jd Tryz.type27,rfl,rfl,⟨_,rfl,rfl,rfl⟩,_,Tryz.underlying27,rfl⟩
theorem JqN:Jl Tryz.prog 27 ty27:=.inr ⟨Tryz.t27,_,Jd Tryz.type27,rfl,rfl⟩
def ty29 : TyI := ⟨.struct [(0, 3, "Cap"), (1, 27, "L")], 2, 32, [.int .i64 0, .slice true []]⟩
theorem Jpt:Jk Tryz.prog 29 ty29:=.inr ⟨Tryz.t29,Jd Tryz.type29,rfl,rfl,⟨_,rfl,rfl,rfl⟩,_,Tryz.underlying29,rfl⟩
theorem JqX:Jl Tryz.prog 29 ty29:=.inr ⟨Tryz.t29,_,Jd Tryz.type29,rfl,rfl⟩
def ty31 : TyI := ⟨.struct [(0, 29, "C"), (2, 4, "Ready"), (3, 27, "Shown")], 4, 64, [.int .i64 0, .slice true [], .bool false, .slice true []]⟩
theorem Jpv:Jk Tryz.prog 31 ty31:=.inr ⟨Tryz.t31,Jd Tryz.type31,rfl,rfl,⟨_,rfl,rfl,rfl⟩,_,Tryz.underlying31,rfl⟩
theorem JqZ:Jl Tryz.prog 31 ty31:=.inr ⟨Tryz.t31,_,Jd Tryz.type31,rfl,rfl⟩
def ty32:TyI:=⟨.slice 141,1,24,[.slice true []]⟩
theorem Jpw:Jk Tryz.prog 32 ty32:=.inr ⟨Tryz.t32,Jd Tryz.type32,rfl,rfl,⟨_,rfl,rfl,rfl⟩,_,Tryz.underlying32,rfl⟩
theorem Jq0:Jl Tryz.prog 32 ty32:=.inr ⟨Tryz.t32,_,Jd Tryz.type32,rfl,rfl⟩
def ty34 : TyI := ⟨.struct [(0, 3, "Next"), (1, 32, "Snaps")], 2, 32, [.int .i64 0, .slice true []]⟩
theorem Jpx:Jk Tryz.prog 34 ty34:=.inr ⟨Tryz.t34,Jd Tryz.type34,rfl,rfl,⟨_,rfl,rfl,rfl⟩,_,Tryz.underlying34,rfl⟩
theorem Jq1:Jl Tryz.prog 34 ty34:=.inr ⟨Tryz.t34,_,Jd Tryz.type34,rfl,rfl⟩
def ty35 : TyI := ⟨.struct [(0, 3, "Epoch"), (1, 3, "Turn"), (2, 4, "Up"), (3, 24, "In"), (8, 26, "Errs"), (12, 31, "W"), (16, 34, "P")], 18, 192, [.int .i64 0, .int .i64 0, .bool false, .int .i64 0, .int .i64 0, .int .i64 0, .int .i64 0, .int .i64 0, .int .i64 0, .int .i64 0, .int .i64 0, .int .i64 0, .int .i64 0, .slice true [], .bool false, .slice true [], .int .i64 0, .slice true []]⟩
theorem Jpy:Jk Tryz.prog 35 ty35:=.inr ⟨Tryz.t35,Jd Tryz.type35,rfl,rfl,⟨_,rfl,rfl,rfl⟩,_,Tryz.underlying35,rfl⟩
theorem Jq2:Jl Tryz.prog 35 ty35:=.inr ⟨Tryz.t35,_,Jd Tryz.type35,rfl,rfl⟩
def ty36 : TyI := ⟨.struct [(0, 3, "Epoch"), (1, 3, "Turn"), (2, 4, "Up"), (3, 24, "In"), (8, 26, "Errs"), (12, 31, "W"), (16, 34, "P")], 18, 192, [.int .i64 0, .int .i64 0, .bool false, .int .i64 0, .int .i64 0, .int .i64 0, .int .i64 0, .int .i64 0, .int .i64 0, .int .i64 0, .int .i64 0, .int .i64 0, .int .i64 0, .slice true [], .bool false, .slice true [], .int .i64 0, .slice true []]⟩
theorem Jpz:Jk Tryz.prog 36 ty36:=.inr ⟨Tryz.t36,Jd Tryz.type36,rfl,rfl,⟨_,rfl,rfl,rfl⟩,_,Tryz.underlying36,rfl⟩
theorem Jq3:Jl Tryz.prog 36 ty36:=.inr ⟨Tryz.t36,_,Jd Tryz.type36,rfl,rfl⟩
def ty37:TyI:=⟨.slice 90,1,24,[.slice true []]⟩
theorem JpA:Jk Tryz.prog 37 ty37:=.inr ⟨Tryz.t37,Jd Tryz.type37,rfl,rfl,⟨_,rfl,rfl,rfl⟩,_,Tryz.underlying37,rfl⟩
theorem Jq4:Jl Tryz.prog 37 ty37:=.inr ⟨Tryz.t37,_,Jd Tryz.type37,rfl,rfl⟩
def ty38:TyI:=⟨.slice 92,1,24,[.slice true []]⟩
theorem JpB:Jk Tryz.prog 38 ty38:=.inr ⟨Tryz.t38,Jd Tryz.type38,rfl,rfl,⟨_,rfl,rfl,rfl⟩,_,Tryz.underlying38,rfl⟩
theorem Jq5:Jl Tryz.prog 38 ty38:=.inr ⟨Tryz.t38,_,Jd Tryz.type38,rfl,rfl⟩
def ty40 : TyI := ⟨.struct [(0, 3, "Type"), (1, 3, "Epoch"), (2, 3, "Kind"), (3, 3, "Nonce"), (4, 3, "Turn"), (5, 27, "Adds"), (6, 37, "Gone"), (7, 25, "Err"), (8, 38, "Have"), (9, 37, "Held")], 10, 144, [.int .i64 0, .int .i64 0, .int .i64 0, .int .i64 0, .int .i64 0, .slice true [], .slice true [], .int .i64 0, .slice true [], .slice true []]⟩
theorem JpD:Jk Tryz.prog 40 ty40:=.inr ⟨Tryz.t40,Jd Tryz.type40,rfl,rfl,⟨_,rfl,rfl,rfl⟩,_,Tryz.underlying40,rfl⟩
theorem Jq7:Jl Tryz.prog 40 ty40:=.inr ⟨Tryz.t40,_,Jd Tryz.type40,rfl,rfl⟩
def ty43:TyI:=⟨.func,1,8,[.nilf]⟩
theorem JpE:Jk Tryz.prog 43 ty43:=.inr ⟨Tryz.t43,Jd Tryz.type43,rfl,rfl,⟨_,rfl,rfl,rfl⟩,_,Tryz.underlying43,rfl⟩
theorem Jq8:Jl Tryz.prog 43 ty43:=.inr ⟨Tryz.t43,_,Jd Tryz.type43,rfl,rfl⟩
def ty45 : TyI := ⟨.struct [(0, 22, "Last"), (4, 3, "Max")], 5, 40, [.int .i64 0, .int .i64 0, .int .i64 0, .int .i64 0, .int .i64 0]⟩
theorem JpF:Jk Tryz.prog 45 ty45:=.inr ⟨Tryz.t45,Jd Tryz.type45,rfl,rfl,⟨_,rfl,rfl,rfl⟩,_,Tryz.underlying45,rfl⟩
theorem Jq9:Jl Tryz.prog 45 ty45:=.inr ⟨Tryz.t45,_,Jd Tryz.type45,rfl,rfl⟩
def ty46 : TyI := ⟨.struct [(0, 3, "Cap"), (1, 27, "L")], 2, 32, [.int .i64 0, .slice true []]⟩
theorem JpG:Jk Tryz.prog 46 ty46:=.inr ⟨Tryz.t46,Jd Tryz.type46,rfl,rfl,⟨_,rfl,rfl,rfl⟩,_,Tryz.underlying46,rfl⟩
theorem Jra:Jl Tryz.prog 46 ty46:=.inr ⟨Tryz.t46,_,Jd Tryz.type46,rfl,rfl⟩
def ty47 : TyI := ⟨.struct [(0, 46, "C"), (2, 4, "Ready"), (3, 27, "Shown")], 4, 64, [.int .i64 0, .slice true [], .bool false, .slice true []]⟩
theorem JpH:Jk Tryz.prog 47 ty47:=.inr ⟨Tryz.t47,Jd Tryz.type47,rfl,rfl,⟨_,rfl,rfl,rfl⟩,_,Tryz.underlying47,rfl⟩
theorem Jrb:Jl Tryz.prog 47 ty47:=.inr ⟨Tryz.t47,_,Jd Tryz.type47,rfl,rfl⟩
def ty48 : TyI := ⟨.struct [(0, 46, "C"), (2, 4, "Ready"), (3, 27, "Shown")], 4, 64, [.int .i64 0, .slice true [], .bool false, .slice true []]⟩
theorem JpI:Jk Tryz.prog 48 ty48:=.inr ⟨Tryz.t48,Jd Tryz.type48,rfl,rfl,⟨_,rfl,rfl,rfl⟩,_,Tryz.underlying48,rfl⟩
theorem Jrc:Jl Tryz.prog 48 ty48:=.inr ⟨Tryz.t48,_,Jd Tryz.type48,rfl,rfl⟩
def ty49:TyI:=⟨.slice 81,1,24,[.slice true []]⟩
theorem JpJ:Jk Tryz.prog 49 ty49:=.inr ⟨Tryz.t49,Jd Tryz.type49,rfl,rfl,⟨_,rfl,rfl,rfl⟩,_,Tryz.underlying49,rfl⟩
theorem Jrd:Jl Tryz.prog 49 ty49:=.inr ⟨Tryz.t49,_,Jd Tryz.type49,rfl,rfl⟩
def ty51 : TyI := ⟨.struct [(0, 3, "Next"), (1, 49, "Snaps")], 2, 32, [.int .i64 0, .slice true []]⟩
theorem JpL:Jk Tryz.prog 51 ty51:=.inr ⟨Tryz.t51,Jd Tryz.type51,rfl,rfl,⟨_,rfl,rfl,rfl⟩,_,Tryz.underlying51,rfl⟩
theorem Jrf:Jl Tryz.prog 51 ty51:=.inr ⟨Tryz.t51,_,Jd Tryz.type51,rfl,rfl⟩
def ty53 : TyI := ⟨.struct [(0, 3, "Epoch"), (1, 3, "Turn"), (2, 4, "Up"), (3, 45, "In"), (8, 26, "Errs"), (12, 48, "W"), (16, 51, "P")], 18, 192, [.int .i64 0, .int .i64 0, .bool false, .int .i64 0, .int .i64 0, .int .i64 0, .int .i64 0, .int .i64 0, .int .i64 0, .int .i64 0, .int .i64 0, .int .i64 0, .int .i64 0, .slice true [], .bool false, .slice true [], .int .i64 0, .slice true []]⟩
theorem JpM:Jk Tryz.prog 53 ty53:=.inr ⟨Tryz.t53,Jd Tryz.type53,rfl,rfl,⟨_,rfl,rfl,rfl⟩,_,Tryz.underlying53,rfl⟩
theorem Jrg:Jl Tryz.prog 53 ty53:=.inr ⟨Tryz.t53,_,Jd Tryz.type53,rfl,rfl⟩
def ty55:TyI:=⟨.slice 60,1,24,[.slice true []]⟩
theorem JpN:Jk Tryz.prog 55 ty55:=.inr ⟨Tryz.t55,Jd Tryz.type55,rfl,rfl,⟨_,rfl,rfl,rfl⟩,_,Tryz.underlying55,rfl⟩
theorem Jrh:Jl Tryz.prog 55 ty55:=.inr ⟨Tryz.t55,_,Jd Tryz.type55,rfl,rfl⟩
def ty58:TyI:=⟨.slice 110,1,24,[.slice true []]⟩
theorem JpO:Jk Tryz.prog 58 ty58:=.inr ⟨Tryz.t58,Jd Tryz.type58,rfl,rfl,⟨_,rfl,rfl,rfl⟩,_,Tryz.underlying58,rfl⟩
theorem Jri:Jl Tryz.prog 58 ty58:=.inr ⟨Tryz.t58,_,Jd Tryz.type58,rfl,rfl⟩
def ty59 : TyI := ⟨.struct [(0, 3, "Type"), (1, 3, "Epoch"), (2, 3, "Kind"), (3, 3, "Nonce"), (4, 3, "Turn"), (5, 27, "Adds"), (6, 37, "Gone"), (7, 25, "Err"), (8, 58, "Have"), (9, 37, "Held")], 10, 144, [.int .i64 0, .int .i64 0, .int .i64 0, .int .i64 0, .int .i64 0, .slice true [], .slice true [], .int .i64 0, .slice true [], .slice true []]⟩
theorem JpP:Jk Tryz.prog 59 ty59:=.inr ⟨Tryz.t59,Jd Tryz.type59,rfl,rfl,⟨_,rfl,rfl,rfl⟩,_,Tryz.underlying59,rfl⟩
theorem Jrj:Jl Tryz.prog 59 ty59:=.inr ⟨Tryz.t59,_,Jd Tryz.type59,rfl,rfl⟩
def ty60 : TyI := ⟨.struct [(0, 3, "Type"), (1, 3, "Epoch"), (2, 3, "Kind"), (3, 3, "Nonce"), (4, 3, "Turn"), (5, 27, "Adds"), (6, 37, "Gone"), (7, 25, "Err"), (8, 58, "Have"), (9, 37, "Held")], 10, 144, [.int .i64 0, .int .i64 0, .int .i64 0, .int .i64 0, .int .i64 0, .slice true [], .slice true [], .int .i64 0, .slice true [], .slice true []]⟩
theorem JpR:Jk Tryz.prog 60 ty60:=.inr ⟨Tryz.t60,Jd Tryz.type60,rfl,rfl,⟨_,rfl,rfl,rfl⟩,_,Tryz.underlying60,rfl⟩
theorem Jrl:Jl Tryz.prog 60 ty60:=.inr ⟨Tryz.t60,_,Jd Tryz.type60,rfl,rfl⟩
def ty74:TyI:=⟨.slice 3,1,24,[.slice true []]⟩
theorem JpT:Jk Tryz.prog 74 ty74:=.inr ⟨Tryz.t74,Jd Tryz.type74,rfl,rfl,⟨_,rfl,rfl,rfl⟩,_,Tryz.underlying74,rfl⟩
theorem Jrn:Jl Tryz.prog 74 ty74:=.inr ⟨Tryz.t74,_,Jd Tryz.type74,rfl,rfl⟩
def ty75:TyI:=⟨.slice 27,1,24,[.slice true []]⟩
theorem JpU:Jk Tryz.prog 75 ty75:=.inr ⟨Tryz.t75,Jd Tryz.type75,rfl,rfl,⟨_,rfl,rfl,rfl⟩,_,Tryz.underlying75,rfl⟩
theorem Jro:Jl Tryz.prog 75 ty75:=.inr ⟨Tryz.t75,_,Jd Tryz.type75,rfl,rfl⟩
def ty76:TyI:=⟨.int .u64,1,8,[.int .u64 0]⟩
theorem JpV:Jk Tryz.prog 76 ty76:=.inr ⟨Tryz.t76,Jd Tryz.type76,rfl,rfl,⟨_,rfl,rfl,rfl⟩,_,Tryz.underlying76,rfl⟩
theorem Jrp:Jl Tryz.prog 76 ty76:=.inr ⟨Tryz.t76,_,Jd Tryz.type76,rfl,rfl⟩
def ty81 : TyI := ⟨.struct [(0, 3, "Id"), (1, 3, "Pins"), (2, 27, "L")], 3, 40, [.int .i64 0, .int .i64 0, .slice true []]⟩
theorem JpX:Jk Tryz.prog 81 ty81:=.inr ⟨Tryz.t81,Jd Tryz.type81,rfl,rfl,⟨_,rfl,rfl,rfl⟩,_,Tryz.underlying81,rfl⟩
theorem Jrr:Jl Tryz.prog 81 ty81:=.inr ⟨Tryz.t81,_,Jd Tryz.type81,rfl,rfl⟩
def ty85:TyI:=⟨.slice 168,1,24,[.slice true []]⟩
theorem JpY:Jk Tryz.prog 85 ty85:=.inr ⟨Tryz.t85,Jd Tryz.type85,rfl,rfl,⟨_,rfl,rfl,rfl⟩,_,Tryz.underlying85,rfl⟩
theorem Jrs:Jl Tryz.prog 85 ty85:=.inr ⟨Tryz.t85,_,Jd Tryz.type85,rfl,rfl⟩
def ty87 : TyI := ⟨.struct [(0, 3, "Kind"), (1, 9, "Name"), (2, 3, "Ver"), (3, 3, "Port"), (4, 9, "To"), (5, 85, "Rules"), (6, 74, "Hosts")], 7, 104, [.int .i64 0, .str [], .int .i64 0, .int .i64 0, .str [], .slice true [], .slice true []]⟩
theorem JpZ:Jk Tryz.prog 87 ty87:=.inr ⟨Tryz.t87,Jd Tryz.type87,rfl,rfl,⟨_,rfl,rfl,rfl⟩,_,Tryz.underlying87,rfl⟩
theorem Jrt:Jl Tryz.prog 87 ty87:=.inr ⟨Tryz.t87,_,Jd Tryz.type87,rfl,rfl⟩
def ty90 : TyI := ⟨.struct [(0, 3, "Kind"), (1, 9, "Name")], 2, 24, [.int .i64 0, .str []]⟩
theorem Jp1:Jk Tryz.prog 90 ty90:=.inr ⟨Tryz.t90,Jd Tryz.type90,rfl,rfl,⟨_,rfl,rfl,rfl⟩,_,Tryz.underlying90,rfl⟩
theorem Jrv:Jl Tryz.prog 90 ty90:=.inr ⟨Tryz.t90,_,Jd Tryz.type90,rfl,rfl⟩
def ty92 : TyI := ⟨.struct [(0, 90, "K"), (2, 3, "Ver")], 3, 32, [.int .i64 0, .str [], .int .i64 0]⟩
theorem Jp2:Jk Tryz.prog 92 ty92:=.inr ⟨Tryz.t92,Jd Tryz.type92,rfl,rfl,⟨_,rfl,rfl,rfl⟩,_,Tryz.underlying92,rfl⟩
theorem Jrw:Jl Tryz.prog 92 ty92:=.inr ⟨Tryz.t92,_,Jd Tryz.type92,rfl,rfl⟩
def ty95:TyI:=⟨.slice 25,1,24,[.slice true []]⟩
theorem Jp3:Jk Tryz.prog 95 ty95:=.inr ⟨Tryz.t95,Jd Tryz.type95,rfl,rfl,⟨_,rfl,rfl,rfl⟩,_,Tryz.underlying95,rfl⟩
theorem Jrx:Jl Tryz.prog 95 ty95:=.inr ⟨Tryz.t95,_,Jd Tryz.type95,rfl,rfl⟩
def ty96:TyI:=⟨.func,1,8,[.nilf]⟩
theorem Jp4:Jk Tryz.prog 96 ty96:=.inr ⟨Tryz.t96,Jd Tryz.type96,rfl,rfl,⟨_,rfl,rfl,rfl⟩,_,Tryz.underlying96,rfl⟩
theorem Jry:Jl Tryz.prog 96 ty96:=.inr ⟨Tryz.t96,_,Jd Tryz.type96,rfl,rfl⟩
def ty105:TyI:=⟨.func,1,8,[.nilf]⟩
theorem JoD:Jk Tryz.prog 105 ty105:=.inr ⟨Tryz.t105,Jd Tryz.type105,rfl,rfl,⟨_,rfl,rfl,rfl⟩,_,Tryz.underlying105,rfl⟩
theorem Jp7:Jl Tryz.prog 105 ty105:=.inr ⟨Tryz.t105,_,Jd Tryz.type105,rfl,rfl⟩
def ty110 : TyI := ⟨.struct [(0, 90, "K"), (2, 3, "Ver")], 3, 32, [.int .i64 0, .str [], .int .i64 0]⟩
theorem JoE:Jk Tryz.prog 110 ty110:=.inr ⟨Tryz.t110,Jd Tryz.type110,rfl,rfl,⟨_,rfl,rfl,rfl⟩,_,Tryz.underlying110,rfl⟩
theorem Jp8:Jl Tryz.prog 110 ty110:=.inr ⟨Tryz.t110,_,Jd Tryz.type110,rfl,rfl⟩
def ty116:TyI:=⟨.func,1,8,[.nilf]⟩
theorem JoF:Jk Tryz.prog 116 ty116:=.inr ⟨Tryz.t116,Jd Tryz.type116,rfl,rfl,⟨_,rfl,rfl,rfl⟩,_,Tryz.underlying116,rfl⟩
theorem Jp9:Jl Tryz.prog 116 ty116:=.inr ⟨Tryz.t116,_,Jd Tryz.type116,rfl,rfl⟩
def ty132:TyI:=⟨.map 90 4,1,8,[.nilm]⟩
theorem JoI:Jk Tryz.prog 132 ty132:=.inr ⟨Tryz.t132,Jd Tryz.type132,rfl,rfl,⟨_,rfl,rfl,rfl⟩,_,Tryz.underlying132,rfl⟩
theorem Jqc:Jl Tryz.prog 132 ty132:=.inr ⟨Tryz.t132,_,Jd Tryz.type132,rfl,rfl⟩
def ty136:TyI:=⟨.func,1,8,[.nilf]⟩
theorem JoJ:Jk Tryz.prog 136 ty136:=.inr ⟨Tryz.t136,Jd Tryz.type136,rfl,rfl,⟨_,rfl,rfl,rfl⟩,_,Tryz.underlying136,rfl⟩
theorem Jqd:Jl Tryz.prog 136 ty136:=.inr ⟨Tryz.t136,_,Jd Tryz.type136,rfl,rfl⟩
def ty139:TyI:=⟨.func,1,8,[.nilf]⟩
theorem JoK:Jk Tryz.prog 139 ty139:=.inr ⟨Tryz.t139,Jd Tryz.type139,rfl,rfl,⟨_,rfl,rfl,rfl⟩,_,Tryz.underlying139,rfl⟩
theorem Jqe:Jl Tryz.prog 139 ty139:=.inr ⟨Tryz.t139,_,Jd Tryz.type139,rfl,rfl⟩
def ty140:TyI:=⟨.func,1,8,[.nilf]⟩
theorem JoL:Jk Tryz.prog 140 ty140:=.inr ⟨Tryz.t140,Jd Tryz.type140,rfl,rfl,⟨_,rfl,rfl,rfl⟩,_,Tryz.underlying140,rfl⟩
theorem Jqf:Jl Tryz.prog 140 ty140:=.inr ⟨Tryz.t140,_,Jd Tryz.type140,rfl,rfl⟩
def ty141 : TyI := ⟨.struct [(0, 3, "Id"), (1, 3, "Pins"), (2, 27, "L")], 3, 40, [.int .i64 0, .int .i64 0, .slice true []]⟩
theorem JoM:Jk Tryz.prog 141 ty141:=.inr ⟨Tryz.t141,Jd Tryz.type141,rfl,rfl,⟨_,rfl,rfl,rfl⟩,_,Tryz.underlying141,rfl⟩
theorem Jqg:Jl Tryz.prog 141 ty141:=.inr ⟨Tryz.t141,_,Jd Tryz.type141,rfl,rfl⟩
def ty153:TyI:=⟨.array 4 4,4,4,[.bool false,.bool false,.bool false,.bool false]⟩
theorem JoO:Jk Tryz.prog 153 ty153:=.inr ⟨Tryz.t153,Jd Tryz.type153,rfl,rfl,⟨_,rfl,rfl,rfl⟩,_,Tryz.underlying153,rfl⟩
theorem Jqi:Jl Tryz.prog 153 ty153:=.inr ⟨Tryz.t153,_,Jd Tryz.type153,rfl,rfl⟩
def ty155 : TyI := ⟨.struct [(0, 22, "Last"), (4, 153, "Open"), (8, 3, "Max")], 9, 48, [.int .i64 0, .int .i64 0, .int .i64 0, .int .i64 0, .bool false, .bool false, .bool false, .bool false, .int .i64 0]⟩
theorem JoP:Jk Tryz.prog 155 ty155:=.inr ⟨Tryz.t155,Jd Tryz.type155,rfl,rfl,⟨_,rfl,rfl,rfl⟩,_,Tryz.underlying155,rfl⟩
theorem Jqj:Jl Tryz.prog 155 ty155:=.inr ⟨Tryz.t155,_,Jd Tryz.type155,rfl,rfl⟩
def ty161:TyI:=⟨.map 3 4,1,8,[.nilm]⟩
theorem JoR:Jk Tryz.prog 161 ty161:=.inr ⟨Tryz.t161,Jd Tryz.type161,rfl,rfl,⟨_,rfl,rfl,rfl⟩,_,Tryz.underlying161,rfl⟩
theorem Jql:Jl Tryz.prog 161 ty161:=.inr ⟨Tryz.t161,_,Jd Tryz.type161,rfl,rfl⟩
def ty166:TyI:=⟨.slice 170,1,24,[.slice true []]⟩
theorem JoS:Jk Tryz.prog 166 ty166:=.inr ⟨Tryz.t166,Jd Tryz.type166,rfl,rfl,⟨_,rfl,rfl,rfl⟩,_,Tryz.underlying166,rfl⟩
theorem Jqm:Jl Tryz.prog 166 ty166:=.inr ⟨Tryz.t166,_,Jd Tryz.type166,rfl,rfl⟩
def ty168 : TyI := ⟨.struct [(0, 9, "Host"), (1, 9, "Prefix"), (2, 166, "Split")], 3, 56, [.str [], .str [], .slice true []]⟩
theorem JoT:Jk Tryz.prog 168 ty168:=.inr ⟨Tryz.t168,Jd Tryz.type168,rfl,rfl,⟨_,rfl,rfl,rfl⟩,_,Tryz.underlying168,rfl⟩
theorem Jqn:Jl Tryz.prog 168 ty168:=.inr ⟨Tryz.t168,_,Jd Tryz.type168,rfl,rfl⟩
def ty170 : TyI := ⟨.struct [(0, 9, "Cluster"), (1, 3, "W")], 2, 24, [.str [], .int .i64 0]⟩
theorem JoV:Jk Tryz.prog 170 ty170:=.inr ⟨Tryz.t170,Jd Tryz.type170,rfl,rfl,⟨_,rfl,rfl,rfl⟩,_,Tryz.underlying170,rfl⟩
theorem Jqp:Jl Tryz.prog 170 ty170:=.inr ⟨Tryz.t170,_,Jd Tryz.type170,rfl,rfl⟩
def ty176:TyI:=⟨.map 90 37,1,8,[.nilm]⟩
theorem JoW:Jk Tryz.prog 176 ty176:=.inr ⟨Tryz.t176,Jd Tryz.type176,rfl,rfl,⟨_,rfl,rfl,rfl⟩,_,Tryz.underlying176,rfl⟩
theorem Jqq:Jl Tryz.prog 176 ty176:=.inr ⟨Tryz.t176,_,Jd Tryz.type176,rfl,rfl⟩
def ty178:TyI:=⟨.func,1,8,[.nilf]⟩
theorem JoX:Jk Tryz.prog 178 ty178:=.inr ⟨Tryz.t178,Jd Tryz.type178,rfl,rfl,⟨_,rfl,rfl,rfl⟩,_,Tryz.underlying178,rfl⟩
theorem Jqr:Jl Tryz.prog 178 ty178:=.inr ⟨Tryz.t178,_,Jd Tryz.type178,rfl,rfl⟩
def ty189 : TyI := ⟨.struct [(0, 48, "Warm"), (4, 4, "changed")], 5, 72, [.int .i64 0, .slice true [], .bool false, .slice true [], .bool false]⟩
theorem JoY:Jk Tryz.prog 189 ty189:=.inr ⟨Tryz.t189,Jd Tryz.type189,rfl,rfl,⟨_,rfl,rfl,rfl⟩,_,Tryz.underlying189,rfl⟩
theorem Jqs:Jl Tryz.prog 189 ty189:=.inr ⟨Tryz.t189,_,Jd Tryz.type189,rfl,rfl⟩
def ty194:TyI:=⟨.func,1,8,[.nilf]⟩
theorem JoZ:Jk Tryz.prog 194 ty194:=.inr ⟨Tryz.t194,Jd Tryz.type194,rfl,rfl,⟨_,rfl,rfl,rfl⟩,_,Tryz.underlying194,rfl⟩
theorem Jqt:Jl Tryz.prog 194 ty194:=.inr ⟨Tryz.t194,_,Jd Tryz.type194,rfl,rfl⟩
def ty196:TyI:=⟨.func,1,8,[.nilf]⟩
theorem Jo0:Jk Tryz.prog 196 ty196:=.inr ⟨Tryz.t196,Jd Tryz.type196,rfl,rfl,⟨_,rfl,rfl,rfl⟩,_,Tryz.underlying196,rfl⟩
theorem Jqu:Jl Tryz.prog 196 ty196:=.inr ⟨Tryz.t196,_,Jd Tryz.type196,rfl,rfl⟩
def ty204:TyI:=⟨.int .i64,1,8,[.int .i64 0]⟩
theorem Jo2:Jk Tryz.prog 204 ty204:=.inr ⟨Tryz.t204,Jd Tryz.type204,rfl,rfl,⟨_,rfl,rfl,rfl⟩,_,Tryz.underlying204,rfl⟩
theorem Jqw:Jl Tryz.prog 204 ty204:=.inr ⟨Tryz.t204,_,Jd Tryz.type204,rfl,rfl⟩
def ty212:TyI:=⟨.int .u32,1,4,[.int .u32 0]⟩
theorem Jo4:Jk Tryz.prog 212 ty212:=.inr ⟨Tryz.t212,Jd Tryz.type212,rfl,rfl,⟨_,rfl,rfl,rfl⟩,_,Tryz.underlying212,rfl⟩
theorem Jqy:Jl Tryz.prog 212 ty212:=.inr ⟨Tryz.t212,_,Jd Tryz.type212,rfl,rfl⟩
def ty214:TyI:=⟨.int .u64,1,8,[.int .u64 0]⟩
theorem Jo5:Jk Tryz.prog 214 ty214:=.inr ⟨Tryz.t214,Jd Tryz.type214,rfl,rfl,⟨_,rfl,rfl,rfl⟩,_,Tryz.underlying214,rfl⟩
theorem Jqz:Jl Tryz.prog 214 ty214:=.inr ⟨Tryz.t214,_,Jd Tryz.type214,rfl,rfl⟩
def ty216 : TyI := ⟨.struct [(0, 25, "e")], 1, 8, [.int .i64 0]⟩
theorem Jo6:Jk Tryz.prog 216 ty216:=.inr ⟨Tryz.t216,Jd Tryz.type216,rfl,rfl,⟨_,rfl,rfl,rfl⟩,_,Tryz.underlying216,rfl⟩
theorem JqA:Jl Tryz.prog 216 ty216:=.inr ⟨Tryz.t216,_,Jd Tryz.type216,rfl,rfl⟩
def ty219:TyI:=⟨.func,1,8,[.nilf]⟩
theorem Jo7:Jk Tryz.prog 219 ty219:=.inr ⟨Tryz.t219,Jd Tryz.type219,rfl,rfl,⟨_,rfl,rfl,rfl⟩,_,Tryz.underlying219,rfl⟩
theorem JqB:Jl Tryz.prog 219 ty219:=.inr ⟨Tryz.t219,_,Jd Tryz.type219,rfl,rfl⟩
def ty226:TyI:=⟨.func,1,8,[.nilf]⟩
theorem Jo9:Jk Tryz.prog 226 ty226:=.inr ⟨Tryz.t226,Jd Tryz.type226,rfl,rfl,⟨_,rfl,rfl,rfl⟩,_,Tryz.underlying226,rfl⟩
theorem JqD:Jl Tryz.prog 226 ty226:=.inr ⟨Tryz.t226,_,Jd Tryz.type226,rfl,rfl⟩
def ty228 : TyI := ⟨.struct [(0, 4, "port"), (1, 4, "to"), (2, 4, "rules"), (3, 4, "hosts")], 4, 4, [.bool false, .bool false, .bool false, .bool false]⟩
theorem Jpa:Jk Tryz.prog 228 ty228:=.inr ⟨Tryz.t228,Jd Tryz.type228,rfl,rfl,⟨_,rfl,rfl,rfl⟩,_,Tryz.underlying228,rfl⟩
theorem JqE:Jl Tryz.prog 228 ty228:=.inr ⟨Tryz.t228,_,Jd Tryz.type228,rfl,rfl⟩
def ty232:TyI:=⟨.func,1,8,[.nilf]⟩
theorem Jpb:Jk Tryz.prog 232 ty232:=.inr ⟨Tryz.t232,Jd Tryz.type232,rfl,rfl,⟨_,rfl,rfl,rfl⟩,_,Tryz.underlying232,rfl⟩
theorem JqF:Jl Tryz.prog 232 ty232:=.inr ⟨Tryz.t232,_,Jd Tryz.type232,rfl,rfl⟩
def ty234:TyI:=⟨.int .u64,1,8,[.int .u64 0]⟩
theorem Jpc:Jk Tryz.prog 234 ty234:=.inr ⟨Tryz.t234,Jd Tryz.type234,rfl,rfl,⟨_,rfl,rfl,rfl⟩,_,Tryz.underlying234,rfl⟩
theorem JqG:Jl Tryz.prog 234 ty234:=.inr ⟨Tryz.t234,_,Jd Tryz.type234,rfl,rfl⟩
def ty238:TyI:=⟨.ptr 3,1,8,[.nilp]⟩
theorem Jpd:Jk Tryz.prog 238 ty238:=.inr ⟨Tryz.t238,Jd Tryz.type238,rfl,rfl,⟨_,rfl,rfl,rfl⟩,_,Tryz.underlying238,rfl⟩
theorem JqH:Jl Tryz.prog 238 ty238:=.inr ⟨Tryz.t238,_,Jd Tryz.type238,rfl,rfl⟩
def ty246:TyI:=⟨.ptr 234,1,8,[.nilp]⟩
theorem Jpf:Jk Tryz.prog 246 ty246:=.inr ⟨Tryz.t246,Jd Tryz.type246,rfl,rfl,⟨_,rfl,rfl,rfl⟩,_,Tryz.underlying246,rfl⟩
theorem JqJ:Jl Tryz.prog 246 ty246:=.inr ⟨Tryz.t246,_,Jd Tryz.type246,rfl,rfl⟩
def ty269 : TyI := ⟨.struct [(0, 17, "_interface"), (1, 17, "concrete"), (2, 17, "asserted"), (3, 9, "missingMethod")], 4, 40, [.nilp, .nilp, .nilp, .str []]⟩
theorem Jpi:Jk Tryz.prog 269 ty269:=.inr ⟨Tryz.t269,Jd Tryz.type269,rfl,rfl,⟨_,rfl,rfl,rfl⟩,_,Tryz.underlying269,rfl⟩
theorem JqM:Jl Tryz.prog 269 ty269:=.inr ⟨Tryz.t269,_,Jd Tryz.type269,rfl,rfl⟩
def ty270:TyI:=⟨.array 0 16,0,0,[]⟩
theorem Jpk:Jk Tryz.prog 270 ty270:=.inr ⟨Tryz.t270,Jd Tryz.type270,rfl,rfl,⟨_,rfl,rfl,rfl⟩,_,Tryz.underlying270,rfl⟩
theorem JqO:Jl Tryz.prog 270 ty270:=.inr ⟨Tryz.t270,_,Jd Tryz.type270,rfl,rfl⟩
def ty272 : TyI := ⟨.struct [(0, 270, "_")], 0, 0, []⟩
theorem Jpl:Jk Tryz.prog 272 ty272:=.inr ⟨Tryz.t272,Jd Tryz.type272,rfl,rfl,⟨_,rfl,rfl,rfl⟩,_,Tryz.underlying272,rfl⟩
theorem JqP:Jl Tryz.prog 272 ty272:=.inr ⟨Tryz.t272,_,Jd Tryz.type272,rfl,rfl⟩
def ty273:TyI:=⟨.int .u8,1,1,[.int .u8 0]⟩
theorem Jpm:Jk Tryz.prog 273 ty273:=.inr ⟨Tryz.t273,Jd Tryz.type273,rfl,rfl,⟨_,rfl,rfl,rfl⟩,_,Tryz.underlying273,rfl⟩
theorem JqQ:Jl Tryz.prog 273 ty273:=.inr ⟨Tryz.t273,_,Jd Tryz.type273,rfl,rfl⟩
def ty274:TyI:=⟨.int .u8,1,1,[.int .u8 0]⟩
theorem Jpn:Jk Tryz.prog 274 ty274:=.inr ⟨Tryz.t274,Jd Tryz.type274,rfl,rfl,⟨_,rfl,rfl,rfl⟩,_,Tryz.underlying274,rfl⟩
theorem JqR:Jl Tryz.prog 274 ty274:=.inr ⟨Tryz.t274,_,Jd Tryz.type274,rfl,rfl⟩
def ty275:TyI:=⟨.func,1,8,[.nilf]⟩
theorem Jpo:Jk Tryz.prog 275 ty275:=.inr ⟨Tryz.t275,Jd Tryz.type275,rfl,rfl,⟨_,rfl,rfl,rfl⟩,_,Tryz.underlying275,rfl⟩
theorem JqS:Jl Tryz.prog 275 ty275:=.inr ⟨Tryz.t275,_,Jd Tryz.type275,rfl,rfl⟩
def ty276:TyI:=⟨.ptr 5,1,8,[.nilp]⟩
theorem Jpp:Jk Tryz.prog 276 ty276:=.inr ⟨Tryz.t276,Jd Tryz.type276,rfl,rfl,⟨_,rfl,rfl,rfl⟩,_,Tryz.underlying276,rfl⟩
theorem JqT:Jl Tryz.prog 276 ty276:=.inr ⟨Tryz.t276,_,Jd Tryz.type276,rfl,rfl⟩
def ty277:TyI:=⟨.int .i32,1,4,[.int .i32 0]⟩
theorem Jpq:Jk Tryz.prog 277 ty277:=.inr ⟨Tryz.t277,Jd Tryz.type277,rfl,rfl,⟨_,rfl,rfl,rfl⟩,_,Tryz.underlying277,rfl⟩
theorem JqU:Jl Tryz.prog 277 ty277:=.inr ⟨Tryz.t277,_,Jd Tryz.type277,rfl,rfl⟩
def ty278:TyI:=⟨.int .i32,1,4,[.int .i32 0]⟩
theorem Jpr:Jk Tryz.prog 278 ty278:=.inr ⟨Tryz.t278,Jd Tryz.type278,rfl,rfl,⟨_,rfl,rfl,rfl⟩,_,Tryz.underlying278,rfl⟩
theorem JqV:Jl Tryz.prog 278 ty278:=.inr ⟨Tryz.t278,_,Jd Tryz.type278,rfl,rfl⟩
def ty280 : TyI := ⟨.struct [(0, 12, "Size_"), (1, 12, "PtrBytes"), (2, 212, "Hash"), (3, 273, "TFlag"), (4, 5, "Align_"), (5, 5, "FieldAlign_"), (6, 274, "Kind_"), (7, 275, "Equal"), (8, 276, "GCData"), (9, 277, "Str"), (10, 278, "PtrToThis")], 11, 48, [.int .u64 0, .int .u64 0, .int .u32 0, .int .u8 0, .int .u8 0, .int .u8 0, .int .u8 0, .nilf, .nilp, .int .i32 0, .int .i32 0]⟩
theorem Jps:Jk Tryz.prog 280 ty280:=.inr ⟨Tryz.t280,Jd Tryz.type280,rfl,rfl,⟨_,rfl,rfl,rfl⟩,_,Tryz.underlying280,rfl⟩
theorem JqW:Jl Tryz.prog 280 ty280:=.inr ⟨Tryz.t280,_,Jd Tryz.type280,rfl,rfl⟩
def tyL:List (Nat×TyI):=[(1,ty1),(2,ty2),(3,ty3),(4,ty4),(5,ty5),(6,ty6),(7,ty7),(8,ty8),(9,ty9),(10,ty10),(12,ty12),(13,ty13),(15,ty15),(16,ty16),(17,ty17),(21,ty21),(22,ty22),(24,ty24),(25,ty25),(26,ty26),(27,ty27),(29,ty29),(31,ty31),(32,ty32),(34,ty34),(35,ty35),(36,ty36),(37,ty37),(38,ty38),(40,ty40),(43,ty43),(45,ty45),(46,ty46),(47,ty47),(48,ty48),(49,ty49),(51,ty51),(53,ty53),(55,ty55),(58,ty58),(59,ty59),(60,ty60),(74,ty74),(75,ty75),(76,ty76),(81,ty81),(85,ty85),(87,ty87),(90,ty90),(92,ty92),(95,ty95),(96,ty96),(105,ty105),(110,ty110),(116,ty116),(132,ty132),(136,ty136),(139,ty139),(140,ty140),(141,ty141),(153,ty153),(155,ty155),(161,ty161),(166,ty166),(168,ty168),(170,ty170),(176,ty176),(178,ty178),(189,ty189),(194,ty194),(196,ty196),(204,ty204),(212,ty212),(214,ty214),(216,ty216),(219,ty219),(226,ty226),(228,ty228),(232,ty232),(234,ty234),(238,ty238),(246,ty246),(269,ty269),(270,ty270),(272,ty272),(273,ty273),(274,ty274),(275,ty275),(276,ty276),(277,ty277),(278,ty278),(280,ty280)]
def JeG(P:Program):List (Nat×TyI)→Prop
 | []=>True
 |p :: r=>Jl P p.1 p.2∧JeG P r
def JeF(P:Program):List (Nat×TyI)→Prop
 | []=>True
 |p :: r=>Jk P p.1 p.2∧JeF P r
def Jc8(l:List (Nat×TyI))(t:Nat):TyI:=(l.lookup t).getD ⟨.unk,0,0,[]⟩
theorem Jgs{P:Program}:∀(l:List (Nat×TyI)),JeF P l→∀t,Jk P t (Jc8 l t)
 | [],_,t=>.inl rfl
 | (i,x) :: r,h,t=>by
  unfold Jc8
  by_cases e:t=i
  ·subst e;simpa[List.lookup] using h.1
  ·have e':(t == i)=false:=by simpa using e
   have:((i,x) :: r).lookup t=r.lookup t:=by simp[List.lookup,e']
   rw[this];exact Jgs r h.2 t
theorem Jgt{P:Program}:∀(l:List (Nat×TyI)),JeG P l→∀t,Jl P t (Jc8 l t)
 | [],_,t=>.inl rfl
 | (i,x) :: r,h,t=>by
  unfold Jc8
  by_cases e:t=i
  ·subst e;simpa[List.lookup] using h.1
  ·have e':(t == i)=false:=by simpa using e
   have:((i,x) :: r).lookup t=r.lookup t:=by simp[List.lookup,e']
   rw[this];exact Jgt r h.2 t
theorem JoA:JeG Tryz.prog tyL:=⟨Jp5,Jqv,JqY,Jq6,Jre,Jrk,Jrm,Jrq,Jru,Jp6,Jqa,Jqb,Jqh,Jqk,Jqo,Jqx,JqC,JqI,JqK,JqL,JqN,JqX,JqZ,Jq0,Jq1,Jq2,Jq3,Jq4,Jq5,Jq7,Jq8,Jq9,Jra,Jrb,Jrc,Jrd,Jrf,Jrg,Jrh,Jri,Jrj,Jrl,Jrn,Jro,Jrp,Jrr,Jrs,Jrt,Jrv,Jrw,Jrx,Jry,Jp7,Jp8,Jp9,Jqc,Jqd,Jqe,Jqf,Jqg,Jqi,Jqj,Jql,Jqm,Jqn,Jqp,Jqq,Jqr,Jqs,Jqt,Jqu,Jqw,Jqy,Jqz,JqA,JqB,JqD,JqE,JqF,JqG,JqH,JqJ,JqM,JqO,JqP,JqQ,JqR,JqS,JqT,JqU,JqV,JqW,trivial⟩
theorem Joz:JeF Tryz.prog tyL:=⟨JoB,Jo1,Jpu,JpC,JpK,JpQ,JpS,JpW,Jp0,JoC,JoG,JoH,JoN,JoQ,JoU,Jo3,Jo8,Jpe,Jpg,Jph,Jpj,Jpt,Jpv,Jpw,Jpx,Jpy,Jpz,JpA,JpB,JpD,JpE,JpF,JpG,JpH,JpI,JpJ,JpL,JpM,JpN,JpO,JpP,JpR,JpT,JpU,JpV,JpX,JpY,JpZ,Jp1,Jp2,Jp3,Jp4,JoD,JoE,JoF,JoI,JoJ,JoK,JoL,JoM,JoO,JoP,JoR,JoS,JoT,JoV,JoW,JoX,JoY,JoZ,Jo0,Jo2,Jo4,Jo5,Jo6,Jo7,Jo9,Jpa,Jpb,Jpc,Jpd,Jpf,Jpi,Jpk,Jpl,Jpm,Jpn,Jpo,Jpp,Jpq,Jpr,Jps,trivial⟩
def T:Tys Tryz.prog:=⟨Jc8 tyL,Jgs tyL Joz,Jgt tyL JoA,fun _=>false⟩
@[go_sem] theorem Jyp(d:Nat):T.fz d=false:=rfl
@[go_sem] theorem T_1:T.ty 1=ty1:=rfl
@[go_sem] theorem k_1:ty1.k=.func:=rfl
@[go_sem] theorem JIf:ty1.sz=1:=rfl
@[go_sem] theorem Jux:ty1.bytes=8:=rfl
@[go_sem] theorem JLG:ty1.zero=[.nilf]:=rfl
@[go_sem] theorem T_2:T.ty 2=ty2:=rfl
@[go_sem] theorem k_2:ty2.k=.int .i64:=rfl
@[go_sem] theorem JIF:ty2.sz=1:=rfl
@[go_sem] theorem JuX:ty2.bytes=8:=rfl
@[go_sem] theorem JL6:ty2.zero=[.int .i64 0]:=rfl
@[go_sem] theorem T_3:T.ty 3=ty3:=rfl
@[go_sem] theorem k_3:ty3.k=.int .i64:=rfl
@[go_sem] theorem JI8:ty3.sz=1:=rfl
@[go_sem] theorem Jvq:ty3.bytes=8:=rfl
@[go_sem] theorem JMz:ty3.zero=[.int .i64 0]:=rfl
@[go_sem] theorem T_4:T.ty 4=ty4:=rfl
@[go_sem] theorem k_4:ty4.k=.bool:=rfl
@[go_sem] theorem JJg:ty4.sz=1:=rfl
@[go_sem] theorem Jvy:ty4.bytes=1:=rfl
@[go_sem] theorem JMH:ty4.zero=[.bool false]:=rfl
@[go_sem] theorem T_5:T.ty 5=ty5:=rfl
@[go_sem] theorem k_5:ty5.k=.int .u8:=rfl
@[go_sem] theorem JJo:ty5.sz=1:=rfl
@[go_sem] theorem JvG:ty5.bytes=1:=rfl
@[go_sem] theorem JMP:ty5.zero=[.int .u8 0]:=rfl
@[go_sem] theorem T_6:T.ty 6=ty6:=rfl
@[go_sem] theorem k_6:ty6.k=.int .u8:=rfl
@[go_sem] theorem JJu:ty6.sz=1:=rfl
@[go_sem] theorem JvM:ty6.bytes=1:=rfl
@[go_sem] theorem JMV:ty6.zero=[.int .u8 0]:=rfl
@[go_sem] theorem T_7:T.ty 7=ty7:=rfl
@[go_sem] theorem k_7 : ty7.k = .struct [(0, 2, "x"), (1, 3, "y"), (2, 4, "signed"), (3, 6, "code")] := rfl
@[go_sem] theorem JJw:ty7.sz=4:=rfl
@[go_sem] theorem JvO:ty7.bytes=24:=rfl
@[go_sem] theorem JMX:ty7.zero=[.int .i64 0,.int .i64 0,.bool false,.int .u8 0]:=rfl
@[go_sem] theorem T_8:T.ty 8=ty8:=rfl
@[go_sem] theorem k_8 : ty8.k = .struct [(0, 2, "x"), (1, 3, "y"), (2, 4, "signed"), (3, 6, "code")] := rfl
@[go_sem] theorem JJA:ty8.sz=4:=rfl
@[go_sem] theorem JvS:ty8.bytes=24:=rfl
@[go_sem] theorem JM1:ty8.zero=[.int .i64 0,.int .i64 0,.bool false,.int .u8 0]:=rfl
@[go_sem] theorem T_9:T.ty 9=ty9:=rfl
@[go_sem] theorem k_9:ty9.k=.str:=rfl
@[go_sem] theorem JJE:ty9.sz=1:=rfl
@[go_sem] theorem JvW:ty9.bytes=16:=rfl
@[go_sem] theorem JM5:ty9.zero=[.str []]:=rfl
@[go_sem] theorem JrQ:T.ty 10=ty10:=rfl
@[go_sem] theorem JyT:ty10.k=.str:=rfl
@[go_sem] theorem JIg:ty10.sz=1:=rfl
@[go_sem] theorem Juy:ty10.bytes=16:=rfl
@[go_sem] theorem JLH:ty10.zero=[.str []]:=rfl
@[go_sem] theorem JrU:T.ty 12=ty12:=rfl
@[go_sem] theorem JyX:ty12.k=.int .u64:=rfl
@[go_sem] theorem JIk:ty12.sz=1:=rfl
@[go_sem] theorem JuC:ty12.bytes=8:=rfl
@[go_sem] theorem JLL:ty12.zero=[.int .u64 0]:=rfl
@[go_sem] theorem JrV:T.ty 13=ty13:=rfl
@[go_sem] theorem JyY : ty13.k = .struct [(0, 9, "msg"), (1, 12, "addr")] := rfl
@[go_sem] theorem JIl:ty13.sz=2:=rfl
@[go_sem] theorem JuD:ty13.bytes=24:=rfl
@[go_sem] theorem JLM:ty13.zero=[.str [],.int .u64 0]:=rfl
@[go_sem] theorem Jr1:T.ty 15=ty15:=rfl
@[go_sem] theorem Jy4:ty15.k=.ptr 269:=rfl
@[go_sem] theorem JIr:ty15.sz=1:=rfl
@[go_sem] theorem JuJ:ty15.bytes=8:=rfl
@[go_sem] theorem JLS:ty15.zero=[.nilp]:=rfl
@[go_sem] theorem Jr4:T.ty 16=ty16:=rfl
@[go_sem] theorem Jy7:ty16.k=.ptr 272:=rfl
@[go_sem] theorem JIu:ty16.sz=1:=rfl
@[go_sem] theorem JuM:ty16.bytes=8:=rfl
@[go_sem] theorem JLV:ty16.zero=[.nilp]:=rfl
@[go_sem] theorem Jr8:T.ty 17=ty17:=rfl
@[go_sem] theorem Jzb:ty17.k=.ptr 280:=rfl
@[go_sem] theorem JIy:ty17.sz=1:=rfl
@[go_sem] theorem JuQ:ty17.bytes=8:=rfl
@[go_sem] theorem JLZ:ty17.zero=[.nilp]:=rfl
@[go_sem] theorem Jsh:T.ty 21=ty21:=rfl
@[go_sem] theorem Jzk:ty21.k=.int .i32:=rfl
@[go_sem] theorem JIH:ty21.sz=1:=rfl
@[go_sem] theorem JuZ:ty21.bytes=4:=rfl
@[go_sem] theorem JL8:ty21.zero=[.int .i32 0]:=rfl
@[go_sem] theorem Jsm:T.ty 22=ty22:=rfl
@[go_sem] theorem Jzp:ty22.k=.array 4 3:=rfl
@[go_sem] theorem JIM:ty22.sz=4:=rfl
@[go_sem] theorem Ju4:ty22.bytes=32:=rfl
@[go_sem] theorem JMd:ty22.zero=[.int .i64 0,.int .i64 0,.int .i64 0,.int .i64 0]:=rfl
@[go_sem] theorem Jss:T.ty 24=ty24:=rfl
@[go_sem] theorem Jzv : ty24.k = .struct [(0, 22, "Last"), (4, 3, "Max")] := rfl
@[go_sem] theorem JIS:ty24.sz=5:=rfl
@[go_sem] theorem Jva:ty24.bytes=40:=rfl
@[go_sem] theorem JMj:ty24.zero=[.int .i64 0,.int .i64 0,.int .i64 0,.int .i64 0,.int .i64 0]:=rfl
@[go_sem] theorem Jsu:T.ty 25=ty25:=rfl
@[go_sem] theorem Jzx:ty25.k=.int .i64:=rfl
@[go_sem] theorem JIU:ty25.sz=1:=rfl
@[go_sem] theorem Jvc:ty25.bytes=8:=rfl
@[go_sem] theorem JMl:ty25.zero=[.int .i64 0]:=rfl
@[go_sem] theorem Jsv:T.ty 26=ty26:=rfl
@[go_sem] theorem Jzy:ty26.k=.array 4 25:=rfl
@[go_sem] theorem JIV:ty26.sz=4:=rfl
@[go_sem] theorem Jvd:ty26.bytes=32:=rfl
@[go_sem] theorem JMm:ty26.zero=[.int .i64 0,.int .i64 0,.int .i64 0,.int .i64 0]:=rfl
@[go_sem] theorem Jsx:T.ty 27=ty27:=rfl
@[go_sem] theorem JzA:ty27.k=.slice 87:=rfl
@[go_sem] theorem JIX:ty27.sz=1:=rfl
@[go_sem] theorem Jvf:ty27.bytes=24:=rfl
@[go_sem] theorem JMo:ty27.zero=[.slice true []]:=rfl
@[go_sem] theorem JsH:T.ty 29=ty29:=rfl
@[go_sem] theorem JzK : ty29.k = .struct [(0, 3, "Cap"), (1, 27, "L")] := rfl
@[go_sem] theorem JI7:ty29.sz=2:=rfl
@[go_sem] theorem Jvp:ty29.bytes=32:=rfl
@[go_sem] theorem JMy:ty29.zero=[.int .i64 0,.slice true []]:=rfl
@[go_sem] theorem JsJ:T.ty 31=ty31:=rfl
@[go_sem] theorem JzM : ty31.k = .struct [(0, 29, "C"), (2, 4, "Ready"), (3, 27, "Shown")] := rfl
@[go_sem] theorem JI9:ty31.sz=4:=rfl
@[go_sem] theorem Jvr:ty31.bytes=64:=rfl
@[go_sem] theorem JMA:ty31.zero=[.int .i64 0,.slice true [],.bool false,.slice true []]:=rfl
@[go_sem] theorem JsK:T.ty 32=ty32:=rfl
@[go_sem] theorem JzN:ty32.k=.slice 141:=rfl
@[go_sem] theorem JJa:ty32.sz=1:=rfl
@[go_sem] theorem Jvs:ty32.bytes=24:=rfl
@[go_sem] theorem JMB:ty32.zero=[.slice true []]:=rfl
@[go_sem] theorem JsL:T.ty 34=ty34:=rfl
@[go_sem] theorem JzO : ty34.k = .struct [(0, 3, "Next"), (1, 32, "Snaps")] := rfl
@[go_sem] theorem JJb:ty34.sz=2:=rfl
@[go_sem] theorem Jvt:ty34.bytes=32:=rfl
@[go_sem] theorem JMC:ty34.zero=[.int .i64 0,.slice true []]:=rfl
@[go_sem] theorem JsM:T.ty 35=ty35:=rfl
@[go_sem] theorem JzP : ty35.k = .struct [(0, 3, "Epoch"), (1, 3, "Turn"), (2, 4, "Up"), (3, 24, "In"), (8, 26, "Errs"), (12, 31, "W"), (16, 34, "P")] := rfl
@[go_sem] theorem JJc:ty35.sz=18:=rfl
@[go_sem] theorem Jvu:ty35.bytes=192:=rfl
@[go_sem] theorem JMD:ty35.zero=[.int .i64 0,.int .i64 0,.bool false,.int .i64 0,.int .i64 0,.int .i64 0,.int .i64 0,.int .i64 0,.int .i64 0,.int .i64 0,.int .i64 0,.int .i64 0,.int .i64 0,.slice true [],.bool false,.slice true [],.int .i64 0,.slice true []]:=rfl
@[go_sem] theorem JsN:T.ty 36=ty36:=rfl
@[go_sem] theorem JzQ : ty36.k = .struct [(0, 3, "Epoch"), (1, 3, "Turn"), (2, 4, "Up"), (3, 24, "In"), (8, 26, "Errs"), (12, 31, "W"), (16, 34, "P")] := rfl
@[go_sem] theorem JJd:ty36.sz=18:=rfl
@[go_sem] theorem Jvv:ty36.bytes=192:=rfl
@[go_sem] theorem JME:ty36.zero=[.int .i64 0,.int .i64 0,.bool false,.int .i64 0,.int .i64 0,.int .i64 0,.int .i64 0,.int .i64 0,.int .i64 0,.int .i64 0,.int .i64 0,.int .i64 0,.int .i64 0,.slice true [],.bool false,.slice true [],.int .i64 0,.slice true []]:=rfl
@[go_sem] theorem JsO:T.ty 37=ty37:=rfl
@[go_sem] theorem JzR:ty37.k=.slice 90:=rfl
@[go_sem] theorem JJe:ty37.sz=1:=rfl
@[go_sem] theorem Jvw:ty37.bytes=24:=rfl
@[go_sem] theorem JMF:ty37.zero=[.slice true []]:=rfl
@[go_sem] theorem JsP:T.ty 38=ty38:=rfl
@[go_sem] theorem JzS:ty38.k=.slice 92:=rfl
@[go_sem] theorem JJf:ty38.sz=1:=rfl
@[go_sem] theorem Jvx:ty38.bytes=24:=rfl
@[go_sem] theorem JMG:ty38.zero=[.slice true []]:=rfl
@[go_sem] theorem JsR:T.ty 40=ty40:=rfl
@[go_sem] theorem JzU : ty40.k = .struct [(0, 3, "Type"), (1, 3, "Epoch"), (2, 3, "Kind"), (3, 3, "Nonce"), (4, 3, "Turn"), (5, 27, "Adds"), (6, 37, "Gone"), (7, 25, "Err"), (8, 38, "Have"), (9, 37, "Held")] := rfl
@[go_sem] theorem JJh:ty40.sz=10:=rfl
@[go_sem] theorem Jvz:ty40.bytes=144:=rfl
@[go_sem] theorem JMI:ty40.zero=[.int .i64 0,.int .i64 0,.int .i64 0,.int .i64 0,.int .i64 0,.slice true [],.slice true [],.int .i64 0,.slice true [],.slice true []]:=rfl
@[go_sem] theorem JsS:T.ty 43=ty43:=rfl
@[go_sem] theorem JzV:ty43.k=.func:=rfl
@[go_sem] theorem JJi:ty43.sz=1:=rfl
@[go_sem] theorem JvA:ty43.bytes=8:=rfl
@[go_sem] theorem JMJ:ty43.zero=[.nilf]:=rfl
@[go_sem] theorem JsT:T.ty 45=ty45:=rfl
@[go_sem] theorem JzW : ty45.k = .struct [(0, 22, "Last"), (4, 3, "Max")] := rfl
@[go_sem] theorem JJj:ty45.sz=5:=rfl
@[go_sem] theorem JvB:ty45.bytes=40:=rfl
@[go_sem] theorem JMK:ty45.zero=[.int .i64 0,.int .i64 0,.int .i64 0,.int .i64 0,.int .i64 0]:=rfl
@[go_sem] theorem JsU:T.ty 46=ty46:=rfl
@[go_sem] theorem JzX : ty46.k = .struct [(0, 3, "Cap"), (1, 27, "L")] := rfl
@[go_sem] theorem JJk:ty46.sz=2:=rfl
@[go_sem] theorem JvC:ty46.bytes=32:=rfl
@[go_sem] theorem JML:ty46.zero=[.int .i64 0,.slice true []]:=rfl
@[go_sem] theorem JsV:T.ty 47=ty47:=rfl
@[go_sem] theorem JzY : ty47.k = .struct [(0, 46, "C"), (2, 4, "Ready"), (3, 27, "Shown")] := rfl
@[go_sem] theorem JJl:ty47.sz=4:=rfl
@[go_sem] theorem JvD:ty47.bytes=64:=rfl
@[go_sem] theorem JMM:ty47.zero=[.int .i64 0,.slice true [],.bool false,.slice true []]:=rfl
@[go_sem] theorem JsW:T.ty 48=ty48:=rfl
@[go_sem] theorem JzZ : ty48.k = .struct [(0, 46, "C"), (2, 4, "Ready"), (3, 27, "Shown")] := rfl
@[go_sem] theorem JJm:ty48.sz=4:=rfl
@[go_sem] theorem JvE:ty48.bytes=64:=rfl
@[go_sem] theorem JMN:ty48.zero=[.int .i64 0,.slice true [],.bool false,.slice true []]:=rfl
@[go_sem] theorem JsX:T.ty 49=ty49:=rfl
@[go_sem] theorem Jz0:ty49.k=.slice 81:=rfl
@[go_sem] theorem JJn:ty49.sz=1:=rfl
@[go_sem] theorem JvF:ty49.bytes=24:=rfl
@[go_sem] theorem JMO:ty49.zero=[.slice true []]:=rfl
@[go_sem] theorem JsZ:T.ty 51=ty51:=rfl
@[go_sem] theorem Jz2 : ty51.k = .struct [(0, 3, "Next"), (1, 49, "Snaps")] := rfl
@[go_sem] theorem JJp:ty51.sz=2:=rfl
@[go_sem] theorem JvH:ty51.bytes=32:=rfl
@[go_sem] theorem JMQ:ty51.zero=[.int .i64 0,.slice true []]:=rfl
@[go_sem] theorem Js0:T.ty 53=ty53:=rfl
@[go_sem] theorem Jz3 : ty53.k = .struct [(0, 3, "Epoch"), (1, 3, "Turn"), (2, 4, "Up"), (3, 45, "In"), (8, 26, "Errs"), (12, 48, "W"), (16, 51, "P")] := rfl
@[go_sem] theorem JJq:ty53.sz=18:=rfl
@[go_sem] theorem JvI:ty53.bytes=192:=rfl
@[go_sem] theorem JMR:ty53.zero=[.int .i64 0,.int .i64 0,.bool false,.int .i64 0,.int .i64 0,.int .i64 0,.int .i64 0,.int .i64 0,.int .i64 0,.int .i64 0,.int .i64 0,.int .i64 0,.int .i64 0,.slice true [],.bool false,.slice true [],.int .i64 0,.slice true []]:=rfl
@[go_sem] theorem Js1:T.ty 55=ty55:=rfl
@[go_sem] theorem Jz4:ty55.k=.slice 60:=rfl
@[go_sem] theorem JJr:ty55.sz=1:=rfl
@[go_sem] theorem JvJ:ty55.bytes=24:=rfl
@[go_sem] theorem JMS:ty55.zero=[.slice true []]:=rfl
@[go_sem] theorem Js2:T.ty 58=ty58:=rfl
@[go_sem] theorem Jz5:ty58.k=.slice 110:=rfl
@[go_sem] theorem JJs:ty58.sz=1:=rfl
@[go_sem] theorem JvK:ty58.bytes=24:=rfl
@[go_sem] theorem JMT:ty58.zero=[.slice true []]:=rfl
@[go_sem] theorem Js3:T.ty 59=ty59:=rfl
@[go_sem] theorem Jz6 : ty59.k = .struct [(0, 3, "Type"), (1, 3, "Epoch"), (2, 3, "Kind"), (3, 3, "Nonce"), (4, 3, "Turn"), (5, 27, "Adds"), (6, 37, "Gone"), (7, 25, "Err"), (8, 58, "Have"), (9, 37, "Held")] := rfl
@[go_sem] theorem JJt:ty59.sz=10:=rfl
@[go_sem] theorem JvL:ty59.bytes=144:=rfl
@[go_sem] theorem JMU:ty59.zero=[.int .i64 0,.int .i64 0,.int .i64 0,.int .i64 0,.int .i64 0,.slice true [],.slice true [],.int .i64 0,.slice true [],.slice true []]:=rfl
@[go_sem] theorem Js5:T.ty 60=ty60:=rfl
@[go_sem] theorem Jz8 : ty60.k = .struct [(0, 3, "Type"), (1, 3, "Epoch"), (2, 3, "Kind"), (3, 3, "Nonce"), (4, 3, "Turn"), (5, 27, "Adds"), (6, 37, "Gone"), (7, 25, "Err"), (8, 58, "Have"), (9, 37, "Held")] := rfl
@[go_sem] theorem JJv:ty60.sz=10:=rfl
@[go_sem] theorem JvN:ty60.bytes=144:=rfl
@[go_sem] theorem JMW:ty60.zero=[.int .i64 0,.int .i64 0,.int .i64 0,.int .i64 0,.int .i64 0,.slice true [],.slice true [],.int .i64 0,.slice true [],.slice true []]:=rfl
@[go_sem] theorem Js7:T.ty 74=ty74:=rfl
@[go_sem] theorem JAa:ty74.k=.slice 3:=rfl
@[go_sem] theorem JJx:ty74.sz=1:=rfl
@[go_sem] theorem JvP:ty74.bytes=24:=rfl
@[go_sem] theorem JMY:ty74.zero=[.slice true []]:=rfl
@[go_sem] theorem Js8:T.ty 75=ty75:=rfl
@[go_sem] theorem JAb:ty75.k=.slice 27:=rfl
@[go_sem] theorem JJy:ty75.sz=1:=rfl
@[go_sem] theorem JvQ:ty75.bytes=24:=rfl
@[go_sem] theorem JMZ:ty75.zero=[.slice true []]:=rfl
@[go_sem] theorem Js9:T.ty 76=ty76:=rfl
@[go_sem] theorem JAc:ty76.k=.int .u64:=rfl
@[go_sem] theorem JJz:ty76.sz=1:=rfl
@[go_sem] theorem JvR:ty76.bytes=8:=rfl
@[go_sem] theorem JM0:ty76.zero=[.int .u64 0]:=rfl
@[go_sem] theorem Jtb:T.ty 81=ty81:=rfl
@[go_sem] theorem JAe : ty81.k = .struct [(0, 3, "Id"), (1, 3, "Pins"), (2, 27, "L")] := rfl
@[go_sem] theorem JJB:ty81.sz=3:=rfl
@[go_sem] theorem JvT:ty81.bytes=40:=rfl
@[go_sem] theorem JM2:ty81.zero=[.int .i64 0,.int .i64 0,.slice true []]:=rfl
@[go_sem] theorem Jtc:T.ty 85=ty85:=rfl
@[go_sem] theorem JAf:ty85.k=.slice 168:=rfl
@[go_sem] theorem JJC:ty85.sz=1:=rfl
@[go_sem] theorem JvU:ty85.bytes=24:=rfl
@[go_sem] theorem JM3:ty85.zero=[.slice true []]:=rfl
@[go_sem] theorem Jtd:T.ty 87=ty87:=rfl
@[go_sem] theorem JAg : ty87.k = .struct [(0, 3, "Kind"), (1, 9, "Name"), (2, 3, "Ver"), (3, 3, "Port"), (4, 9, "To"), (5, 85, "Rules"), (6, 74, "Hosts")] := rfl
@[go_sem] theorem JJD:ty87.sz=7:=rfl
@[go_sem] theorem JvV:ty87.bytes=104:=rfl
@[go_sem] theorem JM4:ty87.zero=[.int .i64 0,.str [],.int .i64 0,.int .i64 0,.str [],.slice true [],.slice true []]:=rfl
@[go_sem] theorem Jtf:T.ty 90=ty90:=rfl
@[go_sem] theorem JAi : ty90.k = .struct [(0, 3, "Kind"), (1, 9, "Name")] := rfl
@[go_sem] theorem JJF:ty90.sz=2:=rfl
@[go_sem] theorem JvX:ty90.bytes=24:=rfl
@[go_sem] theorem JM6:ty90.zero=[.int .i64 0,.str []]:=rfl
@[go_sem] theorem Jtg:T.ty 92=ty92:=rfl
@[go_sem] theorem JAj : ty92.k = .struct [(0, 90, "K"), (2, 3, "Ver")] := rfl
@[go_sem] theorem JJG:ty92.sz=3:=rfl
@[go_sem] theorem JvY:ty92.bytes=32:=rfl
@[go_sem] theorem JM7:ty92.zero=[.int .i64 0,.str [],.int .i64 0]:=rfl
@[go_sem] theorem Jth:T.ty 95=ty95:=rfl
@[go_sem] theorem JAk:ty95.k=.slice 25:=rfl
@[go_sem] theorem JJH:ty95.sz=1:=rfl
@[go_sem] theorem JvZ:ty95.bytes=24:=rfl
@[go_sem] theorem JM8:ty95.zero=[.slice true []]:=rfl
@[go_sem] theorem Jti:T.ty 96=ty96:=rfl
@[go_sem] theorem JAl:ty96.k=.func:=rfl
@[go_sem] theorem JJI:ty96.sz=1:=rfl
@[go_sem] theorem Jv0:ty96.bytes=8:=rfl
@[go_sem] theorem JM9:ty96.zero=[.nilf]:=rfl
@[go_sem] theorem JrR:T.ty 105=ty105:=rfl
@[go_sem] theorem JyU:ty105.k=.func:=rfl
@[go_sem] theorem JIh:ty105.sz=1:=rfl
@[go_sem] theorem Juz:ty105.bytes=8:=rfl
@[go_sem] theorem JLI:ty105.zero=[.nilf]:=rfl
@[go_sem] theorem JrS:T.ty 110=ty110:=rfl
@[go_sem] theorem JyV : ty110.k = .struct [(0, 90, "K"), (2, 3, "Ver")] := rfl
@[go_sem] theorem JIi:ty110.sz=3:=rfl
@[go_sem] theorem JuA:ty110.bytes=32:=rfl
@[go_sem] theorem JLJ:ty110.zero=[.int .i64 0,.str [],.int .i64 0]:=rfl
@[go_sem] theorem JrT:T.ty 116=ty116:=rfl
@[go_sem] theorem JyW:ty116.k=.func:=rfl
@[go_sem] theorem JIj:ty116.sz=1:=rfl
@[go_sem] theorem JuB:ty116.bytes=8:=rfl
@[go_sem] theorem JLK:ty116.zero=[.nilf]:=rfl
@[go_sem] theorem JrW:T.ty 132=ty132:=rfl
@[go_sem] theorem JyZ:ty132.k=.map 90 4:=rfl
@[go_sem] theorem JIm:ty132.sz=1:=rfl
@[go_sem] theorem JuE:ty132.bytes=8:=rfl
@[go_sem] theorem JLN:ty132.zero=[.nilm]:=rfl
@[go_sem] theorem JrX:T.ty 136=ty136:=rfl
@[go_sem] theorem Jy0:ty136.k=.func:=rfl
@[go_sem] theorem JIn:ty136.sz=1:=rfl
@[go_sem] theorem JuF:ty136.bytes=8:=rfl
@[go_sem] theorem JLO:ty136.zero=[.nilf]:=rfl
@[go_sem] theorem JrY:T.ty 139=ty139:=rfl
@[go_sem] theorem Jy1:ty139.k=.func:=rfl
@[go_sem] theorem JIo:ty139.sz=1:=rfl
@[go_sem] theorem JuG:ty139.bytes=8:=rfl
@[go_sem] theorem JLP:ty139.zero=[.nilf]:=rfl
@[go_sem] theorem JrZ:T.ty 140=ty140:=rfl
@[go_sem] theorem Jy2:ty140.k=.func:=rfl
@[go_sem] theorem JIp:ty140.sz=1:=rfl
@[go_sem] theorem JuH:ty140.bytes=8:=rfl
@[go_sem] theorem JLQ:ty140.zero=[.nilf]:=rfl
@[go_sem] theorem Jr0:T.ty 141=ty141:=rfl
@[go_sem] theorem Jy3 : ty141.k = .struct [(0, 3, "Id"), (1, 3, "Pins"), (2, 27, "L")] := rfl
@[go_sem] theorem JIq:ty141.sz=3:=rfl
@[go_sem] theorem JuI:ty141.bytes=40:=rfl
@[go_sem] theorem JLR:ty141.zero=[.int .i64 0,.int .i64 0,.slice true []]:=rfl
@[go_sem] theorem Jr2:T.ty 153=ty153:=rfl
@[go_sem] theorem Jy5:ty153.k=.array 4 4:=rfl
@[go_sem] theorem JIs:ty153.sz=4:=rfl
@[go_sem] theorem JuK:ty153.bytes=4:=rfl
@[go_sem] theorem JLT:ty153.zero=[.bool false,.bool false,.bool false,.bool false]:=rfl
@[go_sem] theorem Jr3:T.ty 155=ty155:=rfl
@[go_sem] theorem Jy6 : ty155.k = .struct [(0, 22, "Last"), (4, 153, "Open"), (8, 3, "Max")] := rfl
@[go_sem] theorem JIt:ty155.sz=9:=rfl
@[go_sem] theorem JuL:ty155.bytes=48:=rfl
@[go_sem] theorem JLU:ty155.zero=[.int .i64 0,.int .i64 0,.int .i64 0,.int .i64 0,.bool false,.bool false,.bool false,.bool false,.int .i64 0]:=rfl
@[go_sem] theorem Jr5:T.ty 161=ty161:=rfl
@[go_sem] theorem Jy8:ty161.k=.map 3 4:=rfl
@[go_sem] theorem JIv:ty161.sz=1:=rfl
@[go_sem] theorem JuN:ty161.bytes=8:=rfl
@[go_sem] theorem JLW:ty161.zero=[.nilm]:=rfl
@[go_sem] theorem Jr6:T.ty 166=ty166:=rfl
@[go_sem] theorem Jy9:ty166.k=.slice 170:=rfl
@[go_sem] theorem JIw:ty166.sz=1:=rfl
@[go_sem] theorem JuO:ty166.bytes=24:=rfl
@[go_sem] theorem JLX:ty166.zero=[.slice true []]:=rfl
@[go_sem] theorem Jr7:T.ty 168=ty168:=rfl
@[go_sem] theorem Jza : ty168.k = .struct [(0, 9, "Host"), (1, 9, "Prefix"), (2, 166, "Split")] := rfl
@[go_sem] theorem JIx:ty168.sz=3:=rfl
@[go_sem] theorem JuP:ty168.bytes=56:=rfl
@[go_sem] theorem JLY:ty168.zero=[.str [],.str [],.slice true []]:=rfl
@[go_sem] theorem Jr9:T.ty 170=ty170:=rfl
@[go_sem] theorem Jzc : ty170.k = .struct [(0, 9, "Cluster"), (1, 3, "W")] := rfl
@[go_sem] theorem JIz:ty170.sz=2:=rfl
@[go_sem] theorem JuR:ty170.bytes=24:=rfl
@[go_sem] theorem JL0:ty170.zero=[.str [],.int .i64 0]:=rfl
@[go_sem] theorem Jsa:T.ty 176=ty176:=rfl
@[go_sem] theorem Jzd:ty176.k=.map 90 37:=rfl
@[go_sem] theorem JIA:ty176.sz=1:=rfl
@[go_sem] theorem JuS:ty176.bytes=8:=rfl
@[go_sem] theorem JL1:ty176.zero=[.nilm]:=rfl
@[go_sem] theorem Jsb:T.ty 178=ty178:=rfl
@[go_sem] theorem Jze:ty178.k=.func:=rfl
@[go_sem] theorem JIB:ty178.sz=1:=rfl
@[go_sem] theorem JuT:ty178.bytes=8:=rfl
@[go_sem] theorem JL2:ty178.zero=[.nilf]:=rfl
@[go_sem] theorem Jsc:T.ty 189=ty189:=rfl
@[go_sem] theorem Jzf : ty189.k = .struct [(0, 48, "Warm"), (4, 4, "changed")] := rfl
@[go_sem] theorem JIC:ty189.sz=5:=rfl
@[go_sem] theorem JuU:ty189.bytes=72:=rfl
@[go_sem] theorem JL3:ty189.zero=[.int .i64 0,.slice true [],.bool false,.slice true [],.bool false]:=rfl
@[go_sem] theorem Jsd:T.ty 194=ty194:=rfl
@[go_sem] theorem Jzg:ty194.k=.func:=rfl
@[go_sem] theorem JID:ty194.sz=1:=rfl
@[go_sem] theorem JuV:ty194.bytes=8:=rfl
@[go_sem] theorem JL4:ty194.zero=[.nilf]:=rfl
@[go_sem] theorem Jse:T.ty 196=ty196:=rfl
@[go_sem] theorem Jzh:ty196.k=.func:=rfl
@[go_sem] theorem JIE:ty196.sz=1:=rfl
@[go_sem] theorem JuW:ty196.bytes=8:=rfl
@[go_sem] theorem JL5:ty196.zero=[.nilf]:=rfl
@[go_sem] theorem Jsg:T.ty 204=ty204:=rfl
@[go_sem] theorem Jzj:ty204.k=.int .i64:=rfl
@[go_sem] theorem JIG:ty204.sz=1:=rfl
@[go_sem] theorem JuY:ty204.bytes=8:=rfl
@[go_sem] theorem JL7:ty204.zero=[.int .i64 0]:=rfl
@[go_sem] theorem Jsi:T.ty 212=ty212:=rfl
@[go_sem] theorem Jzl:ty212.k=.int .u32:=rfl
@[go_sem] theorem JII:ty212.sz=1:=rfl
@[go_sem] theorem Ju0:ty212.bytes=4:=rfl
@[go_sem] theorem JL9:ty212.zero=[.int .u32 0]:=rfl
@[go_sem] theorem Jsj:T.ty 214=ty214:=rfl
@[go_sem] theorem Jzm:ty214.k=.int .u64:=rfl
@[go_sem] theorem JIJ:ty214.sz=1:=rfl
@[go_sem] theorem Ju1:ty214.bytes=8:=rfl
@[go_sem] theorem JMa:ty214.zero=[.int .u64 0]:=rfl
@[go_sem] theorem Jsk:T.ty 216=ty216:=rfl
@[go_sem] theorem Jzn : ty216.k = .struct [(0, 25, "e")] := rfl
@[go_sem] theorem JIK:ty216.sz=1:=rfl
@[go_sem] theorem Ju2:ty216.bytes=8:=rfl
@[go_sem] theorem JMb:ty216.zero=[.int .i64 0]:=rfl
@[go_sem] theorem Jsl:T.ty 219=ty219:=rfl
@[go_sem] theorem Jzo:ty219.k=.func:=rfl
@[go_sem] theorem JIL:ty219.sz=1:=rfl
@[go_sem] theorem Ju3:ty219.bytes=8:=rfl
@[go_sem] theorem JMc:ty219.zero=[.nilf]:=rfl
@[go_sem] theorem Jsn:T.ty 226=ty226:=rfl
@[go_sem] theorem Jzq:ty226.k=.func:=rfl
@[go_sem] theorem JIN:ty226.sz=1:=rfl
@[go_sem] theorem Ju5:ty226.bytes=8:=rfl
@[go_sem] theorem JMe:ty226.zero=[.nilf]:=rfl
@[go_sem] theorem Jso:T.ty 228=ty228:=rfl
@[go_sem] theorem Jzr : ty228.k = .struct [(0, 4, "port"), (1, 4, "to"), (2, 4, "rules"), (3, 4, "hosts")] := rfl
@[go_sem] theorem JIO:ty228.sz=4:=rfl
@[go_sem] theorem Ju6:ty228.bytes=4:=rfl
@[go_sem] theorem JMf:ty228.zero=[.bool false,.bool false,.bool false,.bool false]:=rfl
@[go_sem] theorem Jsp:T.ty 232=ty232:=rfl
@[go_sem] theorem Jzs:ty232.k=.func:=rfl
@[go_sem] theorem JIP:ty232.sz=1:=rfl
@[go_sem] theorem Ju7:ty232.bytes=8:=rfl
@[go_sem] theorem JMg:ty232.zero=[.nilf]:=rfl
@[go_sem] theorem Jsq:T.ty 234=ty234:=rfl
@[go_sem] theorem Jzt:ty234.k=.int .u64:=rfl
@[go_sem] theorem JIQ:ty234.sz=1:=rfl
@[go_sem] theorem Ju8:ty234.bytes=8:=rfl
@[go_sem] theorem JMh:ty234.zero=[.int .u64 0]:=rfl
@[go_sem] theorem Jsr:T.ty 238=ty238:=rfl
@[go_sem] theorem Jzu:ty238.k=.ptr 3:=rfl
@[go_sem] theorem JIR:ty238.sz=1:=rfl
@[go_sem] theorem Ju9:ty238.bytes=8:=rfl
@[go_sem] theorem JMi:ty238.zero=[.nilp]:=rfl
@[go_sem] theorem Jst:T.ty 246=ty246:=rfl
@[go_sem] theorem Jzw:ty246.k=.ptr 234:=rfl
@[go_sem] theorem JIT:ty246.sz=1:=rfl
@[go_sem] theorem Jvb:ty246.bytes=8:=rfl
@[go_sem] theorem JMk:ty246.zero=[.nilp]:=rfl
@[go_sem] theorem Jsw:T.ty 269=ty269:=rfl
@[go_sem] theorem Jzz : ty269.k = .struct [(0, 17, "_interface"), (1, 17, "concrete"), (2, 17, "asserted"), (3, 9, "missingMethod")] := rfl
@[go_sem] theorem JIW:ty269.sz=4:=rfl
@[go_sem] theorem Jve:ty269.bytes=40:=rfl
@[go_sem] theorem JMn:ty269.zero=[.nilp,.nilp,.nilp,.str []]:=rfl
@[go_sem] theorem Jsy:T.ty 270=ty270:=rfl
@[go_sem] theorem JzB:ty270.k=.array 0 16:=rfl
@[go_sem] theorem JIY:ty270.sz=0:=rfl
@[go_sem] theorem Jvg:ty270.bytes=0:=rfl
@[go_sem] theorem JMp:ty270.zero=[]:=rfl
@[go_sem] theorem Jsz:T.ty 272=ty272:=rfl
@[go_sem] theorem JzC : ty272.k = .struct [(0, 270, "_")] := rfl
@[go_sem] theorem JIZ:ty272.sz=0:=rfl
@[go_sem] theorem Jvh:ty272.bytes=0:=rfl
@[go_sem] theorem JMq:ty272.zero=[]:=rfl
@[go_sem] theorem JsA:T.ty 273=ty273:=rfl
@[go_sem] theorem JzD:ty273.k=.int .u8:=rfl
@[go_sem] theorem JI0:ty273.sz=1:=rfl
@[go_sem] theorem Jvi:ty273.bytes=1:=rfl
@[go_sem] theorem JMr:ty273.zero=[.int .u8 0]:=rfl
@[go_sem] theorem JsB:T.ty 274=ty274:=rfl
@[go_sem] theorem JzE:ty274.k=.int .u8:=rfl
@[go_sem] theorem JI1:ty274.sz=1:=rfl
@[go_sem] theorem Jvj:ty274.bytes=1:=rfl
@[go_sem] theorem JMs:ty274.zero=[.int .u8 0]:=rfl
@[go_sem] theorem JsC:T.ty 275=ty275:=rfl
@[go_sem] theorem JzF:ty275.k=.func:=rfl
@[go_sem] theorem JI2:ty275.sz=1:=rfl
@[go_sem] theorem Jvk:ty275.bytes=8:=rfl
@[go_sem] theorem JMt:ty275.zero=[.nilf]:=rfl
@[go_sem] theorem JsD:T.ty 276=ty276:=rfl
@[go_sem] theorem JzG:ty276.k=.ptr 5:=rfl
@[go_sem] theorem JI3:ty276.sz=1:=rfl
@[go_sem] theorem Jvl:ty276.bytes=8:=rfl
@[go_sem] theorem JMu:ty276.zero=[.nilp]:=rfl
@[go_sem] theorem JsE:T.ty 277=ty277:=rfl
@[go_sem] theorem JzH:ty277.k=.int .i32:=rfl
@[go_sem] theorem JI4:ty277.sz=1:=rfl
@[go_sem] theorem Jvm:ty277.bytes=4:=rfl
@[go_sem] theorem JMv:ty277.zero=[.int .i32 0]:=rfl
@[go_sem] theorem JsF:T.ty 278=ty278:=rfl
@[go_sem] theorem JzI:ty278.k=.int .i32:=rfl
@[go_sem] theorem JI5:ty278.sz=1:=rfl
@[go_sem] theorem Jvn:ty278.bytes=4:=rfl
@[go_sem] theorem JMw:ty278.zero=[.int .i32 0]:=rfl
@[go_sem] theorem JsG:T.ty 280=ty280:=rfl
@[go_sem] theorem JzJ : ty280.k = .struct [(0, 12, "Size_"), (1, 12, "PtrBytes"), (2, 212, "Hash"), (3, 273, "TFlag"), (4, 5, "Align_"), (5, 5, "FieldAlign_"), (6, 274, "Kind_"), (7, 275, "Equal"), (8, 276, "GCData"), (9, 277, "Str"), (10, 278, "PtrToThis")] := rfl
@[go_sem] theorem JI6:ty280.sz=11:=rfl
@[go_sem] theorem Jvo:ty280.bytes=48:=rfl
@[go_sem] theorem JMx:ty280.zero=[.int .u64 0,.int .u64 0,.int .u32 0,.int .u8 0,.int .u8 0,.int .u8 0,.int .u8 0,.nilf,.nilp,.int .i32 0,.int .i32 0]:=rfl
@[go_sem] theorem Jw2:Tryz.prog.eqGuardType Tryz.prog.depth 90=false:=by kernel_rfl
@[go_sem] theorem JIc:Tryz.prog.stoodInHeld 90=false:=by kernel_rfl
@[go_sem] theorem JwZ:Tryz.prog.eqGuardType Tryz.prog.depth 170=false:=by kernel_rfl
@[go_sem] theorem JH9:Tryz.prog.stoodInHeld 170=false:=by kernel_rfl
@[go_sem] theorem Jw0:Tryz.prog.eqGuardType Tryz.prog.depth 216=false:=by kernel_rfl
@[go_sem] theorem JIa:Tryz.prog.stoodInHeld 216=false:=by kernel_rfl
@[go_sem] theorem Jw1:Tryz.prog.eqGuardType Tryz.prog.depth 228=false:=by kernel_rfl
@[go_sem] theorem JIb:Tryz.prog.stoodInHeld 228=false:=by kernel_rfl
theorem mixed:Tryz.prog.follows .mixedOrders=true:=by kernel_rfl
@[ext] structure BoundsError where
 x:Int
 y:Int
 signed:Bool
 code:UInt8
 deriving Inhabited,DecidableEq
instance:Dat BoundsError where
 av x:=.agg [.int .i64 x.x,.int .i64 x.y,.bool x.signed,.int .u8 x.code.toNat]
 sz:=4
 len _:=rfl
 pure x:=by simp only[go_sem,Bool.and_self]
 nrm x:=by simp only[go_sem]
 one x:=by simp only[go_sem,List.all_cons,List.all_nil,Bool.and_self]
 known x:=rfl
@[go_sem] theorem Jkq(x:BoundsError):Dat.av x=.agg [.int .i64 x.x,.int .i64 x.y,.bool x.signed,.int .u8 x.code.toNat]:=rfl
@[go_sem] theorem JJL:Dat.sz BoundsError=4:=rfl
@[go_sem] theorem JHd(l:List BoundsError)(n:Nat)(f0:Int)(f1:Int)(f2:Bool)(f3:UInt8):(Ja l).set n (.agg [.int .i64 f0,.int .i64 f1,.bool f2,.int .u8 f3.toNat])=Ja (l.set n ⟨f0,f1,f2,f3⟩):=Vf l n (⟨f0,f1,f2,f3⟩:BoundsError)
@[go_sem] theorem JHN(l:List BoundsError)(f0:Int)(f1:Int)(f2:Bool)(f3:UInt8):Ja l++[.agg [.int .i64 f0,.int .i64 f1,.bool f2,.int .u8 f3.toNat]]=Ja (l++[⟨f0,f1,f2,f3⟩]):=by rw[J7];rfl
@[go_sem] theorem Jli:∀l:List BoundsError,AV.flat.flatL (Ja l)=true
 | []=>rfl
 |_ :: r=>by simp only[Yr,AV.flat.flatL,Jli r,Jkq,AV.flat,Bool.and_self]
@[go_sem] theorem Jw9(x:BoundsError):BoundsError.mk x.x x.y x.signed x.code=x:=rfl
@[ext] structure Four where
 a0:Int
 a1:Int
 a2:Int
 a3:Int
 deriving Inhabited,DecidableEq
instance:Dat Four where
 av x:=.agg [.int .i64 x.a0,.int .i64 x.a1,.int .i64 x.a2,.int .i64 x.a3]
 sz:=4
 len _:=rfl
 pure x:=by simp only[go_sem,Bool.and_self]
 nrm x:=by simp only[go_sem]
 one x:=by simp only[go_sem,List.all_cons,List.all_nil,Bool.and_self]
 known x:=rfl
@[go_sem] theorem Jks(x:Four):Dat.av x=.agg [.int .i64 x.a0,.int .i64 x.a1,.int .i64 x.a2,.int .i64 x.a3]:=rfl
@[go_sem] theorem JJO:Dat.sz Four=4:=rfl
@[go_sem] theorem JHg(l:List Four)(n:Nat)(f0:Int)(f1:Int)(f2:Int)(f3:Int):(Ja l).set n (.agg [.int .i64 f0,.int .i64 f1,.int .i64 f2,.int .i64 f3])=Ja (l.set n ⟨f0,f1,f2,f3⟩):=Vf l n (⟨f0,f1,f2,f3⟩:Four)
@[go_sem] theorem JHQ(l:List Four)(f0:Int)(f1:Int)(f2:Int)(f3:Int):Ja l++[.agg [.int .i64 f0,.int .i64 f1,.int .i64 f2,.int .i64 f3]]=Ja (l++[⟨f0,f1,f2,f3⟩]):=by rw[J7];rfl
@[go_sem] theorem Jlk:∀l:List Four,AV.flat.flatL (Ja l)=true
 | []=>rfl
 |_ :: r=>by simp only[Yr,AV.flat.flatL,Jlk r,Jks,AV.flat,Bool.and_self]
@[go_sem] theorem Jxc(x:Four):Four.mk x.a0 x.a1 x.a2 x.a3=x:=rfl
@[ext] structure In where
 last:Four
 max:Int
 deriving Inhabited,DecidableEq
instance:Dat In where
 av x:=.agg [.int .i64 x.last.a0,.int .i64 x.last.a1,.int .i64 x.last.a2,.int .i64 x.last.a3,.int .i64 x.max]
 sz:=5
 len _:=rfl
 pure x:=by simp only[go_sem,Bool.and_self]
 nrm x:=by simp only[go_sem]
 one x:=by simp only[go_sem,List.all_cons,List.all_nil,Bool.and_self]
 known x:=rfl
@[go_sem] theorem Jku(x:In):Dat.av x=.agg [.int .i64 x.last.a0,.int .i64 x.last.a1,.int .i64 x.last.a2,.int .i64 x.last.a3,.int .i64 x.max]:=rfl
@[go_sem] theorem JJR:Dat.sz In=5:=rfl
@[go_sem] theorem JHj(l:List In)(n:Nat)(f0:Four)(f1:Int):(Ja l).set n (.agg [.int .i64 f0.a0,.int .i64 f0.a1,.int .i64 f0.a2,.int .i64 f0.a3,.int .i64 f1])=Ja (l.set n ⟨f0,f1⟩):=Vf l n (⟨f0,f1⟩:In)
@[go_sem] theorem JHT(l:List In)(f0:Four)(f1:Int):Ja l++[.agg [.int .i64 f0.a0,.int .i64 f0.a1,.int .i64 f0.a2,.int .i64 f0.a3,.int .i64 f1]]=Ja (l++[⟨f0,f1⟩]):=by rw[J7];rfl
@[go_sem] theorem Jlm:∀l:List In,AV.flat.flatL (Ja l)=true
 | []=>rfl
 |_ :: r=>by simp only[Yr,AV.flat.flatL,Jlm r,Jku,AV.flat,Bool.and_self]
@[go_sem] theorem Jxf(x:In):In.mk x.last x.max=x:=rfl
@[ext] structure Weight where
 cluster:List UInt8
 w:Int
 deriving Inhabited,DecidableEq
instance:Dat Weight where
 av x:=.agg [.str x.cluster,.int .i64 x.w]
 sz:=2
 len _:=rfl
 pure x:=by simp only[go_sem,Bool.and_self]
 nrm x:=by simp only[go_sem]
 one x:=by simp only[go_sem,List.all_cons,List.all_nil,Bool.and_self]
 known x:=rfl
@[go_sem] theorem Jky(x:Weight):Dat.av x=.agg [.str x.cluster,.int .i64 x.w]:=rfl
@[go_sem] theorem JJ3:Dat.sz Weight=2:=rfl
@[go_sem] theorem JHx(l:List Weight)(n:Nat)(f0:List UInt8)(f1:Int):(Ja l).set n (.agg [.str f0,.int .i64 f1])=Ja (l.set n ⟨f0,f1⟩):=Vf l n (⟨f0,f1⟩:Weight)
@[go_sem] theorem JH7(l:List Weight)(f0:List UInt8)(f1:Int):Ja l++[.agg [.str f0,.int .i64 f1]]=Ja (l++[⟨f0,f1⟩]):=by rw[J7];rfl
@[go_sem] theorem Jls:∀l:List Weight,AV.flat.flatL (Ja l)=true
 | []=>rfl
 |_ :: r=>by simp only[Yr,AV.flat.flatL,Jls r,Jky,AV.flat,Bool.and_self]
theorem JdC(x y:Weight):x=y↔x.cluster=y.cluster∧x.w=y.w:=by cases x;cases y;simp
@[go_sem] theorem Jxq(x:Weight):Weight.mk x.cluster x.w=x:=rfl
@[ext] structure Rule where
 host:List UInt8
 pfx:List UInt8
 split:List Weight
 deriving Inhabited,DecidableEq
instance:Dat Rule where
 av x:=.agg [.str x.host,.str x.pfx,.slice false (Ja x.split)]
 sz:=3
 len _:=rfl
 pure x:=by simp only[go_sem,Bool.and_self]
 nrm x:=by simp only[go_sem]
 one x:=by simp only[go_sem,List.all_cons,List.all_nil,Bool.and_self]
 known x:=rfl
@[go_sem] theorem JtP(x:Rule):Dat.av x=.agg [.str x.host,.str x.pfx,.slice false (Ja x.split)]:=rfl
@[go_sem] theorem JJZ:Dat.sz Rule=3:=rfl
@[go_sem] theorem JHr(l:List Rule)(n:Nat)(f0:List UInt8)(f1:List UInt8)(f2:List Weight):(Ja l).set n (.agg [.str f0,.str f1,.slice false (Ja f2)])=Ja (l.set n ⟨f0,f1,f2⟩):=Vf l n (⟨f0,f1,f2⟩:Rule)
@[go_sem] theorem JH1(l:List Rule)(f0:List UInt8)(f1:List UInt8)(f2:List Weight):Ja l++[.agg [.str f0,.str f1,.slice false (Ja f2)]]=Ja (l++[⟨f0,f1,f2⟩]):=by rw[J7];rfl
theorem Jhg(x y:Rule):x=y↔x.host=y.host∧x.pfx=y.pfx∧x.split=y.split:=by cases x;cases y;simp
@[go_sem] theorem Jxm(x:Rule):Rule.mk x.host x.pfx x.split=x:=rfl
@[ext] structure Res where
 kind:Int
 name:List UInt8
 ver:Int
 port:Int
 to':List UInt8
 rules':List Rule
 hosts:List Int
 deriving Inhabited,DecidableEq
instance:Dat Res where
 av x:=.agg [.int .i64 x.kind,.str x.name,.int .i64 x.ver,.int .i64 x.port,.str x.to',.slice false (Ja x.rules'),.slice false (Ja x.hosts)]
 sz:=7
 len _:=rfl
 pure x:=by simp only[go_sem,Bool.and_self]
 nrm x:=by simp only[go_sem]
 one x:=by simp only[go_sem,List.all_cons,List.all_nil,Bool.and_self]
 known x:=rfl
@[go_sem] theorem JtO(x:Res):Dat.av x=.agg [.int .i64 x.kind,.str x.name,.int .i64 x.ver,.int .i64 x.port,.str x.to',.slice false (Ja x.rules'),.slice false (Ja x.hosts)]:=rfl
@[go_sem] theorem JJY:Dat.sz Res=7:=rfl
@[go_sem] theorem JHq(l:List Res)(n:Nat)(f0:Int)(f1:List UInt8)(f2:Int)(f3:Int)(f4:List UInt8)(f5:List Rule)(f6:List Int):(Ja l).set n (.agg [.int .i64 f0,.str f1,.int .i64 f2,.int .i64 f3,.str f4,.slice false (Ja f5),.slice false (Ja f6)])=Ja (l.set n ⟨f0,f1,f2,f3,f4,f5,f6⟩):=Vf l n (⟨f0,f1,f2,f3,f4,f5,f6⟩:Res)
@[go_sem] theorem JH0(l:List Res)(f0:Int)(f1:List UInt8)(f2:Int)(f3:Int)(f4:List UInt8)(f5:List Rule)(f6:List Int):Ja l++[.agg [.int .i64 f0,.str f1,.int .i64 f2,.int .i64 f3,.str f4,.slice false (Ja f5),.slice false (Ja f6)]]=Ja (l++[⟨f0,f1,f2,f3,f4,f5,f6⟩]):=by rw[J7];rfl
@[go_sem] theorem Jxl(x:Res):Res.mk x.kind x.name x.ver x.port x.to' x.rules' x.hosts=x:=rfl
@[ext] structure Cache where
 cap:Int
 l:List Res
 deriving Inhabited,DecidableEq
instance:Dat Cache where
 av x:=.agg [.int .i64 x.cap,.slice false (Ja x.l)]
 sz:=2
 len _:=rfl
 pure x:=by simp only[go_sem,Bool.and_self]
 nrm x:=by simp only[go_sem]
 one x:=by simp only[go_sem,List.all_cons,List.all_nil,Bool.and_self]
 known x:=rfl
@[go_sem] theorem JtK(x:Cache):Dat.av x=.agg [.int .i64 x.cap,.slice false (Ja x.l)]:=rfl
@[go_sem] theorem JJM:Dat.sz Cache=2:=rfl
@[go_sem] theorem JHe(l:List Cache)(n:Nat)(f0:Int)(f1:List Res):(Ja l).set n (.agg [.int .i64 f0,.slice false (Ja f1)])=Ja (l.set n ⟨f0,f1⟩):=Vf l n (⟨f0,f1⟩:Cache)
@[go_sem] theorem JHO(l:List Cache)(f0:Int)(f1:List Res):Ja l++[.agg [.int .i64 f0,.slice false (Ja f1)]]=Ja (l++[⟨f0,f1⟩]):=by rw[J7];rfl
@[go_sem] theorem Jxa(x:Cache):Cache.mk x.cap x.l=x:=rfl
@[ext] structure Warm where
 c:Cache
 ready:Bool
 shown:List Res
 deriving Inhabited,DecidableEq
instance:Dat Warm where
 av x:=.agg [.int .i64 x.c.cap,.slice false (Ja x.c.l),.bool x.ready,.slice false (Ja x.shown)]
 sz:=4
 len _:=rfl
 pure x:=by simp only[go_sem,Bool.and_self]
 nrm x:=by simp only[go_sem]
 one x:=by simp only[go_sem,List.all_cons,List.all_nil,Bool.and_self]
 known x:=rfl
@[go_sem] theorem JtS(x:Warm):Dat.av x=.agg [.int .i64 x.c.cap,.slice false (Ja x.c.l),.bool x.ready,.slice false (Ja x.shown)]:=rfl
@[go_sem] theorem JJ2:Dat.sz Warm=4:=rfl
@[go_sem] theorem JHw(l:List Warm)(n:Nat)(f0:Cache)(f1:Bool)(f2:List Res):(Ja l).set n (.agg [.int .i64 f0.cap,.slice false (Ja f0.l),.bool f1,.slice false (Ja f2)])=Ja (l.set n ⟨f0,f1,f2⟩):=Vf l n (⟨f0,f1,f2⟩:Warm)
@[go_sem] theorem JH6(l:List Warm)(f0:Cache)(f1:Bool)(f2:List Res):Ja l++[.agg [.int .i64 f0.cap,.slice false (Ja f0.l),.bool f1,.slice false (Ja f2)]]=Ja (l++[⟨f0,f1,f2⟩]):=by rw[J7];rfl
@[go_sem] theorem Jxp(x:Warm):Warm.mk x.c x.ready x.shown=x:=rfl
@[ext] structure Snap where
 id:Int
 pins:Int
 l:List Res
 deriving Inhabited,DecidableEq
instance:Dat Snap where
 av x:=.agg [.int .i64 x.id,.int .i64 x.pins,.slice false (Ja x.l)]
 sz:=3
 len _:=rfl
 pure x:=by simp only[go_sem,Bool.and_self]
 nrm x:=by simp only[go_sem]
 one x:=by simp only[go_sem,List.all_cons,List.all_nil,Bool.and_self]
 known x:=rfl
@[go_sem] theorem JtR(x:Snap):Dat.av x=.agg [.int .i64 x.id,.int .i64 x.pins,.slice false (Ja x.l)]:=rfl
@[go_sem] theorem JJ1:Dat.sz Snap=3:=rfl
@[go_sem] theorem JHt(l:List Snap)(n:Nat)(f0:Int)(f1:Int)(f2:List Res):(Ja l).set n (.agg [.int .i64 f0,.int .i64 f1,.slice false (Ja f2)])=Ja (l.set n ⟨f0,f1,f2⟩):=Vf l n (⟨f0,f1,f2⟩:Snap)
@[go_sem] theorem JH3(l:List Snap)(f0:Int)(f1:Int)(f2:List Res):Ja l++[.agg [.int .i64 f0,.int .i64 f1,.slice false (Ja f2)]]=Ja (l++[⟨f0,f1,f2⟩]):=by rw[J7];rfl
theorem Jhh(x y:Snap):x=y↔x.id=y.id∧x.pins=y.pins∧x.l=y.l:=by cases x;cases y;simp
@[go_sem] theorem Jxo(x:Snap):Snap.mk x.id x.pins x.l=x:=rfl
@[ext] structure Pins where
 next':Int
 snaps:List Snap
 deriving Inhabited,DecidableEq
instance:Dat Pins where
 av x:=.agg [.int .i64 x.next',.slice false (Ja x.snaps)]
 sz:=2
 len _:=rfl
 pure x:=by simp only[go_sem,Bool.and_self]
 nrm x:=by simp only[go_sem]
 one x:=by simp only[go_sem,List.all_cons,List.all_nil,Bool.and_self]
 known x:=rfl
@[go_sem] theorem Jkx(x:Pins):Dat.av x=.agg [.int .i64 x.next',.slice false (Ja x.snaps)]:=rfl
@[go_sem] theorem JJX:Dat.sz Pins=2:=rfl
@[go_sem] theorem JHp(l:List Pins)(n:Nat)(f0:Int)(f1:List Snap):(Ja l).set n (.agg [.int .i64 f0,.slice false (Ja f1)])=Ja (l.set n ⟨f0,f1⟩):=Vf l n (⟨f0,f1⟩:Pins)
@[go_sem] theorem JHZ(l:List Pins)(f0:Int)(f1:List Snap):Ja l++[.agg [.int .i64 f0,.slice false (Ja f1)]]=Ja (l++[⟨f0,f1⟩]):=by rw[J7];rfl
@[go_sem] theorem Jxk(x:Pins):Pins.mk x.next' x.snaps=x:=rfl
@[ext] structure Side where
 epoch:Int
 turn:Int
 up:Bool
 in':In
 errs:Four
 w:Warm
 p:Pins
 deriving Inhabited,DecidableEq
instance:Dat Side where
 av x:=.agg [.int .i64 x.epoch,.int .i64 x.turn,.bool x.up,.int .i64 x.in'.last.a0,.int .i64 x.in'.last.a1,.int .i64 x.in'.last.a2,.int .i64 x.in'.last.a3,.int .i64 x.in'.max,.int .i64 x.errs.a0,.int .i64 x.errs.a1,.int .i64 x.errs.a2,.int .i64 x.errs.a3,.int .i64 x.w.c.cap,.slice false (Ja x.w.c.l),.bool x.w.ready,.slice false (Ja x.w.shown),.int .i64 x.p.next',.slice false (Ja x.p.snaps)]
 sz:=18
 len _:=rfl
 pure x:=by simp only[go_sem,Bool.and_self]
 nrm x:=by simp only[go_sem]
 one x:=by simp only[go_sem,List.all_cons,List.all_nil,Bool.and_self]
 known x:=rfl
@[go_sem] theorem JtQ(x:Side):Dat.av x=.agg [.int .i64 x.epoch,.int .i64 x.turn,.bool x.up,.int .i64 x.in'.last.a0,.int .i64 x.in'.last.a1,.int .i64 x.in'.last.a2,.int .i64 x.in'.last.a3,.int .i64 x.in'.max,.int .i64 x.errs.a0,.int .i64 x.errs.a1,.int .i64 x.errs.a2,.int .i64 x.errs.a3,.int .i64 x.w.c.cap,.slice false (Ja x.w.c.l),.bool x.w.ready,.slice false (Ja x.w.shown),.int .i64 x.p.next',.slice false (Ja x.p.snaps)]:=rfl
@[go_sem] theorem JJ0:Dat.sz Side=18:=rfl
@[go_sem] theorem JHs(l:List Side)(n:Nat)(f0:Int)(f1:Int)(f2:Bool)(f3:In)(f4:Four)(f5:Warm)(f6:Pins):(Ja l).set n (.agg [.int .i64 f0,.int .i64 f1,.bool f2,.int .i64 f3.last.a0,.int .i64 f3.last.a1,.int .i64 f3.last.a2,.int .i64 f3.last.a3,.int .i64 f3.max,.int .i64 f4.a0,.int .i64 f4.a1,.int .i64 f4.a2,.int .i64 f4.a3,.int .i64 f5.c.cap,.slice false (Ja f5.c.l),.bool f5.ready,.slice false (Ja f5.shown),.int .i64 f6.next',.slice false (Ja f6.snaps)])=Ja (l.set n ⟨f0,f1,f2,f3,f4,f5,f6⟩):=Vf l n (⟨f0,f1,f2,f3,f4,f5,f6⟩:Side)
@[go_sem] theorem JH2(l:List Side)(f0:Int)(f1:Int)(f2:Bool)(f3:In)(f4:Four)(f5:Warm)(f6:Pins):Ja l++[.agg [.int .i64 f0,.int .i64 f1,.bool f2,.int .i64 f3.last.a0,.int .i64 f3.last.a1,.int .i64 f3.last.a2,.int .i64 f3.last.a3,.int .i64 f3.max,.int .i64 f4.a0,.int .i64 f4.a1,.int .i64 f4.a2,.int .i64 f4.a3,.int .i64 f5.c.cap,.slice false (Ja f5.c.l),.bool f5.ready,.slice false (Ja f5.shown),.int .i64 f6.next',.slice false (Ja f6.snaps)]]=Ja (l++[⟨f0,f1,f2,f3,f4,f5,f6⟩]):=by rw[J7];rfl
@[go_sem] theorem Jxn(x:Side):Side.mk x.epoch x.turn x.up x.in' x.errs x.w x.p=x:=rfl
@[ext] structure Key where
 kind:Int
 name:List UInt8
 deriving Inhabited,DecidableEq
instance:Dat Key where
 av x:=.agg [.int .i64 x.kind,.str x.name]
 sz:=2
 len _:=rfl
 pure x:=by simp only[go_sem,Bool.and_self]
 nrm x:=by simp only[go_sem]
 one x:=by simp only[go_sem,List.all_cons,List.all_nil,Bool.and_self]
 known x:=rfl
@[go_sem] theorem JeR(x:Key):Dat.av x=.agg [.int .i64 x.kind,.str x.name]:=rfl
@[go_sem] theorem JJS:Dat.sz Key=2:=rfl
@[go_sem] theorem JHl(l:List Key)(n:Nat)(f0:Int)(f1:List UInt8):(Ja l).set n (.agg [.int .i64 f0,.str f1])=Ja (l.set n ⟨f0,f1⟩):=Vf l n (⟨f0,f1⟩:Key)
@[go_sem] theorem JHV(l:List Key)(f0:Int)(f1:List UInt8):Ja l++[.agg [.int .i64 f0,.str f1]]=Ja (l++[⟨f0,f1⟩]):=by rw[J7];rfl
@[go_sem] theorem Jlo:∀l:List Key,AV.flat.flatL (Ja l)=true
 | []=>rfl
 |_ :: r=>by simp only[Yr,AV.flat.flatL,Jlo r,JeR,AV.flat,Bool.and_self]
theorem Jaa(x y:Key):x=y↔x.kind=y.kind∧x.name=y.name:=by cases x;cases y;simp
@[go_sem] theorem Jxg(x:Key):Key.mk x.kind x.name=x:=rfl
@[ext] structure Mark where
 k:Key
 ver:Int
 deriving Inhabited,DecidableEq
instance:Dat Mark where
 av x:=.agg [.int .i64 x.k.kind,.str x.k.name,.int .i64 x.ver]
 sz:=3
 len _:=rfl
 pure x:=by simp only[go_sem,Bool.and_self]
 nrm x:=by simp only[go_sem]
 one x:=by simp only[go_sem,List.all_cons,List.all_nil,Bool.and_self]
 known x:=rfl
@[go_sem] theorem Jkv(x:Mark):Dat.av x=.agg [.int .i64 x.k.kind,.str x.k.name,.int .i64 x.ver]:=rfl
@[go_sem] theorem JJU:Dat.sz Mark=3:=rfl
@[go_sem] theorem JHm(l:List Mark)(n:Nat)(f0:Key)(f1:Int):(Ja l).set n (.agg [.int .i64 f0.kind,.str f0.name,.int .i64 f1])=Ja (l.set n ⟨f0,f1⟩):=Vf l n (⟨f0,f1⟩:Mark)
@[go_sem] theorem JHW(l:List Mark)(f0:Key)(f1:Int):Ja l++[.agg [.int .i64 f0.kind,.str f0.name,.int .i64 f1]]=Ja (l++[⟨f0,f1⟩]):=by rw[J7];rfl
@[go_sem] theorem Jlp:∀l:List Mark,AV.flat.flatL (Ja l)=true
 | []=>rfl
 |_ :: r=>by simp only[Yr,AV.flat.flatL,Jlp r,Jkv,AV.flat,Bool.and_self]
theorem Jhf(x y:Mark):x=y↔x.k=y.k∧x.ver=y.ver:=by cases x;cases y;simp
@[go_sem] theorem Jxh(x:Mark):Mark.mk x.k x.ver=x:=rfl
@[ext] structure Frame where
 type:Int
 epoch:Int
 kind:Int
 nonce:Int
 turn:Int
 adds:List Res
 gone:List Key
 err:Int
 have':List Mark
 held:List Key
 deriving Inhabited,DecidableEq
instance:Dat Frame where
 av x:=.agg [.int .i64 x.type,.int .i64 x.epoch,.int .i64 x.kind,.int .i64 x.nonce,.int .i64 x.turn,.slice false (Ja x.adds),.slice false (Ja x.gone),.int .i64 x.err,.slice false (Ja x.have'),.slice false (Ja x.held)]
 sz:=10
 len _:=rfl
 pure x:=by simp only[go_sem,Bool.and_self]
 nrm x:=by simp only[go_sem]
 one x:=by simp only[go_sem,List.all_cons,List.all_nil,Bool.and_self]
 known x:=rfl
@[go_sem] theorem JtL(x:Frame):Dat.av x=.agg [.int .i64 x.type,.int .i64 x.epoch,.int .i64 x.kind,.int .i64 x.nonce,.int .i64 x.turn,.slice false (Ja x.adds),.slice false (Ja x.gone),.int .i64 x.err,.slice false (Ja x.have'),.slice false (Ja x.held)]:=rfl
@[go_sem] theorem JJP:Dat.sz Frame=10:=rfl
@[go_sem] theorem JHh(l:List Frame)(n:Nat)(f0:Int)(f1:Int)(f2:Int)(f3:Int)(f4:Int)(f5:List Res)(f6:List Key)(f7:Int)(f8:List Mark)(f9:List Key):(Ja l).set n (.agg [.int .i64 f0,.int .i64 f1,.int .i64 f2,.int .i64 f3,.int .i64 f4,.slice false (Ja f5),.slice false (Ja f6),.int .i64 f7,.slice false (Ja f8),.slice false (Ja f9)])=Ja (l.set n ⟨f0,f1,f2,f3,f4,f5,f6,f7,f8,f9⟩):=Vf l n (⟨f0,f1,f2,f3,f4,f5,f6,f7,f8,f9⟩:Frame)
@[go_sem] theorem JHR(l:List Frame)(f0:Int)(f1:Int)(f2:Int)(f3:Int)(f4:Int)(f5:List Res)(f6:List Key)(f7:Int)(f8:List Mark)(f9:List Key):Ja l++[.agg [.int .i64 f0,.int .i64 f1,.int .i64 f2,.int .i64 f3,.int .i64 f4,.slice false (Ja f5),.slice false (Ja f6),.int .i64 f7,.slice false (Ja f8),.slice false (Ja f9)]]=Ja (l++[⟨f0,f1,f2,f3,f4,f5,f6,f7,f8,f9⟩]):=by rw[J7];rfl
theorem Jlb(x y:Frame):x=y↔x.type=y.type∧x.epoch=y.epoch∧x.kind=y.kind∧x.nonce=y.nonce∧x.turn=y.turn∧x.adds=y.adds∧x.gone=y.gone∧x.err=y.err∧x.have'=y.have'∧x.held=y.held:=by cases x;cases y;simp
@[go_sem] theorem Jxd(x:Frame):Frame.mk x.type x.epoch x.kind x.nonce x.turn x.adds x.gone x.err x.have' x.held=x:=rfl
@[ext] structure Flags where
 a0:Bool
 a1:Bool
 a2:Bool
 a3:Bool
 deriving Inhabited,DecidableEq
instance:Dat Flags where
 av x:=.agg [.bool x.a0,.bool x.a1,.bool x.a2,.bool x.a3]
 sz:=4
 len _:=rfl
 pure x:=by simp only[go_sem,Bool.and_self]
 nrm x:=by simp only[go_sem]
 one x:=by simp only[go_sem,List.all_cons,List.all_nil,Bool.and_self]
 known x:=rfl
@[go_sem] theorem Jkr(x:Flags):Dat.av x=.agg [.bool x.a0,.bool x.a1,.bool x.a2,.bool x.a3]:=rfl
@[go_sem] theorem JJN:Dat.sz Flags=4:=rfl
@[go_sem] theorem JHf(l:List Flags)(n:Nat)(f0:Bool)(f1:Bool)(f2:Bool)(f3:Bool):(Ja l).set n (.agg [.bool f0,.bool f1,.bool f2,.bool f3])=Ja (l.set n ⟨f0,f1,f2,f3⟩):=Vf l n (⟨f0,f1,f2,f3⟩:Flags)
@[go_sem] theorem JHP(l:List Flags)(f0:Bool)(f1:Bool)(f2:Bool)(f3:Bool):Ja l++[.agg [.bool f0,.bool f1,.bool f2,.bool f3]]=Ja (l++[⟨f0,f1,f2,f3⟩]):=by rw[J7];rfl
@[go_sem] theorem Jlj:∀l:List Flags,AV.flat.flatL (Ja l)=true
 | []=>rfl
 |_ :: r=>by simp only[Yr,AV.flat.flatL,Jlj r,Jkr,AV.flat,Bool.and_self]
@[go_sem] theorem Jxb(x:Flags):Flags.mk x.a0 x.a1 x.a2 x.a3=x:=rfl
@[ext] structure Out where
 last:Four
 open':Flags
 max:Int
 deriving Inhabited,DecidableEq
instance:Dat Out where
 av x:=.agg [.int .i64 x.last.a0,.int .i64 x.last.a1,.int .i64 x.last.a2,.int .i64 x.last.a3,.bool x.open'.a0,.bool x.open'.a1,.bool x.open'.a2,.bool x.open'.a3,.int .i64 x.max]
 sz:=9
 len _:=rfl
 pure x:=by simp only[go_sem,Bool.and_self]
 nrm x:=by simp only[go_sem]
 one x:=by simp only[go_sem,List.all_cons,List.all_nil,Bool.and_self]
 known x:=rfl
@[go_sem] theorem Jkw(x:Out):Dat.av x=.agg [.int .i64 x.last.a0,.int .i64 x.last.a1,.int .i64 x.last.a2,.int .i64 x.last.a3,.bool x.open'.a0,.bool x.open'.a1,.bool x.open'.a2,.bool x.open'.a3,.int .i64 x.max]:=rfl
@[go_sem] theorem JJW:Dat.sz Out=9:=rfl
@[go_sem] theorem JHo(l:List Out)(n:Nat)(f0:Four)(f1:Flags)(f2:Int):(Ja l).set n (.agg [.int .i64 f0.a0,.int .i64 f0.a1,.int .i64 f0.a2,.int .i64 f0.a3,.bool f1.a0,.bool f1.a1,.bool f1.a2,.bool f1.a3,.int .i64 f2])=Ja (l.set n ⟨f0,f1,f2⟩):=Vf l n (⟨f0,f1,f2⟩:Out)
@[go_sem] theorem JHY(l:List Out)(f0:Four)(f1:Flags)(f2:Int):Ja l++[.agg [.int .i64 f0.a0,.int .i64 f0.a1,.int .i64 f0.a2,.int .i64 f0.a3,.bool f1.a0,.bool f1.a1,.bool f1.a2,.bool f1.a3,.int .i64 f2]]=Ja (l++[⟨f0,f1,f2⟩]):=by rw[J7];rfl
@[go_sem] theorem Jlq:∀l:List Out,AV.flat.flatL (Ja l)=true
 | []=>rfl
 |_ :: r=>by simp only[Yr,AV.flat.flatL,Jlq r,Jkw,AV.flat,Bool.and_self]
@[go_sem] theorem Jxj(x:Out):Out.mk x.last x.open' x.max=x:=rfl
@[ext] structure Move where
 warm:Warm
 changed:Bool
 deriving Inhabited,DecidableEq
instance:Dat Move where
 av x:=.agg [.int .i64 x.warm.c.cap,.slice false (Ja x.warm.c.l),.bool x.warm.ready,.slice false (Ja x.warm.shown),.bool x.changed]
 sz:=5
 len _:=rfl
 pure x:=by simp only[go_sem,Bool.and_self]
 nrm x:=by simp only[go_sem]
 one x:=by simp only[go_sem,List.all_cons,List.all_nil,Bool.and_self]
 known x:=rfl
@[go_sem] theorem JtN(x:Move):Dat.av x=.agg [.int .i64 x.warm.c.cap,.slice false (Ja x.warm.c.l),.bool x.warm.ready,.slice false (Ja x.warm.shown),.bool x.changed]:=rfl
@[go_sem] theorem JJV:Dat.sz Move=5:=rfl
@[go_sem] theorem JHn(l:List Move)(n:Nat)(f0:Warm)(f1:Bool):(Ja l).set n (.agg [.int .i64 f0.c.cap,.slice false (Ja f0.c.l),.bool f0.ready,.slice false (Ja f0.shown),.bool f1])=Ja (l.set n ⟨f0,f1⟩):=Vf l n (⟨f0,f1⟩:Move)
@[go_sem] theorem JHX(l:List Move)(f0:Warm)(f1:Bool):Ja l++[.agg [.int .i64 f0.c.cap,.slice false (Ja f0.c.l),.bool f0.ready,.slice false (Ja f0.shown),.bool f1]]=Ja (l++[⟨f0,f1⟩]):=by rw[J7];rfl
@[go_sem] theorem Jxi(x:Move):Move.mk x.warm x.changed=x:=rfl
@[ext] structure Bad where
 e:Int
 deriving Inhabited,DecidableEq
instance:Dat Bad where
 av x:=.agg [.int .i64 x.e]
 sz:=1
 len _:=rfl
 pure x:=by simp only[go_sem,Bool.and_self]
 nrm x:=by simp only[go_sem]
 one x:=by simp only[go_sem,List.all_cons,List.all_nil,Bool.and_self]
 known x:=rfl
@[go_sem] theorem Jkp(x:Bad):Dat.av x=.agg [.int .i64 x.e]:=rfl
@[go_sem] theorem JJK:Dat.sz Bad=1:=rfl
@[go_sem] theorem JHb(l:List Bad)(n:Nat)(f0:Int):(Ja l).set n (.agg [.int .i64 f0])=Ja (l.set n ⟨f0⟩):=Vf l n (⟨f0⟩:Bad)
@[go_sem] theorem JHL(l:List Bad)(f0:Int):Ja l++[.agg [.int .i64 f0]]=Ja (l++[⟨f0⟩]):=by rw[J7];rfl
@[go_sem] theorem Jlh:∀l:List Bad,AV.flat.flatL (Ja l)=true
 | []=>rfl
 |_ :: r=>by simp only[Yr,AV.flat.flatL,Jlh r,Jkp,AV.flat,Bool.and_self]
@[go_sem] theorem Jw8(x:Bad):Bad.mk x.e=x:=rfl
@[ext] structure Has where
 port:Bool
 to':Bool
 rules':Bool
 hosts:Bool
 deriving Inhabited,DecidableEq
instance:Dat Has where
 av x:=.agg [.bool x.port,.bool x.to',.bool x.rules',.bool x.hosts]
 sz:=4
 len _:=rfl
 pure x:=by simp only[go_sem,Bool.and_self]
 nrm x:=by simp only[go_sem]
 one x:=by simp only[go_sem,List.all_cons,List.all_nil,Bool.and_self]
 known x:=rfl
@[go_sem] theorem Jkt(x:Has):Dat.av x=.agg [.bool x.port,.bool x.to',.bool x.rules',.bool x.hosts]:=rfl
@[go_sem] theorem JJQ:Dat.sz Has=4:=rfl
@[go_sem] theorem JHi(l:List Has)(n:Nat)(f0:Bool)(f1:Bool)(f2:Bool)(f3:Bool):(Ja l).set n (.agg [.bool f0,.bool f1,.bool f2,.bool f3])=Ja (l.set n ⟨f0,f1,f2,f3⟩):=Vf l n (⟨f0,f1,f2,f3⟩:Has)
@[go_sem] theorem JHS(l:List Has)(f0:Bool)(f1:Bool)(f2:Bool)(f3:Bool):Ja l++[.agg [.bool f0,.bool f1,.bool f2,.bool f3]]=Ja (l++[⟨f0,f1,f2,f3⟩]):=by rw[J7];rfl
@[go_sem] theorem Jll:∀l:List Has,AV.flat.flatL (Ja l)=true
 | []=>rfl
 |_ :: r=>by simp only[Yr,AV.flat.flatL,Jll r,Jkt,AV.flat,Bool.and_self]
@[go_sem] theorem Jxe(x:Has):Has.mk x.port x.to' x.rules' x.hosts=x:=rfl
@[ext] structure AcceptRange where
 lo:UInt8
 hi:UInt8
 deriving Inhabited,DecidableEq
instance:Dat AcceptRange where
 av x:=.agg [.int .u8 x.lo.toNat,.int .u8 x.hi.toNat]
 sz:=2
 len _:=rfl
 pure x:=by simp only[go_sem,Bool.and_self]
 nrm x:=by simp only[go_sem]
 one x:=by simp only[go_sem,List.all_cons,List.all_nil,Bool.and_self]
 known x:=rfl
@[go_sem] theorem Jko(x:AcceptRange):Dat.av x=.agg [.int .u8 x.lo.toNat,.int .u8 x.hi.toNat]:=rfl
@[go_sem] theorem JJJ:Dat.sz AcceptRange=2:=rfl
@[go_sem] theorem JHa(l:List AcceptRange)(n:Nat)(f0:UInt8)(f1:UInt8):(Ja l).set n (.agg [.int .u8 f0.toNat,.int .u8 f1.toNat])=Ja (l.set n ⟨f0,f1⟩):=Vf l n (⟨f0,f1⟩:AcceptRange)
@[go_sem] theorem JHK(l:List AcceptRange)(f0:UInt8)(f1:UInt8):Ja l++[.agg [.int .u8 f0.toNat,.int .u8 f1.toNat]]=Ja (l++[⟨f0,f1⟩]):=by rw[J7];rfl
@[go_sem] theorem Jlg:∀l:List AcceptRange,AV.flat.flatL (Ja l)=true
 | []=>rfl
 |_ :: r=>by simp only[Yr,AV.flat.flatL,Jlg r,Jko,AV.flat,Bool.and_self]
@[go_sem] theorem Jw7(x:AcceptRange):AcceptRange.mk x.lo x.hi=x:=rfl
def Jdg(x:Four):Prop:=True
def Jgh(x:In):Prop:=Jdg x.last
def Jdi(x:Weight):Prop:=Jc x.cluster.length
def Yp(x:Rule):Prop:=Jc x.host.length∧Jc x.pfx.length∧Jc x.split.length∧(∀y∈x.split,Jdi y)
def Jv(x:Res):Prop:=Jc x.name.length∧Jc x.to'.length∧Jc x.rules'.length∧(∀y∈x.rules',Yp y)∧Jc x.hosts.length
def Jgg(x:Cache):Prop:=Jc x.l.length∧(∀y∈x.l,Jv y)
def ZN(x:Warm):Prop:=Jgg x.c∧Jc x.shown.length∧(∀y∈x.shown,Jv y)
def Yq(x:Snap):Prop:=Jc x.l.length∧(∀y∈x.l,Jv y)
def Jgi(x:Pins):Prop:=Jc x.snaps.length∧(∀y∈x.snaps,Yq y)
def Jj6(x:Side):Prop:=Jgh x.in'∧Jdg x.errs∧ZN x.w∧Jgi x.p
def Jaz(x:Key):Prop:=Jc x.name.length
def Jdh(x:Mark):Prop:=Jaz x.k
def VW(x:Frame):Prop:=Jc x.adds.length∧(∀y∈x.adds,Jv y)∧Jc x.gone.length∧(∀y∈x.gone,Jaz y)∧Jc x.have'.length∧(∀y∈x.have',Jdh y)∧Jc x.held.length∧(∀y∈x.held,Jaz y)
end Go.Proofs.YtihahfhagobnoaaGreatDoor.Lg
